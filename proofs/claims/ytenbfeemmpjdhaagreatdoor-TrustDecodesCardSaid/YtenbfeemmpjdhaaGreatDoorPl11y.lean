/- A root document out of a document: the sections (11.2), in plain Lean. By an AI agent. -/
import Derived.Test.YtenbfeemmpjdhaaGreatDoorPl02e
import Derived.Test.YtenbfeemmpjdhaaGreatDoorHyTe
import Derived.Test.YtenbfeemmpjdhaaGreatDoorHySb
import Derived.Test.YtenbfeemmpjdhaaGreatDoorHyTz
import Derived.Test.YtenbfeemmpjdhaaGreatDoorPl11v
import Derived.Test.YtenbfeemmpjdhaaGreatDoorPl11h
set_option linter.unusedSimpArgs false
set_option linter.unusedVariables false
set_option linter.defProp false
namespace Go.Proofs.YtenbfeemmpjdhaaGreatDoor
open Go Go.Hl Go.Pl
set_option maxRecDepth 10000
set_option maxHeartbeats 16000000

theorem aR0 (r : Rt) (role : aK) (hr : rSz r) : aW Tryz.prog 44 [r.cv, .str role] (fun v => v = .slc ((wM r.k role fun _ => true).map .str)) := by
 have hlk : r.k.length < 2 ^ 40 := hr.2.1.1
 refine FW Tryz.func44 ?_
 refine R0 ?_
 refine R0 ?_
 refine aB fun K hK => ?_
 refine R0 ?_
 refine aH ?_
 refine cM [] ?_
 refine aU (α := {i : Nat // i ≤ r.k.length}) (fun i => (fin [(1, .c (.str role)), (2, .ptr 0 0), (5, .c (.slc ((lZ (gH (r.k.take i.1) role fun _ => true)).map .str))), (6, .c (.int .i64 i.1))], fob [(0, .box 26 (.c r.cv))])) 100 (fun i => r.k.length - i.1) ⟨0, by omega⟩ (aQ (by omega) (by simp [aY, cQ, fin_at, finA_at, upd_at, fob_at, HV.close, CV.denil, denilL_str, HV.men, HV.menL, HV.norm, HV.toC, HV.toCL, gH, lZ]) (by simp [bC, cR, fob_at, upd_at, none0_at, bT, HO.close, HV.close, HO.men, HV.men, HV.menL, HV.norm, HV.toC, HV.toCL, Rt.denil])) ?_
 rintro ⟨i, hi⟩
 have hof := uU (r.k.take i) role fun _ => true
 have hti : (r.k.take i).length = i := by simp; omega
 have hsl := bH2 (gH (r.k.take i) role fun _ => true)
 refine aB fun K hK => ?_
 refine aB fun K hK => Rg ?_
 iterate 5 refine S0 ?_
 refine T2 (hK _ _ _ ?_)
 clear hK K
 refine aJ (b := decide ((i : Int) < r.k.length)) rfl (fun hb => ?_) (fun hb => ?_)
 ·
  have hlt : i < r.k.length := by simpa using hb
  have hk := hr.2.1.2 _ (List.getElem_mem hlt)
  refine aG ?_
  refine T0 (hK _ _ _ ?_)
  clear hK K
  refine aB fun K hK => ?_
  have key : ∀ (m : List aK) fr ob nx, m = lZ (gH (r.k.take (i + 1)) role fun _ => true) → Fits 0 fr ob (fin [(1, .c (.str role)), (2, .ptr 0 0), (5, .c (.slc (m.map .str))), (6, .c (.int .i64 i))]) (fob [(0, .box 26 (.c r.cv))]) 500 → K fr ob nx := by
   rintro m fr ob nx rfl hf
   refine hK _ _ _ (bF hf ?_)
   clear hf hK K
   refine aL (by kernel_rfl) ?_
   refine TQ (bK i) ?_
   refine ⟨⟨i + 1, hlt⟩, fF, ?_⟩
   show r.k.length - (i + 1) < r.k.length - i
   omega
  refine aH ?_
  refine aB fun K hK => Rg ?_
  have F := aI @Int.natCast_nonneg (aI @Int.ofNat_lt (aI hlt (nM hlt)))
  iterate 7 refine SF ?_
  refine HS rfl rfl fun K' hK' => T6 ?_
  refine C2 (bJ4 r.k[i].rs role (by have := hk.2.1; omega)) ?_
  rintro u rfl
  refine AX (hK' _ _ ?_)
  clear hK' K'
  refine T2 (hK _ _ _ ?_)
  clear hK K
  refine aJ (b := r.k[i].rs.contains role) rfl (fun hb => ?_) (fun hb => ?_)
  ·
   refine Rg ?_
   iterate 7 refine SF ?_
   refine HS rfl rfl fun K' hK' => T6 ?_
   refine C2 (cA0 (lZ (gH (r.k.take i) role fun _ => true)) r.k[i].o (by omega)) ?_
   rintro u rfl
   refine AX (hK' _ _ ?_)
   clear hK' K'
   refine SF ?_
   refine T4 ?_
   exact key (oW (lZ (gH (r.k.take i) role fun _ => true)) r.k[i].o) _ _ _ (by rw [jQ hlt, hb]; simp only [Bool.and_true, if_true]; rw [aY8]) (fF)
  refine aG (T3 ?_)
  exact key (lZ (gH (r.k.take i) role fun _ => true)) _ _ _ (by rw [jQ hlt, hb]; simp) (fF)
 refine aS (T3 ?_)
 clear hK K
 refine AX (hK _ _ _ ?_)
 clear hK K
 refine R0 ?_
 refine aD (RT Tryz.results44 ?_)
 have hei : i = r.k.length := by simp at hb; omega
 subst hei
 rw [List.take_length]
 exact aC [] (.slc ((wM r.k role fun _ => true).map .str)) (eT (by simp only [CV.denil, denilL_str])) rfl


theorem zC (r : Rt) (hr : rSz r) : aW Tryz.prog 11 [r.cv] (fun v => v = .bool (bQ r)) := by
 have hlq : r.q.length < 2 ^ 40 := hr.1.1
 have hlk : r.k.length < 2 ^ 40 := hr.2.1.1
 have hlx : r.x.length < 2 ^ 40 := hr.2.2
 refine FW Tryz.func11 ?_
 refine R0 ?_
 refine aB fun K hK => ?_
 refine aB fun K hK => Rg ?_
 iterate 4 refine S0 ?_
 refine aF 10 rfl (fun h1_10 => ?_) (fun h1_10 => ?_)
 ·
  have F := h1_10
  iterate 28 refine SF ?_
  refine T2 (hK _ _ _ ?_)
  clear hK K
  refine CT rfl ?_
  refine R0 ?_
  refine aD (RT Tryz.results11 ?_)
  exact aC [] (.bool false) rfl (by simp only [cE, fN, gW, gX, h1_10, Bool.not_true, Bool.not_false, Bool.and_true, Bool.and_false, Bool.true_and, Bool.false_and])
 have F := h1_10
 iterate 5 refine SF ?_
 refine aF 14 rfl (fun h1_14 => ?_) (fun h1_14 => ?_)
 ·
  have F := aI h1_10 h1_14
  iterate 23 refine SF ?_
  refine T2 (hK _ _ _ ?_)
  clear hK K
  refine CT rfl ?_
  refine R0 ?_
  refine aD (RT Tryz.results11 ?_)
  exact aC [] (.bool false) rfl (by simp only [cE, fN, gW, gX, h1_10, h1_14, Bool.not_true, Bool.not_false, Bool.and_true, Bool.and_false, Bool.true_and, Bool.false_and])
 have F := aI h1_10 h1_14
 iterate 2 refine SF ?_
 refine bA (g := some (16, false)) rfl rfl fun K' hK' => T6 ?_
 refine C1 (vF r.e) ?_
 rintro u rfl
 refine AX (hK' _ _ ?_)
 clear hK' K'
 iterate 3 refine SF ?_
 refine aF 19 rfl (fun h1_19 => ?_) (fun h1_19 => ?_)
 ·
  have F := aI h1_10 (aI h1_14 h1_19)
  iterate 6 refine SF ?_
  refine aF 26 rfl (fun h1_26 => ?_) (fun h1_26 => ?_)
  ·
   have F := aI h1_10 (aI h1_14 (aI h1_19 h1_26))
   iterate 11 refine SF ?_
   refine T2 (hK _ _ _ ?_)
   clear hK K
   refine CT rfl ?_
   refine R0 ?_
   refine aD (RT Tryz.results11 ?_)
   exact aC [] (.bool false) rfl (by simp only [cE, fN, gW, gX, h1_10, h1_14, h1_19, h1_26, Bool.not_true, Bool.not_false, Bool.and_true, Bool.and_false, Bool.true_and, Bool.false_and])
  have F := aI h1_10 (aI h1_14 (aI h1_19 h1_26))
  iterate 6 refine SF ?_
  refine aF 32 rfl (fun h1_32 => ?_) (fun h1_32 => ?_)
  ·
   have F := aI h1_10 (aI h1_14 (aI h1_19 (aI h1_26 h1_32)))
   iterate 5 refine SF ?_
   refine T2 (hK _ _ _ ?_)
   clear hK K
   refine CT rfl ?_
   refine R0 ?_
   refine aD (RT Tryz.results11 ?_)
   exact aC [] (.bool false) rfl (by simp only [cE, fN, gW, gX, h1_10, h1_14, h1_19, h1_26, h1_32, Bool.not_true, Bool.not_false, Bool.and_true, Bool.and_false, Bool.true_and, Bool.false_and])
  have F := aI h1_10 (aI h1_14 (aI h1_19 (aI h1_26 h1_32)))
  iterate 5 refine SF ?_
  refine aF 38 rfl (fun h1_38 => ?_) (fun h1_38 => ?_)
  ·
   simp only [h1_38]
   refine T2 (hK _ _ _ ?_)
   clear hK K
   refine CT rfl ?_
   refine R0 ?_
   refine aD (RT Tryz.results11 ?_)
   exact aC [] (.bool false) rfl (by simp only [cE, fN, gW, gX, h1_10, h1_14, h1_19, h1_26, h1_32, h1_38, Bool.not_true, Bool.not_false, Bool.and_true, Bool.and_false, Bool.true_and, Bool.false_and])
  simp only [h1_38]
  refine T2 (hK _ _ _ ?_)
  clear hK K
  refine CF rfl ?_
  refine aG ?_
  refine T0 (hK _ _ _ ?_)
  clear hK K
  refine aB fun K hK => ?_
  refine R0 ?_
  refine aH ?_
  refine aU (α := {i : Nat // i ≤ r.q.length ∧ GoodTo kU (fun a b => slt a.r b.r) r.q i}) (fun i => (fin [(1, .ptr 0 0), (3, .c (.int .i64 i.1))], fob [(0, .box 26 (.c r.cv))])) 200 (fun i => r.q.length - i.1) ⟨0, by omega, GoodTo.zero⟩ (fF) ?_
  rintro ⟨i, hi, h0⟩
  refine aB fun K hK => ?_
  refine aB fun K hK => Rg ?_
  have F := aI h1_10 (aI h1_14 (aI h1_19 (aI h1_26 (aI h1_32 h1_38))))
  iterate 5 refine SF ?_
  refine T2 (hK _ _ _ ?_)
  clear hK K
  refine aJ (b := decide ((i : Int) < r.q.length)) rfl (fun hb => ?_) (fun hb => ?_)
  ·
   have hlt : i < r.q.length := by simpa using hb
   have hi1 : i - 1 < r.q.length := by omega
   have hm : decide ((0 : Int) < (i : Int)) = true → IntKind.i64.wrap ((i : Int) - 1) = ((i - 1 : Nat) : Int) := fun h => by
    have : 0 < i := by simpa using h
    rw [IntWalk.i64_in _ (by omega)]; omega
   refine aG ?_
   refine T0 (hK _ _ _ ?_)
   clear hK K
   refine aB fun K hK => ?_
   refine aH ?_
   refine aB fun K hK => Rg ?_
   have F := aI @Int.natCast_nonneg (aI @Int.ofNat_lt (aI hlt (aI (nM hlt) (aI h1_10 (aI h1_14 (aI h1_19 (aI h1_26 (aI h1_32 h1_38))))))))
   iterate 7 refine SF ?_
   refine T2 (hK _ _ _ ?_)
   clear hK K
   refine aB fun K hK => DW [(0, [], []), (1, [], []), (2, [], []), (3, [], []), (4, [], []), (5, [], []), (6, [], []), (7, [], []), (8, [], []), (9, [], []), (10, [], []), (11, [], []), (12, [], []), (13, [], []), (14, [], []), (15, [], []), (16, [], []), (17, [], []), (18, [], []), (19, [], []), (20, [], []), (21, [], []), (22, [], []), (23, [], []), (24, [], []), (25, [], []), (26, [], []), (27, [], []), (28, [], []), (29, [], [])] [0, 1, 3, 7, 15, 31, 63, 127, 255, 511, 1023, 2047, 4095, 8191, 16383, 32767, 65535, 131071, 262143, 524287, 262143, 1310719, 4194303, 8388607, 16777215, 262143, 33816575, 134217727, 268435455, 536870911] ?_
   iterate 2 refine W0 ?_ (e := fun _ h_ => by simp only [sH, ↓sP, sA, tyS, simprocAttr, hm, Int.natCast_nonneg, Int.ofNat_lt, hi1, aN hi1, h1_10, h1_14, h1_19, h1_26, h1_32, h1_38]; exact AX h_)
   refine aO (g := none) rfl rfl fun K' hK' => ?_
   simp only [sH, ↓sP, sA, tyS, simprocAttr, hm, Int.natCast_nonneg, Int.ofNat_lt, hi1, aN hi1, h1_10, h1_14, h1_19, h1_26, h1_32, h1_38]
   refine C1 (vS r.q[i].r (hr.1.2 _ (List.getElem_mem hlt))) ?_
   rintro u rfl
   refine AX (hK' _ _ ?_)
   clear hK' K'
   iterate 2 refine W0 ?_ (e := fun _ h_ => by simp only [sH, ↓sP, sA, tyS, simprocAttr, hm, Int.natCast_nonneg, Int.ofNat_lt, hi1, aN hi1, h1_10, h1_14, h1_19, h1_26, h1_32, h1_38]; exact AX h_)
   refine bE 54 rfl (fun h7_54 => ?_) (fun h7_54 => ?_)
   ·
    iterate 5 refine W0 ?_ (e := fun _ h_ => by simp only [sH, ↓sP, sA, tyS, simprocAttr, hm, Int.natCast_nonneg, Int.ofNat_lt, hi1, aN hi1, h1_10, h1_14, h1_19, h1_26, h1_32, h1_38, h7_54]; exact AX h_)
    refine bE 59 rfl (fun h7_59 => ?_) (fun h7_59 => ?_)
    ·
     iterate 20 refine W0 ?_ (e := fun _ h_ => by simp only [sH, ↓sP, sA, tyS, simprocAttr, hm, Int.natCast_nonneg, Int.ofNat_lt, hi1, aN hi1, h1_10, h1_14, h1_19, h1_26, h1_32, h1_38, h7_54, h7_59]; exact AX h_)
     refine T2 (hK _ _ _ ?_)
     clear hK K
     refine CT rfl ?_
     refine R0 ?_
     refine aD (RT Tryz.results11 ?_)
     have hbad : eJ r.q = false := by rw [dC, cV hlt (by simp only [cY, h1_10, h1_14, h1_19, h1_26, h1_32, h1_38, h7_54, h7_59, Bool.not_true, Bool.not_false, Bool.false_and, Bool.and_false]), Bool.false_and]
     exact aC [] (.bool false) rfl (by simp only [cE, hbad, Bool.and_false, Bool.false_and])
    iterate 5 refine W0 ?_ (e := fun _ h_ => by simp only [sH, ↓sP, sA, tyS, simprocAttr, hm, Int.natCast_nonneg, Int.ofNat_lt, hi1, aN hi1, h1_10, h1_14, h1_19, h1_26, h1_32, h1_38, h7_54, h7_59]; exact AX h_)
    refine bE 64 rfl (fun h7_64 => ?_) (fun h7_64 => ?_)
    ·
     iterate 15 refine W0 ?_ (e := fun _ h_ => by simp only [sH, ↓sP, sA, tyS, simprocAttr, hm, Int.natCast_nonneg, Int.ofNat_lt, hi1, aN hi1, h1_10, h1_14, h1_19, h1_26, h1_32, h1_38, h7_54, h7_59, h7_64]; exact AX h_)
     refine T2 (hK _ _ _ ?_)
     clear hK K
     refine CT rfl ?_
     refine R0 ?_
     refine aD (RT Tryz.results11 ?_)
     have hbad : eJ r.q = false := by rw [dC, cV hlt (by simp only [cY, h1_10, h1_14, h1_19, h1_26, h1_32, h1_38, h7_54, h7_59, h7_64, Bool.not_true, Bool.not_false, Bool.false_and, Bool.and_false]), Bool.false_and]
     exact aC [] (.bool false) rfl (by simp only [cE, hbad, Bool.and_false, Bool.false_and])
    iterate 3 refine W0 ?_ (e := fun _ h_ => by simp only [sH, ↓sP, sA, tyS, simprocAttr, hm, Int.natCast_nonneg, Int.ofNat_lt, hi1, aN hi1, h1_10, h1_14, h1_19, h1_26, h1_32, h1_38, h7_54, h7_59, h7_64]; exact AX h_)
    refine bE 68 rfl (fun h7_68 => ?_) (fun h7_68 => ?_)
    ·
     iterate 12 refine W0 ?_ (e := fun _ h_ => by simp only [sH, ↓sP, sA, tyS, simprocAttr, hm, Int.natCast_nonneg, Int.ofNat_lt, hi1, aN hi1, h1_10, h1_14, h1_19, h1_26, h1_32, h1_38, h7_54, h7_59, h7_64, h7_68]; exact AX h_)
     refine bE 79 rfl (fun h7_79 => ?_) (fun h7_79 => ?_)
     ·
      simp only [h7_79]
      refine T2 (hK _ _ _ ?_)
      clear hK K
      refine CT rfl ?_
      refine R0 ?_
      refine aD (RT Tryz.results11 ?_)
      obtain ⟨j, rfl⟩ : ∃ j, i = j + 1 := ⟨i - 1, by simp at h7_68; omega⟩
      have hbad : eJ r.q = false := by rw [dC, kX (i := j) hlt (by simpa using h7_79), Bool.false_and]
      exact aC [] (.bool false) rfl (by simp only [cE, hbad, Bool.and_false, Bool.false_and])
     simp only [h7_79]
     refine T2 (hK _ _ _ ?_)
     clear hK K
     refine CF rfl ?_
     refine aG ?_
     refine T0 (hK _ _ _ ?_)
     clear hK K
     refine aL (by kernel_rfl) ?_
     refine TQ (bK i) ?_
     obtain ⟨j, rfl⟩ : ∃ j, i = j + 1 := ⟨i - 1, by simp at h7_68; omega⟩
     refine ⟨⟨j + 1 + 1, hlt, h0.succ hlt (by simp only [cY, h1_10, h1_14, h1_19, h1_26, h1_32, h1_38, h7_54, h7_59, h7_64, h7_68, h7_79]; rfl) (by simpa using h7_79)⟩, fF, ?_⟩
     show r.q.length - (j + 1 + 1) < r.q.length - (j + 1)
     omega
    iterate 12 refine W0 ?_ (e := fun _ h_ => by simp only [sH, ↓sP, sA, tyS, simprocAttr, hm, Int.natCast_nonneg, Int.ofNat_lt, hi1, aN hi1, h1_10, h1_14, h1_19, h1_26, h1_32, h1_38, h7_54, h7_59, h7_64, h7_68]; exact AX h_)
    refine T2 (hK _ _ _ ?_)
    clear hK K
    refine CF rfl ?_
    refine aG ?_
    refine T0 (hK _ _ _ ?_)
    clear hK K
    refine aL (by kernel_rfl) ?_
    refine TQ (bK i) ?_
    obtain rfl : i = 0 := by simp at h7_68; omega
    refine ⟨⟨1, hlt, GoodTo.one hlt (by simp only [cY, h1_10, h1_14, h1_19, h1_26, h1_32, h1_38, h7_54, h7_59, h7_64, h7_68]; rfl)⟩, fF, ?_⟩
    show r.q.length - 1 < r.q.length - 0
    omega
   iterate 25 refine W0 ?_ (e := fun _ h_ => by simp only [sH, ↓sP, sA, tyS, simprocAttr, hm, Int.natCast_nonneg, Int.ofNat_lt, hi1, aN hi1, h1_10, h1_14, h1_19, h1_26, h1_32, h1_38, h7_54]; exact AX h_)
   refine T2 (hK _ _ _ ?_)
   clear hK K
   refine CT rfl ?_
   refine R0 ?_
   refine aD (RT Tryz.results11 ?_)
   have hbad : eJ r.q = false := by rw [dC, cV hlt (by simp only [cY, h1_10, h1_14, h1_19, h1_26, h1_32, h1_38, h7_54, Bool.not_true, Bool.not_false, Bool.false_and, Bool.and_false]), Bool.false_and]
   exact aC [] (.bool false) rfl (by simp only [cE, hbad, Bool.and_false, Bool.false_and])
  refine aS (T3 ?_)
  clear hK K
  refine AX (hK _ _ _ ?_)
  clear hK K
  refine aB fun K hK => ?_
  refine R0 ?_
  refine aH ?_
  have hei : i = r.q.length := by simp at hb; omega
  subst hei
  have hq := aO4 h1_26 h0
  clear hb h0 hi
  refine aU (α := {i : Nat // i ≤ r.k.length ∧ GoodTo uH (fun a b => dlt (kid a) (kid b)) r.k i}) (fun i => (fin [(1, .ptr 0 0), (5, .c (.int .i64 i.1))], fob [(0, .box 26 (.c r.cv))])) 300 (fun i => r.k.length - i.1) ⟨0, by omega, GoodTo.zero⟩ (fF) ?_
  rintro ⟨i, hi, h0⟩
  refine aB fun K hK => ?_
  refine aB fun K hK => Rg ?_
  iterate 5 refine SF ?_
  refine T2 (hK _ _ _ ?_)
  clear hK K
  refine aJ (b := decide ((i : Int) < r.k.length)) rfl (fun hb => ?_) (fun hb => ?_)
  ·
   have hlt : i < r.k.length := by simpa using hb
   have hk := hr.2.1.2 _ (List.getElem_mem hlt)
   have hi1 : i - 1 < r.k.length := by omega
   have hm : decide ((0 : Int) < (i : Int)) = true → IntKind.i64.wrap ((i : Int) - 1) = ((i - 1 : Nat) : Int) := fun h => by
    have : 0 < i := by simpa using h
    rw [IntWalk.i64_in _ (by omega)]; omega
   refine aG ?_
   refine T0 (hK _ _ _ ?_)
   clear hK K
   refine aB fun K hK => ?_
   refine aH ?_
   refine aB fun K hK => DW [(0, [], []), (1, [], []), (2, [], []), (3, [], []), (4, [], []), (5, [], []), (6, [], []), (7, [], []), (8, [], []), (9, [], []), (10, [], []), (11, [], []), (12, [], []), (13, [], []), (14, [], []), (15, [], []), (16, [], []), (17, [], []), (19, [], []), (20, [], []), (21, [], []), (22, [], []), (23, [], []), (24, [], []), (18, [], [19, 20, 21, 22, 23, 24]), (25, [], []), (26, [], []), (27, [], []), (28, [], []), (29, [], [])] [0, 1, 0, 7, 15, 31, 63, 127, 255, 511, 1023, 2047, 4095, 2047, 10239, 32767, 65535, 131071, 262143, 2047, 526335, 2047, 3672063, 7866367, 16254975, 33554431, 67108863, 134217727, 268435455, 536870911] ?_
   iterate 5 refine W0 ?_ (e := fun _ h_ => by simp only [sH, ↓sP, sA, tyS, simprocAttr, hm, Int.natCast_nonneg, Int.ofNat_lt, hlt, aN hlt, hi1, aN hi1, h1_10, h1_14, h1_19, h1_26, h1_32, h1_38]; exact AX h_)
   refine aO (g := none) rfl rfl fun K' hK' => ?_
   simp only [sH, ↓sP, sA, tyS, simprocAttr, hm, Int.natCast_nonneg, Int.ofNat_lt, hlt, aN hlt, hi1, aN hi1, h1_10, h1_14, h1_19, h1_26, h1_32, h1_38]
   refine C1 (bT3 r.k[i] hk) ?_
   rintro u rfl
   refine AX (hK' _ _ ?_)
   clear hK' K'
   iterate 2 refine W0 ?_ (e := fun _ h_ => by simp only [sH, ↓sP, sA, tyS, simprocAttr, hm, Int.natCast_nonneg, Int.ofNat_lt, hlt, aN hlt, hi1, aN hi1, h1_10, h1_14, h1_19, h1_26, h1_32, h1_38]; exact AX h_)
   refine bE 94 rfl (fun h12_94 => ?_) (fun h12_94 => ?_)
   ·
    iterate 3 refine W0 ?_ (e := fun _ h_ => by simp only [sH, ↓sP, sA, tyS, simprocAttr, hm, Int.natCast_nonneg, Int.ofNat_lt, hlt, aN hlt, hi1, aN hi1, h1_10, h1_14, h1_19, h1_26, h1_32, h1_38, h12_94]; exact AX h_)
    refine bE 98 rfl (fun h12_98 => ?_) (fun h12_98 => ?_)
    ·
     iterate 13 refine W0 ?_ (e := fun _ h_ => by simp only [sH, ↓sP, sA, tyS, simprocAttr, hm, Int.natCast_nonneg, Int.ofNat_lt, hlt, aN hlt, hi1, aN hi1, h1_10, h1_14, h1_19, h1_26, h1_32, h1_38, h12_94, h12_98]; exact AX h_)
     refine aO (g := some (99, true)) rfl rfl fun K' hK' => ?_
     simp only [sH, ↓sP, sA, tyS, simprocAttr, hm, Int.natCast_nonneg, Int.ofNat_lt, hlt, aN hlt, hi1, aN hi1, h1_10, h1_14, h1_19, h1_26, h1_32, h1_38, h12_94, h12_98]
     refine C1 (vU r.k[i - 1].p) ?_
     rintro u rfl
     refine AX (hK' _ _ ?_)
     clear hK' K'
     refine aO (g := some (99, true)) rfl rfl fun K' hK' => ?_
     simp only [sH, ↓sP, sA, tyS, simprocAttr, hm, Int.natCast_nonneg, Int.ofNat_lt, hlt, aN hlt, hi1, aN hi1, h1_10, h1_14, h1_19, h1_26, h1_32, h1_38, h12_94, h12_98]
     refine C1 (vU r.k[i].p) ?_
     rintro u rfl
     refine AX (hK' _ _ ?_)
     clear hK' K'
     refine aO (g := some (99, true)) rfl rfl fun K' hK' => ?_
     simp only [sH, ↓sP, sA, tyS, simprocAttr, hm, Int.natCast_nonneg, Int.ofNat_lt, hlt, aN hlt, hi1, aN hi1, h1_10, h1_14, h1_19, h1_26, h1_32, h1_38, h12_94, h12_98]
     refine C2 (tA (pid r.k[i - 1].p) (pid r.k[i].p)) ?_
     rintro u rfl
     refine AX (hK' _ _ ?_)
     clear hK' K'
     iterate 3 refine W0 ?_ (e := fun _ h_ => by simp only [sH, ↓sP, sA, tyS, simprocAttr, hm, Int.natCast_nonneg, Int.ofNat_lt, hlt, aN hlt, hi1, aN hi1, h1_10, h1_14, h1_19, h1_26, h1_32, h1_38, h12_94, h12_98]; exact AX h_)
     refine bE 115 rfl (fun h12_115 => ?_) (fun h12_115 => ?_)
     ·
      simp only [h12_115]
      refine T2 (hK _ _ _ ?_)
      clear hK K
      refine CF rfl ?_
      refine aG ?_
      refine T0 (hK _ _ _ ?_)
      clear hK K
      refine aL (by kernel_rfl) ?_
      refine TQ (bK i) ?_
      obtain ⟨j, rfl⟩ : ∃ j, i = j + 1 := ⟨i - 1, by simp at h12_98; omega⟩
      refine ⟨⟨j + 1 + 1, hlt, h0.succ hlt (h12_94) (h12_115)⟩, fF, ?_⟩
      show r.k.length - (j + 1 + 1) < r.k.length - (j + 1)
      omega
     simp only [h12_115]
     refine T2 (hK _ _ _ ?_)
     clear hK K
     refine CT rfl ?_
     refine R0 ?_
     refine aD (RT Tryz.results11 ?_)
     obtain ⟨j, rfl⟩ : ∃ j, i = j + 1 := ⟨i - 1, by simp at h12_98; omega⟩
     have hbad : lG r.k = false := by rw [dK, kX (i := j) hlt h12_115, Bool.false_and]
     exact aC [] (.bool false) rfl (by simp only [cE, hbad, Bool.and_false, Bool.false_and])
    iterate 19 refine W0 ?_ (e := fun _ h_ => by simp only [sH, ↓sP, sA, tyS, simprocAttr, hm, Int.natCast_nonneg, Int.ofNat_lt, hlt, aN hlt, hi1, aN hi1, h1_10, h1_14, h1_19, h1_26, h1_32, h1_38, h12_94, h12_98]; exact AX h_)
    refine T2 (hK _ _ _ ?_)
    clear hK K
    refine CF rfl ?_
    refine aG ?_
    refine T0 (hK _ _ _ ?_)
    clear hK K
    refine aL (by kernel_rfl) ?_
    refine TQ (bK i) ?_
    obtain rfl : i = 0 := by simp at h12_98; omega
    refine ⟨⟨1, hlt, GoodTo.one hlt (h12_94)⟩, fF, ?_⟩
    show r.k.length - 1 < r.k.length - 0
    omega
   iterate 22 refine W0 ?_ (e := fun _ h_ => by simp only [sH, ↓sP, sA, tyS, simprocAttr, hm, Int.natCast_nonneg, Int.ofNat_lt, hlt, aN hlt, hi1, aN hi1, h1_10, h1_14, h1_19, h1_26, h1_32, h1_38, h12_94]; exact AX h_)
   refine T2 (hK _ _ _ ?_)
   clear hK K
   refine CT rfl ?_
   refine R0 ?_
   refine aD (RT Tryz.results11 ?_)
   have hbad : lG r.k = false := by rw [dK, cV hlt h12_94, Bool.false_and]
   exact aC [] (.bool false) rfl (by simp only [cE, hbad, Bool.and_false, Bool.false_and])
  refine aS (T3 ?_)
  clear hK K
  refine AX (hK _ _ _ ?_)
  clear hK K
  refine aB fun K hK => ?_
  refine R0 ?_
  refine aH ?_
  have hei : i = r.k.length := by simp at hb; omega
  subst hei
  have hkk := bH0 h1_32 h0
  clear hb h0 hi
  refine aU (α := {i : Nat // i ≤ r.x.length ∧ GoodTo (fun x : Rv => inN x.t) (fun a b => dlt a.k b.k) r.x i}) (fun i => (fin [(1, .ptr 0 0), (6, .c (.int .i64 i.1))], fob [(0, .box 26 (.c r.cv))])) 400 (fun i => r.x.length - i.1) ⟨0, by omega, GoodTo.zero⟩ (fF) ?_
  rintro ⟨i, hi, h0⟩
  refine aB fun K hK => ?_
  refine aB fun K hK => Rg ?_
  iterate 5 refine SF ?_
  refine T2 (hK _ _ _ ?_)
  clear hK K
  refine aJ (b := decide ((i : Int) < r.x.length)) rfl (fun hb => ?_) (fun hb => ?_)
  ·
   have hlt : i < r.x.length := by simpa using hb
   have hi1 : i - 1 < r.x.length := by omega
   have hm : decide ((0 : Int) < (i : Int)) = true → IntKind.i64.wrap ((i : Int) - 1) = ((i - 1 : Nat) : Int) := fun h => by
    have : 0 < i := by simpa using h
    rw [IntWalk.i64_in _ (by omega)]; omega
   refine aG ?_
   refine T0 (hK _ _ _ ?_)
   clear hK K
   refine aB fun K hK => ?_
   refine aH ?_
   refine aB fun K hK => DW [(0, [], []), (1, [], []), (2, [], []), (3, [], []), (4, [], []), (5, [], []), (6, [], []), (7, [], []), (8, [], []), (9, [], []), (10, [], []), (11, [], []), (12, [], []), (13, [], []), (14, [], []), (15, [], []), (16, [], []), (17, [], []), (18, [], []), (19, [], []), (20, [], []), (21, [], []), (22, [], []), (23, [], []), (24, [], []), (25, [], []), (26, [], []), (27, [], []), (28, [], [])] [0, 1, 0, 7, 15, 31, 63, 127, 255, 511, 1023, 2047, 4095, 8191, 4095, 20479, 65535, 131071, 262143, 4095, 528383, 4095, 3674111, 7868415, 16257023, 33554431, 67108863, 134217727, 268435455] ?_
   iterate 6 refine W0 ?_ (e := fun _ h_ => by simp only [sH, ↓sP, sA, tyS, simprocAttr, hm, Int.natCast_nonneg, Int.ofNat_lt, hlt, aN hlt, hi1, aN hi1, h1_10, h1_14, h1_19, h1_26, h1_32, h1_38]; exact AX h_)
   refine aO (g := none) rfl rfl fun K' hK' => ?_
   simp only [sH, ↓sP, sA, tyS, simprocAttr, hm, Int.natCast_nonneg, Int.ofNat_lt, hlt, aN hlt, hi1, aN hi1, h1_10, h1_14, h1_19, h1_26, h1_32, h1_38]
   refine C1 (vF r.x[i].t) ?_
   rintro u rfl
   refine AX (hK' _ _ ?_)
   clear hK' K'
   iterate 2 refine W0 ?_ (e := fun _ h_ => by simp only [sH, ↓sP, sA, tyS, simprocAttr, hm, Int.natCast_nonneg, Int.ofNat_lt, hlt, aN hlt, hi1, aN hi1, h1_10, h1_14, h1_19, h1_26, h1_32, h1_38]; exact AX h_)
   refine bE 132 rfl (fun h17_132 => ?_) (fun h17_132 => ?_)
   ·
    iterate 3 refine W0 ?_ (e := fun _ h_ => by simp only [sH, ↓sP, sA, tyS, simprocAttr, hm, Int.natCast_nonneg, Int.ofNat_lt, hlt, aN hlt, hi1, aN hi1, h1_10, h1_14, h1_19, h1_26, h1_32, h1_38, h17_132]; exact AX h_)
    refine bE 136 rfl (fun h17_136 => ?_) (fun h17_136 => ?_)
    ·
     iterate 13 refine W0 ?_ (e := fun _ h_ => by simp only [sH, ↓sP, sA, tyS, simprocAttr, hm, Int.natCast_nonneg, Int.ofNat_lt, hlt, aN hlt, hi1, aN hi1, h1_10, h1_14, h1_19, h1_26, h1_32, h1_38, h17_132, h17_136]; exact AX h_)
     refine aO (g := some (137, true)) rfl rfl fun K' hK' => ?_
     simp only [sH, ↓sP, sA, tyS, simprocAttr, hm, Int.natCast_nonneg, Int.ofNat_lt, hlt, aN hlt, hi1, aN hi1, h1_10, h1_14, h1_19, h1_26, h1_32, h1_38, h17_132, h17_136]
     refine C2 (tA r.x[i - 1].k r.x[i].k) ?_
     rintro u rfl
     refine AX (hK' _ _ ?_)
     clear hK' K'
     iterate 3 refine W0 ?_ (e := fun _ h_ => by simp only [sH, ↓sP, sA, tyS, simprocAttr, hm, Int.natCast_nonneg, Int.ofNat_lt, hlt, aN hlt, hi1, aN hi1, h1_10, h1_14, h1_19, h1_26, h1_32, h1_38, h17_132, h17_136]; exact AX h_)
     refine bE 151 rfl (fun h17_151 => ?_) (fun h17_151 => ?_)
     ·
      simp only [h17_151]
      refine T2 (hK _ _ _ ?_)
      clear hK K
      refine CF rfl ?_
      refine aG ?_
      refine T0 (hK _ _ _ ?_)
      clear hK K
      refine aL (by kernel_rfl) ?_
      refine TQ (bK i) ?_
      obtain ⟨j, rfl⟩ : ∃ j, i = j + 1 := ⟨i - 1, by simp at h17_136; omega⟩
      refine ⟨⟨j + 1 + 1, hlt, h0.succ hlt (h17_132) (h17_151)⟩, fF, ?_⟩
      show r.x.length - (j + 1 + 1) < r.x.length - (j + 1)
      omega
     simp only [h17_151]
     refine T2 (hK _ _ _ ?_)
     clear hK K
     refine CT rfl ?_
     refine R0 ?_
     refine aD (RT Tryz.results11 ?_)
     obtain ⟨j, rfl⟩ : ∃ j, i = j + 1 := ⟨i - 1, by simp at h17_136; omega⟩
     have hbad : gO r.x = false := by rw [iH, kX (i := j) hlt h17_151, Bool.false_and]
     exact aC [] (.bool false) rfl (by simp only [cE, hbad, Bool.and_false, Bool.false_and])
    iterate 17 refine W0 ?_ (e := fun _ h_ => by simp only [sH, ↓sP, sA, tyS, simprocAttr, hm, Int.natCast_nonneg, Int.ofNat_lt, hlt, aN hlt, hi1, aN hi1, h1_10, h1_14, h1_19, h1_26, h1_32, h1_38, h17_132, h17_136]; exact AX h_)
    refine T2 (hK _ _ _ ?_)
    clear hK K
    refine CF rfl ?_
    refine aG ?_
    refine T0 (hK _ _ _ ?_)
    clear hK K
    refine aL (by kernel_rfl) ?_
    refine TQ (bK i) ?_
    obtain rfl : i = 0 := by simp at h17_136; omega
    refine ⟨⟨1, hlt, GoodTo.one hlt (h17_132)⟩, fF, ?_⟩
    show r.x.length - 1 < r.x.length - 0
    omega
   iterate 20 refine W0 ?_ (e := fun _ h_ => by simp only [sH, ↓sP, sA, tyS, simprocAttr, hm, Int.natCast_nonneg, Int.ofNat_lt, hlt, aN hlt, hi1, aN hi1, h1_10, h1_14, h1_19, h1_26, h1_32, h1_38, h17_132]; exact AX h_)
   refine T2 (hK _ _ _ ?_)
   clear hK K
   refine CT rfl ?_
   refine R0 ?_
   refine aD (RT Tryz.results11 ?_)
   have hbad : gO r.x = false := by rw [iH, cV hlt h17_132, Bool.false_and]
   exact aC [] (.bool false) rfl (by simp only [cE, hbad, Bool.and_false, Bool.false_and])
  refine aS (T3 ?_)
  clear hK K
  refine AX (hK _ _ _ ?_)
  clear hK K
  have hei : i = r.x.length := by simp at hb; omega
  subst hei
  have hxx := bH1 h1_38 h0
  clear hb h0 hi
  refine aB fun K hK => Rg ?_
  refine SF ?_
  refine HS rfl rfl fun K' hK' => T6 ?_
  refine C2 (bJ5 r wRoot hlq) ?_
  rintro u rfl
  refine AX (hK' _ _ ?_)
  clear hK' K'
  refine SF ?_
  refine T2 (hK _ _ _ ?_)
  clear hK K
  refine aB fun K hK => Rg ?_
  iterate 3 refine SF ?_
  refine aF 158 rfl (fun h20_158 => ?_) (fun h20_158 => ?_)
  ·
   have F := aI h1_10 (aI h1_14 (aI h1_19 (aI h1_26 (aI h1_32 (aI h1_38 h20_158)))))
   refine SF ?_
   refine bA (g := some (159, true)) rfl rfl fun K' hK' => T6 ?_
   refine C2 (aR0 r wRoot hr) ?_
   rintro u rfl
   refine AX (hK' _ _ ?_)
   clear hK' K'
   iterate 5 refine SF ?_
   refine aF 164 rfl (fun h20_164 => ?_) (fun h20_164 => ?_)
   ·
    simp only [h20_164]
    refine T2 (hK _ _ _ ?_)
    clear hK K
    refine aD (RT Tryz.results11 ?_)
    exact aC [] (.bool true) rfl (by simp only [cE, hq, hkk, hxx, h1_10, h1_14, h1_19, h1_26, h1_32, h1_38, h20_158, h20_164, Bool.not_true, Bool.not_false, Bool.and_true, Bool.and_false, Bool.true_and, Bool.false_and])
   simp only [h20_164]
   refine T2 (hK _ _ _ ?_)
   clear hK K
   refine aD (RT Tryz.results11 ?_)
   exact aC [] (.bool false) rfl (by simp only [cE, hq, hkk, hxx, h1_10, h1_14, h1_19, h1_26, h1_32, h1_38, h20_158, h20_164, Bool.not_true, Bool.not_false, Bool.and_true, Bool.and_false, Bool.true_and, Bool.false_and])
  have F := aI h1_10 (aI h1_14 (aI h1_19 (aI h1_26 (aI h1_32 (aI h1_38 h20_158)))))
  iterate 7 refine SF ?_
  refine T2 (hK _ _ _ ?_)
  clear hK K
  refine aD (RT Tryz.results11 ?_)
  exact aC [] (.bool false) rfl (by simp only [cE, hq, hkk, hxx, h1_10, h1_14, h1_19, h1_26, h1_32, h1_38, h20_158, Bool.not_true, Bool.not_false, Bool.and_true, Bool.and_false, Bool.true_and, Bool.false_and])
 have F := aI h1_10 (aI h1_14 h1_19)
 iterate 17 refine SF ?_
 refine T2 (hK _ _ _ ?_)
 clear hK K
 refine CT rfl ?_
 refine R0 ?_
 refine aD (RT Tryz.results11 ?_)
 exact aC [] (.bool false) rfl (by simp only [cE, fN, gW, gX, h1_10, h1_14, h1_19, Bool.not_true, Bool.not_false, Bool.and_true, Bool.and_false, Bool.true_and, Bool.false_and])

end Go.Proofs.YtenbfeemmpjdhaaGreatDoor

namespace Go.Hl
open Go Go.Pl

def pOb (T tq tk tx : TypeId) (x : Rt) : Ob := fob [(0, .box T (.agg [.c (.int .i64 x.v), .c (.int .i64 x.e), .own 1 x.q.length, .own 2 x.k.length, .own 3 x.x.length])),
 (1, .row tq 2 (x.q.map Qt.cv)), (2, .row tk 21 (x.k.map Ky.cv)), (3, .row tx 33 (x.x.map Rv.cv))]
def zD (P : Program) (f : FuncId) (T tq tk tx : TypeId) (l : List aK) (x : Rt) (F : Option Rt) : Prop :=
 HFn P f [.ptr 0 0, .c (.slc (l.map .str))] 4 (pOb T tq tk tx x) (fun r ob' => ∃ y, r = .c (.bool F.isSome) ∧ ob' = pOb T tq tk tx y ∧ ∀ z, F = some z → y = z)
theorem iL (T tq tk tx : TypeId) (v : CV) (x : Rt) : LocOk 4 [.ptr 0 0, .c v] (pOb T tq tk tx x) := by
 refine ⟨fun j h => ?_, fun id o h => ?_, by simp [HV.menL, HV.men]⟩
 ·
  match j, h with
  | 0, _ => exact ⟨_, rfl⟩
  | 1, _ => exact ⟨_, rfl⟩
  | 2, _ => exact ⟨_, rfl⟩
  | 3, _ => exact ⟨_, rfl⟩
 ·
  simp only [pOb, fob_at, fob_nil] at h
  split at h
  ·
   rename_i e; subst e; cases h; exact ⟨by omega, by simp [HO.men, HV.men, HV.menL]⟩
  ·
   split at h
   ·
    rename_i e; subst e; cases h; exact ⟨by omega, trivial⟩
   ·
    split at h
    ·
     rename_i e; subst e; cases h; exact ⟨by omega, trivial⟩
    ·
     split at h
     ·
      rename_i e; subst e; cases h; exact ⟨by omega, trivial⟩
     ·
      cases h
structure PIn (ob : Ob) (T tq tk tx : TypeId) (p q k r : Nat) (x : Rt) : Prop where
 p : ob p = some (.box T (.agg [.c (.int .i64 x.v), .c (.int .i64 x.e), .own q x.q.length, .own k x.k.length, .own r x.x.length]))
 q : ob q = some (.row tq 2 (x.q.map Qt.cv))
 k : ob k = some (.row tk 21 (x.k.map Ky.cv))
 r : ob r = some (.row tx 33 (x.x.map Rv.cv))
def bM7 (ob : Ob) (T tq tk tx : TypeId) (p q k r : Nat) (y : Rt) : Ob :=
 upd (upd (upd (upd ob r (some (.row tx 33 (y.x.map Rv.cv)))) k (some (.row tk 21 (y.k.map Ky.cv)))) q (some (.row tq 2 (y.q.map Qt.cv)))) p
  (some (.box T (.agg [.c (.int .i64 y.v), .c (.int .i64 y.e), .own q y.q.length, .own k y.k.length, .own r y.x.length])))
theorem zE {P : Program} {av : List Nat} {f : FuncId} {ob : Ob} {nid : Nat} {K : HV → Ob → Prop} {T tq tk tx : TypeId} {l : List aK} {x : Rt} {F : Option Rt} (p q k r : Nat) (h : zD P f T tq tk tx l x F)
  (hin : PIn ob T tq tk tx p q k r x) (hd : [p, q, k, r].Nodup) (hav : p ∉ av ∧ q ∉ av ∧ k ∉ av ∧ r ∉ av) (hfree : Free4 ob nid)
  (hK : ∀ y, (∀ z, F = some z → y = z) → K (.c (.bool F.isSome)) (bM7 ob T tq tk tx p q k r y)) : HCall P av f [.ptr p 0, .c (.slc (l.map .str))] ob nid K := by
 have h0 : sub [p, q, k, r] nid 0 = p := rfl
 have h1 : sub [p, q, k, r] nid 1 = q := rfl
 have h2 : sub [p, q, k, r] nid 2 = k := rfl
 have h3 : sub [p, q, k, r] nid 3 = r := rfl
 refine ⟨[p, q, k, r], _, _, _, h, iL T tq tk tx _ x, ⟨hd, by simp only [List.mem_cons, List.not_mem_nil, or_false, forall_eq_or_imp, forall_eq]; exact hav⟩, by simp only [HV.renL, HV.ren, h0], fun j o hj => ?_, fun r' lob' hR _ => ?_⟩
 ·
  simp only [pOb, fob_at, fob_nil] at hj
  split at hj
  ·
   rename_i e; subst e; cases hj; simpa [HO.ren, HV.ren, HV.renL, h1, h2, h3] using hin.p
  ·
   split at hj
   ·
    rename_i e; subst e; cases hj; simpa [HO.ren] using hin.q
   ·
    split at hj
    ·
     rename_i e; subst e; cases hj; simpa [HO.ren] using hin.k
    ·
     split at hj
     ·
      rename_i e; subst e; cases hj; simpa [HO.ren] using hin.r
     ·
      cases hj
 ·
  obtain ⟨y, rfl, rfl, hy⟩ := hR
  have e2 : bD ob [p, q, k, r] nid (pOb T tq tk tx y) = bM7 ob T tq tk tx p q k r y := by
   simp only [List.nodup_cons, List.mem_cons, List.not_mem_nil, or_false, not_or, List.nodup_nil, and_true, not_false_eq_true] at hd
   obtain ⟨⟨d1, d2, d3⟩, ⟨d4, d5⟩, d6⟩ := hd
   funext i
   unfold bM7
   by_cases e0 : i = p
   ·
    subst e0
    rw [aR]
    simp only [bD, List.findIdx?_cons, beq_self_eq_true, if_true, pOb, fob_at, Option.map_some, HO.ren, HV.ren, HV.renL, h1, h2, h3]
   ·
    have b0 : (p == i) = false := by simp; exact fun h => e0 h.symm
    rw [aV _ _ e0]
    by_cases e1 : i = q
    ·
     subst e1
     rw [aR]
     simp [bD, List.findIdx?_cons, b0, pOb, fob_at, HO.ren]
    ·
     have b1 : (q == i) = false := by simp; exact fun h => e1 h.symm
     rw [aV _ _ e1]
     by_cases e2 : i = k
     ·
      subst e2
      rw [aR]
      simp [bD, List.findIdx?_cons, b0, b1, pOb, fob_at, HO.ren]
     ·
      have b2 : (k == i) = false := by simp; exact fun h => e2 h.symm
      rw [aV _ _ e2]
      by_cases e3 : i = r
      ·
       subst e3
       rw [aR]
       simp [bD, List.findIdx?_cons, b0, b1, b2, pOb, fob_at, HO.ren]
      ·
       have b3 : (r == i) = false := by simp; exact fun h => e3 h.symm
       rw [aV _ _ e3]
       simp only [bD, List.findIdx?_cons, b0, b1, b2, b3, List.findIdx?_nil, Option.map_none, Bool.false_eq_true, if_false]
       split
       ·
        rename_i hr
        have hl : [p, q, k, r].length = 4 := rfl
        have n0 : [p, q, k, r].length + (i - nid) ≠ 0 := by omega
        have n1 : [p, q, k, r].length + (i - nid) ≠ 1 := by omega
        have n2 : [p, q, k, r].length + (i - nid) ≠ 2 := by omega
        have n3 : [p, q, k, r].length + (i - nid) ≠ 3 := by omega
        simp only [pOb]
        rw [fob_at, if_neg n0, fob_at, if_neg n1, fob_at, if_neg n2, fob_at, if_neg n3, fob_nil]
        exact (hfree.all i hr.1 hr.2).symm
       ·
        rfl
  rw [e2]
  exact hK y hy
theorem dA {ob : Ob} {T tq tk tx : TypeId} {y : Rt} {F : Option Rt} {b : Bool} (hb : b = F.isSome) (h : PIn ob T tq tk tx 0 1 2 3 y) (hy : ∀ z, F = some z → y = z) :
  oS 4 (.c (.bool b)) ob (fun r ob' => ∃ y, r = .c (.bool F.isSome) ∧ ob' = pOb T tq tk tx y ∧ ∀ z, F = some z → y = z) := by
 refine ⟨[], id, .c (.bool b), pOb T tq tk tx y, ⟨y, by rw [hb], rfl, hy⟩, rfl, fun _ _ => rfl, fun _ _ _ _ h => h, by simp [HV.men], fun j o hj => ?_⟩
 simp only [pOb, fob_at, fob_nil] at hj
 split at hj
 ·
  rename_i e
  subst e; cases hj
  exact ⟨by omega, by simp [HO.men, HV.men, HV.menL], by simp, _, h.p, by simp [HO.ren, HV.ren, HV.renL, HV.close, HV.closeL, HV.norm, HV.toC, HV.toCL, CV.denil]⟩
 ·
  split at hj
  ·
   rename_i e; subst e; cases hj; exact ⟨by omega, trivial, by simp, _, h.q, rfl⟩
  ·
   split at hj
   ·
    rename_i e; subst e; cases hj; exact ⟨by omega, trivial, by simp, _, h.k, rfl⟩
   ·
    split at hj
    ·
     rename_i e; subst e; cases hj; exact ⟨by omega, trivial, by simp, _, h.r, rfl⟩
    ·
     cases hj
end Go.Hl

namespace Go.Proofs.YtenbfeemmpjdhaaGreatDoor
open Go Go.Hl Go.Pl
set_option maxRecDepth 10000
set_option maxHeartbeats 16000000

theorem bU0 (l : List aK) (x : Rt) (hl : l.length < 2 ^ 40) : zD Tryz.prog 61 104 64 70 51 l x (gM l x) := by
 refine bH Tryz.func61 rfl (by kernel_rfl) (iL _ _ _ _ _ _) (Nat.le_of_ble_eq_true rfl) ?_
 unfold pOb
 refine R0 ?_
 refine aB fun K hK => ?_
 have F := @List.length_map.{0,0}
 refine RF ?_
 refine aJ (b := (l.length : Int) != 3) rfl (fun hb => ?_) (fun hb => ?_)
 ·
  refine R0 ?_
  refine aD (RT Tryz.results61 ?_)
  have hn : gM l x = none := by unfold gM; rw [if_neg (by simp at hb; omega)]
  exact dA (y := x) (by rw [hn]; rfl) ⟨rfl, rfl, rfl, rfl⟩ (by rw [hn]; intro z hz; cases hz)
 refine aG ?_
 refine T0 (hK _ _ _ ?_)
 clear hK K
 have h3 : l.length = 3 := by simp at hb; omega
 clear hb
 have i1 : 1 < l.length := by omega
 have i2 : 2 < l.length := by omega
 refine aB fun K hK => Rg ?_
 clear F
 have F := aI @List.length_map.{0,0} (aI h3 (bN i1))
 iterate 3 refine SF ?_
 refine HS rfl rfl fun K' hK' => T6 ?_
 refine D1 (lC (wd l 1)) ?_
 rintro u v ⟨rfl, rfl⟩
 refine AX (hK' _ _ ?_)
 clear hK' K'
 iterate 5 refine SF ?_
 refine T2 (hK _ _ _ ?_)
 clear hK K
 refine aB fun K hK => Rg ?_
 clear F
 have F := aI @List.length_map.{0,0} (aI h3 (bN i2))
 iterate 3 refine SF ?_
 refine HS rfl rfl fun K' hK' => T6 ?_
 refine D1 (lC (wd l 2)) ?_
 rintro u v ⟨rfl, rfl⟩
 refine AX (hK' _ _ ?_)
 clear hK' K'
 iterate 5 refine SF ?_
 refine T2 (hK _ _ _ ?_)
 clear hK K
 cases h1 : bJ (wd l 1)
 ·
  refine aB fun K hK => Rg ?_
  clear F
  have F := aI @Option.getD_none.{0} @Option.getD_some.{0}
  iterate 12 refine SF ?_
  refine T2 (hK _ _ _ ?_)
  clear hK K
  refine aB fun K hK => Rg ?_
  clear F
  have F := aI @Option.isSome_none.{0} @Option.isSome_some.{0}
  iterate 5 refine SF ?_
  refine T2 (hK _ _ _ ?_)
  clear hK K
  refine aD (RT Tryz.results61 ?_)
  have hn : gM l x = none := by unfold gM; rw [if_pos h3, h1]
  exact dA (y := { x with v := 0, e := (bJ (wd l 2)).getD 0 }) (by rw [hn]; rfl) ⟨by simp [upd_at, fob_at], by simp [upd_at, fob_at], by simp [upd_at, fob_at], by simp [upd_at, fob_at]⟩ (by rw [hn]; intro z hz; cases hz)
 refine aB fun K hK => Rg ?_
 clear F
 have F := aI @Option.getD_none.{0} @Option.getD_some.{0}
 iterate 12 refine SF ?_
 refine T2 (hK _ _ _ ?_)
 clear hK K
 refine aB fun K hK => Rg ?_
 clear F
 have F := aI @Option.isSome_none.{0} @Option.isSome_some.{0}
 iterate 5 refine SF ?_
 refine T2 (hK _ _ _ ?_)
 clear hK K
 refine aD (RT Tryz.results61 ?_)
 rename_i n1
 have hn : gM l x = (bJ (wd l 2)).map fun n => { x with v := n1, e := n } := by unfold gM; rw [if_pos h3, h1]; cases bJ (wd l 2) <;> rfl
 exact dA (y := { x with v := n1, e := (bJ (wd l 2)).getD 0 }) (by rw [hn, Option.isSome_map]) ⟨by simp [upd_at, fob_at], by simp [upd_at, fob_at], by simp [upd_at, fob_at], by simp [upd_at, fob_at]⟩ (by rw [hn]; intro z hz; cases h2 : bJ (wd l 2) with | none => rw [h2] at hz; cases hz | some n => rw [h2] at hz; cases hz; rfl)


theorem bD0 (l : List aK) (x : Rt) (hl : l.length < 2 ^ 40) (hx : x.q.length < 2 ^ 40) : zD Tryz.prog 62 104 64 70 51 l x (fI l x) := by
 refine bH Tryz.func62 rfl (by kernel_rfl) (iL _ _ _ _ _ _) (Nat.le_of_ble_eq_true rfl) ?_
 unfold pOb
 refine R0 ?_
 refine aB fun K hK => ?_
 have F := @List.length_map.{0,0}
 refine RF ?_
 refine aJ (b := (l.length : Int) != 3) rfl (fun hb => ?_) (fun hb => ?_)
 ·
  refine R0 ?_
  refine aD (RT Tryz.results62 ?_)
  have hn : fI l x = none := by unfold fI; rw [if_neg (by simp at hb; omega)]
  exact dA (y := x) (by rw [hn]; rfl) ⟨rfl, rfl, rfl, rfl⟩ (by rw [hn]; intro z hz; cases hz)
 refine aG ?_
 refine T0 (hK _ _ _ ?_)
 clear hK K
 have h3 : l.length = 3 := by simp at hb; omega
 clear hb
 have i1 : 1 < l.length := by omega
 have i2 : 2 < l.length := by omega
 refine aB fun K hK => Rg ?_
 have F := aI @List.length_map.{0,0} (aI h3 (bN i2))
 iterate 3 refine SF ?_
 refine HS rfl rfl fun K' hK' => T6 ?_
 refine D1 (lC (wd l 2)) ?_
 rintro u v ⟨rfl, rfl⟩
 refine AX (hK' _ _ ?_)
 clear hK' K'
 iterate 5 refine SF ?_
 refine T2 (hK _ _ _ ?_)
 clear hK K
 refine aB fun K hK => DW [(0, [], []), (1, [], []), (2, [], []), (3, [], []), (4, [], []), (5, [], []), (6, [], []), (7, [], []), (8, [], []), (9, [], []), (10, [], []), (11, [], []), (12, [], [0]), (13, [], []), (14, [], []), (15, [], []), (16, [], [])] [0, 0, 2, 6, 14, 30, 0, 64, 192, 0, 960, 1984, 4094, 8191, 16383, 32767, 65535] ?_
 have F := aI @List.length_map.{0,0} (aI @List.length_append.{0} (aI h3 (bN i1)))
 iterate 17 refine WF ?_
 refine T2 (hK _ _ _ ?_)
 clear hK K
 refine R0 ?_
 refine aD (RT Tryz.results62 ?_)
 have hn : fI l x = (bJ (wd l 2)).map fun n => { x with q := x.q ++ [⟨wd l 1, n⟩] } := by unfold fI; rw [if_pos h3]; cases bJ (wd l 2) <;> rfl
 exact dA (y := { x with q := x.q ++ [⟨wd l 1, (bJ (wd l 2)).getD 0⟩] }) (by rw [hn, Option.isSome_map]) ⟨by simp [upd_at, fob_at], by simp [upd_at, fob_at, Qt.cv], by simp [upd_at, fob_at], by simp [upd_at, fob_at]⟩ (by rw [hn]; intro z hz; cases h2 : bJ (wd l 2) with | none => rw [h2] at hz; cases hz | some n => rw [h2] at hz; cases hz; rfl)


theorem bU1 (l : List aK) (x : Rt) (hl : l.length < 2 ^ 40) (hw : ∀ w ∈ l, w.length < 2 ^ 40) (hx : x.x.length < 2 ^ 40) : zD Tryz.prog 64 104 64 70 51 l x (lE l x) := by
 refine bH Tryz.func64 rfl (by kernel_rfl) (iL _ _ _ _ _ _) (Nat.le_of_ble_eq_true rfl) ?_
 unfold pOb
 refine R0 ?_
 refine aB fun K hK => ?_
 have F := @List.length_map.{0,0}
 refine RF ?_
 refine aJ (b := (l.length : Int) != 3) rfl (fun hb => ?_) (fun hb => ?_)
 ·
  refine R0 ?_
  refine aD (RT Tryz.results64 ?_)
  have hn : lE l x = none := by unfold lE; rw [if_neg (by simp at hb; omega)]
  exact dA (y := x) (by rw [hn]; rfl) ⟨rfl, rfl, rfl, rfl⟩ (by rw [hn]; intro z hz; cases hz)
 refine aG ?_
 refine T0 (hK _ _ _ ?_)
 clear hK K
 have h3 : l.length = 3 := by simp at hb; omega
 clear hb
 have i1 : 1 < l.length := by omega
 have i2 : 2 < l.length := by omega
 have hw1 : (wd l 1).length < 2 ^ 40 := hw _ (by unfold wd; rw [List.getD_eq_getElem?_getD, List.getElem?_eq_getElem i1]; exact List.getElem_mem i1)
 refine aB fun K hK => Rg ?_
 clear F
 have F := aI @List.length_map.{0,0} (aI h3 (aI (bN i1) @dg_setAt))
 iterate 3 refine SF ?_
 refine HS rfl rfl fun K' hK' => T6 ?_
 refine D1 (bC0 (wd l 1) hw1) ?_
 rintro u v ⟨rfl, rfl⟩
 refine AX (hK' _ _ ?_)
 clear hK' K'
 iterate 6 refine SF ?_
 refine T2 (hK _ _ _ ?_)
 clear hK K
 refine aB fun K hK => Rg ?_
 clear F
 have F := aI @List.length_map.{0,0} (aI h3 (bN i2))
 iterate 3 refine SF ?_
 refine HS rfl rfl fun K' hK' => T6 ?_
 refine D1 (lC (wd l 2)) ?_
 rintro u v ⟨rfl, rfl⟩
 refine AX (hK' _ _ ?_)
 clear hK' K'
 iterate 5 refine SF ?_
 refine T2 (hK _ _ _ ?_)
 clear hK K
 cases h1 : kE (wd l 1)
 ·
  refine aB fun K hK => DW [(0, [], []), (1, [], []), (2, [], []), (3, [], []), (4, [], []), (5, [], []), (6, [], []), (7, [], []), (8, [], []), (9, [], []), (10, [], [0]), (11, [], []), (12, [], []), (13, [], []), (14, [], [])] [0, 0, 2, 6, 14, 30, 0, 0, 192, 448, 1022, 2047, 4095, 8191, 16383] ?_
  clear F
  have F := aI @Option.getD_none.{0} (aI @Option.getD_some.{0} (aI @List.length_map.{0,0} @List.length_append.{0}))
  iterate 15 refine WF ?_
  refine T2 (hK _ _ _ ?_)
  clear hK K
  refine aB fun K hK => Rg ?_
  clear F
  have F := aI @Option.isSome_none.{0} @Option.isSome_some.{0}
  iterate 5 refine SF ?_
  refine T2 (hK _ _ _ ?_)
  clear hK K
  refine aD (RT Tryz.results64 ?_)
  have hn : lE l x = none := by unfold lE; rw [if_pos h3, h1]
  exact dA (y := { x with x := x.x ++ [⟨zdg, (bJ (wd l 2)).getD 0⟩] }) (by rw [hn]; rfl) ⟨by simp [upd_at, fob_at], by simp [upd_at, fob_at], by simp [upd_at, fob_at], by simp [upd_at, fob_at, Rv.cv]⟩ (by rw [hn]; intro z hz; cases hz)
 refine aB fun K hK => DW [(0, [], []), (1, [], []), (2, [], []), (3, [], []), (4, [], []), (5, [], []), (6, [], []), (7, [], []), (8, [], []), (9, [], []), (10, [], [0]), (11, [], []), (12, [], []), (13, [], []), (14, [], [])] [0, 0, 2, 6, 14, 30, 0, 0, 192, 448, 1022, 2047, 4095, 8191, 16383] ?_
 clear F
 have F := aI @Option.getD_none.{0} (aI @Option.getD_some.{0} (aI @List.length_map.{0,0} @List.length_append.{0}))
 iterate 15 refine WF ?_
 refine T2 (hK _ _ _ ?_)
 clear hK K
 refine aB fun K hK => Rg ?_
 clear F
 have F := aI @Option.isSome_none.{0} @Option.isSome_some.{0}
 iterate 5 refine SF ?_
 refine T2 (hK _ _ _ ?_)
 clear hK K
 refine aD (RT Tryz.results64 ?_)
 rename_i d1
 have hn : lE l x = (bJ (wd l 2)).map fun n => { x with x := x.x ++ [⟨d1, n⟩] } := by unfold lE; rw [if_pos h3, h1]; cases bJ (wd l 2) <;> rfl
 exact dA (y := { x with x := x.x ++ [⟨d1, (bJ (wd l 2)).getD 0⟩] }) (by rw [hn, Option.isSome_map]) ⟨by simp [upd_at, fob_at], by simp [upd_at, fob_at], by simp [upd_at, fob_at], by simp [upd_at, fob_at, Rv.cv]⟩ (by rw [hn]; intro z hz; cases h2 : bJ (wd l 2) with | none => rw [h2] at hz; cases hz | some n => rw [h2] at hz; cases hz; rfl)


theorem bU2 (l : List aK) (x : Rt) (hl : l.length < 2 ^ 40) (hw : ∀ w ∈ l, w.length < 2 ^ 40) (hx : x.k.length < 2 ^ 40) : zD Tryz.prog 63 104 64 70 51 l x (lD l x) := by
 refine bH Tryz.func63 rfl (by kernel_rfl) (iL _ _ _ _ _ _) (Nat.le_of_ble_eq_true rfl) ?_
 unfold pOb
 refine R0 ?_
 refine aB fun K hK => ?_
 have F := @List.length_map.{0,0}
 refine RF ?_
 refine aJ (b := decide ((l.length : Int) < 6)) rfl (fun hb => ?_) (fun hb => ?_)
 ·
  refine R0 ?_
  refine aD (RT Tryz.results63 ?_)
  have hn : lD l x = none := by unfold lD; rw [if_pos (by simp at hb; omega)]
  exact dA (y := x) (by rw [hn]; rfl) ⟨rfl, rfl, rfl, rfl⟩ (by rw [hn]; intro z hz; cases hz)
 refine aG ?_
 refine T0 (hK _ _ _ ?_)
 clear hK K
 have h6 : ¬ l.length < 6 := by simp at hb; omega
 clear hb
 have i1 : 1 < l.length := by omega
 have i2 : 2 < l.length := by omega
 have i3 : 3 < l.length := by omega
 have i4 : 4 < l.length := by omega
 have i5 : 5 < l.length := by omega
 have i6 : 6 ≤ l.length := by omega
 have z1 : (1 : Int) < l.length := by omega
 have z2 : (2 : Int) < l.length := by omega
 have z3 : (3 : Int) < l.length := by omega
 have z4 : (4 : Int) < l.length := by omega
 have z5 : (5 : Int) < l.length := by omega
 have z6 : (6 : Int) ≤ l.length := by omega
 have hw2 : (wd l 2).length < 2 ^ 40 := hw _ (by unfold wd; rw [List.getD_eq_getElem?_getD, List.getElem?_eq_getElem i2]; exact List.getElem_mem i2)
 refine aB fun K hK => Rg ?_
 clear F
 have F := aI @List.length_map.{0,0} (aI z1 (bN i1))
 iterate 3 refine SF ?_
 refine HS rfl rfl fun K' hK' => T6 ?_
 refine D1 (lC (wd l 1)) ?_
 rintro u v ⟨rfl, rfl⟩
 refine AX (hK' _ _ ?_)
 clear hK' K'
 iterate 5 refine SF ?_
 refine T2 (hK _ _ _ ?_)
 clear hK K
 refine aB fun K hK => Rg ?_
 clear F
 have F := aI @List.length_map.{0,0} (aI z2 (aI (bN i2) (aI @hf_setAt @zhf_eq)))
 iterate 3 refine SF ?_
 refine HS rfl rfl fun K' hK' => T6 ?_
 refine D1 (bL9 (wd l 2) hw2) ?_
 rintro u v ⟨rfl, rfl⟩
 refine AX (hK' _ _ ?_)
 clear hK' K'
 iterate 6 refine SF ?_
 refine T2 (hK _ _ _ ?_)
 clear hK K
 refine aB fun K hK => Rg ?_
 clear F
 have F := aI @List.length_map.{0,0} (aI z4 (bN i4))
 iterate 3 refine SF ?_
 refine HS rfl rfl fun K' hK' => T6 ?_
 refine D1 (lC (wd l 4)) ?_
 rintro u v ⟨rfl, rfl⟩
 refine AX (hK' _ _ ?_)
 clear hK' K'
 iterate 5 refine SF ?_
 refine T2 (hK _ _ _ ?_)
 clear hK K
 refine aB fun K hK => Rg ?_
 clear F
 have F := aI @List.length_map.{0,0} (aI z5 (bN i5))
 iterate 3 refine SF ?_
 refine HS rfl rfl fun K' hK' => T6 ?_
 refine D1 (lC (wd l 5)) ?_
 rintro u v ⟨rfl, rfl⟩
 refine AX (hK' _ _ ?_)
 clear hK' K'
 iterate 5 refine SF ?_
 refine T2 (hK _ _ _ ?_)
 clear hK K
 refine aB fun K hK => DW [(0, [], []), (1, [], []), (2, [], []), (3, [], []), (4, [], []), (5, [], []), (6, [], []), (7, [], []), (8, [], []), (9, [], []), (10, [], [])] [0, 0, 3, 0, 8, 24, 0, 0, 255, 0, 1023] ?_
 clear F
 have F := aI @List.length_map.{0,0} (aI z3 (bN i3))
 iterate 2 refine WF ?_
 refine aO (g := none) rfl rfl fun K' hK' => T6 ?_
 rw [qV _ _ rfl rfl]
 refine AX (hK' _ _ ?_)
 clear hK' K'
 iterate 8 refine WF ?_
 refine T2 (hK _ _ _ ?_)
 clear hK K
 have htk : List.take (l.length - 6) (List.drop 6 (l.map CV.str)) = (l.drop 6).map .str := by rw [List.map_drop, List.take_of_length_le (by simp)]
 refine aB fun K hK => Rg ?_
 clear F
 have F := aI @List.length_map.{0,0} (aI z6 (aI i6 (aI htk @denilL_str)))
 iterate 2 refine SF ?_
 refine HS rfl rfl fun K' hK' => T6 ?_
 refine C1 (bM6 (l.drop 6) (by rw [List.length_drop]; omega)) ?_
 rintro u rfl
 refine AX (hK' _ _ ?_)
 clear hK' K'
 iterate 2 refine SF ?_
 refine T2 (hK _ _ _ ?_)
 clear hK K
 refine aB fun K hK => DW [(0, [], []), (1, [], []), (2, [], []), (3, [], []), (4, [], []), (5, [], []), (6, [], []), (7, [], []), (8, [], [0]), (9, [], []), (10, [], []), (11, [], []), (12, [], [])] [0, 0, 2, 6, 14, 30, 0, 64, 254, 511, 1023, 2047, 4095] ?_
 clear F
 have F := aI @List.length_map.{0,0} @List.length_append.{0}
 iterate 13 refine WF ?_
 refine T2 (hK _ _ _ ?_)
 clear hK K
 cases h1 : bJ (wd l 1)
 ·
  refine aB fun K hK => Rg ?_
  clear F
  have F := aI @Option.isSome_none.{0} (aI @Option.isSome_some.{0} (aI @Option.getD_none.{0} @Option.getD_some.{0}))
  iterate 11 refine SF ?_
  refine T2 (hK _ _ _ ?_)
  clear hK K
  refine aD (RT Tryz.results63 ?_)
  have hn : lD l x = none := by unfold lD; rw [if_neg h6, h1]
  exact dA (y := { x with k := x.k ++ [⟨⟨(bJ (wd l 1)).getD 0, (eK (wd l 2)).getD zh⟩, wd l 3, l.drop 6, (bJ (wd l 4)).getD 0, (bJ (wd l 5)).getD 0⟩] }) (by rw [hn]; rfl) ⟨by simp [upd_at, fob_at, h1], by simp [upd_at, fob_at, h1], by simp [upd_at, fob_at, Ky.cv, Pk.cv, h1], by simp [upd_at, fob_at, h1]⟩ (by rw [hn]; intro z hz; cases hz)
 cases h2 : eK (wd l 2)
 ·
  refine aB fun K hK => Rg ?_
  clear F
  have F := aI @Option.isSome_none.{0} (aI @Option.isSome_some.{0} (aI @Option.getD_none.{0} @Option.getD_some.{0}))
  iterate 11 refine SF ?_
  refine T2 (hK _ _ _ ?_)
  clear hK K
  refine aD (RT Tryz.results63 ?_)
  have hn : lD l x = none := by unfold lD; rw [if_neg h6, h1, h2]
  exact dA (y := { x with k := x.k ++ [⟨⟨(bJ (wd l 1)).getD 0, (eK (wd l 2)).getD zh⟩, wd l 3, l.drop 6, (bJ (wd l 4)).getD 0, (bJ (wd l 5)).getD 0⟩] }) (by rw [hn]; rfl) ⟨by simp [upd_at, fob_at, h1, h2], by simp [upd_at, fob_at, h1, h2], by simp [upd_at, fob_at, Ky.cv, Pk.cv, h1, h2], by simp [upd_at, fob_at, h1, h2]⟩ (by rw [hn]; intro z hz; cases hz)
 cases h4 : bJ (wd l 4)
 ·
  refine aB fun K hK => Rg ?_
  clear F
  have F := aI @Option.isSome_none.{0} (aI @Option.isSome_some.{0} (aI @Option.getD_none.{0} @Option.getD_some.{0}))
  iterate 11 refine SF ?_
  refine T2 (hK _ _ _ ?_)
  clear hK K
  refine aD (RT Tryz.results63 ?_)
  have hn : lD l x = none := by unfold lD; rw [if_neg h6, h1, h2, h4]
  exact dA (y := { x with k := x.k ++ [⟨⟨(bJ (wd l 1)).getD 0, (eK (wd l 2)).getD zh⟩, wd l 3, l.drop 6, (bJ (wd l 4)).getD 0, (bJ (wd l 5)).getD 0⟩] }) (by rw [hn]; rfl) ⟨by simp [upd_at, fob_at, h1, h2, h4], by simp [upd_at, fob_at, h1, h2, h4], by simp [upd_at, fob_at, Ky.cv, Pk.cv, h1, h2, h4], by simp [upd_at, fob_at, h1, h2, h4]⟩ (by rw [hn]; intro z hz; cases hz)
 refine aB fun K hK => Rg ?_
 clear F
 have F := aI @Option.isSome_none.{0} (aI @Option.isSome_some.{0} (aI @Option.getD_none.{0} @Option.getD_some.{0}))
 iterate 11 refine SF ?_
 refine T2 (hK _ _ _ ?_)
 clear hK K
 refine aD (RT Tryz.results63 ?_)
 rename_i n1 r1 n4
 have hn : lD l x = (bJ (wd l 5)).map fun n => { x with k := x.k ++ [⟨⟨n1, r1⟩, wd l 3, l.drop 6, n4, n⟩] } := by unfold lD; rw [if_neg h6, h1, h2, h4]; cases bJ (wd l 5) <;> rfl
 exact dA (y := { x with k := x.k ++ [⟨⟨(bJ (wd l 1)).getD 0, (eK (wd l 2)).getD zh⟩, wd l 3, l.drop 6, (bJ (wd l 4)).getD 0, (bJ (wd l 5)).getD 0⟩] }) (by rw [hn, Option.isSome_map]) ⟨by simp [upd_at, fob_at, h1, h2, h4], by simp [upd_at, fob_at, h1, h2, h4], by simp [upd_at, fob_at, Ky.cv, Pk.cv, h1, h2, h4], by simp [upd_at, fob_at, h1, h2, h4]⟩ (by rw [hn]; intro z hz; cases h5 : bJ (wd l 5) with | none => rw [h5] at hz; cases hz | some n => rw [h5] at hz; cases hz; rw [h1, h2, h4]; rfl)

end Go.Proofs.YtenbfeemmpjdhaaGreatDoor

namespace Go.Pl
open Go Go.Hl

def mN : aK := [114, 111, 111, 116]
def dS (j : Nat) : aK := ([[113, 117, 111, 116, 97], [107, 101, 121], [114, 101, 118, 111, 107, 101, 100]] : List aK).getD j []
def jE (j : Nat) (l : List aK) (x : Rt) : Option Rt := if j = 0 then fI l x else if j = 1 then lD l x else lE l x
def rH (j : Nat) : List (List aK) → Rt → Option (List (List aK) × Rt)
 | [], x => some ([], x)
 | l :: ls, x => if wd l 0 = dS j then match jE j l x with | some y => rH j ls y | none => none else some (l :: ls, x)
def runA : Nat → Nat → List (List aK) → Rt → Option (List (List aK) × Rt)
 | 0, _, ls, x => some (ls, x)
 | n + 1, j, ls, x => match rH j ls x with | some (ls', y) => runA n (j + 1) ls' y | none => none
def rt0 : Rt := ⟨0, 0, [], [], []⟩
def eE (lines : List (List aK)) : Option Rt := match lines with
 | [] => none
 | l0 :: ls => if wd l0 0 = mN then match gM l0 rt0 with
   | some x => match runA 3 0 ls x with | some ([], y) => some y | _ => none
   | none => none
  else none

section
variable {l0 : List aK} {ls : List (List aK)} {x : Rt}
theorem vW (h : wd l0 0 ≠ mN) : eE (l0 :: ls) = none := by unfold eE; simp only; rw [if_neg h]
theorem rJ (h : wd l0 0 = mN) (hn : gM l0 rt0 = none) : eE (l0 :: ls) = none := by unfold eE; simp only; rw [if_pos h, hn]
theorem gZ (h : wd l0 0 = mN) (hx : gM l0 rt0 = some x) (hr : runA 3 0 ls x = none) : eE (l0 :: ls) = none := by unfold eE; simp only; rw [if_pos h, hx]; simp only; rw [hr]
theorem vX {l : List aK} {ls' : List (List aK)} {y : Rt} (h : wd l0 0 = mN) (hx : gM l0 rt0 = some x) (hr : runA 3 0 ls x = some (l :: ls', y)) : eE (l0 :: ls) = none := by unfold eE; simp only; rw [if_pos h, hx]; simp only; rw [hr]
theorem oJ {y : Rt} (h : wd l0 0 = mN) (hx : gM l0 rt0 = some x) (hr : runA 3 0 ls x = some ([], y)) : eE (l0 :: ls) = some y := by unfold eE; simp only; rw [if_pos h, hx]; simp only; rw [hr]
end
theorem aM1 {j : Nat} {l : List aK} {ls : List (List aK)} {x y : Rt} (h : wd l 0 = dS j) (hy : jE j l x = some y) : rH j (l :: ls) x = rH j ls y := by
 rw [rH, if_pos h, hy]
theorem zF {j : Nat} {l : List aK} {ls : List (List aK)} {x : Rt} (h : wd l 0 = dS j) (hy : jE j l x = none) : rH j (l :: ls) x = none := by
 rw [rH, if_pos h, hy]
theorem zG {j : Nat} {l : List aK} {ls : List (List aK)} {x : Rt} (h : wd l 0 ≠ dS j) : rH j (l :: ls) x = some (l :: ls, x) := by
 rw [rH, if_neg h]
theorem qE {n j : Nat} {l : List aK} {ls : List (List aK)} {x y : Rt} (h : wd l 0 = dS j) (hy : jE j l x = some y) : runA (n + 1) j (l :: ls) x = runA (n + 1) j ls y := by
 simp only [runA, aM1 h hy]
theorem bD1 {n j : Nat} {l : List aK} {ls : List (List aK)} {x : Rt} (h : wd l 0 = dS j) (hy : jE j l x = none) : runA (n + 1) j (l :: ls) x = none := by
 simp only [runA, zF h hy]
theorem zH {n j : Nat} {l : List aK} {ls : List (List aK)} {x : Rt} (h : wd l 0 ≠ dS j) : runA (n + 1) j (l :: ls) x = runA n (j + 1) (l :: ls) x := by
 simp only [runA, zG h]
theorem vY {n j : Nat} {x : Rt} : runA (n + 1) j [] x = runA n (j + 1) [] x := by
 simp only [runA, rH]

def wOk (l : List aK) : Prop := l ≠ [] ∧ l.length ≤ 120 ∧ ∀ w ∈ l, w.length ≤ 32768
theorem wOk.wd {l : List aK} (h : wOk l) (i : Nat) : (wd l i).length ≤ 32768 := by
 unfold Pl.wd
 rw [List.getD_eq_getElem?_getD]
 rcases Nat.lt_or_ge i l.length with h' | h'
 ·
  rw [List.getElem?_eq_getElem h']; exact h.2.2 _ (List.getElem_mem h')
 ·
  rw [List.getElem?_eq_none h']; simp
def rRead (m : Nat) (x : Rt) : Prop := x.q.length + x.k.length + x.x.length ≤ m ∧ (∀ q ∈ x.q, q.r.length ≤ 32768) ∧ ∀ k ∈ x.k, k.o.length ≤ 32768 ∧ k.rs.length ≤ 120 ∧ ∀ w ∈ k.rs, w.length ≤ 32768
theorem aR1 {v e : Int} : rRead 0 ⟨v, e, [], [], []⟩ := ⟨by simp, by simp, by simp⟩
theorem rK {l : List aK} {x y : Rt} {m : Nat} (h : gM l x = some y) (hx : rRead m x) : rRead m y := by
 unfold gM at h
 split at h
 ·
  split at h
  ·
   cases h; exact hx
  ·
   cases h
 ·
  cases h
theorem zI {j : Nat} {l : List aK} {x y : Rt} {m : Nat} (hl : wOk l) (h : jE j l x = some y) (hx : rRead m x) : rRead (m + 1) y := by
 obtain ⟨h1, h2, h3⟩ := hx
 unfold jE at h
 split at h
 ·
  unfold fI at h
  split at h
  ·
   split at h
   ·
    cases h
    refine ⟨by simp only [List.length_append, List.length_singleton]; omega, fun q hq => ?_, h3⟩
    rcases List.mem_append.1 hq with hq | hq
    ·
     exact h2 q hq
    ·
     simp only [List.mem_singleton] at hq; subst hq; exact hl.wd 1
   ·
    cases h
  ·
   cases h
 ·
  split at h
  ·
   unfold lD at h
   split at h
   ·
    cases h
   ·
    split at h
    ·
     cases h
     refine ⟨by simp only [List.length_append, List.length_singleton]; omega, h2, fun k hk => ?_⟩
     rcases List.mem_append.1 hk with hk | hk
     ·
      exact h3 k hk
     ·
      simp only [List.mem_singleton] at hk; subst hk
      exact ⟨hl.wd 3, by show (l.drop 6).length ≤ 120; rw [List.length_drop]; have := hl.2.1; omega, fun w hw => hl.2.2 w (List.mem_of_mem_drop hw)⟩
    ·
     cases h
  ·
   unfold lE at h
   split at h
   ·
    split at h
    ·
     cases h
     exact ⟨by simp only [List.length_append, List.length_singleton]; omega, h2, h3⟩
    ·
     cases h
   ·
    cases h
theorem rRead.sz {m : Nat} {x : Rt} (h : rRead m x) (hm : m ≤ 100000) : rSz x := by
 obtain ⟨h1, h2, h3⟩ := h
 refine ⟨⟨by omega, fun q hq => by have := h2 q hq; omega⟩, ⟨by omega, fun k hk => ?_⟩, by omega⟩
 obtain ⟨k1, k2, k3⟩ := h3 k hk
 exact ⟨by omega, by omega, fun w hw => by have := k3 w hw; omega⟩
def RtSt (ls0 : List (List aK)) (x0 : Rt) (j : Nat) (rest : List (List aK)) (x : Rt) : Prop :=
 j ≤ 3 ∧ runA 3 0 ls0 x0 = runA (3 - j) j rest x ∧ (∀ l ∈ rest, wOk l) ∧ rest.length ≤ ls0.length ∧ rRead (ls0.length - rest.length) x
section
variable {ls0 rest : List (List aK)} {x0 x : Rt} {j : Nat} {l : List aK}
theorem RtSt.init (h : ∀ l ∈ ls0, wOk l) (hx : rRead 0 x0) : RtSt ls0 x0 0 ls0 x0 := ⟨by omega, rfl, h, Nat.le_refl _, by rw [Nat.sub_self]; exact hx⟩
theorem RtSt.hit {y : Rt} (h : RtSt ls0 x0 j (l :: rest) x) (hj : j < 3) (hw : wd l 0 = dS j) (hy : jE j l x = some y) : RtSt ls0 x0 j rest y := by
 obtain ⟨h1, h2, h3, h4, h5⟩ := h
 obtain ⟨n, hn⟩ : ∃ n, 3 - j = n + 1 := ⟨2 - j, by omega⟩
 simp only [List.length_cons] at h4 h5
 refine ⟨h1, by rw [h2, hn, qE hw hy], fun l hl => h3 l (List.mem_cons_of_mem _ hl), by omega, ?_⟩
 have := zI (h3 l List.mem_cons_self) hy h5
 have e : ls0.length - (rest.length + 1) + 1 = ls0.length - rest.length := by omega
 rwa [e] at this
theorem RtSt.fail (h : RtSt ls0 x0 j (l :: rest) x) (hj : j < 3) (hw : wd l 0 = dS j) (hy : jE j l x = none) : runA 3 0 ls0 x0 = none := by
 obtain ⟨n, hn⟩ : ∃ n, 3 - j = n + 1 := ⟨2 - j, by omega⟩
 rw [h.2.1, hn, bD1 hw hy]
theorem RtSt.next (h : RtSt ls0 x0 j rest x) (hj : j < 3) (hw : ∀ l ls, rest = l :: ls → wd l 0 ≠ dS j) : RtSt ls0 x0 (j + 1) rest x := by
 obtain ⟨h1, h2, h3, h4, h5⟩ := h
 obtain ⟨n, hn⟩ : ∃ n, 3 - j = n + 1 := ⟨2 - j, by omega⟩
 have hn2 : 3 - (j + 1) = n := by omega
 refine ⟨by omega, ?_, h3, h4, h5⟩
 rw [h2, hn, hn2]
 cases rest with
 | nil => exact vY
 | cons l ls => exact zH (hw l ls rfl)
theorem RtSt.fin (h : RtSt ls0 x0 3 rest x) : runA 3 0 ls0 x0 = some (rest, x) := by rw [h.2.1]; rfl
end
def dL (b : aK) : Int := if eB b ≠ 0 then eB b else match eE (gT b) with | none => 2 | some x => if bQ x then 0 else 1
def eR (b : aK) : Rt := if dL b = 0 then (eE (gT b)).getD rt0 else rt0
theorem aD6 {b : aK} : ∀ l ∈ gT b, wOk l := by
 intro l hl
 unfold gT at hl
 split at hl
 ·
  cases hv : fU b with
  | none => rw [hv] at hl; simp at hl
  | some ls =>
   rw [hv] at hl
   simp only [Option.getD_some] at hl
   unfold fU at hv
   split at hv
   ·
    cases hv; simp at hl
   ·
    split at hv
    ·
     have key : ∀ {rs : List aK} {ls : List (List aK)}, rs.mapM unR = some ls → ∀ l ∈ ls, okL l = true := by
      intro rs
      induction rs with
      | nil => intro ls h l hl; simp only [List.mapM_nil] at h; cases h; simp at hl
      | cons r rs ih =>
       intro ls h l hl
       rw [List.mapM_cons] at h
       cases hr : unR r with
       | none => rw [hr] at h; cases h
       | some a =>
        rw [hr] at h
        cases hm : rs.mapM unR with
        | none => rw [hm] at h; cases h
        | some m =>
         rw [hm] at h
         cases h
         rcases List.mem_cons.1 hl with rfl | hl
         ·
          unfold unR at hr
          split at hr
          ·
           split at hr
           ·
            rename_i hk; cases hr; exact hk
           ·
            cases hr
          ·
           cases hr
         ·
          exact ih hm l hl
     exact (iT l).1 (key hv l hl)
    ·
     cases hv
 ·
  simp at hl
theorem vZ {b : aK} : (gT b).length ≤ 1000 := by
 unfold gT
 split
 ·
  rename_i h
  unfold eB at h
  split at h
  ·
   cases h
  ·
   cases hv : fU b with
   | none => simp
   | some ls =>
    rw [hv] at h
    simp only at h
    split at h
    ·
     cases h
    ·
     simp only [Option.getD_some]; omega
 ·
  simp
theorem aR2 {lines : List (List aK)} {y : Rt} (hl : ∀ l ∈ lines, wOk l) (h : eE lines = some y) : rRead lines.length y := by
 have keyS : ∀ {j : Nat} {ls : List (List aK)} {x : Rt} {ls' : List (List aK)} {y : Rt} {m : Nat}, (∀ l ∈ ls, wOk l) → rRead m x → rH j ls x = some (ls', y) → (∀ l ∈ ls', wOk l) ∧ ls'.length ≤ ls.length ∧ rRead (m + (ls.length - ls'.length)) y := by
  intro j ls
  induction ls with
  | nil => intro x ls' y m _ hx h; simp only [rH, Option.some.injEq, Prod.mk.injEq] at h; obtain ⟨rfl, rfl⟩ := h; exact ⟨by simp, by simp, by simpa using hx⟩
  | cons l ls ih =>
   intro x ls' y m hl hx h
   by_cases hw : wd l 0 = dS j
   ·
    cases hf : jE j l x with
    | none => rw [zF hw hf] at h; cases h
    | some z =>
     rw [aM1 hw hf] at h
     obtain ⟨h1, h2, h3⟩ := ih (fun l h => hl l (List.mem_cons_of_mem _ h)) (zI (hl l List.mem_cons_self) hf hx) h
     refine ⟨h1, by simp only [List.length_cons]; omega, ?_⟩
     have e : m + 1 + (ls.length - ls'.length) = m + ((l :: ls).length - ls'.length) := by simp only [List.length_cons]; omega
     rwa [e] at h3
   ·
    rw [zG hw] at h
    simp only [Option.some.injEq, Prod.mk.injEq] at h
    obtain ⟨rfl, rfl⟩ := h
    exact ⟨hl, Nat.le_refl _, by rw [Nat.sub_self]; exact hx⟩
 have keyA : ∀ {n j : Nat} {ls : List (List aK)} {x : Rt} {ls' : List (List aK)} {y : Rt} {m : Nat}, (∀ l ∈ ls, wOk l) → rRead m x → runA n j ls x = some (ls', y) → ls'.length ≤ ls.length ∧ rRead (m + (ls.length - ls'.length)) y := by
  intro n
  induction n with
  | zero => intro j ls x ls' y m _ hx h; simp only [runA, Option.some.injEq, Prod.mk.injEq] at h; obtain ⟨rfl, rfl⟩ := h; exact ⟨Nat.le_refl _, by rw [Nat.sub_self]; exact hx⟩
  | succ n ih =>
   intro j ls x ls' y m hl hx h
   simp only [runA] at h
   cases hs : rH j ls x with
   | none => rw [hs] at h; cases h
   | some p =>
    obtain ⟨ls1, z⟩ := p
    rw [hs] at h
    obtain ⟨h1, h2, h3⟩ := keyS hl hx hs
    obtain ⟨h4, h5⟩ := ih h1 h3 h
    refine ⟨by omega, ?_⟩
    have e : m + (ls.length - ls1.length) + (ls1.length - ls'.length) = m + (ls.length - ls'.length) := by omega
    rwa [e] at h5
 unfold eE at h
 cases lines with
 | nil => cases h
 | cons l0 ls =>
  simp only at h
  split at h
  ·
   cases hh : gM l0 rt0 with
   | none => rw [hh] at h; cases h
   | some x =>
    rw [hh] at h
    simp only at h
    split at h
    ·
     rename_i y' hy
     cases h
     have h1 := keyA (m := 0) (fun l h => hl l (List.mem_cons_of_mem _ h)) (rK hh aR1) hy
     obtain ⟨h2, h3, h4⟩ := h1.2
     exact ⟨by simp only [List.length_cons, List.length_nil] at h2 ⊢; omega, h3, h4⟩
    ·
     cases h
  ·
   cases h
end Go.Pl
