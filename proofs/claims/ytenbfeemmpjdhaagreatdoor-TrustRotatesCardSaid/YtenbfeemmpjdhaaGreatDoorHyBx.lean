/- The hexadecimal form of bytes through a strings.Builder, walked at this seat. By an AI agent. -/
import Derived.Test.YtenbfeemmpjdhaaGreatDoorPl02e
import Derived.Test.YtenbfeemmpjdhaaGreatDoorHyTo
import Derived.Test.YtenbfeemmpjdhaaGreatDoorHySb
import Derived.Test.YtenbfeemmpjdhaaGreatDoorHlPa
import Derived.Test.YtenbfeemmpjdhaaGreatDoorHyTz
import Derived.Test.YtenbfeemmpjdhaaGreatDoorHlFl
import Derived.Shelf.LaysM
import Derived.Shelf.Strings.BuilderK
import Derived.Test.YtenbfeemmpjdhaaGreatDoorPl11m
import Derived.Test.YtenbfeemmpjdhaaGreatDoorChecked
import Derived.WalkKit
import Derived.BigCall
set_option linter.unusedSimpArgs false
set_option linter.unusedVariables false
set_option linter.defProp false
namespace Go.Proofs.YtenbfeemmpjdhaaGreatDoor
open Go Go.Hl Go.Pl
set_option maxRecDepth 10000
set_option maxHeartbeats 8000000

theorem aP8 (r : Rt) (b : aK) (l : List Dig) (t : Int) (hr : rSz r) (hlb : b.length < 2 ^ 40) (hll : l.length < 2 ^ 40) : cT Tryz.prog 18 [r.cv, .slc (b.map u8), .slc (l.map dg), .int .i64 t] (fun u v => u = (jT r b l t).cv ∧ v = .int .i64 (eO r b l t)) := by
 refine FW Tryz.func18 ?_
 refine R0 ?_
 refine aB fun K hK => ?_
 refine aB fun K hK => Rg ?_
 refine S0 ?_
 refine HS fun K' hK' => T5 ?_
 refine C1 (gP r hr) ?_
 rintro u rfl
 refine AX (hK' _ _ ?_)
 refine S0 ?_
 refine T2 (hK _ _ _ ?_)
 clear hK K
 refine aJ (b := !(bJ r)) rfl (fun hb => ?_) (fun hb => ?_)
 ·
  refine R0 ?_
  refine aD (RT Tryz.results18 ?_)
  have hE : eO r b l t = 1 := by unfold eO; rw [if_pos (by simpa using hb)]
  exact aL [] rt0.cv (.int .i64 1) rfl ⟨by unfold jT; rw [if_neg (by rw [hE]; decide)], by rw [hE]⟩
 have h1 : ¬ bJ r = false := by simpa using hb
 clear hb
 refine aG ?_
 refine T0 (hK _ _ _ ?_)
 clear hK K
 refine aB fun K hK => Rg ?_
 have F := @denilL_u8
 refine SF ?_
 refine HS fun K' hK' => T6 ?_
 refine D1 (bT2 b hlb) ?_
 rintro u v ⟨rfl, rfl⟩
 refine AX (hK' _ _ ?_)
 iterate 6 refine SF ?_
 refine T2 (hK _ _ _ ?_)
 clear hK K
 refine aB fun K hK => ?_
 refine R0 ?_
 refine aJ (b := cK b != 0) rfl (fun hb => ?_) (fun hb => ?_)
 ·
  refine aB fun K hK => Rg ?_
  iterate 4 refine S0 ?_
  refine T2 (hK _ _ _ ?_)
  clear hK K
  refine aD (RT Tryz.results18 ?_)
  have h2 : cK b ≠ 0 := by simpa using hb
  have hE : eO r b l t = cK b := by unfold eO; rw [if_neg h1, if_pos h2]
  exact aL [] rt0.cv (.int .i64 (cK b)) rfl ⟨by unfold jT; rw [if_neg (by rw [hE]; exact h2)], by rw [hE]⟩
 have h2 : ¬ cK b ≠ 0 := by simpa using hb
 clear hb
 have hy := vK b
 have hx40 := hr.2.2
 refine aG ?_
 refine T0 (hK _ _ _ ?_)
 clear hK K
 refine aB fun K hK => ?_
 refine aB fun K hK => Rg ?_
 iterate 6 refine S0 ?_
 refine T2 (hK _ _ _ ?_)
 clear hK K
 refine aJ (b := (bX b).v != IntKind.i64.wrap (r.v + 1)) rfl (fun hb => ?_) (fun hb => ?_)
 ·
  refine R0 ?_
  refine aD (RT Tryz.results18 ?_)
  have hE : eO r b l t = 6 := by unfold eO; rw [if_neg h1, if_neg h2, if_pos (by simpa using hb)]
  exact aL [] rt0.cv (.int .i64 6) rfl ⟨by unfold jT; rw [if_neg (by rw [hE]; decide)], by rw [hE]⟩
 have h3 : ¬ (bX b).v ≠ IntKind.i64.wrap (r.v + 1) := by simpa using hb
 clear hb
 refine aG ?_
 refine T0 (hK _ _ _ ?_)
 clear hK K
 refine aB fun K hK => ?_
 refine R0 ?_
 refine aH ?_
 refine aS (α := {i : Nat // i ≤ r.x.length ∧ ∀ x ∈ r.x.take i, (!iT (bX b).x x.k || decide (x.t < iH (bX b).x x.k)) = false}) (fun i => (fin [(2, .c (.slc (l.map dg))), (3, .c (.int .i64 t)), (4, .ptr 0 0), (8, .ptr 4 0), (10, .ptr 44 0), (12, .c (.int .i64 i.1))], fob [(0, .box 26 (.c r.cv)), (4, .box 26 (.c (.agg [.int .i64 0, .int .i64 0, .nils, .nils, .nils]))), (44, .box 26 (.c (bX b).cv))])) 100 (fun i => r.x.length - i.1) ⟨0, by omega, by simp⟩ (fF) ?_
 rintro ⟨i, hi, h0⟩
 refine aB fun K hK => ?_
 refine aB fun K hK => Rg ?_
 iterate 5 refine S0 ?_
 refine T2 (hK _ _ _ ?_)
 clear hK K
 refine aJ (b := decide ((i : Int) < r.x.length)) rfl (fun hb => ?_) (fun hb => ?_)
 ·
  have hlt : i < r.x.length := by simpa using hb
  clear hb
  refine aG ?_
  refine T0 (hK _ _ _ ?_)
  clear hK K
  refine aB fun K hK => ?_
  refine aH ?_
  refine aB fun K hK => DW [(0, [], []), (1, [], []), (2, [], []), (3, [], []), (4, [], []), (5, [], []), (6, [], []), (7, [], []), (8, [], []), (9, [], []), (10, [], []), (11, [], []), (12, [], [])] [0, 0, 2, 0, 14, 30, 62, 127, 255, 511, 511, 1023, 4095] ?_
  have F := aI @Int.natCast_nonneg (aI @Int.ofNat_lt (aI hlt (nM hlt)))
  iterate 7 refine WF ?_
  refine aN (g := none) rfl rfl fun K' hK' => T6 ?_
  refine D2 (rG (bX b) r.x[i].k hy.2.2) ?_
  rintro u v ⟨rfl, rfl⟩
  refine AX (hK' _ _ ?_)
  iterate 5 refine WF ?_
  refine T2 (hK _ _ _ ?_)
  clear hK K
  refine aB fun K hK => Rg ?_
  iterate 3 refine SF ?_
  refine aE 53 rfl (fun h12_53 => ?_) (fun h12_53 => ?_)
  ·
   have F := aI @Int.natCast_nonneg (aI @Int.ofNat_lt (aI hlt (aI (nM hlt) h12_53)))
   iterate 9 refine SF ?_
   refine aE 63 rfl (fun h12_63 => ?_) (fun h12_63 => ?_)
   ·
    simp only [h12_63]
    refine T2 (hK _ _ _ ?_)
    clear hK K
    refine CT rfl ?_
    refine R0 ?_
    refine aD (RT Tryz.results18 ?_)
    have h4 : jS r (bX b) = false := nD hlt (by simp only [h12_53, h12_63, Bool.not_false, Bool.not_true, Bool.true_or, Bool.or_true, Bool.false_or])
    have hE : eO r b l t = 1 := by unfold eO; rw [if_neg h1, if_neg h2, if_neg h3, if_pos h4]
    exact aL [] rt0.cv (.int .i64 1) rfl ⟨by unfold jT; rw [if_neg (by rw [hE]; decide)], by rw [hE]⟩
   simp only [h12_63]
   refine T2 (hK _ _ _ ?_)
   clear hK K
   refine CF rfl ?_
   refine aG ?_
   refine T0 (hK _ _ _ ?_)
   clear hK K
   refine aM (by kernel_rfl) ?_
   refine TQ (bK i) ?_
   refine ⟨⟨i + 1, hlt, dL (p := fun x => (!iT (bX b).x x.k || decide (x.t < iH (bX b).x x.k))) hlt (by simp only [h12_53, h12_63]; rfl) h0⟩, fF, ?_⟩
   show r.x.length - (i + 1) < r.x.length - i
   omega
  have F := aI @Int.natCast_nonneg (aI @Int.ofNat_lt (aI hlt (aI (nM hlt) h12_53)))
  iterate 9 refine SF ?_
  refine T2 (hK _ _ _ ?_)
  clear hK K
  refine CT rfl ?_
  refine R0 ?_
  refine aD (RT Tryz.results18 ?_)
  have h4 : jS r (bX b) = false := nD hlt (by simp only [h12_53, Bool.not_false, Bool.not_true, Bool.true_or, Bool.or_true, Bool.false_or])
  have hE : eO r b l t = 1 := by unfold eO; rw [if_neg h1, if_neg h2, if_neg h3, if_pos h4]
  exact aL [] rt0.cv (.int .i64 1) rfl ⟨by unfold jT; rw [if_neg (by rw [hE]; decide)], by rw [hE]⟩
 refine aR (T3 ?_)
 clear hK K
 refine AX (hK _ _ _ ?_)
 clear hK K
 refine aB fun K hK => ?_
 have hei : i = r.x.length := by simp at hb; omega
 subst hei
 rw [List.take_length] at h0
 have h4 : ¬ jS r (bX b) = false := by rw [aI9 h0]; simp
 clear hb
 refine aB fun K hK => Rg ?_
 have F := @denilL_dg
 iterate 3 refine SF ?_
 refine HS fun K' hK' => T6 ?_
 refine C4 (vL r fE l t hr hll) ?_
 rintro u rfl
 refine AX (hK' _ _ ?_)
 iterate 2 refine SF ?_
 refine aE 69 rfl (fun h14_69 => ?_) (fun h14_69 => ?_)
 ·
  have F := aI @denilL_dg h14_69
  iterate 3 refine SF ?_
  refine aZ (g := some (71, false)) rfl rfl fun K' hK' => T6 ?_
  refine C4 (vL (bX b) fE l t hy hll) ?_
  rintro u rfl
  refine AX (hK' _ _ ?_)
  iterate 2 refine SF ?_
  refine aE 75 rfl (fun h14_75 => ?_) (fun h14_75 => ?_)
  ·
   simp only [h14_75]
   refine T2 (hK _ _ _ ?_)
   clear hK K
   refine CF rfl ?_
   refine aG ?_
   refine T0 (hK _ _ _ ?_)
   clear hK K
   refine R0 ?_
   refine aD (RT Tryz.results18 ?_)
   have hE : eO r b l t = 0 := by unfold eO; rw [if_neg h1, if_neg h2, if_neg h3, if_neg h4, if_pos (by simp only [h14_69, h14_75]; rfl)]
   refine aL [] (bX b).cv (.int .i64 0) ?_ ⟨by unfold jT; rw [if_pos hE], by rw [hE]⟩
   simp [HV.close, HV.closeL, HV.norm, HV.toC, HV.toCL, CV.denil, Rt.denil]
  simp only [h14_75]
  refine T2 (hK _ _ _ ?_)
  clear hK K
  refine CT rfl ?_
  refine R0 ?_
  refine aD (RT Tryz.results18 ?_)
  have hE : eO r b l t = 7 := by unfold eO; rw [if_neg h1, if_neg h2, if_neg h3, if_neg h4, if_neg (by simp only [h14_69, h14_75, Bool.and_false, Bool.false_and]; simp)]
  exact aL [] rt0.cv (.int .i64 7) rfl ⟨by unfold jT; rw [if_neg (by rw [hE]; decide)], by rw [hE]⟩
 have F := aI @denilL_dg h14_69
 iterate 6 refine SF ?_
 refine T2 (hK _ _ _ ?_)
 clear hK K
 refine CT rfl ?_
 refine R0 ?_
 refine aD (RT Tryz.results18 ?_)
 have hE : eO r b l t = 7 := by unfold eO; rw [if_neg h1, if_neg h2, if_neg h3, if_neg h4, if_neg (by simp only [h14_69, Bool.and_false, Bool.false_and]; simp)]
 exact aL [] rt0.cv (.int .i64 7) rfl ⟨by unfold jT; rw [if_neg (by rw [hE]; decide)], by rw [hE]⟩


theorem cE1 (x : Qt) (K : CV → Prop) : eP Tryz.prog .neq 64 (.c x.cv) (.c x.cv) K = K (.bool false) := by
 have h : CV.ofTy Tryz.prog 8 64 x.cv = true := by
  have e1 : Tryz.prog.cellsOf 9 = 1 := by kernel_rfl
  have e2 : Tryz.prog.cellsOf 3 = 1 := by kernel_rfl
  simp only [Qt.cv, CV.ofTy, ty64, CV.ofTyF, ty9, ty3, CV.cells, e1, e2, beq_self_eq_true, Bool.and_self]
 have ha : wG Tryz.prog 64 = true := by kernel_rfl
 simp only [Qt.cv] at h
 simp only [Qt.cv, eP, ha, h, and_self, true_and, CV.eqv, CV.eqvL, beq_self_eq_true, Bool.and_self, Bool.not_true]
theorem cE2 (x : Rv) (K : CV → Prop) : eP Tryz.prog .neq 51 (.c x.cv) (.c x.cv) K = K (.bool false) := by
 have e1 : Tryz.prog.cellsOf 49 = 32 := by kernel_rfl
 have e2 : Tryz.prog.cellsOf 2 = 1 := by kernel_rfl
 have hd : CV.ofTy Tryz.prog 7 49 (dg x.k) = true := zE (n := 5) ty49 ty5 (by kernel_rfl) x.k
 have h : CV.ofTy Tryz.prog 8 51 x.cv = true := by
  rw [CV.ofTy, ty51]
  simp only [Rv.cv, CV.ofTyF, hd, dg_cells, CV.ofTy, ty2, CV.cells, e1, e2, beq_self_eq_true, Bool.and_self]
 have ha : wG Tryz.prog 51 = true := by kernel_rfl
 have hq : CV.eqv (dg x.k) (dg x.k) = true := by
  simp only [dg, dgl, CV.eqv]
  exact (mQ x.k.1 x.k.1).trans (beq_self_eq_true _)
 simp only [Rv.cv] at h
 simp only [Rv.cv, eP, ha, h, and_self, true_and, CV.eqv, CV.eqvL, hq, beq_self_eq_true, Bool.and_self, Bool.not_true]

theorem bB0 (r : Rt) (hr : rSz r) : aV Tryz.prog 19 [r.cv, r.cv] (fun v => v = .bool true) := by
 have hlq : r.q.length < 2 ^ 40 := hr.1.1
 have hlk : r.k.length < 2 ^ 40 := hr.2.1.1
 have hlx : r.x.length < 2 ^ 40 := hr.2.2
 refine FW Tryz.func19 ?_
 refine R0 ?_
 refine aB fun K hK => ?_
 refine aB fun K hK => Rg ?_
 have F := @bne_self_eq_false.{0}
 iterate 39 refine SF ?_
 refine T2 (hK _ _ _ ?_)
 clear hK K
 refine CF rfl ?_
 refine aG ?_
 refine T0 (hK _ _ _ ?_)
 clear hK K
 refine aB fun K hK => ?_
 refine R0 ?_
 refine aH ?_
 refine aS (α := {i : Nat // i ≤ r.q.length}) (fun i => (fin [(2, .ptr 0 0), (3, .ptr 4 0), (5, .c (.int .i64 i.1))], fob [(0, .box 26 (.c r.cv)), (4, .box 26 (.c r.cv))])) 200 (fun i => r.q.length - i.1) ⟨0, by omega⟩ (fF) ?_
 rintro ⟨i, hi⟩
 refine aB fun K hK => ?_
 refine aB fun K hK => Rg ?_
 iterate 5 refine S0 ?_
 refine T2 (hK _ _ _ ?_)
 clear hK K
 refine aJ (b := decide ((i : Int) < r.q.length)) rfl (fun hb => ?_) (fun hb => ?_)
 ·
  have hlt : i < r.q.length := by simpa using hb
  clear hb
  refine aG ?_
  refine T0 (hK _ _ _ ?_)
  clear hK K
  refine aB fun K hK => ?_
  refine aH ?_
  refine aB fun K hK => QR ?_
  have F := aI @Int.natCast_nonneg (aI @Int.ofNat_lt (aI hlt (aI (nM hlt) (aI @Qt.cells @cE1))))
  iterate 11 refine SF ?_
  refine T2 (hK _ _ _ ?_)
  clear hK K
  refine CF rfl ?_
  refine aG ?_
  refine T0 (hK _ _ _ ?_)
  clear hK K
  refine aM (by kernel_rfl) ?_
  refine TQ (bK i) ?_
  refine ⟨⟨i + 1, hlt⟩, fF, ?_⟩
  show r.q.length - (i + 1) < r.q.length - i
  omega
 refine aR (T3 ?_)
 clear hK K
 refine AX (hK _ _ _ ?_)
 clear hK K
 refine aB fun K hK => ?_
 refine R0 ?_
 refine aH ?_
 refine aS (α := {i : Nat // i ≤ r.k.length}) (fun i => (fin [(2, .ptr 0 0), (3, .ptr 4 0), (6, .c (.int .i64 i.1))], fob [(0, .box 26 (.c r.cv)), (4, .box 26 (.c r.cv))])) 300 (fun i => r.k.length - i.1) ⟨0, by omega⟩ (fF) ?_
 clear hb
 rintro ⟨i, hi⟩
 refine aB fun K hK => ?_
 refine aB fun K hK => Rg ?_
 iterate 5 refine S0 ?_
 refine T2 (hK _ _ _ ?_)
 clear hK K
 refine aJ (b := decide ((i : Int) < r.k.length)) rfl (fun hb => ?_) (fun hb => ?_)
 ·
  have hlt : i < r.k.length := by simpa using hb
  clear hb
  have hkr := (hr.2.1.2 _ (List.getElem_mem hlt)).2.1
  refine aG ?_
  refine T0 (hK _ _ _ ?_)
  clear hK K
  refine aB fun K hK => ?_
  refine aH ?_
  refine aB fun K hK => DW [(0, [], []), (1, [], []), (2, [], []), (3, [], []), (4, [], []), (5, [], []), (6, [], []), (7, [], []), (8, [], []), (9, [], []), (10, [], []), (11, [], [])] [0, 1, 0, 7, 15, 0, 32, 0, 224, 480, 1023, 2047] ?_
  have F := aI @Int.natCast_nonneg (aI @Int.ofNat_lt (aI hlt (aI (nM hlt) @Ky.cells)))
  iterate 10 refine WF ?_
  refine aN (g := none) rfl rfl fun K' hK' => T6 ?_
  refine C2 (aP7 r.k[i] (by omega)) ?_
  rintro u rfl
  refine AX (hK' _ _ ?_)
  refine WF ?_
  refine T2 (hK _ _ _ ?_)
  clear hK K
  refine CF rfl ?_
  refine aG ?_
  refine T0 (hK _ _ _ ?_)
  clear hK K
  refine aM (by kernel_rfl) ?_
  refine TQ (bK i) ?_
  refine ⟨⟨i + 1, hlt⟩, fF, ?_⟩
  show r.k.length - (i + 1) < r.k.length - i
  omega
 refine aR (T3 ?_)
 clear hK K
 refine AX (hK _ _ _ ?_)
 clear hK K
 refine aB fun K hK => ?_
 refine R0 ?_
 refine aH ?_
 refine aS (α := {i : Nat // i ≤ r.x.length}) (fun i => (fin [(2, .ptr 0 0), (3, .ptr 4 0), (7, .c (.int .i64 i.1))], fob [(0, .box 26 (.c r.cv)), (4, .box 26 (.c r.cv))])) 400 (fun i => r.x.length - i.1) ⟨0, by omega⟩ (fF) ?_
 clear hb
 rintro ⟨i, hi⟩
 refine aB fun K hK => ?_
 refine aB fun K hK => Rg ?_
 iterate 5 refine S0 ?_
 refine T2 (hK _ _ _ ?_)
 clear hK K
 refine aJ (b := decide ((i : Int) < r.x.length)) rfl (fun hb => ?_) (fun hb => ?_)
 ·
  have hlt : i < r.x.length := by simpa using hb
  clear hb
  refine aG ?_
  refine T0 (hK _ _ _ ?_)
  clear hK K
  refine aB fun K hK => ?_
  refine aH ?_
  refine aB fun K hK => QR ?_
  have F := aI @Int.natCast_nonneg (aI @Int.ofNat_lt (aI hlt (aI (nM hlt) (aI @Rv.cells @cE2))))
  iterate 11 refine SF ?_
  refine T2 (hK _ _ _ ?_)
  clear hK K
  refine CF rfl ?_
  refine aG ?_
  refine T0 (hK _ _ _ ?_)
  clear hK K
  refine aM (by kernel_rfl) ?_
  refine TQ (bK i) ?_
  refine ⟨⟨i + 1, hlt⟩, fF, ?_⟩
  show r.x.length - (i + 1) < r.x.length - i
  omega
 refine aR (T3 ?_)
 clear hK K
 refine AX (hK _ _ _ ?_)
 clear hK K
 refine R0 ?_
 refine aD (RT Tryz.results19 ?_)
 exact aC [] (.bool true) rfl rfl

end Go.Proofs.YtenbfeemmpjdhaaGreatDoor

namespace Go.Proofs.YtenbfeemmpjdhaaGreatDoor
open Go Go.Hl Go.Pl
set_option maxRecDepth 10000
set_option maxHeartbeats 4000000
attribute [local simp] tp

theorem qQ (i : Nat) (hi : i < 2 ^ 40) : aV Tryz.prog 50 [.int .i64 i] (fun v => v = (aD5 i).cv) := by
 have m1 : (i : Int).tmod 3 = ((i % 3 : Nat) : Int) := rfl
 have m2 : IntKind.i64.wrap ((i : Int) + 1) = ((i + 1 : Nat) : Int) := by rw [IntWalk.i64_in _ (by omega)]; omega
 have m3 := bX3 (i + 1)
 refine FW Tryz.func50 ?_
 refine R0 ?_
 refine aB fun K hK => Rg ?_
 have F := aI m1 (aI m2 m3)
 iterate 5 refine SF ?_
 refine HS fun K' hK' => T6 ?_
 rw [aM4 (UInt8.ofNat (i + 1)) 77 rfl rfl]
 refine AX (hK' _ _ ?_)
 refine HS fun K' hK' => T6 ?_
 rw [qD _ _ rfl rfl]
 refine AX (hK' _ _ ?_)
 refine SF ?_
 refine T2 (hK _ _ _ ?_)
 clear hK K
 refine aD (RT Tryz.results50 ?_)
 exact aC [] (aD5 i).cv rfl rfl


theorem vM (i : Nat) (hi : i < 2 ^ 40) : aV Tryz.prog 47 [.int .i64 i] (fun v => v = dg (mid i)) := by
 refine FW Tryz.func47 ?_
 refine R0 ?_
 refine aB fun K hK => Rg ?_
 refine S0 ?_
 refine HS fun K' hK' => T5 ?_
 refine C1 (qQ i hi) ?_
 rintro u rfl
 refine AX (hK' _ _ ?_)
 refine HS fun K' hK' => T5 ?_
 refine C1 (qK (aD5 i)) ?_
 rintro u rfl
 refine AX (hK' _ _ ?_)
 refine S0 ?_
 refine T2 (hK _ _ _ ?_)
 clear hK K
 refine aD (RT Tryz.results47 ?_)
 exact aC [] (dg (mid i)) rfl rfl


theorem yJ (l : List Ky) (k : Ky) (hl : l.length < 2 ^ 40) : aV Tryz.prog 49 [.slc (l.map Ky.cv), k.cv] (fun v => v = .slc ((tS l k).map Ky.cv)) := by
 refine FW Tryz.func49 ?_
 refine R0 ?_
 refine R0 ?_
 refine R0 ?_
 refine aB fun K hK => ?_
 refine aH ?_
 refine eE 5 0 70 21 rfl rfl rfl rfl ?_
 refine aS (α := {i : Nat // i ≤ l.length ∧ ∀ x ∈ l.take i, dlt (kid x) (kid k) = true}) (fun i => (fin [(0, .c (.slc (l.map Ky.cv))), (3, .ptr 0 0), (5, .own 16 i.1), (6, .c (.int .i64 i.1))], fob [(0, .box 70 (.c k.cv)), (16, .row 70 21 ((l.take i.1).map Ky.cv))])) 100 (fun i => l.length - i.1) ⟨0, by omega, by simp⟩ (fF) ?_
 rintro ⟨i, hi, h0⟩
 have hti : (l.take i).length = i := by simp; omega
 refine aB fun K hK => ?_
 by_cases hlt : i < l.length
 ·
  refine aB fun K hK => DW [(0, [], []), (1, [], []), (2, [], []), (3, [], []), (4, [], []), (5, [], []), (6, [], []), (7, [], []), (8, [], []), (9, [], []), (11, [], []), (12, [], []), (10, [], [11, 12]), (13, [], []), (14, [], []), (15, [], [])] [0, 0, 2, 7, 15, 31, 31, 127, 255, 511, 1023, 31, 2079, 8191, 16383, 32767] ?_
  have F := aI @Int.natCast_nonneg (aI @Int.ofNat_lt (aI hlt (nM hlt)))
  iterate 12 refine WF ?_
  refine aN (g := some (11, true)) rfl rfl fun K' hK' => T6 ?_
  refine C1 (qK l[i].p) ?_
  rintro u rfl
  refine AX (hK' _ _ ?_)
  refine aN (g := some (11, true)) rfl rfl fun K' hK' => T6 ?_
  refine C1 (qK k.p) ?_
  rintro u rfl
  refine AX (hK' _ _ ?_)
  refine aN (g := some (11, true)) rfl rfl fun K' hK' => T6 ?_
  refine C2 (pE (kid l[i]) (kid k)) ?_
  rintro u rfl
  refine AX (hK' _ _ ?_)
  refine WF ?_
  refine T2 (hK _ _ _ ?_)
  clear hK K
  refine aJ (b := dlt (kid l[i]) (kid k)) rfl (fun hb => ?_) (fun hb => ?_)
  ·
   refine aG ?_
   refine T0 (hK _ _ _ ?_)
   clear hK K
   refine aH ?_
   refine aB fun K hK => Rg ?_
   have F := aI @Int.natCast_nonneg (aI @Int.ofNat_lt (aI hlt (aI (nM hlt) (aI hti @List.length_append.{0}))))
   iterate 8 refine SF ?_
   refine T2 (hK _ _ _ ?_)
   clear hK K
   refine aM (by kernel_rfl) ?_
   refine TQ (bK i) ?_
   refine ⟨⟨i + 1, by omega, fun x hx => ?_⟩, aP (by omega) ?_ ?_, ?_⟩
   ·
    rw [List.take_succ_eq_append_getElem hlt, List.mem_append, List.mem_singleton] at hx
    rcases hx with hx | rfl
    ·
     exact h0 x hx
    exact hb
   ·
    simp [aX, upd_at, fin_at, HV.men]
   ·
    refine ⟨rfl, by omega, trivial, ?_, by omega, trivial, trivial⟩
    simp only [List.take_succ_eq_append_getElem hlt, List.map_append]
    rfl
   show l.length - (i + 1) < l.length - i
   omega
  refine aR (T3 ?_)
  clear hK K
  refine AX (hK _ _ _ ?_)
  clear hK K
  refine aB fun K hK => DW [(0, [], []), (1, [], []), (2, [], []), (4, [2], []), (5, [2], []), (6, [2], []), (3, [], [4, 5, 6]), (7, [], []), (8, [], [])] [0, 0, 2, 7, 0, 0, 48, 127, 255] ?_
  iterate 9 refine W0 ?_ (e := fun _ h_ => by simp only [sH, ↓sP, sA, tyS, simprocAttr, hti, ← List.map_drop, ← List.map_take, uB]; exact AX h_)
  refine T2 (hK _ _ _ ?_)
  clear hK K
  refine aD (RT Tryz.results49 ?_)
  refine aC [16] (.slc ((l.take i ++ k :: l.drop i).map Ky.cv)) ?_ (by rw [aS0 hi h0 fun h => hb])
  simp [HV.close, upd_at, HV.norm, HV.toC, List.take_of_length_le]
 refine aB fun K hK => DW [(0, [], []), (1, [], []), (2, [], []), (3, [], []), (4, [], []), (5, [], []), (6, [], []), (7, [], []), (8, [], []), (9, [], []), (11, [], []), (12, [], []), (10, [], [11, 12]), (13, [], []), (14, [], []), (15, [], [])] [0, 0, 2, 7, 15, 31, 31, 127, 255, 511, 1023, 31, 2079, 8191, 16383, 32767] ?_
 have F := aI @Int.ofNat_lt hlt
 iterate 16 refine WF ?_
 refine T2 (hK _ _ _ ?_)
 clear hK K
 refine aJ (b := _) rfl (fun hb => ?_) (fun hb => ?_)
 ·
  cases hb
 refine aR (T3 ?_)
 clear hK K
 refine AX (hK _ _ _ ?_)
 clear hK K
 refine aB fun K hK => DW [(0, [], []), (1, [], []), (2, [], []), (4, [2], []), (5, [2], []), (6, [2], []), (3, [], [4, 5, 6]), (7, [], []), (8, [], [])] [0, 0, 2, 7, 0, 0, 48, 127, 255] ?_
 iterate 9 refine W0 ?_ (e := fun _ h_ => by simp only [sH, ↓sP, sA, tyS, simprocAttr, hti, ← List.map_drop, ← List.map_take, uB]; exact AX h_)
 refine T2 (hK _ _ _ ?_)
 clear hK K
 refine aD (RT Tryz.results49 ?_)
 refine aC [16] (.slc ((l.take i ++ k :: l.drop i).map Ky.cv)) ?_ (by rw [aS0 hi h0 fun h => absurd h hlt])
 simp [HV.close, upd_at, HV.norm, HV.toC, List.take_of_length_le]


theorem bT4 (L : List Int) (a : Nat) (ha : a + 20 < 2 ^ 40) : bM5 Tryz.prog 69 39 (tp L a) [] (fun u v' => ∃ (ws : List aK) (a' : Nat), u = .slc (ws.map .str) ∧ v' = tp L a' ∧ a' ≤ a + 10 ∧ ws.length ≤ 11 ∧ ∀ w ∈ ws, w ∈ roles10) := by
 refine bS Tryz.func69 rfl (by kernel_rfl) (fT _ _ _) (Nat.le_of_ble_eq_true rfl) ?_
 refine R0 ?_
 refine R0 ?_
 refine aB fun K hK => Rg ?_
 refine HS fun K' hK' => T5 ?_
 refine C0 uN ?_
 rintro u rfl
 refine AX (hK' _ _ ?_)
 refine S0 ?_
 refine T2 (hK _ _ _ ?_)
 clear hK K
 refine aB fun K hK => ?_
 refine R0 ?_
 refine aH ?_
 refine eE 3 0 9 1 rfl rfl rfl rfl ?_
 refine aS (α := {x : Nat × Nat × List aK // x.1 ≤ 10 ∧ x.2.1 ≤ a + x.1 ∧ x.2.2.length ≤ x.1 ∧ ∀ w ∈ x.2.2, w ∈ roles10}) (fun x => (fin [(0, .ptr 0 0), (3, .own 21 x.1.2.2.length), (4, .c (.slc (roles10.map .str))), (5, .c (.int .i64 x.1.1))], fob [(0, .box 39 (.c (tp L x.1.2.1))), (21, .row 9 1 (x.1.2.2.map .str))])) 100 (fun x => 10 - x.1.1) ⟨(0, a, []), by omega, by simp, by simp, by simp⟩ (fF) ?_
 rintro ⟨⟨i, b, ws⟩, hi, hb0, hwl, hwm⟩
 simp only at hi hb0 hwl hwm ⊢
 have hrl : (roles10.map CV.str).length = 10 := rfl
 refine aB fun K hK => ?_
 refine aB fun K hK => Rg ?_
 have F := hrl
 iterate 4 refine SF ?_
 refine T2 (hK _ _ _ ?_)
 clear hK K
 refine aJ (b := decide ((i : Int) < 10)) rfl (fun hb => ?_) (fun hb => ?_)
 ·
  have hlt : i < 10 := by simp at hb; omega
  have hlt' : (i : Int) < 10 := by omega
  have hlr : i < roles10.length := hlt
  refine aG ?_
  refine T0 (hK _ _ _ ?_)
  clear hK K
  refine aB fun K hK => ?_
  have key : ∀ (b' : Nat) (ws' : List aK) fr ob nx, b' ≤ a + (i + 1) → ws'.length ≤ i + 1 → (∀ w ∈ ws', w ∈ roles10) → Fits 1 fr ob (fin [(0, .ptr 0 0), (3, .own 21 ws'.length), (4, .c (.slc (roles10.map .str))), (5, .c (.int .i64 i))]) (fob [(0, .box 39 (.c (tp L b'))), (21, .row 9 1 (ws'.map .str))]) 300 → K fr ob nx := by
   intro b' ws' fr ob nx w1 w2 w3 hf
   refine hK _ _ _ (bE hf ?_)
   clear hf hK K
   refine aM (by kernel_rfl) ?_
   refine TQ (bK i) ?_
   refine ⟨⟨(i + 1, b', ws'), hlt, w1, w2, w3⟩, fF, ?_⟩
   show 10 - (i + 1) < 10 - i
   omega
  refine aH ?_
  refine aB fun K hK => Rg ?_
  refine S0 ?_
  refine HS fun K' hK' => T5 ?_
  refine bI (args := [_]) (bV L b 3 (by omega) (by omega)) rfl (by simp) ⟨rfl, rfl, rfl, rfl⟩ ?_
  rintro u v' ⟨x, b', rfl, rfl, h1, h2, h3, h4⟩
  refine AX (hK' _ _ ?_)
  refine S0 ?_
  refine T2 (hK _ _ _ ?_)
  clear hK K
  refine aJ (b := decide (0 < x)) rfl (fun hb => ?_) (fun hb => ?_)
  ·
   refine Rg ?_
   have F := aI @Int.natCast_nonneg (aI hrl (aI hlt' (aI hlr (aI (nM hlr) @List.length_append.{0}))))
   iterate 8 refine SF ?_
   refine T4 ?_
   exact key b' (ws ++ [roles10[i]]) _ _ _ (by omega) (by simp; omega) (fun w hw => by
    rcases List.mem_append.1 hw with hw | hw
    ·
     exact hwm w hw
    rw [List.mem_singleton] at hw; rw [hw]; exact List.getElem_mem _) (fF)
  refine aG (T3 ?_)
  exact key b' ws _ _ _ (by omega) (by omega) hwm (fF)
 clear hb
 refine aR (T3 ?_)
 clear hK K
 refine AX (hK _ _ _ ?_)
 clear hK K
 refine aB fun K hK => ?_
 have key : ∀ (ws' : List aK) fr ob nx, ws'.length ≤ 11 → (∀ w ∈ ws', w ∈ roles10) → Fits 1 fr ob (fin [(0, .ptr 0 0), (3, .own 21 ws'.length)]) (fob [(0, .box 39 (.c (tp L b))), (21, .row 9 1 (ws'.map .str))]) 300 → K fr ob nx := by
  intro ws' fr ob nx w2 w3 hf
  refine hK _ _ _ (bE hf ?_)
  clear hf hK K
  refine R0 ?_
  refine aD (RT Tryz.results69 ?_)
  refine jI [21] (.slc (ws'.map .str)) (tp L b) ?_ rfl ?_ (by simp) ⟨ws', b, rfl, rfl, by omega, w2, w3⟩
  ·
   simp [HV.close, HV.norm, HV.toC, fob_at]
  simp [HV.close, HV.closeL, tp, CV.denil, CV.denilL, denilL_int, HV.norm, HV.toC, HV.toCL]
 refine R0 ?_
 refine aJ (b := (ws.length : Int) == 0) rfl (fun hb => ?_) (fun hb => ?_)
 ·
  refine Rg ?_
  have F := @List.length_append.{0}
  iterate 4 refine SF ?_
  refine T4 ?_
  exact key (ws ++ [tR]) _ _ _ (by simp; omega) (fun w hw => by
   rcases List.mem_append.1 hw with hw | hw
   ·
    exact hwm w hw
   rw [List.mem_singleton] at hw; rw [hw]; exact bF6) (aP (by omega) (by simp [aX, fin_at, finA_at, upd_at, HV.men, HV.menL, HV.norm, HV.toC, HV.toCL]) (by simp [bB, fob_at, upd_at, none0_at, bU, HO.men, HV.men, HV.menL, HV.norm, HV.toC, HV.toCL]; rfl))
 refine aG (T3 ?_)
 exact key ws _ _ _ (by omega) hwm (fF)


end Go.Proofs.YtenbfeemmpjdhaaGreatDoor

namespace Go.Proofs.YtenbfeemmpjdhaaGreatDoor
open Go Go.Hl Go.Pl
set_option maxRecDepth 10000
set_option maxHeartbeats 4000000
attribute [local simp] tp

theorem qR (r : Rt) (x : Rv) (hr : rSz r) : aV Tryz.prog 52 [r.cv, x.cv] (fun v => ∃ xs : List Rv, v = (Rt.mk r.v r.e r.q r.k xs).cv ∧ xs.length ≤ r.x.length + 1) := by
 have hlx : r.x.length < 2 ^ 40 := hr.2.2
 refine FW Tryz.func52 ?_
 refine R0 ?_
 refine R0 ?_
 refine aB fun K hK => ?_
 refine R0 ?_
 refine aH ?_
 refine eE 5 0 51 33 rfl rfl rfl rfl ?_
 refine aS (α := {y : Nat × List Rv // y.1 ≤ r.x.length ∧ y.2.length ≤ y.1}) (fun y => (fin [(2, .ptr 0 0), (3, .ptr 4 0), (4, .ptr 8 0), (5, .own 20 y.1.2.length), (6, .c (.int .i64 y.1.1))], fob [(0, .box 26 (.c r.cv)), (4, .box 51 (.c x.cv)), (8, .box 26 (.c zR)), (20, .row 51 33 (y.1.2.map Rv.cv))])) 100 (fun y => r.x.length - y.1.1) ⟨(0, []), by simp, by simp⟩ (aP (by omega) (by simp [aX, fin_at, finA_at, upd_at, HV.men, HV.menL, HV.norm, HV.toC, HV.toCL]) (by simp [bB, fob_at, upd_at, none0_at, bU, HO.men, HV.men, HV.menL, HV.norm, HV.toC, HV.toCL]; rfl)) ?_
 rintro ⟨⟨i, ys⟩, hi, hy⟩
 simp only at hi hy ⊢
 refine aB fun K hK => ?_
 refine aB fun K hK => Rg ?_
 iterate 5 refine S0 ?_
 refine T2 (hK _ _ _ ?_)
 clear hK K
 refine aJ (b := decide ((i : Int) < r.x.length)) rfl (fun hb => ?_) (fun hb => ?_)
 ·
  have hlt : i < r.x.length := by simpa using hb
  refine aG ?_
  refine T0 (hK _ _ _ ?_)
  clear hK K
  refine aB fun K hK => ?_
  have key : ∀ (ys' : List Rv) fr ob nx, ys'.length ≤ i + 1 → Fits 0 fr ob (fin [(2, .ptr 0 0), (3, .ptr 4 0), (4, .ptr 8 0), (5, .own 20 ys'.length), (6, .c (.int .i64 i))]) (fob [(0, .box 26 (.c r.cv)), (4, .box 51 (.c x.cv)), (8, .box 26 (.c zR)), (20, .row 51 33 (ys'.map Rv.cv))]) 400 → K fr ob nx := by
   intro ys' fr ob nx w1 hf
   refine hK _ _ _ (bE hf ?_)
   clear hf hK K
   refine aM (by kernel_rfl) ?_
   refine TQ (bK i) ?_
   refine ⟨⟨(i + 1, ys'), hlt, w1⟩, fF, ?_⟩
   show r.x.length - (i + 1) < r.x.length - i
   omega
  refine aH ?_
  refine aB fun K hK => QR ?_
  have F := aI @Int.natCast_nonneg (aI @Int.ofNat_lt (aI hlt (nM hlt)))
  iterate 9 refine SF ?_
  refine T2 (hK _ _ _ ?_)
  clear hK K
  refine aJ (b := !(r.x[i].k == x.k)) rfl (fun hb => ?_) (fun hb => ?_)
  ·
   refine Rg ?_
   have F := aI @Int.natCast_nonneg (aI @Int.ofNat_lt (aI hlt (aI (nM hlt) @List.length_append.{0})))
   iterate 9 refine SF ?_
   refine T4 ?_
   exact key (ys ++ [r.x[i]]) _ _ _ (by simp; omega) (fF)
  refine aG (T3 ?_)
  exact key ys _ _ _ (by omega) (fF)
 clear hb
 refine aR (T3 ?_)
 clear hK K
 refine AX (hK _ _ _ ?_)
 clear hK K
 refine aB fun K hK => Rg ?_
 have F := @List.length_append.{0}
 iterate 5 refine SF ?_
 refine T2 (hK _ _ _ ?_)
 clear hK K
 refine aB fun K hK => ?_
 have key : ∀ (ws : List Rv) fr ob nx, ws.length ≤ r.x.length + 1 → Fits 0 fr ob (fin [(2, .ptr 0 0), (4, .ptr 8 0), (5, .own 20 ws.length)]) (fob [(0, .box 26 (.c r.cv)), (8, .box 26 (.c zR)), (20, .row 51 33 (ws.map Rv.cv))]) 600 → K fr ob nx := by
  intro ws fr ob nx w1 hf
  refine hK _ _ _ (bE hf ?_)
  clear hf hK K
  refine bT [20] (bE (fr2 := fin [(2, .ptr 0 0), (4, .ptr 8 0), (5, .c (.slc (ws.map Rv.cv)))]) (ob2 := fob [(0, .box 26 (.c r.cv)), (8, .box 26 (.c (Rt.cv ⟨0, 0, [], [], []⟩)))]) (nx2 := 700) (aP (by omega) (by simp [aX, cB, fin_at, finA_at, upd_at, fob_at, HV.close, HV.closeL, CV.denil, CV.denilL, denilL_str, denilL_Rv, denilL_Qt, denilL_Ky, HV.men, HV.menL, HV.norm, HV.toC, HV.toCL]) (by simp [bB, cC, fob_at, upd_at, none0_at, bU, HO.close, HV.close, HV.closeL, HO.men, HV.men, HV.menL, HV.norm, HV.toC, HV.toCL, Rt.denil, zR, Rt.cv, CV.denil, CV.denilL, denilL_str, denilL_Rv, denilL_Qt, denilL_Ky])) ?_)
  refine aB fun K hK => Rg ?_
  iterate 3 refine S0 ?_
  refine T2 (hK _ _ _ ?_)
  clear hK K
  refine R0 ?_
  refine aD (RT Tryz.results52 ?_)
  exact aC [] (Rt.mk r.v r.e r.q r.k ws).cv (eA (Rt.denil _)) ⟨ws, rfl, w1⟩
 refine bE (fr2 := fin [(2, .ptr 0 0), (3, .ptr 4 0), (4, .ptr 8 0), (5, .own 20 (ys ++ [x]).length)]) (ob2 := fob [(0, .box 26 (.c r.cv)), (4, .box 51 (.c x.cv)), (8, .box 26 (.c zR)), (20, .row 51 33 ((ys ++ [x]).map Rv.cv))]) (nx2 := 400) (fF) ?_
 obtain ⟨zs, hzs⟩ : ∃ zs, zs = ys ++ [x] := ⟨_, rfl⟩
 have hzl : zs.length = ys.length + 1 := by rw [hzs]; simp
 rw [← hzs]
 clear hzs
 have m1 : IntKind.i64.wrap ((zs.length : Int) - 1) = ((zs.length - 1 : Nat) : Int) := by rw [IntWalk.i64_in _ (by omega)]; omega
 refine aB fun K hK => Rg ?_
 have F := m1
 iterate 4 refine SF ?_
 refine T2 (hK _ _ _ ?_)
 clear hK K
 refine aH ?_
 refine aS (α := {y : Nat × List Rv // y.1 < zs.length ∧ y.2.length = zs.length}) (fun y => (fin [(2, .ptr 0 0), (3, .ptr 4 0), (4, .ptr 8 0), (5, .own 20 zs.length), (7, .c (.int .i64 y.1.1))], fob [(0, .box 26 (.c r.cv)), (4, .box 51 (.c x.cv)), (8, .box 26 (.c zR)), (20, .row 51 33 (y.1.2.map Rv.cv))])) 500 (fun y => y.1.1) ⟨(zs.length - 1, zs), by simp only; omega, rfl⟩ (fF) ?_
 rintro ⟨⟨j, ws⟩, hj, hw⟩
 simp only at hj hw ⊢
 have hjw : j < ws.length := by omega
 have hj1 : j - 1 < ws.length := by omega
 have hj2 : j - 1 < zs.length := by omega
 have hm : 0 < j → IntKind.i64.wrap ((j : Int) - 1) = ((j - 1 : Nat) : Int) := fun h => by rw [IntWalk.i64_in _ (by omega)]; omega
 have hwl : (ws.map Rv.cv).length = zs.length := by rw [List.length_map, hw]
 have hwne : ¬ ws = [] := by rintro rfl; simp at hw; omega
 refine aB fun K hK => ?_
 by_cases h0 : 0 < j
 ·
  refine aB fun K hK => DW [(0, [], []), (1, [], []), (2, [], []), (3, [], []), (4, [], []), (5, [], []), (6, [], []), (7, [], []), (8, [], []), (9, [], []), (10, [], []), (11, [], []), (12, [], []), (13, [], []), (14, [], []), (15, [], [])] [0, 1, 3, 7, 7, 31, 63, 127, 7, 7, 519, 1799, 3847, 7943, 16383, 32767] ?_
  have F := aI @List.map_eq_nil_iff.{0,0} (aI hwne (aI @Int.natCast_pos (aI h0 (aI hm (aI hw (aI hj (aI hj2 (aI hjw (aI hj1 (aI (nM hjw) (aI (nM hj1) (aI @Int.natCast_nonneg @Int.ofNat_lt))))))))))))
  iterate 14 refine WF ?_
  refine aN (g := some (41, true)) rfl rfl fun K' hK' => T6 ?_
  refine C2 (pE ws[j].k ws[j - 1].k) ?_
  rintro u rfl
  refine AX (hK' _ _ ?_)
  refine WF ?_
  refine T2 (hK _ _ _ ?_)
  clear hK K
  refine aJ (b := dlt ws[j].k ws[j - 1].k) rfl (fun hb => ?_) (fun hb => ?_)
  ·
   refine aG ?_
   refine T0 (hK _ _ _ ?_)
   clear hK K
   refine aB fun K hK => ?_
   refine aH ?_
   have hjs : j - 1 < (ws.set j ws[j - 1]).length := by rw [List.length_set]; exact hj1
   refine DW [(0, [], []), (1, [], []), (2, [], []), (3, [], []), (4, [], []), (5, [], []), (6, [], []), (7, [], []), (8, [], []), (9, [], []), (10, [], []), (11, [], []), (12, [], []), (13, [], []), (14, [], []), (15, [], [2, 3, 4]), (16, [], []), (17, [], [])] [0, 0, 0, 0, 8, 0, 0, 64, 224, 480, 0, 0, 3072, 7168, 16355, 32739, 65535, 131071] ?_
   iterate 18 refine W0 ?_ (e := fun _ h_ => by simp only [sH, ↓sP, sA, tyS, simprocAttr, aW hjs, List.map_eq_nil_iff, List.set_eq_nil_iff, hwne, hm, h0, hw, hj, hj2, hjw, hj1, aW hjw, aW hj1, Int.natCast_nonneg, Int.ofNat_lt, List.length_set, ← List.map_set]; exact AX h_)
   refine T2 (hK _ _ _ ?_)
   clear hK K
   refine aM (by kernel_rfl) ?_
   simp only [↓sP, sA, tyS, simprocAttr, hm, h0]
   refine ⟨⟨(j - 1, (ws.set j ws[j - 1]).set (j - 1) ws[j]), by simp only; omega, by simp [hw]⟩, fF, ?_⟩
   show j - 1 < j
   omega
  refine aR (T3 ?_)
  clear hK K
  rw [← hw] 
  exact key ws _ _ _ (by omega) (fF)
 refine aB fun K hK => DW [(0, [], []), (1, [], []), (2, [], []), (3, [], []), (4, [], []), (5, [], []), (6, [], []), (7, [], []), (8, [], []), (9, [], []), (10, [], []), (11, [], []), (12, [], []), (13, [], []), (14, [], []), (15, [], [])] [0, 1, 3, 7, 7, 31, 63, 127, 7, 7, 519, 1799, 3847, 7943, 16383, 32767] ?_
 have F := aI @Int.natCast_pos h0
 iterate 16 refine WF ?_
 refine T2 (hK _ _ _ ?_)
 clear hK K
 refine aJ (b := _) rfl (fun hb => ?_) (fun hb => ?_)
 ·
  cases hb
 refine aR (T3 ?_)
 clear hK K
 rw [← hw] 
 exact key ws _ _ _ (by omega) (fF)


theorem aJ2 : aV Tryz.prog 13 [] (fun v => v = full.cv) := by
 refine FW Tryz.func13 ?_
 refine R0 ?_
 refine R0 ?_
 refine aB fun K hK => Rg ?_
 refine HS fun K' hK' => T5 ?_
 refine C0 uN ?_
 rintro u rfl
 refine AX (hK' _ _ ?_)
 refine S0 ?_
 refine T2 (hK _ _ _ ?_)
 clear hK K
 refine aB fun K hK => ?_
 refine R0 ?_
 refine aH ?_
 refine gJ 8 2 64 2 rfl rfl rfl rfl ?_
 refine aS (α := {i : Nat // i ≤ 10}) (fun i => (fin [(0, .ptr 0 0), (1, .ptr 8 0), (2, .c (.slc (roles10.map .str))), (3, .c (.int .i64 i.1))], fob [(0, .box 26 (.c zR)), (8, .box 26 (.agg [.c (.int .i64 1), .c (.int .i64 1099511627776), .own 28 i.1, .c .nils, .c .nils])), (28, .row 64 2 ((qz i.1).map Qt.cv))])) 100 (fun i => 10 - i.1) ⟨0, by omega⟩ (aP (by omega) (by simp [aX, fin_at, finA_at, upd_at, HV.men, HV.menL, HV.norm, HV.toC, HV.toCL]) (by simp [bB, fob_at, upd_at, none0_at, bU, HO.men, HV.men, HV.menL, HV.norm, HV.toC, HV.toCL, zR, qz])) ?_
 rintro ⟨i, hi⟩
 have hrl : (roles10.map CV.str).length = 10 := rfl
 have hql := bF7 hi
 have hq10 : full.q.length = 10 := rfl
 refine aB fun K hK => ?_
 refine aB fun K hK => Rg ?_
 have F := hrl
 iterate 4 refine SF ?_
 refine T2 (hK _ _ _ ?_)
 clear hK K
 refine aJ (b := decide ((i : Int) < 10)) rfl (fun hb => ?_) (fun hb => ?_)
 ·
  have hlt : i < 10 := by simp at hb; omega
  have hlt' : (i : Int) < 10 := by omega
  have hlr : i < roles10.length := hlt
  refine aG ?_
  refine T0 (hK _ _ _ ?_)
  clear hK K
  refine aB fun K hK => ?_
  refine aH ?_
  refine DW [(0, [], []), (1, [], []), (2, [], []), (3, [], []), (4, [], []), (5, [], []), (6, [], []), (7, [], []), (8, [], []), (9, [], []), (10, [], [])] [0, 1, 0, 0, 12, 28, 60, 124, 255, 511, 1023] ?_
  have F := aI @Int.natCast_nonneg (aI hrl (aI hlt' (aI hlr (aI (nM hlr) (aI @List.length_append.{0} hql)))))
  iterate 6 refine WF ?_
  refine aN (g := none) rfl rfl fun K' hK' => T6 ?_
  rw [qE _ _ rfl rfl]
  refine AX (hK' _ _ ?_)
  iterate 4 refine WF ?_
  refine T2 (hK _ _ _ ?_)
  clear hK K
  refine aM (by kernel_rfl) ?_
  refine TQ (bK i) ?_
  refine ⟨⟨i + 1, hlt⟩, aP (by omega) (by simp [aX, fin_at, finA_at, upd_at, HV.men, HV.menL, HV.norm, HV.toC, HV.toCL]) (by simp [bB, fob_at, upd_at, none0_at, bU, HO.men, HV.men, HV.menL, HV.norm, HV.toC, HV.toCL, zR, bN8 hlr]), ?_⟩
  show 10 - (i + 1) < 10 - i
  omega
 refine aR (T3 ?_)
 clear hK K
 refine AX (hK _ _ _ ?_)
 clear hK K
 refine aB fun K hK => ?_
 have hei : i = 10 := by simp at hb; omega
 subst hei
 clear hb
 refine bT [28] (bE (fr2 := fin [(0, .ptr 0 0), (1, .ptr 8 0), (2, .c (.slc (roles10.map .str)))]) (ob2 := fob [(0, .box 26 (.c (Rt.cv ⟨0, 0, [], [], []⟩))), (8, .box 26 (.c (Rt.cv ⟨1, 1099511627776, full.q, [], []⟩)))]) (nx2 := 200) (aP (by omega) (by simp [aX, cB, fin_at, finA_at, upd_at, fob_at, HV.close, HV.closeL, CV.denil, CV.denilL, denilL_str, denilL_Rv, denilL_Qt, denilL_Ky, HV.men, HV.menL, HV.norm, HV.toC, HV.toCL]) (by simp [bB, cC, fob_at, upd_at, none0_at, bU, HO.close, HV.close, HV.closeL, HO.men, HV.men, HV.menL, HV.norm, HV.toC, HV.toCL, Rt.denil, zR, Rt.cv, CV.denil, CV.denilL, denilL_str, denilL_Rv, denilL_Qt, denilL_Ky, hql, bF8, hq10])) ?_)
 refine R0 ?_
 refine aH ?_
 refine aS (α := {i : Nat // i ≤ 5}) (fun i => (fin [(0, .ptr 0 0), (1, .ptr 8 0), (2, .c (.slc (roles10.map .str))), (4, .c (.int .i64 i.1))], fob [(0, .box 26 (.c (Rt.cv ⟨0, 0, [], [], []⟩))), (8, .box 26 (.c (Rt.cv ⟨1, 1099511627776, full.q, kz i.1, []⟩)))])) 300 (fun i => 5 - i.1) ⟨0, by omega⟩ (aP (by omega) (by simp [aX, fin_at, finA_at, upd_at, HV.men, HV.menL, HV.norm, HV.toC, HV.toCL]) (by simp [bB, fob_at, upd_at, none0_at, bU, HO.men, HV.men, HV.menL, HV.norm, HV.toC, HV.toCL]; rfl)) ?_
 rintro ⟨i, hi⟩
 have hkl := aM6 i
 refine aB fun K hK => ?_
 refine R0 ?_
 refine aJ (b := decide ((i : Int) < 5)) rfl (fun hb => ?_) (fun hb => ?_)
 ·
  have hlt : i < 5 := by simp at hb; omega
  refine aG ?_
  refine T0 (hK _ _ _ ?_)
  clear hK K
  refine aB fun K hK => ?_
  refine aH ?_
  refine DW [(0, [], []), (1, [], []), (2, [], []), (4, [], []), (6, [], []), (3, [], [0, 1, 4, 6]), (5, [], [0, 1, 6]), (7, [], []), (8, [], []), (9, [], []), (10, [], [])] [0, 1, 0, 4, 0, 28, 0, 124, 255, 511, 1023] ?_
  have F := aI @denilL_Ky (aI @denilL_str @Rt.fold)
  iterate 5 refine WF ?_
  refine aN (g := none) rfl rfl fun K' hK' => T6 ?_
  refine C1 (qQ i (by omega)) ?_
  rintro u rfl
  refine AX (hK' _ _ ?_)
  refine aN (g := none) rfl rfl fun K' hK' => T6 ?_
  refine C1 (aF9 i (by omega)) ?_
  rintro u rfl
  refine AX (hK' _ _ ?_)
  refine WF ?_
  refine aN (g := none) rfl rfl fun K' hK' => T6 ?_
  refine C2 (yJ (kz i) (bN0 i) (by omega)) ?_
  rintro u rfl
  refine AX (hK' _ _ ?_)
  iterate 2 refine WF ?_
  refine T2 (hK _ _ _ ?_)
  clear hK K
  refine aM (by kernel_rfl) ?_
  refine TQ (bK i) ?_
  refine ⟨⟨i + 1, hlt⟩, aP (by omega) (by simp [aX, fin_at, finA_at, upd_at, HV.men, HV.menL, HV.norm, HV.toC, HV.toCL]) (by simp [bB, fob_at, upd_at, none0_at, bU, HO.men, HV.men, HV.menL, HV.norm, HV.toC, HV.toCL, zL]; rfl), ?_⟩
  show 5 - (i + 1) < 5 - i
  omega
 refine aR (T3 ?_)
 clear hK K
 refine AX (hK _ _ _ ?_)
 clear hK K
 have hei : i = 5 := by simp at hb; omega
 subst hei
 clear hb
 refine R0 ?_
 refine aD (RT Tryz.results13 ?_)
 exact aC [] (Rt.cv ⟨1, 1099511627776, full.q, kz 5, []⟩) (eA (Rt.denil _)) (by rw [aM7]; rfl)

end Go.Proofs.YtenbfeemmpjdhaaGreatDoor

namespace Go.Proofs.YtenbfeemmpjdhaaGreatDoor
open Go Go.Hl Go.Pl
set_option maxRecDepth 10000
set_option maxHeartbeats 8000000
attribute [local simp] tp

theorem aT7 (L : List Int) (a : Nat) (v : Int) (ha : a + 200 < 2 ^ 40) : bM5 Tryz.prog 22 39 (tp L a) [.int .i64 v] (fun u v' => ∃ (r : Rt) (a' : Nat), u = r.cv ∧ v' = tp L a' ∧ a' ≤ a + 150 ∧ rOk r ∧ (1 ≤ v → v ≤ dU → bJ r = true)) := by
 refine bS Tryz.func22 rfl (by kernel_rfl) (fT _ _ _) (Nat.le_of_ble_eq_true rfl) ?_
 refine R0 ?_
 refine aB fun K hK => Rg ?_
 iterate 2 refine S0 ?_
 refine HS fun K' hK' => T5 ?_
 refine bI (args := [_]) (bV L a 100 (by omega) (by omega)) rfl (by simp) ⟨rfl, rfl, rfl, rfl⟩ ?_
 rintro u v' ⟨x0, a1, rfl, rfl, h1, h2, h3, h4⟩
 refine AX (hK' _ _ ?_)
 iterate 4 refine S0 ?_
 refine T2 (hK _ _ _ ?_)
 clear hK K
 refine aB fun K hK => Rg ?_
 refine HS fun K' hK' => T5 ?_
 refine C0 uN ?_
 rintro u rfl
 refine AX (hK' _ _ ?_)
 refine S0 ?_
 refine T2 (hK _ _ _ ?_)
 clear hK K
 refine aB fun K hK => ?_
 refine R0 ?_
 refine aH ?_
 obtain ⟨e0, he0⟩ : ∃ e0, e0 = IntKind.i64.wrap (20 + x0) := ⟨_, rfl⟩
 refine gJ 25 2 64 2 rfl rfl rfl rfl ?_
 refine aS (α := {y : Nat × Nat × List Qt // y.1 ≤ 10 ∧ y.2.1 ≤ a + 1 + 2 * y.1 ∧ y.2.2.length ≤ y.1 ∧ ∀ q ∈ y.2.2, q.r ∈ roles10}) (fun y => (fin [(0, .ptr 0 0), (1, .c (.int .i64 v)), (4, .ptr 1 0), (5, .ptr 25 0), (6, .c (.slc (roles10.map .str))), (7, .c (.int .i64 y.1.1))], fob [(0, .box 39 (.c (tp L y.1.2.1))), (1, .box 26 (.c zR)), (25, .box 26 (.agg [.c (.int .i64 v), .c (.int .i64 e0), .own 45 y.1.2.2.length, .c .nils, .c .nils])), (45, .row 64 2 (y.1.2.2.map Qt.cv))])) 100 (fun y => 10 - y.1.1) ⟨(0, a1, []), by simp, by simp only; omega, by simp, by simp⟩ (aP (by omega) (by simp [aX, fin_at, finA_at, upd_at, HV.men, HV.menL, HV.norm, HV.toC, HV.toCL]) (by simp [bB, fob_at, upd_at, none0_at, bU, HO.men, HV.men, HV.menL, HV.norm, HV.toC, HV.toCL, zR, he0])) ?_
 clear he0 h1 h2 h3 h4
 rintro ⟨⟨i, b, qs⟩, hi, hb0, hql, hqm⟩
 simp only at hi hb0 hql hqm ⊢
 have hrl : (roles10.map CV.str).length = 10 := rfl
 refine aB fun K hK => ?_
 refine aB fun K hK => Rg ?_
 have F := hrl
 iterate 4 refine SF ?_
 refine T2 (hK _ _ _ ?_)
 clear hK K
 refine aJ (b := decide ((i : Int) < 10)) rfl (fun hb => ?_) (fun hb => ?_)
 ·
  have hlt : i < 10 := by simp at hb; omega
  have hlt' : (i : Int) < 10 := by omega
  have hlr : i < roles10.length := hlt
  refine aG ?_
  refine T0 (hK _ _ _ ?_)
  clear hK K
  refine aB fun K hK => ?_
  have key : ∀ (b' : Nat) (qs' : List Qt) fr ob nx, b' ≤ a + 1 + 2 * (i + 1) → qs'.length ≤ i + 1 → (∀ q ∈ qs', q.r ∈ roles10) → Fits 1 fr ob (fin [(0, .ptr 0 0), (1, .c (.int .i64 v)), (4, .ptr 1 0), (5, .ptr 25 0), (6, .c (.slc (roles10.map .str))), (7, .c (.int .i64 i))]) (fob [(0, .box 39 (.c (tp L b'))), (1, .box 26 (.c zR)), (25, .box 26 (.agg [.c (.int .i64 v), .c (.int .i64 e0), .own 45 qs'.length, .c .nils, .c .nils])), (45, .row 64 2 (qs'.map Qt.cv))]) 400 → K fr ob nx := by
   intro b' qs' fr ob nx w1 w2 w3 hf
   refine hK _ _ _ (bE hf ?_)
   clear hf hK K
   refine aM (by kernel_rfl) ?_
   refine TQ (bK i) ?_
   refine ⟨⟨(i + 1, b', qs'), hlt, w1, w2, w3⟩, fF, ?_⟩
   show 10 - (i + 1) < 10 - i
   omega
  refine aH ?_
  refine aB fun K hK => Rg ?_
  have F := aI @Int.natCast_nonneg (aI hrl (aI hlt' (aI hlr (nM hlr))))
  refine SF ?_
  refine HS fun K' hK' => T6 ?_
  refine bI (args := [_]) (bV L b 8 (by omega) (by omega)) rfl (by simp) ⟨rfl, rfl, rfl, rfl⟩ ?_
  rintro u v' ⟨x1, b1, rfl, rfl, g1, g2, g3, g4⟩
  refine AX (hK' _ _ ?_)
  iterate 2 refine SF ?_
  refine aE 25 rfl (fun h6_25 => ?_) (fun h6_25 => ?_)
  ·
   have F := aI @Int.natCast_nonneg (aI hrl (aI hlt' (aI hlr (aI (nM hlr) h6_25))))
   iterate 6 refine SF ?_
   refine T2 (hK _ _ _ ?_)
   clear hK K
   refine CT rfl ?_
   refine DW [(0, [], []), (1, [], []), (2, [], []), (3, [], []), (4, [], []), (5, [], []), (6, [], []), (7, [], [0, 1, 2, 3, 4, 5]), (8, [], []), (9, [], []), (10, [], []), (11, [], []), (12, [], []), (13, [], []), (14, [], [])] [0, 1, 0, 0, 12, 28, 0, 64, 192, 448, 1020, 2044, 4095, 8191, 16383] ?_
   have F := aI @Int.natCast_nonneg (aI hrl (aI hlt' (aI hlr (aI (nM hlr) (aI @List.length_append.{0} h6_25)))))
   iterate 7 refine WF ?_
   refine aN (g := none) rfl rfl fun K' hK' => T6 ?_
   refine bI (args := [_]) (bV L b1 5 (by omega) (by omega)) rfl (by simp) ⟨rfl, rfl, rfl, rfl⟩ ?_
   rintro u v' ⟨x2, b2, rfl, rfl, k1, k2, k3, k4⟩
   refine AX (hK' _ _ ?_)
   iterate 2 refine WF ?_
   refine aN (g := none) rfl rfl fun K' hK' => T6 ?_
   rw [qE _ _ rfl rfl]
   refine AX (hK' _ _ ?_)
   iterate 4 refine WF ?_
   refine T4 ?_
   exact key b2 (qs ++ [⟨roles10[i], IntKind.i64.wrap (1 + IntKind.i64.wrap (x2.tdiv 3))⟩]) _ _ _ (by omega) (by simp; omega) (fun q hq => by
    rcases List.mem_append.1 hq with hq | hq
    ·
     exact hqm q hq
    rw [List.mem_singleton] at hq; rw [hq]; exact List.getElem_mem _) (fF)
  have F := aI @Int.natCast_nonneg (aI hrl (aI hlt' (aI hlr (aI (nM hlr) h6_25))))
  iterate 6 refine SF ?_
  refine aE 31 rfl (fun h6_31 => ?_) (fun h6_31 => ?_)
  ·
   simp only [h6_31]
   refine T2 (hK _ _ _ ?_)
   clear hK K
   refine CT rfl ?_
   refine DW [(0, [], []), (1, [], []), (2, [], []), (3, [], []), (4, [], []), (5, [], []), (6, [], []), (7, [], [0, 1, 2, 3, 4, 5]), (8, [], []), (9, [], []), (10, [], []), (11, [], []), (12, [], []), (13, [], []), (14, [], [])] [0, 1, 0, 0, 12, 28, 0, 64, 192, 448, 1020, 2044, 4095, 8191, 16383] ?_
   have F := aI @Int.natCast_nonneg (aI hrl (aI hlt' (aI hlr (aI (nM hlr) (aI @List.length_append.{0} (aI h6_25 h6_31))))))
   iterate 7 refine WF ?_
   refine aN (g := none) rfl rfl fun K' hK' => T6 ?_
   refine bI (args := [_]) (bV L b1 5 (by omega) (by omega)) rfl (by simp) ⟨rfl, rfl, rfl, rfl⟩ ?_
   rintro u v' ⟨x2, b2, rfl, rfl, k1, k2, k3, k4⟩
   refine AX (hK' _ _ ?_)
   iterate 2 refine WF ?_
   refine aN (g := none) rfl rfl fun K' hK' => T6 ?_
   rw [qE _ _ rfl rfl]
   refine AX (hK' _ _ ?_)
   iterate 4 refine WF ?_
   refine T4 ?_
   exact key b2 (qs ++ [⟨roles10[i], IntKind.i64.wrap (1 + IntKind.i64.wrap (x2.tdiv 3))⟩]) _ _ _ (by omega) (by simp; omega) (fun q hq => by
    rcases List.mem_append.1 hq with hq | hq
    ·
     exact hqm q hq
    rw [List.mem_singleton] at hq; rw [hq]; exact List.getElem_mem _) (fF)
  simp only [h6_31]
  refine T2 (hK _ _ _ ?_)
  clear hK K
  refine CF rfl ?_
  refine aG (T3 ?_)
  exact key b1 qs _ _ _ (by omega) (by omega) hqm (fF)
 refine aR (T3 ?_)
 clear hK K
 refine AX (hK _ _ _ ?_)
 clear hK K
 refine aB fun K hK => ?_
 clear hb
 refine bT [45] (bE (fr2 := fin [(0, .ptr 0 0), (1, .c (.int .i64 v)), (4, .ptr 1 0), (5, .ptr 25 0)]) (ob2 := fob [(0, .box 39 (.c (tp L b))), (1, .box 26 (.c (Rt.cv ⟨0, 0, [], [], []⟩))), (25, .box 26 (.c (Rt.cv ⟨v, e0, qs, [], []⟩)))]) (nx2 := 200) (aP (by omega) (by simp [aX, cB, fin_at, finA_at, upd_at, fob_at, HV.close, HV.closeL, CV.denil, CV.denilL, denilL_str, denilL_Rv, denilL_Qt, denilL_Ky, HV.men, HV.menL, HV.norm, HV.toC, HV.toCL]) (by simp [bB, cC, fob_at, upd_at, none0_at, bU, HO.close, HV.close, HV.closeL, HO.men, HV.men, HV.menL, HV.norm, HV.toC, HV.toCL, Rt.denil, zR, Rt.cv, CV.denil, CV.denilL, denilL_str, denilL_Rv, denilL_Qt, denilL_Ky, denilL_int])) ?_)
 refine R0 ?_
 refine aH ?_
 refine aS (α := {y : Nat × Nat × List Ky // y.1 ≤ 6 ∧ y.2.1 ≤ a + 21 + 14 * y.1 ∧ y.2.2.length ≤ y.1 ∧ ∀ k ∈ y.2.2, kOk k}) (fun y => (fin [(0, .ptr 0 0), (1, .c (.int .i64 v)), (4, .ptr 1 0), (5, .ptr 25 0), (8, .c (.int .i64 y.1.1))], fob [(0, .box 39 (.c (tp L y.1.2.1))), (1, .box 26 (.c (Rt.cv ⟨0, 0, [], [], []⟩))), (25, .box 26 (.c (Rt.cv ⟨v, e0, qs, y.1.2.2, []⟩)))])) 300 (fun y => 6 - y.1.1) ⟨(0, b, []), by simp, by simp only; omega, by simp, by simp⟩ (fF) ?_
 clear hb0
 rintro ⟨⟨j, b, ks⟩, hj, hb0, hkl, hkm⟩
 simp only at hj hb0 hkl hkm ⊢
 refine aB fun K hK => ?_
 refine R0 ?_
 refine aJ (b := decide ((j : Int) < 6)) rfl (fun hb => ?_) (fun hb => ?_)
 ·
  have hlt : j < 6 := by simp at hb; omega
  refine aG ?_
  refine T0 (hK _ _ _ ?_)
  clear hK K
  refine aB fun K hK => ?_
  have key : ∀ (b' : Nat) (ks' : List Ky) fr ob nx, b' ≤ a + 21 + 14 * (j + 1) → ks'.length ≤ j + 1 → (∀ k ∈ ks', kOk k) → Fits 1 fr ob (fin [(0, .ptr 0 0), (1, .c (.int .i64 v)), (4, .ptr 1 0), (5, .ptr 25 0), (8, .c (.int .i64 j))]) (fob [(0, .box 39 (.c (tp L b'))), (1, .box 26 (.c (Rt.cv ⟨0, 0, [], [], []⟩))), (25, .box 26 (.c (Rt.cv ⟨v, e0, qs, ks', []⟩)))]) 500 → K fr ob nx := by
   intro b' ks' fr ob nx w1 w2 w3 hf
   refine hK _ _ _ (bE hf ?_)
   clear hf hK K
   refine aM (by kernel_rfl) ?_
   refine TQ (bK j) ?_
   refine ⟨⟨(j + 1, b', ks'), hlt, w1, w2, w3⟩, fF, ?_⟩
   show 6 - (j + 1) < 6 - j
   omega
  refine aH ?_
  refine aB fun K hK => ?_
  refine aB fun K hK => Rg ?_
  refine S0 ?_
  refine HS fun K' hK' => T5 ?_
  refine bI (args := [_]) (bV L b 6 (by omega) (by omega)) rfl (by simp) ⟨rfl, rfl, rfl, rfl⟩ ?_
  rintro u v' ⟨x1, b1, rfl, rfl, g1, g2, g3, g4⟩
  refine AX (hK' _ _ ?_)
  refine S0 ?_
  refine T2 (hK _ _ _ ?_)
  clear hK K
  refine aJ (b := x1 == 0) rfl (fun hb => ?_) (fun hb => ?_)
  ·
   refine aR (T3 ?_)
   clear hK K
   exact key b1 ks _ _ _ (by omega) (by omega) hkm (fF)
  refine aG ?_
  refine T0 (hK _ _ _ ?_)
  clear hK K
  refine aB fun K hK => Rg ?_
  refine S0 ?_
  refine HS fun K' hK' => T5 ?_
  refine bI (args := [_]) (bV L b1 6 (by omega) (by omega)) rfl (by simp) ⟨rfl, rfl, rfl, rfl⟩ ?_
  rintro u v' ⟨x2, b2, rfl, rfl, k1, k2, k3, k4⟩
  refine AX (hK' _ _ ?_)
  refine S0 ?_
  refine T2 (hK _ _ _ ?_)
  clear hK K
  refine DW [(0, [], []), (1, [], []), (2, [], []), (4, [], []), (6, [], []), (8, [], []), (9, [], []), (10, [], []), (11, [], []), (3, [], [0, 1, 4, 6, 8, 9, 10, 11]), (5, [], [0, 1, 6, 8, 9, 10, 11]), (7, [], [0, 1, 8, 9, 10, 11]), (12, [], [0, 1, 8, 9, 10]), (13, [], []), (14, [], []), (15, [], []), (16, [], []), (17, [], [])] [0, 1, 0, 4, 0, 28, 0, 124, 0, 0, 512, 0, 2300, 7932, 16380, 32767, 65535, 131071] ?_
  have F := aI @denilL_Ky (aI @denilL_str @Rt.fold)
  iterate 9 refine WF ?_
  refine aN (g := none) rfl rfl fun K' hK' => T6 ?_
  refine C1 (qQ j (by omega)) ?_
  rintro u rfl
  refine AX (hK' _ _ ?_)
  refine aN (g := none) rfl rfl fun K' hK' => T6 ?_
  refine C1 (aF9 j (by omega)) ?_
  rintro u rfl
  refine AX (hK' _ _ ?_)
  refine aN (g := none) rfl rfl fun K' hK' => T6 ?_
  refine bI (args := []) (bT4 L b2 (by omega)) rfl (by simp) ⟨rfl, rfl, rfl, rfl⟩ ?_
  rintro u v' ⟨ws, b3, rfl, rfl, n1, n2, n3⟩
  refine AX (hK' _ _ ?_)
  refine aN (g := none) rfl rfl fun K' hK' => T6 ?_
  refine bI (args := [_]) (bV L b3 60 (by omega) (by omega)) rfl (by simp) ⟨rfl, rfl, rfl, rfl⟩ ?_
  rintro u v' ⟨x3, b4, rfl, rfl, o1, o2, o3, o4⟩
  obtain ⟨un, hun⟩ : ∃ un, un = IntKind.i64.wrap (IntKind.i64.wrap (x2 + 1) + x3) := ⟨_, rfl⟩
  refine AX (hK' _ _ ?_)
  iterate 2 refine WF ?_
  refine aN (g := none) rfl rfl fun K' hK' => T6 ?_
  refine C2 (yJ ks ⟨aD5 j, kO j, ws, x2, IntKind.i64.wrap (IntKind.i64.wrap (x2 + 1) + x3)⟩ (by omega)) ?_
  rintro u rfl
  refine AX (hK' _ _ ?_)
  iterate 2 refine WF ?_
  refine T4 ?_
  exact key b4 (tS ks ⟨aD5 j, kO j, ws, x2, IntKind.i64.wrap (IntKind.i64.wrap (x2 + 1) + x3)⟩) _ _ _ (by omega) (by rw [aE9]; omega) (fun k hk => by
   rcases aF0 hk with hk | rfl
   ·
    exact hkm k hk
   exact aS1 j ws _ _ n2 n3) (aP (by omega) (by simp [aX, fin_at, finA_at, upd_at, HV.men, HV.menL, HV.norm, HV.toC, HV.toCL]) (by simp [bB, fob_at, upd_at, none0_at, bU, HO.men, HV.men, HV.menL, HV.norm, HV.toC, HV.toCL]; rfl))
 clear hb
 refine aR (T3 ?_)
 clear hK K
 refine AX (hK _ _ _ ?_)
 clear hK K
 refine aB fun K hK => ?_
 have key : ∀ (b' : Nat) (r : Rt) fr ob nx, b' ≤ a + 150 → rOk r → Fits 1 fr ob (fin [(0, .ptr 0 0), (1, .c (.int .i64 v)), (4, .ptr 1 0), (5, .ptr 25 0)]) (fob [(0, .box 39 (.c (tp L b'))), (1, .box 26 (.c (Rt.cv ⟨0, 0, [], [], []⟩))), (25, .box 26 (.c r.cv))]) 600 → K fr ob nx := by
  intro b' r fr ob nx w1 w2 hf
  refine hK _ _ _ (bE hf ?_)
  clear hf hK K
  refine aB fun K hK => ?_
  refine aB fun K hK => Rg ?_
  refine S0 ?_
  refine HS fun K' hK' => T5 ?_
  refine C1 (gP r w2.1) ?_
  rintro u rfl
  refine AX (hK' _ _ ?_)
  refine S0 ?_
  refine T2 (hK _ _ _ ?_)
  clear hK K
  refine aJ (b := !bJ r) rfl (fun hb => ?_) (fun hb => ?_)
  ·
   refine aB fun K hK => Rg ?_
   refine HS fun K' hK' => T5 ?_
   refine C0 aJ2 ?_
   rintro u rfl
   refine AX (hK' _ _ ?_)
   iterate 2 refine S0 ?_
   refine T2 (hK _ _ _ ?_)
   clear hK K
   have F := @Rt.fold
   refine RF ?_
   refine R0 ?_
   refine aD (RT Tryz.results22 ?_)
   refine jI [] (Rt.cv ⟨v, full.e, full.q, full.k, full.x⟩) (tp L b') (eA (Rt.denil _)) rfl ?_ (by simp) ⟨_, b', rfl, rfl, w1, rY v, zM⟩
   simp [HV.close, HV.closeL, tp, CV.denil, CV.denilL, denilL_int, HV.norm, HV.toC, HV.toCL]
  refine aG ?_
  refine T0 (hK _ _ _ ?_)
  clear hK K
  refine R0 ?_
  refine aD (RT Tryz.results22 ?_)
  refine jI [] r.cv (tp L b') (eA (Rt.denil _)) rfl ?_ (by simp) ⟨r, b', rfl, rfl, w1, w2, fun _ _ => by simpa using hb⟩
  simp [HV.close, HV.closeL, tp, CV.denil, CV.denilL, denilL_int, HV.norm, HV.toC, HV.toCL]
 refine aB fun K hK => Rg ?_
 refine S0 ?_
 refine HS fun K' hK' => T5 ?_
 refine bI (args := [_]) (bV L b 4 (by omega) (by omega)) rfl (by simp) ⟨rfl, rfl, rfl, rfl⟩ ?_
 rintro u v' ⟨x1, b1, rfl, rfl, g1, g2, g3, g4⟩
 refine AX (hK' _ _ ?_)
 refine S0 ?_
 refine T2 (hK _ _ _ ?_)
 clear hK K
 refine aJ (b := x1 == 0) rfl (fun hb => ?_) (fun hb => ?_)
 ·
  refine DW [(0, [], []), (1, [], []), (4, [], []), (2, [], [0, 4]), (3, [], [0, 4]), (5, [], [0]), (6, [], []), (7, [], []), (8, [], [])] [0, 0, 2, 6, 0, 30, 62, 127, 255] ?_
  have F := @Rv.fold
  iterate 3 refine WF ?_
  refine aN (g := none) rfl rfl fun K' hK' => T6 ?_
  refine bI (args := [_]) (bV L b1 7 (by omega) (by omega)) rfl (by simp) ⟨rfl, rfl, rfl, rfl⟩ ?_
  rintro u v' ⟨x2, b2, rfl, rfl, k1, k2, k3, k4⟩
  obtain ⟨m, rfl⟩ : ∃ m : Nat, x2 = m := ⟨x2.toNat, by omega⟩
  refine AX (hK' _ _ ?_)
  refine aN (g := none) rfl rfl fun K' hK' => T6 ?_
  refine C1 (vM m (by omega)) ?_
  rintro u rfl
  refine AX (hK' _ _ ?_)
  refine aN (g := none) rfl rfl fun K' hK' => T6 ?_
  refine bI (args := [_]) (bV L b2 30 (by omega) (by omega)) rfl (by simp) ⟨rfl, rfl, rfl, rfl⟩ ?_
  rintro u v' ⟨x3, b3, rfl, rfl, o1, o2, o3, o4⟩
  refine AX (hK' _ _ ?_)
  refine WF ?_
  refine aN (g := none) rfl rfl fun K' hK' => T6 ?_
  refine C2 (qR ⟨v, e0, qs, ks, []⟩ ⟨mid m, x3⟩ (aM8 (by omega) hqm (by omega) hkm (by simp)).1) ?_
  rintro u ⟨xs, rfl, hxs⟩
  refine AX (hK' _ _ ?_)
  refine WF ?_
  refine T4 ?_
  exact key b3 ⟨v, e0, qs, ks, xs⟩ _ _ _ (by omega) (aM8 (by omega) hqm (by omega) hkm (by simpa using hxs)) (fF)
 refine aG (T3 ?_)
 exact key b1 ⟨v, e0, qs, ks, []⟩ _ _ _ (by omega) (aM8 (by omega) hqm (by omega) hkm (by simp)) (fF)


theorem bL3 : aV Tryz.prog 12 [] (fun v => v = .bool true) := by
 refine FW Tryz.func12 ?_
 refine R0 ?_
 refine aB fun K hK => Rg ?_
 refine HS fun K' hK' => T5 ?_
 refine C0 aJ2 ?_
 rintro u rfl
 refine AX (hK' _ _ ?_)
 iterate 2 refine S0 ?_
 refine T2 (hK _ _ _ ?_)
 clear hK K
 refine aB fun K hK => DW [(0, [], []), (1, [], []), (2, [], []), (3, [], []), (4, [], []), (5, [], []), (6, [], []), (7, [], []), (8, [], []), (9, [], [8]), (10, [], []), (11, [], []), (12, [], []), (13, [], [])] [0, 1, 3, 7, 15, 31, 63, 127, 255, 255, 767, 2047, 4095, 8191] ?_
 have F := aI @tT (aI @wY (aI @aD6 @kE))
 refine WF ?_
 refine aN (g := none) rfl rfl fun K' hK' => T6 ?_
 refine C1 (mH full (rY 1).1) ?_
 rintro u rfl
 refine AX (hK' _ _ ?_)
 iterate 2 refine WF ?_
 refine aN (g := some (5, true)) rfl rfl fun K' hK' => T6 ?_
 refine C2 (aI7 full tR (rY 1).1) ?_
 rintro u rfl
 rw [wY]
 refine AX (hK' _ _ ?_)
 iterate 4 refine WF ?_
 refine aN (g := some (10, true)) rfl rfl fun K' hK' => T6 ?_
 refine C1 (vM 0 (by omega)) ?_
 rintro u rfl
 refine AX (hK' _ _ ?_)
 refine WF ?_
 refine aN (g := some (10, true)) rfl rfl fun K' hK' => T6 ?_
 refine nT (e := 49) (sz := 32) (l := [mid 0].map dg) [full.cv, .str tR] [.int .i64 5] (qL full tR [mid 0] 5 (rY 1).1 (by simp)) rfl rfl (by simp) ⟨rfl, rfl, rfl, rfl⟩ ?_
 rintro u rfl
 refine AX (hK' _ _ ?_)
 iterate 2 refine WF ?_
 refine T2 (hK _ _ _ ?_)
 clear hK K
 refine aD (RT Tryz.results12 ?_)
 exact aC [] (.bool true) rfl rfl

end Go.Proofs.YtenbfeemmpjdhaaGreatDoor

namespace Go.Proofs.YtenbfeemmpjdhaaGreatDoor
open Go Go.Hl Go.Pl
set_option maxRecDepth 10000
set_option maxHeartbeats 8000000
attribute [local simp] tp

theorem cC4 (r : Rt) (L : List Int) (a : Nat) (ha : a + 400 < 2 ^ 40) (hx : r.x.length < 2 ^ 30) : bH9 Tryz.prog 14 39 (tp L a) [r.cv] (fun u x v' => ∃ (r' : Rt) (K : List Dig) (a' : Nat), u = r'.cv ∧ x = .slc (K.map dg) ∧ v' = tp L a' ∧ a' ≤ a + 200 ∧ rSz r' ∧ K.length ≤ 6) := by
 refine bS (args := [.c r.cv, .ptr 0 0]) Tryz.func14 rfl (by kernel_rfl) (mS _ _ [r.cv]) (Nat.le_of_ble_eq_true rfl) ?_
 refine R0 ?_
 refine aB fun K hK => Rg ?_
 iterate 4 refine S0 ?_
 refine HS fun K' hK' => T5 ?_
 refine bI (args := [_]) (aT7 L a (IntKind.i64.wrap (r.v + 1)) (by omega)) rfl (by simp) ⟨rfl, rfl, rfl, rfl⟩ ?_
 rintro u v' ⟨x0, a1, rfl, rfl, k1, hx0, hv0⟩
 refine AX (hK' _ _ ?_)
 iterate 2 refine S0 ?_
 refine T2 (hK _ _ _ ?_)
 clear hK K
 refine R0 ?_
 refine aB fun K hK => ?_
 refine R0 ?_
 refine aH ?_
 refine bT [] ?_
 refine aS (α := {y : Nat × Rt // y.1 ≤ r.x.length ∧ rSz y.2 ∧ y.2.x.length ≤ y.1}) (fun y => (fin [(1, .ptr 0 0), (2, .ptr 1 0), (4, .ptr 5 0), (6, .ptr 33 0), (7, .c (.int .i64 y.1.1))], fob [(0, .box 39 (.c (tp L a1))), (1, .box 26 (.c r.cv)), (5, .box 26 (.c (Rt.cv ⟨0, 0, [], [], []⟩))), (33, .box 26 (.c y.1.2.cv))])) 100 (fun y => r.x.length - y.1.1) ⟨(0, ⟨x0.v, x0.e, x0.q, x0.k, []⟩), by simp, ⟨hx0.1.1, hx0.1.2.1, by simp⟩, by simp⟩ (aP (by omega) (by simp [aX, cB, fin_at, finA_at, upd_at, fob_at, HV.close, HV.closeL, CV.denil, CV.denilL, denilL_str, denilL_Rv, denilL_Qt, denilL_Ky, HV.men, HV.menL, HV.norm, HV.toC, HV.toCL]) (by simp [bB, cC, fob_at, upd_at, none0_at, bU, HO.close, HV.close, HV.closeL, HO.men, HV.men, HV.menL, HV.norm, HV.toC, HV.toCL, Rt.denil, zR, Rt.cv, CV.denil, CV.denilL, denilL_int, denilL_str, denilL_Rv, denilL_Qt, denilL_Ky])) ?_
 rintro ⟨⟨i, z⟩, hi, hz, hzl⟩
 simp only at hi hz hzl ⊢
 refine aB fun K hK => ?_
 refine aB fun K hK => Rg ?_
 iterate 5 refine S0 ?_
 refine T2 (hK _ _ _ ?_)
 clear hK K
 refine aJ (b := decide ((i : Int) < r.x.length)) rfl (fun hb => ?_) (fun hb => ?_)
 ·
  have hlt : i < r.x.length := by simpa using hb
  clear hb
  refine aG ?_
  refine T0 (hK _ _ _ ?_)
  clear hK K
  refine aB fun K hK => ?_
  refine aH ?_
  refine DW [(0, [], []), (1, [], []), (2, [], []), (3, [], []), (4, [], []), (5, [], []), (6, [], []), (7, [], [])] [0, 0, 2, 0, 14, 30, 63, 127] ?_
  have F := aI @Int.natCast_nonneg (aI @Int.ofNat_lt (aI hlt (nM hlt)))
  iterate 6 refine WF ?_
  refine aN (g := none) rfl rfl fun K' hK' => T6 ?_
  refine C2 (qR z r.x[i] hz) ?_
  rintro u ⟨xs, rfl, hxs⟩
  refine AX (hK' _ _ ?_)
  refine WF ?_
  refine T2 (hK _ _ _ ?_)
  clear hK K
  refine aM (by kernel_rfl) ?_
  refine TQ (bK i) ?_
  refine ⟨⟨(i + 1, ⟨z.v, z.e, z.q, z.k, xs⟩), hlt, ⟨hz.1, hz.2.1, by show xs.length < _; omega⟩, by show xs.length ≤ _; omega⟩, fF, ?_⟩
  show r.x.length - (i + 1) < r.x.length - i
  omega
 clear hb
 refine aR (T3 ?_)
 clear hK K
 refine AX (hK _ _ _ ?_)
 clear hK K
 refine aB fun K hK => ?_
 have key : ∀ (z : Rt) (b : Nat) fr ob nx, rSz z → b ≤ a1 + 10 → Fits 1 fr ob (fin [(1, .ptr 0 0), (4, .ptr 5 0), (6, .ptr 33 0)]) (fob [(0, .box 39 (.c (tp L b))), (5, .box 26 (.c (Rt.cv ⟨0, 0, [], [], []⟩))), (33, .box 26 (.c z.cv))]) 500 → K fr ob nx := by
  intro z b fr ob nx hz hb hf
  refine hK _ _ _ (bE hf ?_)
  clear hf hK K
  refine R0 ?_
  refine aB fun K hK => ?_
  refine R0 ?_
  refine aH ?_
  refine bT [] ?_
  refine aS (α := {y : Nat × List Dig × Nat // y.1 ≤ 6 ∧ y.2.1.length ≤ y.1 ∧ y.2.2 ≤ b + y.1}) (fun y => (fin [(1, .ptr 0 0), (4, .ptr 5 0), (6, .ptr 33 0), (8, .c (.slc (y.1.2.1.map dg))), (9, .c (.int .i64 y.1.1))], fob [(0, .box 39 (.c (tp L y.1.2.2))), (5, .box 26 (.c (Rt.cv ⟨0, 0, [], [], []⟩))), (33, .box 26 (.c z.cv))])) 600 (fun y => 6 - y.1.1) ⟨(0, [], b), by simp, by simp, by simp⟩ (aP (by omega) (by simp [aX, cB, fin_at, finA_at, upd_at, fob_at, HV.close, HV.closeL, CV.denil, CV.denilL, HV.men, HV.menL, HV.norm, HV.toC, HV.toCL]) (by simp [bB, cC, fob_at, upd_at, none0_at, bU, HO.close, HV.close, HV.closeL, HO.men, HV.men, HV.menL, HV.norm, HV.toC, HV.toCL, Rt.denil, CV.denil, CV.denilL, denilL_int])) ?_
  rintro ⟨⟨i, Kl, c⟩, hi, hkl, hc⟩
  simp only at hi hkl hc ⊢
  refine aB fun K hK => ?_
  refine R0 ?_
  refine aJ (b := decide ((i : Int) < 6)) rfl (fun hb => ?_) (fun hb => ?_)
  ·
   have hlt : i < 6 := by simp at hb; omega
   refine aG ?_
   refine T0 (hK _ _ _ ?_)
   clear hK K
   refine aB fun K hK => ?_
   have key : ∀ (K' : List Dig) (c' : Nat) fr ob nx, K'.length ≤ i + 1 → c' ≤ c + 1 → Fits 1 fr ob (fin [(1, .ptr 0 0), (4, .ptr 5 0), (6, .ptr 33 0), (8, .c (.slc (K'.map dg))), (9, .c (.int .i64 i))]) (fob [(0, .box 39 (.c (tp L c'))), (5, .box 26 (.c (Rt.cv ⟨0, 0, [], [], []⟩))), (33, .box 26 (.c z.cv))]) 800 → K fr ob nx := by
    intro K' c' fr ob nx w1 w2 hf
    refine hK _ _ _ (bE hf ?_)
    clear hf hK K
    refine aM (by kernel_rfl) ?_
    refine TQ (bK i) ?_
    refine ⟨⟨(i + 1, K', c'), hlt, w1, by simp only; omega⟩, fF, ?_⟩
    show 6 - (i + 1) < 6 - i
    omega
   refine aH ?_
   refine aB fun K hK => Rg ?_
   refine S0 ?_
   refine HS fun K' hK' => T5 ?_
   refine bI (args := [_]) (bV L c 4 (by omega) (by omega)) rfl (by simp) ⟨rfl, rfl, rfl, rfl⟩ ?_
   rintro u v' ⟨y2, c2, rfl, rfl, j2, j3, j4, j5⟩
   refine AX (hK' _ _ ?_)
   refine S0 ?_
   refine T2 (hK _ _ _ ?_)
   clear hK K
   refine aJ (b := decide (0 < y2)) rfl (fun hb => ?_) (fun hb => ?_)
   ·
    refine Rg ?_
    iterate 2 refine S0 ?_
    refine HS fun K' hK' => T5 ?_
    refine C1 (vM i (by omega)) ?_
    rintro u rfl
    refine AX (hK' _ _ ?_)
    refine HS fun K' hK' => T5 ?_
    refine C2 (bR9 Kl (mid i) (by omega)) ?_
    rintro u ⟨K2, rfl, hK2⟩
    refine AX (hK' _ _ ?_)
    refine S0 ?_
    refine T4 ?_
    exact key K2 c2 _ _ _ (by omega) (by omega) (fF)
   refine aG (T3 ?_)
   exact key Kl c2 _ _ _ (by omega) (by omega) (fF)
  refine aR (T3 ?_)
  clear hK K
  refine AX (hK _ _ _ ?_)
  clear hK K
  refine aB fun K hK => Rg ?_
  iterate 4 refine S0 ?_
  refine T2 (hK _ _ _ ?_)
  clear hK K
  refine aD (RT Tryz.results14 ?_)
  refine aN9 [] z.cv (.slc (Kl.map dg)) (tp L c) ?_ rfl ?_ (by simp) ⟨z, Kl, c, rfl, rfl, rfl, by omega, hz, by simp at hb; omega⟩
  ·
   simp [HV.close, HV.closeL, Rt.denil, CV.denil, CV.denilL, denilL_dg, HV.norm, HV.toC, HV.toCL]
  simp [HV.close, HV.closeL, tp, CV.denil, CV.denilL, denilL_int, HV.norm, HV.toC, HV.toCL]
 refine aB fun K hK => Rg ?_
 refine S0 ?_
 refine HS fun K' hK' => T5 ?_
 refine bI (args := [_]) (bV L a1 3 (by omega) (by omega)) rfl (by simp) ⟨rfl, rfl, rfl, rfl⟩ ?_
 rintro u v' ⟨y1, a2, rfl, rfl, k2, k3, k4, k5⟩
 refine AX (hK' _ _ ?_)
 refine S0 ?_
 refine T2 (hK _ _ _ ?_)
 clear hK K
 refine aJ (b := y1 == 0) rfl (fun hb => ?_) (fun hb => ?_)
 ·
  refine DW [(0, [], []), (1, [], []), (4, [], []), (2, [], [0, 4]), (3, [], [0, 4]), (5, [], [0]), (6, [], []), (7, [], []), (8, [], [])] [0, 0, 2, 6, 0, 30, 62, 127, 255] ?_
  have F := @Rv.fold
  iterate 3 refine WF ?_
  refine aN (g := none) rfl rfl fun K' hK' => T6 ?_
  refine bI (args := [_]) (bV L a2 6 (by omega) (by omega)) rfl (by simp) ⟨rfl, rfl, rfl, rfl⟩ ?_
  rintro u v' ⟨y2, a3, rfl, rfl, j2, j3, j4, j5⟩
  obtain ⟨n2, rfl⟩ : ∃ n : Nat, y2 = n := ⟨y2.toNat, by omega⟩
  refine AX (hK' _ _ ?_)
  refine aN (g := none) rfl rfl fun K' hK' => T6 ?_
  refine C1 (vM n2 (by omega)) ?_
  rintro u rfl
  refine AX (hK' _ _ ?_)
  refine aN (g := none) rfl rfl fun K' hK' => T6 ?_
  refine bI (args := [_]) (bV L a3 20 (by omega) (by omega)) rfl (by simp) ⟨rfl, rfl, rfl, rfl⟩ ?_
  rintro u v' ⟨y3, a4, rfl, rfl, m2, m3, m4, m5⟩
  refine AX (hK' _ _ ?_)
  refine WF ?_
  refine aN (g := none) rfl rfl fun K' hK' => T6 ?_
  refine C2 (qR z ⟨mid n2, y3⟩ hz) ?_
  rintro u ⟨xs, rfl, hxs⟩
  refine AX (hK' _ _ ?_)
  refine WF ?_
  refine T4 ?_
  exact key ⟨z.v, z.e, z.q, z.k, xs⟩ a4 _ _ _ ⟨hz.1, hz.2.1, by show xs.length < _; omega⟩ (by omega) (fF)
 refine aG (T3 ?_)
 exact key z a2 _ _ _ hz (by omega) (fF)


end Go.Proofs.YtenbfeemmpjdhaaGreatDoor

namespace Go.Proofs.YtenbfeemmpjdhaaGreatDoor
open Go Go.Hl Go.Pl Go.RowKit Go.Shelf
set_option maxRecDepth 100000
set_option linter.unusedVariables false

end Go.Proofs.YtenbfeemmpjdhaaGreatDoor

namespace Go.Proofs.YtenbfeemmpjdhaaGreatDoor
open Go Go.Hl Go.Pl Go.RowKit Go.Shelf
set_option maxRecDepth 100000
set_option linter.unusedVariables false
end Go.Proofs.YtenbfeemmpjdhaaGreatDoor
