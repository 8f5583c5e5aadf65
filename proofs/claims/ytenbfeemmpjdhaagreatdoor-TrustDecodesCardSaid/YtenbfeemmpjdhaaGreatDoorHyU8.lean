/- Part of a proof: walks of functions of the program, by contracts, and the rules they use. By an AI agent. -/
import Derived.Test.YtenbfeemmpjdhaaGreatDoorPl02e
import Derived.Test.YtenbfeemmpjdhaaGreatDoorHyTo
import Derived.Test.YtenbfeemmpjdhaaGreatDoorHySb
import Derived.Test.YtenbfeemmpjdhaaGreatDoorPl11y
import Derived.Test.YtenbfeemmpjdhaaGreatDoorHyTz
import Derived.Test.YtenbfeemmpjdhaaGreatDoorPl02g
import Derived.Shelf.LaysM
import Derived.Shelf.Strings.BuilderK
import Derived.Test.YtenbfeemmpjdhaaGreatDoorPl11h
import Derived.Test.YtenbfeemmpjdhaaGreatDoorChecked
import Derived.WalkKit
import Derived.BigCall
import Derived.Test.YtenbfeemmpjdhaaGreatDoorPl11v
import Derived.Shelf.Strconv.Itoa4
import Derived.Test.YtenbfeemmpjdhaaGreatDoorHyT5
set_option linter.unusedSimpArgs false
set_option linter.unusedVariables false
set_option linter.defProp false
namespace Go.Proofs.YtenbfeemmpjdhaaGreatDoor
open Go Go.Hl Go.Pl
set_option maxRecDepth 10000
set_option maxHeartbeats 16000000

theorem cG4 (x : Qt) (K : CV → Prop) : eV Tryz.prog .neq 64 (.c x.cv) (.c x.cv) K = K (.bool false) := by
 have h : CV.ofTy Tryz.prog 8 64 x.cv = true := by
  have e1 : Tryz.prog.cellsOf 9 = 1 := by kernel_rfl
  have e2 : Tryz.prog.cellsOf 3 = 1 := by kernel_rfl
  simp only [Qt.cv, CV.ofTy, ty64, CV.ofTyF, ty9, ty3, CV.cells, e1, e2, beq_self_eq_true, Bool.and_self]
 have ha : wZ Tryz.prog 64 = true := by kernel_rfl
 simp only [Qt.cv] at h
 simp only [Qt.cv, eV, ha, h, and_self, true_and, CV.eqv, CV.eqvL, beq_self_eq_true, Bool.and_self, Bool.not_true]
theorem cG5 (x : Rv) (K : CV → Prop) : eV Tryz.prog .neq 51 (.c x.cv) (.c x.cv) K = K (.bool false) := by
 have e1 : Tryz.prog.cellsOf 49 = 32 := by kernel_rfl
 have e2 : Tryz.prog.cellsOf 2 = 1 := by kernel_rfl
 have hd : CV.ofTy Tryz.prog 7 49 (dg x.k) = true := aB3 (n := 5) ty49 ty5 (by kernel_rfl) x.k
 have h : CV.ofTy Tryz.prog 8 51 x.cv = true := by
  rw [CV.ofTy, ty51]
  simp only [Rv.cv, CV.ofTyF, hd, dg_cells, CV.ofTy, ty2, CV.cells, e1, e2, beq_self_eq_true, Bool.and_self]
 have ha : wZ Tryz.prog 51 = true := by kernel_rfl
 have hq : CV.eqv (dg x.k) (dg x.k) = true := by
  simp only [dg, dgl, CV.eqv]
  exact (mV x.k.1 x.k.1).trans (beq_self_eq_true _)
 simp only [Rv.cv] at h
 simp only [Rv.cv, eV, ha, h, and_self, true_and, CV.eqv, CV.eqvL, hq, beq_self_eq_true, Bool.and_self, Bool.not_true]

theorem zN (r : Rt) (hr : rSz r) : aW Tryz.prog 19 [r.cv, r.cv] (fun v => v = .bool true) := by
 have hlq : r.q.length < 2 ^ 40 := hr.1.1
 have hlk : r.k.length < 2 ^ 40 := hr.2.1.1
 have hlx : r.x.length < 2 ^ 40 := hr.2.2
 refine FW Tryz.func19 ?_
 refine R0 ?_
 refine aB fun K hK => ?_
 refine aB fun K hK => Rg ?_
 have F := @bne_self_eq_false.{0}
 iterate 39 refine SF ?_
 refine T2 (hK _ _ _ ?_)
 clear hK K
 refine CF rfl ?_
 refine aG ?_
 refine T0 (hK _ _ _ ?_)
 clear hK K
 refine aB fun K hK => ?_
 refine R0 ?_
 refine aH ?_
 refine aU (α := {i : Nat // i ≤ r.q.length}) (fun i => (fin [(2, .ptr 0 0), (3, .ptr 4 0), (5, .c (.int .i64 i.1))], fob [(0, .box 26 (.c r.cv)), (4, .box 26 (.c r.cv))])) 200 (fun i => r.q.length - i.1) ⟨0, by omega⟩ (fF) ?_
 rintro ⟨i, hi⟩
 refine aB fun K hK => ?_
 refine aB fun K hK => Rg ?_
 iterate 5 refine S0 ?_
 refine T2 (hK _ _ _ ?_)
 clear hK K
 refine aJ (b := decide ((i : Int) < r.q.length)) rfl (fun hb => ?_) (fun hb => ?_)
 ·
  have hlt : i < r.q.length := by simpa using hb
  clear hb
  refine aG ?_
  refine T0 (hK _ _ _ ?_)
  clear hK K
  refine aB fun K hK => ?_
  refine aH ?_
  refine aB fun K hK => QR ?_
  have F := aI @Int.natCast_nonneg (aI @Int.ofNat_lt (aI hlt (aI (nM hlt) (aI @Qt.cells @cG4))))
  iterate 11 refine SF ?_
  refine T2 (hK _ _ _ ?_)
  clear hK K
  refine CF rfl ?_
  refine aG ?_
  refine T0 (hK _ _ _ ?_)
  clear hK K
  refine aL (by kernel_rfl) ?_
  refine TQ (bK i) ?_
  refine ⟨⟨i + 1, hlt⟩, fF, ?_⟩
  show r.q.length - (i + 1) < r.q.length - i
  omega
 refine aS (T3 ?_)
 clear hK K
 refine AX (hK _ _ _ ?_)
 clear hK K
 refine aB fun K hK => ?_
 refine R0 ?_
 refine aH ?_
 refine aU (α := {i : Nat // i ≤ r.k.length}) (fun i => (fin [(2, .ptr 0 0), (3, .ptr 4 0), (6, .c (.int .i64 i.1))], fob [(0, .box 26 (.c r.cv)), (4, .box 26 (.c r.cv))])) 300 (fun i => r.k.length - i.1) ⟨0, by omega⟩ (fF) ?_
 clear hb
 rintro ⟨i, hi⟩
 refine aB fun K hK => ?_
 refine aB fun K hK => Rg ?_
 iterate 5 refine S0 ?_
 refine T2 (hK _ _ _ ?_)
 clear hK K
 refine aJ (b := decide ((i : Int) < r.k.length)) rfl (fun hb => ?_) (fun hb => ?_)
 ·
  have hlt : i < r.k.length := by simpa using hb
  clear hb
  have hkr := (hr.2.1.2 _ (List.getElem_mem hlt)).2.1
  refine aG ?_
  refine T0 (hK _ _ _ ?_)
  clear hK K
  refine aB fun K hK => ?_
  refine aH ?_
  refine aB fun K hK => DW [(0, [], []), (1, [], []), (2, [], []), (3, [], []), (4, [], []), (5, [], []), (6, [], []), (7, [], []), (8, [], []), (9, [], []), (10, [], []), (11, [], [])] [0, 1, 0, 7, 15, 0, 32, 0, 224, 480, 1023, 2047] ?_
  have F := aI @Int.natCast_nonneg (aI @Int.ofNat_lt (aI hlt (aI (nM hlt) @Ky.cells)))
  iterate 10 refine WF ?_
  refine aO (g := none) rfl rfl fun K' hK' => T6 ?_
  refine C2 (aR7 r.k[i] (by omega)) ?_
  rintro u rfl
  refine AX (hK' _ _ ?_)
  clear hK' K'
  refine WF ?_
  refine T2 (hK _ _ _ ?_)
  clear hK K
  refine CF rfl ?_
  refine aG ?_
  refine T0 (hK _ _ _ ?_)
  clear hK K
  refine aL (by kernel_rfl) ?_
  refine TQ (bK i) ?_
  refine ⟨⟨i + 1, hlt⟩, fF, ?_⟩
  show r.k.length - (i + 1) < r.k.length - i
  omega
 refine aS (T3 ?_)
 clear hK K
 refine AX (hK _ _ _ ?_)
 clear hK K
 refine aB fun K hK => ?_
 refine R0 ?_
 refine aH ?_
 refine aU (α := {i : Nat // i ≤ r.x.length}) (fun i => (fin [(2, .ptr 0 0), (3, .ptr 4 0), (7, .c (.int .i64 i.1))], fob [(0, .box 26 (.c r.cv)), (4, .box 26 (.c r.cv))])) 400 (fun i => r.x.length - i.1) ⟨0, by omega⟩ (fF) ?_
 clear hb
 rintro ⟨i, hi⟩
 refine aB fun K hK => ?_
 refine aB fun K hK => Rg ?_
 iterate 5 refine S0 ?_
 refine T2 (hK _ _ _ ?_)
 clear hK K
 refine aJ (b := decide ((i : Int) < r.x.length)) rfl (fun hb => ?_) (fun hb => ?_)
 ·
  have hlt : i < r.x.length := by simpa using hb
  clear hb
  refine aG ?_
  refine T0 (hK _ _ _ ?_)
  clear hK K
  refine aB fun K hK => ?_
  refine aH ?_
  refine aB fun K hK => QR ?_
  have F := aI @Int.natCast_nonneg (aI @Int.ofNat_lt (aI hlt (aI (nM hlt) (aI @Rv.cells @cG5))))
  iterate 11 refine SF ?_
  refine T2 (hK _ _ _ ?_)
  clear hK K
  refine CF rfl ?_
  refine aG ?_
  refine T0 (hK _ _ _ ?_)
  clear hK K
  refine aL (by kernel_rfl) ?_
  refine TQ (bK i) ?_
  refine ⟨⟨i + 1, hlt⟩, fF, ?_⟩
  show r.x.length - (i + 1) < r.x.length - i
  omega
 refine aS (T3 ?_)
 clear hK K
 refine AX (hK _ _ _ ?_)
 clear hK K
 refine R0 ?_
 refine aD (RT Tryz.results19 ?_)
 exact aC [] (.bool true) rfl rfl

end Go.Proofs.YtenbfeemmpjdhaaGreatDoor

namespace Go.Proofs.YtenbfeemmpjdhaaGreatDoor
open Go Go.Hl Go.Pl
set_option maxRecDepth 10000
set_option maxHeartbeats 16000000
attribute [local simp] tp

theorem rM (i : Nat) (hi : i < 2 ^ 40) : aW Tryz.prog 50 [.int .i64 i] (fun v => v = (aH4 i).cv) := by
 have m1 : (i : Int).tmod 3 = ((i % 3 : Nat) : Int) := rfl
 have m2 : IntKind.i64.wrap ((i : Int) + 1) = ((i + 1 : Nat) : Int) := by rw [IntWalk.i64_in _ (by omega)]; omega
 have m3 := bZ5 (i + 1)
 refine FW Tryz.func50 ?_
 refine R0 ?_
 refine aB fun K hK => Rg ?_
 have F := aI m1 (aI m2 m3)
 iterate 5 refine SF ?_
 refine HS rfl rfl fun K' hK' => T6 ?_
 rw [aO6 (UInt8.ofNat (i + 1)) 77 rfl rfl]
 refine AX (hK' _ _ ?_)
 clear hK' K'
 refine HS rfl rfl fun K' hK' => T6 ?_
 rw [qV _ _ rfl rfl]
 refine AX (hK' _ _ ?_)
 clear hK' K'
 refine SF ?_
 refine T2 (hK _ _ _ ?_)
 clear hK K
 refine aD (RT Tryz.results50 ?_)
 exact aC [] (aH4 i).cv rfl rfl


theorem aR8 (i : Nat) (hi : i < 2 ^ 40) : aW Tryz.prog 47 [.int .i64 i] (fun v => v = dg (mid i)) := by
 refine FW Tryz.func47 ?_
 refine R0 ?_
 refine aB fun K hK => Rg ?_
 refine S0 ?_
 refine HS rfl rfl fun K' hK' => T5 ?_
 refine C1 (rM i hi) ?_
 rintro u rfl
 refine AX (hK' _ _ ?_)
 clear hK' K'
 refine HS rfl rfl fun K' hK' => T5 ?_
 refine C1 (vU (aH4 i)) ?_
 rintro u rfl
 refine AX (hK' _ _ ?_)
 clear hK' K'
 refine S0 ?_
 refine T2 (hK _ _ _ ?_)
 clear hK K
 refine aD (RT Tryz.results47 ?_)
 exact aC [] (dg (mid i)) rfl rfl


theorem zO (l : List Ky) (k : Ky) (hl : l.length < 2 ^ 40) : aW Tryz.prog 49 [.slc (l.map Ky.cv), k.cv] (fun v => v = .slc ((uP l k).map Ky.cv)) := by
 refine FW Tryz.func49 ?_
 refine R0 ?_
 refine R0 ?_
 refine R0 ?_
 refine aB fun K hK => ?_
 refine aH ?_
 refine fE 5 0 70 21 rfl rfl rfl rfl ?_
 refine aU (α := {i : Nat // i ≤ l.length ∧ ∀ x ∈ l.take i, dlt (kid x) (kid k) = true}) (fun i => (fin [(0, .c (.slc (l.map Ky.cv))), (3, .ptr 0 0), (5, .own 16 i.1), (6, .c (.int .i64 i.1))], fob [(0, .box 70 (.c k.cv)), (16, .row 70 21 ((l.take i.1).map Ky.cv))])) 100 (fun i => l.length - i.1) ⟨0, by omega, by simp⟩ (fF) ?_
 rintro ⟨i, hi, h0⟩
 have hti : (l.take i).length = i := by simp; omega
 refine aB fun K hK => ?_
 by_cases hlt : i < l.length
 ·
  refine aB fun K hK => DW [(0, [], []), (1, [], []), (2, [], []), (3, [], []), (4, [], []), (5, [], []), (6, [], []), (7, [], []), (8, [], []), (9, [], []), (11, [], []), (12, [], []), (10, [], [11, 12]), (13, [], []), (14, [], []), (15, [], [])] [0, 0, 2, 7, 15, 31, 31, 127, 255, 511, 1023, 31, 2079, 8191, 16383, 32767] ?_
  have F := aI @Int.natCast_nonneg (aI @Int.ofNat_lt (aI hlt (nM hlt)))
  iterate 12 refine WF ?_
  refine aO (g := some (11, true)) rfl rfl fun K' hK' => T6 ?_
  refine C1 (vU l[i].p) ?_
  rintro u rfl
  refine AX (hK' _ _ ?_)
  clear hK' K'
  refine aO (g := some (11, true)) rfl rfl fun K' hK' => T6 ?_
  refine C1 (vU k.p) ?_
  rintro u rfl
  refine AX (hK' _ _ ?_)
  clear hK' K'
  refine aO (g := some (11, true)) rfl rfl fun K' hK' => T6 ?_
  refine C2 (tA (kid l[i]) (kid k)) ?_
  rintro u rfl
  refine AX (hK' _ _ ?_)
  clear hK' K'
  refine WF ?_
  refine T2 (hK _ _ _ ?_)
  clear hK K
  refine aJ (b := dlt (kid l[i]) (kid k)) rfl (fun hb => ?_) (fun hb => ?_)
  ·
   refine aG ?_
   refine T0 (hK _ _ _ ?_)
   clear hK K
   refine aH ?_
   refine aB fun K hK => Rg ?_
   have F := aI @Int.natCast_nonneg (aI @Int.ofNat_lt (aI hlt (aI (nM hlt) (aI hti @List.length_append.{0}))))
   iterate 8 refine SF ?_
   refine T2 (hK _ _ _ ?_)
   clear hK K
   refine aL (by kernel_rfl) ?_
   refine TQ (bK i) ?_
   refine ⟨⟨i + 1, by omega, fun x hx => ?_⟩, aQ (by omega) ?_ ?_, ?_⟩
   ·
    rw [List.take_succ_eq_append_getElem hlt, List.mem_append, List.mem_singleton] at hx
    rcases hx with hx | rfl
    ·
     exact h0 x hx
    exact hb
   ·
    simp [aY, upd_at, fin_at, HV.men]
   ·
    refine ⟨rfl, by omega, trivial, ?_, by omega, trivial, trivial⟩
    simp only [List.take_succ_eq_append_getElem hlt, List.map_append]
    rfl
   show l.length - (i + 1) < l.length - i
   omega
  refine aS (T3 ?_)
  clear hK K
  refine AX (hK _ _ _ ?_)
  clear hK K
  refine aB fun K hK => DW [(0, [], []), (1, [], []), (2, [], []), (4, [2], []), (5, [2], []), (6, [2], []), (3, [], [4, 5, 6]), (7, [], []), (8, [], [])] [0, 0, 2, 7, 0, 0, 48, 127, 255] ?_
  iterate 9 refine W0 ?_ (e := fun _ h_ => by simp only [sH, ↓sP, sA, tyS, simprocAttr, hti, ← List.map_drop, ← List.map_take, uY]; exact AX h_)
  refine T2 (hK _ _ _ ?_)
  clear hK K
  refine aD (RT Tryz.results49 ?_)
  refine aC [16] (.slc ((l.take i ++ k :: l.drop i).map Ky.cv)) ?_ (by rw [aU1 hi h0 fun h => hb])
  simp [HV.close, upd_at, HV.norm, HV.toC, List.take_of_length_le]
 refine aB fun K hK => DW [(0, [], []), (1, [], []), (2, [], []), (3, [], []), (4, [], []), (5, [], []), (6, [], []), (7, [], []), (8, [], []), (9, [], []), (11, [], []), (12, [], []), (10, [], [11, 12]), (13, [], []), (14, [], []), (15, [], [])] [0, 0, 2, 7, 15, 31, 31, 127, 255, 511, 1023, 31, 2079, 8191, 16383, 32767] ?_
 have F := aI @Int.ofNat_lt hlt
 iterate 16 refine WF ?_
 refine T2 (hK _ _ _ ?_)
 clear hK K
 refine aJ (b := _) rfl (fun hb => ?_) (fun hb => ?_)
 ·
  cases hb
 refine aS (T3 ?_)
 clear hK K
 refine AX (hK _ _ _ ?_)
 clear hK K
 refine aB fun K hK => DW [(0, [], []), (1, [], []), (2, [], []), (4, [2], []), (5, [2], []), (6, [2], []), (3, [], [4, 5, 6]), (7, [], []), (8, [], [])] [0, 0, 2, 7, 0, 0, 48, 127, 255] ?_
 iterate 9 refine W0 ?_ (e := fun _ h_ => by simp only [sH, ↓sP, sA, tyS, simprocAttr, hti, ← List.map_drop, ← List.map_take, uY]; exact AX h_)
 refine T2 (hK _ _ _ ?_)
 clear hK K
 refine aD (RT Tryz.results49 ?_)
 refine aC [16] (.slc ((l.take i ++ k :: l.drop i).map Ky.cv)) ?_ (by rw [aU1 hi h0 fun h => absurd h hlt])
 simp [HV.close, upd_at, HV.norm, HV.toC, List.take_of_length_le]


theorem bU8 (L : List Int) (a : Nat) (ha : a + 20 < 2 ^ 40) : bO8 Tryz.prog 69 39 (tp L a) [] (fun u v' => ∃ (ws : List aK) (a' : Nat), u = .slc (ws.map .str) ∧ v' = tp L a' ∧ a' ≤ a + 10 ∧ ws.length ≤ 11 ∧ ∀ w ∈ ws, w ∈ roles10) := by
 refine bH Tryz.func69 rfl (by kernel_rfl) (fY _ _ _) (Nat.le_of_ble_eq_true rfl) ?_
 refine R0 ?_
 refine R0 ?_
 refine aB fun K hK => Rg ?_
 refine HS rfl rfl fun K' hK' => T5 ?_
 refine C0 vG ?_
 rintro u rfl
 refine AX (hK' _ _ ?_)
 clear hK' K'
 refine S0 ?_
 refine T2 (hK _ _ _ ?_)
 clear hK K
 refine aB fun K hK => ?_
 refine R0 ?_
 refine aH ?_
 refine fE 3 0 9 1 rfl rfl rfl rfl ?_
 refine aU (α := {x : Nat × Nat × List aK // x.1 ≤ 10 ∧ x.2.1 ≤ a + x.1 ∧ x.2.2.length ≤ x.1 ∧ ∀ w ∈ x.2.2, w ∈ roles10}) (fun x => (fin [(0, .ptr 0 0), (3, .own 21 x.1.2.2.length), (4, .c (.slc (roles10.map .str))), (5, .c (.int .i64 x.1.1))], fob [(0, .box 39 (.c (tp L x.1.2.1))), (21, .row 9 1 (x.1.2.2.map .str))])) 100 (fun x => 10 - x.1.1) ⟨(0, a, []), by omega, by simp, by simp, by simp⟩ (fF) ?_
 rintro ⟨⟨i, b, ws⟩, hi, hb0, hwl, hwm⟩
 simp only at hi hb0 hwl hwm ⊢
 have hrl : (roles10.map CV.str).length = 10 := rfl
 refine aB fun K hK => ?_
 refine aB fun K hK => Rg ?_
 have F := hrl
 iterate 4 refine SF ?_
 refine T2 (hK _ _ _ ?_)
 clear hK K
 refine aJ (b := decide ((i : Int) < 10)) rfl (fun hb => ?_) (fun hb => ?_)
 ·
  have hlt : i < 10 := by simp at hb; omega
  have hlt' : (i : Int) < 10 := by omega
  have hlr : i < roles10.length := hlt
  refine aG ?_
  refine T0 (hK _ _ _ ?_)
  clear hK K
  refine aB fun K hK => ?_
  have key : ∀ (b' : Nat) (ws' : List aK) fr ob nx, b' ≤ a + (i + 1) → ws'.length ≤ i + 1 → (∀ w ∈ ws', w ∈ roles10) → Fits 1 fr ob (fin [(0, .ptr 0 0), (3, .own 21 ws'.length), (4, .c (.slc (roles10.map .str))), (5, .c (.int .i64 i))]) (fob [(0, .box 39 (.c (tp L b'))), (21, .row 9 1 (ws'.map .str))]) 300 → K fr ob nx := by
   intro b' ws' fr ob nx w1 w2 w3 hf
   refine hK _ _ _ (bF hf ?_)
   clear hf hK K
   refine aL (by kernel_rfl) ?_
   refine TQ (bK i) ?_
   refine ⟨⟨(i + 1, b', ws'), hlt, w1, w2, w3⟩, fF, ?_⟩
   show 10 - (i + 1) < 10 - i
   omega
  refine aH ?_
  refine aB fun K hK => Rg ?_
  refine S0 ?_
  refine HS rfl rfl fun K' hK' => T5 ?_
  refine bU (args := [_]) (cT L b 3 (by omega) (by omega)) rfl (by simp) ⟨rfl, rfl, rfl, rfl⟩ ?_
  rintro u v' ⟨x, b', rfl, rfl, h1, h2, h3, h4⟩
  refine AX (hK' _ _ ?_)
  clear hK' K'
  refine S0 ?_
  refine T2 (hK _ _ _ ?_)
  clear hK K
  refine aJ (b := decide (0 < x)) rfl (fun hb => ?_) (fun hb => ?_)
  ·
   refine Rg ?_
   have F := aI @Int.natCast_nonneg (aI hrl (aI hlt' (aI hlr (aI (nM hlr) @List.length_append.{0}))))
   iterate 8 refine SF ?_
   refine T4 ?_
   exact key b' (ws ++ [roles10[i]]) _ _ _ (by omega) (by simp; omega) (fun w hw => by
    rcases List.mem_append.1 hw with hw | hw
    ·
     exact hwm w hw
    rw [List.mem_singleton] at hw; rw [hw]; exact List.getElem_mem _) (fF)
  refine aG (T3 ?_)
  exact key b' ws _ _ _ (by omega) (by omega) hwm (fF)
 clear hb
 refine aS (T3 ?_)
 clear hK K
 refine AX (hK _ _ _ ?_)
 clear hK K
 refine aB fun K hK => ?_
 have key : ∀ (ws' : List aK) fr ob nx, ws'.length ≤ 11 → (∀ w ∈ ws', w ∈ roles10) → Fits 1 fr ob (fin [(0, .ptr 0 0), (3, .own 21 ws'.length)]) (fob [(0, .box 39 (.c (tp L b))), (21, .row 9 1 (ws'.map .str))]) 300 → K fr ob nx := by
  intro ws' fr ob nx w2 w3 hf
  refine hK _ _ _ (bF hf ?_)
  clear hf hK K
  refine R0 ?_
  refine aD (RT Tryz.results69 ?_)
  refine jL [21] (.slc (ws'.map .str)) (tp L b) ?_ rfl ?_ (by simp) ⟨ws', b, rfl, rfl, by omega, w2, w3⟩
  ·
   simp [HV.close, HV.norm, HV.toC, fob_at]
  simp [HV.close, HV.closeL, tp, CV.denil, CV.denilL, denilL_int, HV.norm, HV.toC, HV.toCL]
 refine R0 ?_
 refine aJ (b := (ws.length : Int) == 0) rfl (fun hb => ?_) (fun hb => ?_)
 ·
  refine Rg ?_
  have F := @List.length_append.{0}
  iterate 4 refine SF ?_
  refine T4 ?_
  exact key (ws ++ [uO]) _ _ _ (by simp; omega) (fun w hw => by
   rcases List.mem_append.1 hw with hw | hw
   ·
    exact hwm w hw
   rw [List.mem_singleton] at hw; rw [hw]; exact bI0) (aQ (by omega) (by simp [aY, fin_at, finA_at, upd_at, HV.men, HV.menL, HV.norm, HV.toC, HV.toCL]) (by simp [bC, fob_at, upd_at, none0_at, bT, HO.men, HV.men, HV.menL, HV.norm, HV.toC, HV.toCL]; rfl))
 refine aG (T3 ?_)
 exact key ws _ _ _ (by omega) hwm (fF)


end Go.Proofs.YtenbfeemmpjdhaaGreatDoor

namespace Go.Proofs.YtenbfeemmpjdhaaGreatDoor
open Go Go.Hl Go.Pl
set_option maxRecDepth 10000
set_option maxHeartbeats 16000000
attribute [local simp] tp

theorem bD4 (r : Rt) (x : Rv) (hr : rSz r) : aW Tryz.prog 52 [r.cv, x.cv] (fun v => ∃ xs : List Rv, v = (Rt.mk r.v r.e r.q r.k xs).cv ∧ xs.length ≤ r.x.length + 1) := by
 have hlx : r.x.length < 2 ^ 40 := hr.2.2
 refine FW Tryz.func52 ?_
 refine R0 ?_
 refine R0 ?_
 refine aB fun K hK => ?_
 refine R0 ?_
 refine aH ?_
 refine fE 5 0 51 33 rfl rfl rfl rfl ?_
 refine aU (α := {y : Nat × List Rv // y.1 ≤ r.x.length ∧ y.2.length ≤ y.1}) (fun y => (fin [(2, .ptr 0 0), (3, .ptr 4 0), (4, .ptr 8 0), (5, .own 20 y.1.2.length), (6, .c (.int .i64 y.1.1))], fob [(0, .box 26 (.c r.cv)), (4, .box 51 (.c x.cv)), (8, .box 26 (.c zR)), (20, .row 51 33 (y.1.2.map Rv.cv))])) 100 (fun y => r.x.length - y.1.1) ⟨(0, []), by simp, by simp⟩ (aQ (by omega) (by simp [aY, fin_at, finA_at, upd_at, HV.men, HV.menL, HV.norm, HV.toC, HV.toCL]) (by simp [bC, fob_at, upd_at, none0_at, bT, HO.men, HV.men, HV.menL, HV.norm, HV.toC, HV.toCL]; rfl)) ?_
 rintro ⟨⟨i, ys⟩, hi, hy⟩
 simp only at hi hy ⊢
 refine aB fun K hK => ?_
 refine aB fun K hK => Rg ?_
 iterate 5 refine S0 ?_
 refine T2 (hK _ _ _ ?_)
 clear hK K
 refine aJ (b := decide ((i : Int) < r.x.length)) rfl (fun hb => ?_) (fun hb => ?_)
 ·
  have hlt : i < r.x.length := by simpa using hb
  refine aG ?_
  refine T0 (hK _ _ _ ?_)
  clear hK K
  refine aB fun K hK => ?_
  have key : ∀ (ys' : List Rv) fr ob nx, ys'.length ≤ i + 1 → Fits 0 fr ob (fin [(2, .ptr 0 0), (3, .ptr 4 0), (4, .ptr 8 0), (5, .own 20 ys'.length), (6, .c (.int .i64 i))]) (fob [(0, .box 26 (.c r.cv)), (4, .box 51 (.c x.cv)), (8, .box 26 (.c zR)), (20, .row 51 33 (ys'.map Rv.cv))]) 400 → K fr ob nx := by
   intro ys' fr ob nx w1 hf
   refine hK _ _ _ (bF hf ?_)
   clear hf hK K
   refine aL (by kernel_rfl) ?_
   refine TQ (bK i) ?_
   refine ⟨⟨(i + 1, ys'), hlt, w1⟩, fF, ?_⟩
   show r.x.length - (i + 1) < r.x.length - i
   omega
  refine aH ?_
  refine aB fun K hK => QR ?_
  have F := aI @Int.natCast_nonneg (aI @Int.ofNat_lt (aI hlt (nM hlt)))
  iterate 9 refine SF ?_
  refine T2 (hK _ _ _ ?_)
  clear hK K
  refine aJ (b := !(r.x[i].k == x.k)) rfl (fun hb => ?_) (fun hb => ?_)
  ·
   refine Rg ?_
   have F := aI @Int.natCast_nonneg (aI @Int.ofNat_lt (aI hlt (aI (nM hlt) @List.length_append.{0})))
   iterate 9 refine SF ?_
   refine T4 ?_
   exact key (ys ++ [r.x[i]]) _ _ _ (by simp; omega) (fF)
  refine aG (T3 ?_)
  exact key ys _ _ _ (by omega) (fF)
 clear hb
 refine aS (T3 ?_)
 clear hK K
 refine AX (hK _ _ _ ?_)
 clear hK K
 refine aB fun K hK => Rg ?_
 have F := @List.length_append.{0}
 iterate 5 refine SF ?_
 refine T2 (hK _ _ _ ?_)
 clear hK K
 refine aB fun K hK => ?_
 have key : ∀ (ws : List Rv) fr ob nx, ws.length ≤ r.x.length + 1 → Fits 0 fr ob (fin [(2, .ptr 0 0), (4, .ptr 8 0), (5, .own 20 ws.length)]) (fob [(0, .box 26 (.c r.cv)), (8, .box 26 (.c zR)), (20, .row 51 33 (ws.map Rv.cv))]) 600 → K fr ob nx := by
  intro ws fr ob nx w1 hf
  refine hK _ _ _ (bF hf ?_)
  clear hf hK K
  refine cM [20] (bF (fr2 := fin [(2, .ptr 0 0), (4, .ptr 8 0), (5, .c (.slc (ws.map Rv.cv)))]) (ob2 := fob [(0, .box 26 (.c r.cv)), (8, .box 26 (.c (Rt.cv ⟨0, 0, [], [], []⟩)))]) (nx2 := 700) (aQ (by omega) (by simp [aY, cQ, fin_at, finA_at, upd_at, fob_at, HV.close, HV.closeL, CV.denil, CV.denilL, denilL_str, denilL_Rv, denilL_Qt, denilL_Ky, HV.men, HV.menL, HV.norm, HV.toC, HV.toCL]) (by simp [bC, cR, fob_at, upd_at, none0_at, bT, HO.close, HV.close, HV.closeL, HO.men, HV.men, HV.menL, HV.norm, HV.toC, HV.toCL, Rt.denil, zR, Rt.cv, CV.denil, CV.denilL, denilL_str, denilL_Rv, denilL_Qt, denilL_Ky])) ?_)
  refine aB fun K hK => Rg ?_
  iterate 3 refine S0 ?_
  refine T2 (hK _ _ _ ?_)
  clear hK K
  refine R0 ?_
  refine aD (RT Tryz.results52 ?_)
  exact aC [] (Rt.mk r.v r.e r.q r.k ws).cv (eT (Rt.denil _)) ⟨ws, rfl, w1⟩
 refine bF (fr2 := fin [(2, .ptr 0 0), (3, .ptr 4 0), (4, .ptr 8 0), (5, .own 20 (ys ++ [x]).length)]) (ob2 := fob [(0, .box 26 (.c r.cv)), (4, .box 51 (.c x.cv)), (8, .box 26 (.c zR)), (20, .row 51 33 ((ys ++ [x]).map Rv.cv))]) (nx2 := 400) (fF) ?_
 obtain ⟨zs, hzs⟩ : ∃ zs, zs = ys ++ [x] := ⟨_, rfl⟩
 have hzl : zs.length = ys.length + 1 := by rw [hzs]; simp
 rw [← hzs]
 clear hzs
 have m1 : IntKind.i64.wrap ((zs.length : Int) - 1) = ((zs.length - 1 : Nat) : Int) := by rw [IntWalk.i64_in _ (by omega)]; omega
 refine aB fun K hK => Rg ?_
 have F := m1
 iterate 4 refine SF ?_
 refine T2 (hK _ _ _ ?_)
 clear hK K
 refine aH ?_
 refine aU (α := {y : Nat × List Rv // y.1 < zs.length ∧ y.2.length = zs.length}) (fun y => (fin [(2, .ptr 0 0), (3, .ptr 4 0), (4, .ptr 8 0), (5, .own 20 zs.length), (7, .c (.int .i64 y.1.1))], fob [(0, .box 26 (.c r.cv)), (4, .box 51 (.c x.cv)), (8, .box 26 (.c zR)), (20, .row 51 33 (y.1.2.map Rv.cv))])) 500 (fun y => y.1.1) ⟨(zs.length - 1, zs), by simp only; omega, rfl⟩ (fF) ?_
 rintro ⟨⟨j, ws⟩, hj, hw⟩
 simp only at hj hw ⊢
 have hjw : j < ws.length := by omega
 have hj1 : j - 1 < ws.length := by omega
 have hj2 : j - 1 < zs.length := by omega
 have hm : 0 < j → IntKind.i64.wrap ((j : Int) - 1) = ((j - 1 : Nat) : Int) := fun h => by rw [IntWalk.i64_in _ (by omega)]; omega
 have hwl : (ws.map Rv.cv).length = zs.length := by rw [List.length_map, hw]
 have hwne : ¬ ws = [] := by rintro rfl; simp at hw; omega
 refine aB fun K hK => ?_
 by_cases h0 : 0 < j
 ·
  refine aB fun K hK => DW [(0, [], []), (1, [], []), (2, [], []), (3, [], []), (4, [], []), (5, [], []), (6, [], []), (7, [], []), (8, [], []), (9, [], []), (10, [], []), (11, [], []), (12, [], []), (13, [], []), (14, [], []), (15, [], [])] [0, 1, 3, 7, 7, 31, 63, 127, 7, 7, 519, 1799, 3847, 7943, 16383, 32767] ?_
  iterate 14 refine W0 ?_ (e := fun _ h_ => by simp only [sH, ↓sP, sA, tyS, simprocAttr, List.map_eq_nil_iff, hwne, Int.natCast_pos, h0, hm, hw, hj, hj2, hjw, hj1, aN hjw, aN hj1, Int.natCast_nonneg, Int.ofNat_lt]; exact AX h_)
  refine aO (g := some (41, true)) rfl rfl fun K' hK' => ?_
  simp only [sH, ↓sP, sA, tyS, simprocAttr, List.map_eq_nil_iff, hwne, Int.natCast_pos, h0, hm, hw, hj, hj2, hjw, hj1, aN hjw, aN hj1, Int.natCast_nonneg, Int.ofNat_lt]
  refine C2 (tA ws[j].k ws[j - 1].k) ?_
  rintro u rfl
  refine AX (hK' _ _ ?_)
  clear hK' K'
  refine W0 ?_ (e := fun _ h_ => by simp only [sH, ↓sP, sA, tyS, simprocAttr, List.map_eq_nil_iff, hwne, Int.natCast_pos, h0, hm, hw, hj, hj2, hjw, hj1, aN hjw, aN hj1, Int.natCast_nonneg, Int.ofNat_lt]; exact AX h_)
  refine T2 (hK _ _ _ ?_)
  clear hK K
  refine aJ (b := dlt ws[j].k ws[j - 1].k) rfl (fun hb => ?_) (fun hb => ?_)
  ·
   refine aG ?_
   refine T0 (hK _ _ _ ?_)
   clear hK K
   refine aB fun K hK => ?_
   refine aH ?_
   have hjs : j - 1 < (ws.set j ws[j - 1]).length := by rw [List.length_set]; exact hj1
   refine DW [(0, [], []), (1, [], []), (2, [], []), (3, [], []), (4, [], []), (5, [], []), (6, [], []), (7, [], []), (8, [], []), (9, [], []), (10, [], []), (11, [], []), (12, [], []), (13, [], []), (14, [], []), (15, [], [2, 3, 4]), (16, [], []), (17, [], [])] [0, 0, 0, 0, 8, 0, 0, 64, 224, 480, 0, 0, 3072, 7168, 16355, 32739, 65535, 131071] ?_
   iterate 18 refine W0 ?_ (e := fun _ h_ => by simp only [sH, ↓sP, sA, tyS, simprocAttr, aN hjs, List.map_eq_nil_iff, List.set_eq_nil_iff, hwne, hm, h0, hw, hj, hj2, hjw, hj1, aN hjw, aN hj1, Int.natCast_nonneg, Int.ofNat_lt, List.length_set, ← List.map_set]; exact AX h_)
   refine T2 (hK _ _ _ ?_)
   clear hK K
   refine aL (by kernel_rfl) ?_
   simp only [↓sP, sA, tyS, simprocAttr, hm, h0]
   refine ⟨⟨(j - 1, (ws.set j ws[j - 1]).set (j - 1) ws[j]), by simp only; omega, by simp [hw]⟩, fF, ?_⟩
   show j - 1 < j
   omega
  refine aS (T3 ?_)
  clear hK K
  rw [← hw] 
  exact key ws _ _ _ (by omega) (fF)
 refine aB fun K hK => DW [(0, [], []), (1, [], []), (2, [], []), (3, [], []), (4, [], []), (5, [], []), (6, [], []), (7, [], []), (8, [], []), (9, [], []), (10, [], []), (11, [], []), (12, [], []), (13, [], []), (14, [], []), (15, [], [])] [0, 1, 3, 7, 7, 31, 63, 127, 7, 7, 519, 1799, 3847, 7943, 16383, 32767] ?_
 have F := aI @Int.natCast_pos h0
 iterate 16 refine WF ?_
 refine T2 (hK _ _ _ ?_)
 clear hK K
 refine aJ (b := _) rfl (fun hb => ?_) (fun hb => ?_)
 ·
  cases hb
 refine aS (T3 ?_)
 clear hK K
 rw [← hw] 
 exact key ws _ _ _ (by omega) (fF)


theorem aM2 : aW Tryz.prog 13 [] (fun v => v = full.cv) := by
 refine FW Tryz.func13 ?_
 refine R0 ?_
 refine R0 ?_
 refine aB fun K hK => Rg ?_
 refine HS rfl rfl fun K' hK' => T5 ?_
 refine C0 vG ?_
 rintro u rfl
 refine AX (hK' _ _ ?_)
 clear hK' K'
 refine S0 ?_
 refine T2 (hK _ _ _ ?_)
 clear hK K
 refine aB fun K hK => ?_
 refine R0 ?_
 refine aH ?_
 refine gQ 8 2 64 2 rfl rfl rfl rfl ?_
 refine aU (α := {i : Nat // i ≤ 10}) (fun i => (fin [(0, .ptr 0 0), (1, .ptr 8 0), (2, .c (.slc (roles10.map .str))), (3, .c (.int .i64 i.1))], fob [(0, .box 26 (.c zR)), (8, .box 26 (.agg [.c (.int .i64 1), .c (.int .i64 1099511627776), .own 28 i.1, .c .nils, .c .nils])), (28, .row 64 2 ((qz i.1).map Qt.cv))])) 100 (fun i => 10 - i.1) ⟨0, by omega⟩ (aQ (by omega) (by simp [aY, fin_at, finA_at, upd_at, HV.men, HV.menL, HV.norm, HV.toC, HV.toCL]) (by simp [bC, fob_at, upd_at, none0_at, bT, HO.men, HV.men, HV.menL, HV.norm, HV.toC, HV.toCL, zR, qz])) ?_
 rintro ⟨i, hi⟩
 have hrl : (roles10.map CV.str).length = 10 := rfl
 have hql := bI1 hi
 have hq10 : full.q.length = 10 := rfl
 refine aB fun K hK => ?_
 refine aB fun K hK => Rg ?_
 have F := hrl
 iterate 4 refine SF ?_
 refine T2 (hK _ _ _ ?_)
 clear hK K
 refine aJ (b := decide ((i : Int) < 10)) rfl (fun hb => ?_) (fun hb => ?_)
 ·
  have hlt : i < 10 := by simp at hb; omega
  have hlt' : (i : Int) < 10 := by omega
  have hlr : i < roles10.length := hlt
  refine aG ?_
  refine T0 (hK _ _ _ ?_)
  clear hK K
  refine aB fun K hK => ?_
  refine aH ?_
  refine DW [(0, [], []), (1, [], []), (2, [], []), (3, [], []), (4, [], []), (5, [], []), (6, [], []), (7, [], []), (8, [], []), (9, [], []), (10, [], [])] [0, 1, 0, 0, 12, 28, 60, 124, 255, 511, 1023] ?_
  have F := aI @Int.natCast_nonneg (aI hrl (aI hlt' (aI hlr (aI (nM hlr) (aI @List.length_append.{0} hql)))))
  iterate 6 refine WF ?_
  refine aO (g := none) rfl rfl fun K' hK' => T6 ?_
  rw [qW _ _ rfl rfl]
  refine AX (hK' _ _ ?_)
  clear hK' K'
  iterate 4 refine WF ?_
  refine T2 (hK _ _ _ ?_)
  clear hK K
  refine aL (by kernel_rfl) ?_
  refine TQ (bK i) ?_
  refine ⟨⟨i + 1, hlt⟩, aQ (by omega) (by simp [aY, fin_at, finA_at, upd_at, HV.men, HV.menL, HV.norm, HV.toC, HV.toCL]) (by simp [bC, fob_at, upd_at, none0_at, bT, HO.men, HV.men, HV.menL, HV.norm, HV.toC, HV.toCL, zR, bQ2 hlr]), ?_⟩
  show 10 - (i + 1) < 10 - i
  omega
 refine aS (T3 ?_)
 clear hK K
 refine AX (hK _ _ _ ?_)
 clear hK K
 refine aB fun K hK => ?_
 have hei : i = 10 := by simp at hb; omega
 subst hei
 clear hb
 refine cM [28] (bF (fr2 := fin [(0, .ptr 0 0), (1, .ptr 8 0), (2, .c (.slc (roles10.map .str)))]) (ob2 := fob [(0, .box 26 (.c (Rt.cv ⟨0, 0, [], [], []⟩))), (8, .box 26 (.c (Rt.cv ⟨1, 1099511627776, full.q, [], []⟩)))]) (nx2 := 200) (aQ (by omega) (by simp [aY, cQ, fin_at, finA_at, upd_at, fob_at, HV.close, HV.closeL, CV.denil, CV.denilL, denilL_str, denilL_Rv, denilL_Qt, denilL_Ky, HV.men, HV.menL, HV.norm, HV.toC, HV.toCL]) (by simp [bC, cR, fob_at, upd_at, none0_at, bT, HO.close, HV.close, HV.closeL, HO.men, HV.men, HV.menL, HV.norm, HV.toC, HV.toCL, Rt.denil, zR, Rt.cv, CV.denil, CV.denilL, denilL_str, denilL_Rv, denilL_Qt, denilL_Ky, hql, bI2, hq10])) ?_)
 refine R0 ?_
 refine aH ?_
 refine aU (α := {i : Nat // i ≤ 5}) (fun i => (fin [(0, .ptr 0 0), (1, .ptr 8 0), (2, .c (.slc (roles10.map .str))), (4, .c (.int .i64 i.1))], fob [(0, .box 26 (.c (Rt.cv ⟨0, 0, [], [], []⟩))), (8, .box 26 (.c (Rt.cv ⟨1, 1099511627776, full.q, kz i.1, []⟩)))])) 300 (fun i => 5 - i.1) ⟨0, by omega⟩ (aQ (by omega) (by simp [aY, fin_at, finA_at, upd_at, HV.men, HV.menL, HV.norm, HV.toC, HV.toCL]) (by simp [bC, fob_at, upd_at, none0_at, bT, HO.men, HV.men, HV.menL, HV.norm, HV.toC, HV.toCL]; rfl)) ?_
 rintro ⟨i, hi⟩
 have hkl := aO8 i
 refine aB fun K hK => ?_
 refine R0 ?_
 refine aJ (b := decide ((i : Int) < 5)) rfl (fun hb => ?_) (fun hb => ?_)
 ·
  have hlt : i < 5 := by simp at hb; omega
  refine aG ?_
  refine T0 (hK _ _ _ ?_)
  clear hK K
  refine aB fun K hK => ?_
  refine aH ?_
  refine DW [(0, [], []), (1, [], []), (2, [], []), (4, [], []), (6, [], []), (3, [], [0, 1, 4, 6]), (5, [], [0, 1, 6]), (7, [], []), (8, [], []), (9, [], []), (10, [], [])] [0, 1, 0, 4, 0, 28, 0, 124, 255, 511, 1023] ?_
  have F := aI @denilL_Ky (aI @denilL_str @Rt.fold)
  iterate 5 refine WF ?_
  refine aO (g := none) rfl rfl fun K' hK' => T6 ?_
  refine C1 (rM i (by omega)) ?_
  rintro u rfl
  refine AX (hK' _ _ ?_)
  clear hK' K'
  refine aO (g := none) rfl rfl fun K' hK' => T6 ?_
  refine C1 (aJ7 i (by omega)) ?_
  rintro u rfl
  refine AX (hK' _ _ ?_)
  clear hK' K'
  refine WF ?_
  refine aO (g := none) rfl rfl fun K' hK' => T6 ?_
  refine C2 (zO (kz i) (bP4 i) (by omega)) ?_
  rintro u rfl
  refine AX (hK' _ _ ?_)
  clear hK' K'
  iterate 2 refine WF ?_
  refine T2 (hK _ _ _ ?_)
  clear hK K
  refine aL (by kernel_rfl) ?_
  refine TQ (bK i) ?_
  refine ⟨⟨i + 1, hlt⟩, aQ (by omega) (by simp [aY, fin_at, finA_at, upd_at, HV.men, HV.menL, HV.norm, HV.toC, HV.toCL]) (by simp [bC, fob_at, upd_at, none0_at, bT, HO.men, HV.men, HV.menL, HV.norm, HV.toC, HV.toCL, aC1]; rfl), ?_⟩
  show 5 - (i + 1) < 5 - i
  omega
 refine aS (T3 ?_)
 clear hK K
 refine AX (hK _ _ _ ?_)
 clear hK K
 have hei : i = 5 := by simp at hb; omega
 subst hei
 clear hb
 refine R0 ?_
 refine aD (RT Tryz.results13 ?_)
 exact aC [] (Rt.cv ⟨1, 1099511627776, full.q, kz 5, []⟩) (eT (Rt.denil _)) (by rw [aO9]; rfl)

end Go.Proofs.YtenbfeemmpjdhaaGreatDoor

namespace Go.Proofs.YtenbfeemmpjdhaaGreatDoor
open Go Go.Hl Go.Pl
set_option maxRecDepth 10000
set_option maxHeartbeats 16000000
attribute [local simp] tp

theorem bU9 (L : List Int) (a : Nat) (v : Int) (ha : a + 200 < 2 ^ 40) : bO8 Tryz.prog 22 39 (tp L a) [.int .i64 v] (fun u v' => ∃ (r : Rt) (a' : Nat), u = r.cv ∧ v' = tp L a' ∧ a' ≤ a + 150 ∧ rOk r ∧ (1 ≤ v → v ≤ eD → bQ r = true)) := by
 refine bH Tryz.func22 rfl (by kernel_rfl) (fY _ _ _) (Nat.le_of_ble_eq_true rfl) ?_
 refine R0 ?_
 refine aB fun K hK => Rg ?_
 iterate 2 refine S0 ?_
 refine HS rfl rfl fun K' hK' => T5 ?_
 refine bU (args := [_]) (cT L a 100 (by omega) (by omega)) rfl (by simp) ⟨rfl, rfl, rfl, rfl⟩ ?_
 rintro u v' ⟨x0, a1, rfl, rfl, h1, h2, h3, h4⟩
 refine AX (hK' _ _ ?_)
 clear hK' K'
 iterate 4 refine S0 ?_
 refine T2 (hK _ _ _ ?_)
 clear hK K
 refine aB fun K hK => Rg ?_
 refine HS rfl rfl fun K' hK' => T5 ?_
 refine C0 vG ?_
 rintro u rfl
 refine AX (hK' _ _ ?_)
 clear hK' K'
 refine S0 ?_
 refine T2 (hK _ _ _ ?_)
 clear hK K
 refine aB fun K hK => ?_
 refine R0 ?_
 refine aH ?_
 obtain ⟨e0, he0⟩ : ∃ e0, e0 = IntKind.i64.wrap (20 + x0) := ⟨_, rfl⟩
 refine gQ 25 2 64 2 rfl rfl rfl rfl ?_
 refine aU (α := {y : Nat × Nat × List Qt // y.1 ≤ 10 ∧ y.2.1 ≤ a + 1 + 2 * y.1 ∧ y.2.2.length ≤ y.1 ∧ ∀ q ∈ y.2.2, q.r ∈ roles10}) (fun y => (fin [(0, .ptr 0 0), (1, .c (.int .i64 v)), (4, .ptr 1 0), (5, .ptr 25 0), (6, .c (.slc (roles10.map .str))), (7, .c (.int .i64 y.1.1))], fob [(0, .box 39 (.c (tp L y.1.2.1))), (1, .box 26 (.c zR)), (25, .box 26 (.agg [.c (.int .i64 v), .c (.int .i64 e0), .own 45 y.1.2.2.length, .c .nils, .c .nils])), (45, .row 64 2 (y.1.2.2.map Qt.cv))])) 100 (fun y => 10 - y.1.1) ⟨(0, a1, []), by simp, by simp only; omega, by simp, by simp⟩ (aQ (by omega) (by simp [aY, fin_at, finA_at, upd_at, HV.men, HV.menL, HV.norm, HV.toC, HV.toCL]) (by simp [bC, fob_at, upd_at, none0_at, bT, HO.men, HV.men, HV.menL, HV.norm, HV.toC, HV.toCL, zR, he0])) ?_
 clear he0 h1 h2 h3 h4
 rintro ⟨⟨i, b, qs⟩, hi, hb0, hql, hqm⟩
 simp only at hi hb0 hql hqm ⊢
 have hrl : (roles10.map CV.str).length = 10 := rfl
 refine aB fun K hK => ?_
 refine aB fun K hK => Rg ?_
 have F := hrl
 iterate 4 refine SF ?_
 refine T2 (hK _ _ _ ?_)
 clear hK K
 refine aJ (b := decide ((i : Int) < 10)) rfl (fun hb => ?_) (fun hb => ?_)
 ·
  have hlt : i < 10 := by simp at hb; omega
  have hlt' : (i : Int) < 10 := by omega
  have hlr : i < roles10.length := hlt
  refine aG ?_
  refine T0 (hK _ _ _ ?_)
  clear hK K
  refine aB fun K hK => ?_
  have key : ∀ (b' : Nat) (qs' : List Qt) fr ob nx, b' ≤ a + 1 + 2 * (i + 1) → qs'.length ≤ i + 1 → (∀ q ∈ qs', q.r ∈ roles10) → Fits 1 fr ob (fin [(0, .ptr 0 0), (1, .c (.int .i64 v)), (4, .ptr 1 0), (5, .ptr 25 0), (6, .c (.slc (roles10.map .str))), (7, .c (.int .i64 i))]) (fob [(0, .box 39 (.c (tp L b'))), (1, .box 26 (.c zR)), (25, .box 26 (.agg [.c (.int .i64 v), .c (.int .i64 e0), .own 45 qs'.length, .c .nils, .c .nils])), (45, .row 64 2 (qs'.map Qt.cv))]) 400 → K fr ob nx := by
   intro b' qs' fr ob nx w1 w2 w3 hf
   refine hK _ _ _ (bF hf ?_)
   clear hf hK K
   refine aL (by kernel_rfl) ?_
   refine TQ (bK i) ?_
   refine ⟨⟨(i + 1, b', qs'), hlt, w1, w2, w3⟩, fF, ?_⟩
   show 10 - (i + 1) < 10 - i
   omega
  refine aH ?_
  refine aB fun K hK => Rg ?_
  have F := aI @Int.natCast_nonneg (aI hrl (aI hlt' (aI hlr (nM hlr))))
  refine SF ?_
  refine HS rfl rfl fun K' hK' => T6 ?_
  refine bU (args := [_]) (cT L b 8 (by omega) (by omega)) rfl (by simp) ⟨rfl, rfl, rfl, rfl⟩ ?_
  rintro u v' ⟨x1, b1, rfl, rfl, g1, g2, g3, g4⟩
  refine AX (hK' _ _ ?_)
  clear hK' K'
  iterate 2 refine SF ?_
  refine aF 25 rfl (fun h6_25 => ?_) (fun h6_25 => ?_)
  ·
   have F := aI @Int.natCast_nonneg (aI hrl (aI hlt' (aI hlr (aI (nM hlr) h6_25))))
   iterate 6 refine SF ?_
   refine T2 (hK _ _ _ ?_)
   clear hK K
   refine CT rfl ?_
   refine DW [(0, [], []), (1, [], []), (2, [], []), (3, [], []), (4, [], []), (5, [], []), (6, [], []), (7, [], [0, 1, 2, 3, 4, 5]), (8, [], []), (9, [], []), (10, [], []), (11, [], []), (12, [], []), (13, [], []), (14, [], [])] [0, 1, 0, 0, 12, 28, 0, 64, 192, 448, 1020, 2044, 4095, 8191, 16383] ?_
   have F := aI @Int.natCast_nonneg (aI hrl (aI hlt' (aI hlr (aI (nM hlr) (aI @List.length_append.{0} h6_25)))))
   iterate 7 refine WF ?_
   refine aO (g := none) rfl rfl fun K' hK' => T6 ?_
   refine bU (args := [_]) (cT L b1 5 (by omega) (by omega)) rfl (by simp) ⟨rfl, rfl, rfl, rfl⟩ ?_
   rintro u v' ⟨x2, b2, rfl, rfl, k1, k2, k3, k4⟩
   refine AX (hK' _ _ ?_)
   clear hK' K'
   iterate 2 refine WF ?_
   refine aO (g := none) rfl rfl fun K' hK' => T6 ?_
   rw [qW _ _ rfl rfl]
   refine AX (hK' _ _ ?_)
   clear hK' K'
   iterate 4 refine WF ?_
   refine T4 ?_
   exact key b2 (qs ++ [⟨roles10[i], IntKind.i64.wrap (1 + IntKind.i64.wrap (x2.tdiv 3))⟩]) _ _ _ (by omega) (by simp; omega) (fun q hq => by
    rcases List.mem_append.1 hq with hq | hq
    ·
     exact hqm q hq
    rw [List.mem_singleton] at hq; rw [hq]; exact List.getElem_mem _) (fF)
  have F := aI @Int.natCast_nonneg (aI hrl (aI hlt' (aI hlr (aI (nM hlr) h6_25))))
  iterate 6 refine SF ?_
  refine aF 31 rfl (fun h6_31 => ?_) (fun h6_31 => ?_)
  ·
   simp only [h6_31]
   refine T2 (hK _ _ _ ?_)
   clear hK K
   refine CT rfl ?_
   refine DW [(0, [], []), (1, [], []), (2, [], []), (3, [], []), (4, [], []), (5, [], []), (6, [], []), (7, [], [0, 1, 2, 3, 4, 5]), (8, [], []), (9, [], []), (10, [], []), (11, [], []), (12, [], []), (13, [], []), (14, [], [])] [0, 1, 0, 0, 12, 28, 0, 64, 192, 448, 1020, 2044, 4095, 8191, 16383] ?_
   have F := aI @Int.natCast_nonneg (aI hrl (aI hlt' (aI hlr (aI (nM hlr) (aI @List.length_append.{0} (aI h6_25 h6_31))))))
   iterate 7 refine WF ?_
   refine aO (g := none) rfl rfl fun K' hK' => T6 ?_
   refine bU (args := [_]) (cT L b1 5 (by omega) (by omega)) rfl (by simp) ⟨rfl, rfl, rfl, rfl⟩ ?_
   rintro u v' ⟨x2, b2, rfl, rfl, k1, k2, k3, k4⟩
   refine AX (hK' _ _ ?_)
   clear hK' K'
   iterate 2 refine WF ?_
   refine aO (g := none) rfl rfl fun K' hK' => T6 ?_
   rw [qW _ _ rfl rfl]
   refine AX (hK' _ _ ?_)
   clear hK' K'
   iterate 4 refine WF ?_
   refine T4 ?_
   exact key b2 (qs ++ [⟨roles10[i], IntKind.i64.wrap (1 + IntKind.i64.wrap (x2.tdiv 3))⟩]) _ _ _ (by omega) (by simp; omega) (fun q hq => by
    rcases List.mem_append.1 hq with hq | hq
    ·
     exact hqm q hq
    rw [List.mem_singleton] at hq; rw [hq]; exact List.getElem_mem _) (fF)
  simp only [h6_31]
  refine T2 (hK _ _ _ ?_)
  clear hK K
  refine CF rfl ?_
  refine aG (T3 ?_)
  exact key b1 qs _ _ _ (by omega) (by omega) hqm (fF)
 refine aS (T3 ?_)
 clear hK K
 refine AX (hK _ _ _ ?_)
 clear hK K
 refine aB fun K hK => ?_
 clear hb
 refine cM [45] (bF (fr2 := fin [(0, .ptr 0 0), (1, .c (.int .i64 v)), (4, .ptr 1 0), (5, .ptr 25 0)]) (ob2 := fob [(0, .box 39 (.c (tp L b))), (1, .box 26 (.c (Rt.cv ⟨0, 0, [], [], []⟩))), (25, .box 26 (.c (Rt.cv ⟨v, e0, qs, [], []⟩)))]) (nx2 := 200) (aQ (by omega) (by simp [aY, cQ, fin_at, finA_at, upd_at, fob_at, HV.close, HV.closeL, CV.denil, CV.denilL, denilL_str, denilL_Rv, denilL_Qt, denilL_Ky, HV.men, HV.menL, HV.norm, HV.toC, HV.toCL]) (by simp [bC, cR, fob_at, upd_at, none0_at, bT, HO.close, HV.close, HV.closeL, HO.men, HV.men, HV.menL, HV.norm, HV.toC, HV.toCL, Rt.denil, zR, Rt.cv, CV.denil, CV.denilL, denilL_str, denilL_Rv, denilL_Qt, denilL_Ky, denilL_int])) ?_)
 refine R0 ?_
 refine aH ?_
 refine aU (α := {y : Nat × Nat × List Ky // y.1 ≤ 6 ∧ y.2.1 ≤ a + 21 + 14 * y.1 ∧ y.2.2.length ≤ y.1 ∧ ∀ k ∈ y.2.2, kOk k}) (fun y => (fin [(0, .ptr 0 0), (1, .c (.int .i64 v)), (4, .ptr 1 0), (5, .ptr 25 0), (8, .c (.int .i64 y.1.1))], fob [(0, .box 39 (.c (tp L y.1.2.1))), (1, .box 26 (.c (Rt.cv ⟨0, 0, [], [], []⟩))), (25, .box 26 (.c (Rt.cv ⟨v, e0, qs, y.1.2.2, []⟩)))])) 300 (fun y => 6 - y.1.1) ⟨(0, b, []), by simp, by simp only; omega, by simp, by simp⟩ (fF) ?_
 clear hb0
 rintro ⟨⟨j, b, ks⟩, hj, hb0, hkl, hkm⟩
 simp only at hj hb0 hkl hkm ⊢
 refine aB fun K hK => ?_
 refine R0 ?_
 refine aJ (b := decide ((j : Int) < 6)) rfl (fun hb => ?_) (fun hb => ?_)
 ·
  have hlt : j < 6 := by simp at hb; omega
  refine aG ?_
  refine T0 (hK _ _ _ ?_)
  clear hK K
  refine aB fun K hK => ?_
  have key : ∀ (b' : Nat) (ks' : List Ky) fr ob nx, b' ≤ a + 21 + 14 * (j + 1) → ks'.length ≤ j + 1 → (∀ k ∈ ks', kOk k) → Fits 1 fr ob (fin [(0, .ptr 0 0), (1, .c (.int .i64 v)), (4, .ptr 1 0), (5, .ptr 25 0), (8, .c (.int .i64 j))]) (fob [(0, .box 39 (.c (tp L b'))), (1, .box 26 (.c (Rt.cv ⟨0, 0, [], [], []⟩))), (25, .box 26 (.c (Rt.cv ⟨v, e0, qs, ks', []⟩)))]) 500 → K fr ob nx := by
   intro b' ks' fr ob nx w1 w2 w3 hf
   refine hK _ _ _ (bF hf ?_)
   clear hf hK K
   refine aL (by kernel_rfl) ?_
   refine TQ (bK j) ?_
   refine ⟨⟨(j + 1, b', ks'), hlt, w1, w2, w3⟩, fF, ?_⟩
   show 6 - (j + 1) < 6 - j
   omega
  refine aH ?_
  refine aB fun K hK => ?_
  refine aB fun K hK => Rg ?_
  refine S0 ?_
  refine HS rfl rfl fun K' hK' => T5 ?_
  refine bU (args := [_]) (cT L b 6 (by omega) (by omega)) rfl (by simp) ⟨rfl, rfl, rfl, rfl⟩ ?_
  rintro u v' ⟨x1, b1, rfl, rfl, g1, g2, g3, g4⟩
  refine AX (hK' _ _ ?_)
  clear hK' K'
  refine S0 ?_
  refine T2 (hK _ _ _ ?_)
  clear hK K
  refine aJ (b := x1 == 0) rfl (fun hb => ?_) (fun hb => ?_)
  ·
   refine aS (T3 ?_)
   clear hK K
   exact key b1 ks _ _ _ (by omega) (by omega) hkm (fF)
  refine aG ?_
  refine T0 (hK _ _ _ ?_)
  clear hK K
  refine aB fun K hK => Rg ?_
  refine S0 ?_
  refine HS rfl rfl fun K' hK' => T5 ?_
  refine bU (args := [_]) (cT L b1 6 (by omega) (by omega)) rfl (by simp) ⟨rfl, rfl, rfl, rfl⟩ ?_
  rintro u v' ⟨x2, b2, rfl, rfl, k1, k2, k3, k4⟩
  refine AX (hK' _ _ ?_)
  clear hK' K'
  refine S0 ?_
  refine T2 (hK _ _ _ ?_)
  clear hK K
  refine DW [(0, [], []), (1, [], []), (2, [], []), (4, [], []), (6, [], []), (8, [], []), (9, [], []), (10, [], []), (11, [], []), (3, [], [0, 1, 4, 6, 8, 9, 10, 11]), (5, [], [0, 1, 6, 8, 9, 10, 11]), (7, [], [0, 1, 8, 9, 10, 11]), (12, [], [0, 1, 8, 9, 10]), (13, [], []), (14, [], []), (15, [], []), (16, [], []), (17, [], [])] [0, 1, 0, 4, 0, 28, 0, 124, 0, 0, 512, 0, 2300, 7932, 16380, 32767, 65535, 131071] ?_
  have F := aI @denilL_Ky (aI @denilL_str @Rt.fold)
  iterate 9 refine WF ?_
  refine aO (g := none) rfl rfl fun K' hK' => T6 ?_
  refine C1 (rM j (by omega)) ?_
  rintro u rfl
  refine AX (hK' _ _ ?_)
  clear hK' K'
  refine aO (g := none) rfl rfl fun K' hK' => T6 ?_
  refine C1 (aJ7 j (by omega)) ?_
  rintro u rfl
  refine AX (hK' _ _ ?_)
  clear hK' K'
  refine aO (g := none) rfl rfl fun K' hK' => T6 ?_
  refine bU (args := []) (bU8 L b2 (by omega)) rfl (by simp) ⟨rfl, rfl, rfl, rfl⟩ ?_
  rintro u v' ⟨ws, b3, rfl, rfl, n1, n2, n3⟩
  refine AX (hK' _ _ ?_)
  clear hK' K'
  refine aO (g := none) rfl rfl fun K' hK' => T6 ?_
  refine bU (args := [_]) (cT L b3 60 (by omega) (by omega)) rfl (by simp) ⟨rfl, rfl, rfl, rfl⟩ ?_
  rintro u v' ⟨x3, b4, rfl, rfl, o1, o2, o3, o4⟩
  obtain ⟨un, hun⟩ : ∃ un, un = IntKind.i64.wrap (IntKind.i64.wrap (x2 + 1) + x3) := ⟨_, rfl⟩
  refine AX (hK' _ _ ?_)
  clear hK' K'
  iterate 2 refine WF ?_
  refine aO (g := none) rfl rfl fun K' hK' => T6 ?_
  refine C2 (zO ks ⟨aH4 j, kW j, ws, x2, IntKind.i64.wrap (IntKind.i64.wrap (x2 + 1) + x3)⟩ (by omega)) ?_
  rintro u rfl
  refine AX (hK' _ _ ?_)
  clear hK' K'
  iterate 2 refine WF ?_
  refine T4 ?_
  exact key b4 (uP ks ⟨aH4 j, kW j, ws, x2, IntKind.i64.wrap (IntKind.i64.wrap (x2 + 1) + x3)⟩) _ _ _ (by omega) (by rw [aI7]; omega) (fun k hk => by
   rcases aI8 hk with hk | rfl
   ·
    exact hkm k hk
   exact aU2 j ws _ _ n2 n3) (aQ (by omega) (by simp [aY, fin_at, finA_at, upd_at, HV.men, HV.menL, HV.norm, HV.toC, HV.toCL]) (by simp [bC, fob_at, upd_at, none0_at, bT, HO.men, HV.men, HV.menL, HV.norm, HV.toC, HV.toCL]; rfl))
 clear hb
 refine aS (T3 ?_)
 clear hK K
 refine AX (hK _ _ _ ?_)
 clear hK K
 refine aB fun K hK => ?_
 have key : ∀ (b' : Nat) (r : Rt) fr ob nx, b' ≤ a + 150 → rOk r → Fits 1 fr ob (fin [(0, .ptr 0 0), (1, .c (.int .i64 v)), (4, .ptr 1 0), (5, .ptr 25 0)]) (fob [(0, .box 39 (.c (tp L b'))), (1, .box 26 (.c (Rt.cv ⟨0, 0, [], [], []⟩))), (25, .box 26 (.c r.cv))]) 600 → K fr ob nx := by
  intro b' r fr ob nx w1 w2 hf
  refine hK _ _ _ (bF hf ?_)
  clear hf hK K
  refine aB fun K hK => ?_
  refine aB fun K hK => Rg ?_
  refine S0 ?_
  refine HS rfl rfl fun K' hK' => T5 ?_
  refine C1 (zC r w2.1) ?_
  rintro u rfl
  refine AX (hK' _ _ ?_)
  clear hK' K'
  refine S0 ?_
  refine T2 (hK _ _ _ ?_)
  clear hK K
  refine aJ (b := !bQ r) rfl (fun hb => ?_) (fun hb => ?_)
  ·
   refine aB fun K hK => Rg ?_
   refine HS rfl rfl fun K' hK' => T5 ?_
   refine C0 aM2 ?_
   rintro u rfl
   refine AX (hK' _ _ ?_)
   clear hK' K'
   iterate 2 refine S0 ?_
   refine T2 (hK _ _ _ ?_)
   clear hK K
   have F := @Rt.fold
   refine RF ?_
   refine R0 ?_
   refine aD (RT Tryz.results22 ?_)
   refine jL [] (Rt.cv ⟨v, full.e, full.q, full.k, full.x⟩) (tp L b') (eT (Rt.denil _)) rfl ?_ (by simp) ⟨_, b', rfl, rfl, w1, sZ v, aC2⟩
   simp [HV.close, HV.closeL, tp, CV.denil, CV.denilL, denilL_int, HV.norm, HV.toC, HV.toCL]
  refine aG ?_
  refine T0 (hK _ _ _ ?_)
  clear hK K
  refine R0 ?_
  refine aD (RT Tryz.results22 ?_)
  refine jL [] r.cv (tp L b') (eT (Rt.denil _)) rfl ?_ (by simp) ⟨r, b', rfl, rfl, w1, w2, fun _ _ => by simpa using hb⟩
  simp [HV.close, HV.closeL, tp, CV.denil, CV.denilL, denilL_int, HV.norm, HV.toC, HV.toCL]
 refine aB fun K hK => Rg ?_
 refine S0 ?_
 refine HS rfl rfl fun K' hK' => T5 ?_
 refine bU (args := [_]) (cT L b 4 (by omega) (by omega)) rfl (by simp) ⟨rfl, rfl, rfl, rfl⟩ ?_
 rintro u v' ⟨x1, b1, rfl, rfl, g1, g2, g3, g4⟩
 refine AX (hK' _ _ ?_)
 clear hK' K'
 refine S0 ?_
 refine T2 (hK _ _ _ ?_)
 clear hK K
 refine aJ (b := x1 == 0) rfl (fun hb => ?_) (fun hb => ?_)
 ·
  refine DW [(0, [], []), (1, [], []), (4, [], []), (2, [], [0, 4]), (3, [], [0, 4]), (5, [], [0]), (6, [], []), (7, [], []), (8, [], [])] [0, 0, 2, 6, 0, 30, 62, 127, 255] ?_
  have F := @Rv.fold
  iterate 3 refine WF ?_
  refine aO (g := none) rfl rfl fun K' hK' => T6 ?_
  refine bU (args := [_]) (cT L b1 7 (by omega) (by omega)) rfl (by simp) ⟨rfl, rfl, rfl, rfl⟩ ?_
  rintro u v' ⟨x2, b2, rfl, rfl, k1, k2, k3, k4⟩
  obtain ⟨m, rfl⟩ : ∃ m : Nat, x2 = m := ⟨x2.toNat, by omega⟩
  refine AX (hK' _ _ ?_)
  clear hK' K'
  refine aO (g := none) rfl rfl fun K' hK' => T6 ?_
  refine C1 (aR8 m (by omega)) ?_
  rintro u rfl
  refine AX (hK' _ _ ?_)
  clear hK' K'
  refine aO (g := none) rfl rfl fun K' hK' => T6 ?_
  refine bU (args := [_]) (cT L b2 30 (by omega) (by omega)) rfl (by simp) ⟨rfl, rfl, rfl, rfl⟩ ?_
  rintro u v' ⟨x3, b3, rfl, rfl, o1, o2, o3, o4⟩
  refine AX (hK' _ _ ?_)
  clear hK' K'
  refine WF ?_
  refine aO (g := none) rfl rfl fun K' hK' => T6 ?_
  refine C2 (bD4 ⟨v, e0, qs, ks, []⟩ ⟨mid m, x3⟩ (aP0 (by omega) hqm (by omega) hkm (by simp)).1) ?_
  rintro u ⟨xs, rfl, hxs⟩
  refine AX (hK' _ _ ?_)
  clear hK' K'
  refine WF ?_
  refine T4 ?_
  exact key b3 ⟨v, e0, qs, ks, xs⟩ _ _ _ (by omega) (aP0 (by omega) hqm (by omega) hkm (by simpa using hxs)) (fF)
 refine aG (T3 ?_)
 exact key b1 ⟨v, e0, qs, ks, []⟩ _ _ _ (by omega) (aP0 (by omega) hqm (by omega) hkm (by simp)) (fF)


theorem bN4 : aW Tryz.prog 12 [] (fun v => v = .bool true) := by
 refine FW Tryz.func12 ?_
 refine R0 ?_
 refine aB fun K hK => Rg ?_
 refine HS rfl rfl fun K' hK' => T5 ?_
 refine C0 aM2 ?_
 rintro u rfl
 refine AX (hK' _ _ ?_)
 clear hK' K'
 iterate 2 refine S0 ?_
 refine T2 (hK _ _ _ ?_)
 clear hK K
 refine aB fun K hK => DW [(0, [], []), (1, [], []), (2, [], []), (3, [], []), (4, [], []), (5, [], []), (6, [], []), (7, [], []), (8, [], []), (9, [], [8]), (10, [], []), (11, [], []), (12, [], []), (13, [], [])] [0, 1, 3, 7, 15, 31, 63, 127, 255, 255, 767, 2047, 4095, 8191] ?_
 have F := aI @uQ (aI @xT (aI @aH5 @kO))
 refine WF ?_
 refine aO (g := none) rfl rfl fun K' hK' => T6 ?_
 refine C1 (mM full (sZ 1).1) ?_
 rintro u rfl
 refine AX (hK' _ _ ?_)
 clear hK' K'
 iterate 2 refine WF ?_
 refine aO (g := some (5, true)) rfl rfl fun K' hK' => T6 ?_
 refine C2 (aM0 full uO (sZ 1).1) ?_
 rintro u rfl
 rw [xT]
 refine AX (hK' _ _ ?_)
 clear hK' K'
 iterate 4 refine WF ?_
 refine aO (g := some (10, true)) rfl rfl fun K' hK' => T6 ?_
 refine C1 (aR8 0 (by omega)) ?_
 rintro u rfl
 refine AX (hK' _ _ ?_)
 clear hK' K'
 refine WF ?_
 refine aO (g := some (10, true)) rfl rfl fun K' hK' => T6 ?_
 refine nY (e := 49) (sz := 32) (l := [mid 0].map dg) [full.cv, .str uO] [.int .i64 5] (bC9 full uO [mid 0] 5 (sZ 1).1 (by simp)) rfl rfl (by simp) ⟨rfl, rfl, rfl, rfl⟩ ?_
 rintro u rfl
 refine AX (hK' _ _ ?_)
 clear hK' K'
 iterate 2 refine WF ?_
 refine T2 (hK _ _ _ ?_)
 clear hK K
 refine aD (RT Tryz.results12 ?_)
 exact aC [] (.bool true) rfl rfl

end Go.Proofs.YtenbfeemmpjdhaaGreatDoor

namespace Go.Proofs.YtenbfeemmpjdhaaGreatDoor
open Go Go.Hl Go.Pl
set_option maxRecDepth 10000
set_option maxHeartbeats 16000000
attribute [local simp] tp

end Go.Proofs.YtenbfeemmpjdhaaGreatDoor

namespace Go.Proofs.YtenbfeemmpjdhaaGreatDoor
open Go Go.Hl Go.Pl Go.RowKit Go.Shelf
set_option maxRecDepth 100000
set_option linter.unusedVariables false

def zP : Go.Shelf.Ren := ⟨fun | 169 => 166 | n => n, fun | 70 => 187 | 9 => 9 | 0 => 0 | 72 => 189 | 37 => 30 | 127 => 208 | 3 => 3 | 5 => 5 | n => n, fun | n => n⟩
theorem cE6 : Go.Proofs.Lays.n169 Tryz.prog zP := {
  mixed := by kernel_rfl
  f169 := Tryz.func166.trans (congrArg some (by kernel_rfl))
  t0 := Tryz.underlying0
  a0 := Tryz.isAgg0
  z0 := Tryz.sizeOf0
  v0 := Tryz.zeroValue0
  t3 := Tryz.underlying3
  a3 := Tryz.isAgg3
  z3 := Tryz.sizeOf3
  v3 := Tryz.zeroValue3
  t9 := Tryz.underlying9
  a9 := Tryz.isAgg9
  z9 := Tryz.sizeOf9
  v9 := Tryz.zeroValue9
  t37 := Tryz.underlying30
  a37 := Tryz.isAgg30
  z37 := Tryz.sizeOf30
  v37 := Tryz.zeroValue30
  t70 := Tryz.underlying187
  a70 := Tryz.isAgg187
  z70 := Tryz.sizeOf187
  v70 := Tryz.zeroValue187
  t72 := Tryz.underlying189
  a72 := Tryz.isAgg189
  z72 := Tryz.sizeOf189
  v72 := Tryz.zeroValue189
  t127 := Tryz.underlying208
  a127 := Tryz.isAgg208
  z127 := Tryz.sizeOf208
  v127 := Tryz.zeroValue208 }
theorem bsx166 : Builder.Extra Tryz.prog zP := {
  sizeBuilder := by kernel_rfl
  liesBuilder := by kernel_rfl
  t5 := Tryz.underlying5
  a5 := Tryz.isAgg5
  z5 := Tryz.sizeOf5
  v5 := Tryz.zeroValue5
  infoByte := by kernel_rfl
  cellsByte := by kernel_rfl
  sizeByte := by kernel_rfl
  neB5 := by decide }

set_option maxHeartbeats 1000000 in
theorem bV0 (b : Nat) (w : World) (h0 : w.cell? ⟨b, 0, none⟩ = some (.pointer (some ⟨b, 0, none⟩))) :
    Calls Tryz.prog 188 #[.pointer (some ⟨b, 0, none⟩)] w fun e w' => e = .returned (.tuple #[]) ∧ w' = w := by
  obtain ⟨j, hj, _⟩ := Option.map_eq_some_iff.1 bsx166.sizeBuilder
  go_enter Tryz.func188, Tryz.ntmps188
  go_wp2
  rw [Lib.run_neq_ptr_same w _ Tryz.underlying187 hj]
  go_wp2
  go_end0
  exact ⟨rfl, rfl⟩

set_option maxHeartbeats 1000000 in
theorem bN5 (b : Nat) (w : World) (h0 : w.cell? ⟨b, 0, none⟩ = some (.pointer none)) (hsh : w.shape? b = some (189, 2)) (hfz : w.frozen? ⟨b, 0, none⟩ = false) :
    Calls Tryz.prog 188 #[.pointer (some ⟨b, 0, none⟩)] w fun e w' => e = .returned (.tuple #[]) ∧ w' = w.setCell ⟨b, 0, none⟩ (.pointer (some ⟨b, 0, none⟩)) := by
  obtain ⟨j, hj, hjs⟩ := Option.map_eq_some_iff.1 bsx166.sizeBuilder
  go_enter Tryz.func188, Tryz.ntmps188
  go_wp2
  rw [Lib.run_to_unsafe w ⟨b, 0, none⟩ Tryz.underlying187 Tryz.underlying219 hj (by rw [hjs]; decide) hsh (Nat.zero_lt_succ 1)]
  simp only [Result.andThen]
  rw [Oper.upon_value]
  go_wp2
  rw [run_callFunc_extern Tryz.func197 (by kernel_rfl) (by kernel_rfl) (by kernel_rfl) (e := Extern.AbiNoEscape.same) (by kernel_rfl)]
  rw [Lib.run_noEscape]
  simp only [Result.andThen]
  rw [Oper.upon_value]
  go_wp2
  rw [Lib.run_from_unsafe w ⟨b, 0, none⟩ Tryz.underlying219 Tryz.underlying187 hj hsh bsx166.liesBuilder]
  simp only [Result.andThen]
  rw [Oper.upon_value]
  go_wp2
  go_end0
  exact ⟨rfl, rfl⟩
theorem cG6 (B b : Nat) (bs : List Value) (w : World) (h : Lib.IsBuilderF 189 5 B b bs w) :
    Calls Tryz.prog 188 #[.pointer (some ⟨b, 0, none⟩)] w fun e w' => e = .returned (.tuple #[]) ∧ (Lib.BuilderAtF 189 5 B b (.pointer (some ⟨b, 0, none⟩)) bs w' ∧ Below B w w' ∧ Lib.OthersKept 5 (some b) w w') := by
  rcases h with h | h
  · refine (bN5 b w h.cell0 h.shape h.frozen0).mono ?_
    rintro e w' ⟨rfl, rfl⟩
    exact ⟨rfl, h.used _, (Below.refl B w).setCell (p := ⟨b, 0, none⟩) h.1 _, (Lib.OthersKept.refl _ _ w).setCell ⟨b, 0, none⟩ rfl _⟩
  · refine (bV0 b w h.cell0).mono ?_
    rintro e w' ⟨rfl, rfl⟩
    exact ⟨rfl, h, Below.refl B _, Lib.OthersKept.refl _ _ _⟩

set_option maxHeartbeats 16000000 in
theorem cE7 (B b : Nat) (bs : List Value) (c : Int) (w : World) (h : Lib.IsBuilderF 189 5 B b bs w) (hlen : bs.length + 1 ≤ 140737488355328) (hBw : B ≤ w.heap.size) :
    Calls Tryz.prog 165 #[.pointer (some ⟨b, 0, none⟩), .int .u8 c] w fun e w' => e = .returned .nilIface ∧ (Lib.BuilderAtF 189 5 B b (.pointer (some ⟨b, 0, none⟩)) (bs ++ [.int .u8 c]) w' ∧ Below B w w' ∧ Lib.OthersKept 5 (some b) w w') := by
  obtain ⟨i0, hi, hz0, hz1, hz2⟩ := info_parts bsx166.infoByte
  go_enter Tryz.func165, Tryz.ntmps165
  go_wp2_with (go_at_call 188; refine (cG6 B b bs _ h).mono ?_)
  rintro e w1 ⟨rfl, h1, hb1, hk1⟩
  obtain ⟨hB, v, hbk, hown, hne⟩ := h1
  have c0 : w1.cell? ⟨b, 0, none⟩ = some (.pointer (some ⟨b, 0, none⟩)) := by rw [Lib.cell_of_heap hbk]; rfl
  have c1 : w1.cell? ⟨b, 1, none⟩ = some v := by rw [Lib.cell_of_heap hbk]; rfl
  go_wp2_with (at_builtin; refine wpList_append_ownF _ rfl _ _ 30 rfl B 5 i0 (.int .u8 0) 1 1 Tryz.underlying30 hi hz0 hz1 hz2 rfl (by decide) _ _ _ rfl (hown.alloc _) ⟨w1.heap.size, 0, none⟩ 1 1 [.int .u8 c] rfl rfl ?c1 ?c2 ?c3 ?c4 ?c5 ?_)
  case c1 =>
    intro j u hj
    match j, hj with
    | 0, hj => simp at hj; subst hj; simp [Addr.add]
  case c2 => intro u hu; simp at hu; subst hu; rfl
  case c3 => unfold maxLen; omega
  case c4 => omega
  case c5 => have := hb1.size; simp; omega
  intro v' w2 hown' hgrow _
  have hlt : b < w1.heap.size := by
    rcases Nat.lt_or_ge b w1.heap.size with h' | h'
    · exact h'
    · simp [Array.getElem?_eq_none h'] at hbk
  have hb2 : w2.heap[b]? = some (.cells #[.pointer (some ⟨b, 0, none⟩), v] 189 (0, 0)) := by
    rw [hgrow.block b (by simp; omega) (fun e => hne e.symm), Lib.alloc_old w1 _ b hlt]
    exact hbk
  have d0 : w2.cell? ⟨b, 0, none⟩ = some (.pointer (some ⟨b, 0, none⟩)) := by rw [Lib.cell_of_heap hb2]; rfl
  have d1 : w2.cell? ⟨b, 1, none⟩ = some v := by rw [Lib.cell_of_heap hb2]; rfl
  have f1 : w2.frozen? ⟨b, 1, none⟩ = false := Lib.frozen_of_heap hb2 1
  obtain ⟨g, cap, rfl⟩ : ∃ g cap, v' = .slice (some ⟨g, 0, none⟩) (bs.length + 1) cap := by
    rcases hown'.2 with ⟨_, h0⟩ | ⟨g, cap, cur, fz, hv, _⟩
    · omega
    · exact ⟨g, cap, hv⟩
  go_wp2
  go_ret
  refine ⟨rfl, ?_, ?_, ((hk1.alloc _).grown hgrow (Lib.ownsRowF_kind (hown.alloc _))).setCell ⟨b, 1, none⟩ rfl _⟩
  · exact Lib.BuilderAtF.put (T := 189) (e := 5) hB hb2 (bs' := bs ++ [.int .u8 c]) (by simpa using hown') (by decide)
  · exact ((hb1.alloc (by have := hb1.size; omega) _).grown hgrow (by have := hb1.size; simp; omega) (fun k hk => (hown.lt k hk).1)).setCell (p := ⟨b, 1, none⟩) hB _
end Go.Proofs.YtenbfeemmpjdhaaGreatDoor

namespace Go.Proofs.YtenbfeemmpjdhaaGreatDoor
open Go Go.Hl Go.Pl Go.RowKit Go.Shelf
set_option maxRecDepth 100000
set_option linter.unusedVariables false
set_option maxHeartbeats 16000000 in
theorem bN6 (bs : List UInt8) (h0 : 0 < bs.length) (hl : bs.length < 2 ^ 40) (b off c : Nat) (w : World) (hc : ∀ j, j < bs.length → w.cell? ⟨b, off + j, none⟩ = some (.int .u8 (bs.getD j 0).toNat)) :
    Calls Tryz.prog 134 #[.slice (some ⟨b, off, none⟩) bs.length c] w fun e w' => e = .returned (.string ⟨(gB bs).toArray⟩) ∧ Below w.heap.size w w' := by
  have hb : b < w.heap.size := by
    rcases Nat.lt_or_ge b w.heap.size with h' | h'
    · exact h'
    · have := hc 0 h0
      simp [World.cell?, Array.getElem?_eq_none h'] at this
  go_enter Tryz.func134, Tryz.ntmps134
  go_wp2
  go_loopw [8] (fun vi wr => ∃ (i : Nat), vi = .int .i64 i ∧ i ≤ bs.length ∧ Lib.IsBuilderF 189 5 w.heap.size w.heap.size (Lib.byteCells (gB (bs.take i))) wr ∧ Below w.heap.size w wr) (fun vi _ => bs.length - (intOf vi).toNat)
  case atStart =>
    exact ⟨0, rfl, by omega, (Lib.IsBuilderF.of (Lib.fresh_isBuilder 189 5 w)), (Below.refl _ w).alloc (Nat.le_refl _) _⟩
  case round =>
    obtain ⟨i, rfl, hi, hI, hB⟩ := hrel
    have hsz : w.heap.size ≤ wr.heap.size := hB.size
    by_cases hlt : i < bs.length
    · have hcell : wr.cell? ⟨b, off + i, none⟩ = some (.int .u8 (bs[i].toNat)) := by
        have := hc i hlt
        simp only [World.cell?, hB.block b hb] at this ⊢
        simpa [hlt] using this
      have hx0 := bs[i].toNat_lt
      have hx1 : 0 ≤ (bs[i].toNat : Int) / 16 ∧ (bs[i].toNat : Int) / 16 < 16 := by omega
      have hx2 : 0 ≤ (bs[i].toNat : Int) % 16 ∧ (bs[i].toNat : Int) % 16 < 16 := by omega
      have hlen : (Lib.byteCells (gB (bs.take i))).length + 1 ≤ 140737488355328 := by rw [Lib.byteCells_length, mG, List.length_take]; omega
      go_wp2_with (go_at_call 165; refine (cE7 w.heap.size w.heap.size _ _ _ hI hlen hsz).mono ?_)
      rintro e W1 ⟨rfl, h1, b1, k1⟩
      have hsz1 : w.heap.size ≤ W1.heap.size := by have := b1.size; omega
      have e1 : ∀ (l : List UInt8) (x : UInt8), Lib.byteCells l ++ [Value.int .u8 x.toNat] = Lib.byteCells (l ++ [x]) := fun l x => by rw [Lib.byteCells_append]; rfl
      rw [e1] at h1
      have hlen1 : ∀ x : UInt8, (Lib.byteCells (gB (bs.take i) ++ [x])).length + 1 ≤ 140737488355328 := fun x => by rw [Lib.byteCells_length, List.length_append, mG, List.length_take]; simp; omega
      go_wp2_with (go_at_call 165; refine (cE7 w.heap.size w.heap.size _ _ _ (Or.inr h1) (hlen1 _) hsz1).mono ?_)
      rintro e W2 ⟨rfl, h2, b2, k2⟩
      rw [e1] at h2
      go_wp2
      go_roundw
      case rel =>
        refine ⟨i + 1, by simp, hlt, Or.inr ?_, (hB.trans b1).trans b2⟩
        rw [bA9 hlt, bK1, lH, lH]
        have g1 : ∀ (n : Nat) (h : n < 16), (([48, 49, 50, 51, 52, 53, 54, 55, 56, 57, 97, 98, 99, 100, 101, 102] : List UInt8).getD n 0) = (⟨#[48, 49, 50, 51, 52, 53, 54, 55, 56, 57, 97, 98, 99, 100, 101, 102]⟩ : ByteArray)[n]'h := by decide
        rw [g1 _ (by omega), g1 _ (by omega)]
        simpa using h2
      case measure =>
        simp [intOf]
        omega
    · go_wp2_with (go_at_call 166; refine (Any.Builder_String_any_k cE6 bsx166 w.heap.size w.heap.size (gB (bs.take i)) _ hI (by omega)).mono ?_)
      rintro e W1 ⟨rfl, _, b1, _⟩
      go_wp2
      go_ret
      have : i = bs.length := by omega
      subst this
      rw [List.take_length]
      exact ⟨rfl, hB.trans b1⟩

theorem bN7 (bs : List UInt8) (h0 : 0 < bs.length) (hl : bs.length < 2 ^ 40) : aW Tryz.prog 134 [.slc (bs.map u8)] (fun v => v = .str (gB bs)) := by
  have hok : dM Tryz.prog 134 = true := by kernel_rfl
  refine ⟨oP hok, fun w ρ X xs hS hA hX => Does.of hok ?_⟩
  simp only [List.map_cons, List.map_nil, aX, RepHV] at hA
  obtain ⟨x, zs, rfl, hx, rfl⟩ := hA
  have h1 := RepV.single hx rfl
  simp only [RepC, List.cons.injEq, and_true] at h1
  obtain ⟨a, cap, ys, sz, rfl, h2, _, h4, h5, h6⟩ := h1
  have hys : ys = bs.map fun b => Value.int .u8 b.toNat := by
    have key : ∀ (bs : List UInt8) (xs : List Value), RepL w (Owned ρ X) (bs.map u8) xs → xs = bs.map fun b => Value.int .u8 b.toNat := by
      intro bs
      induction bs with
      | nil => intro xs h; simpa [RepL] using h
      | cons b bs ih =>
        intro xs h
        simp only [List.map_cons, RepL, u8, RepC] at h
        obtain ⟨c1, c2, rfl, rfl, h7⟩ := h
        rw [ih c2 h7]
        rfl
    exact key bs ys h2
  subst hys
  simp only [List.length_map]
  cases a with
  | none =>
    have hz := h5 rfl
    simp only [List.length_map] at h4
    omega
  | some ad =>
    have hr := (h6 ad rfl).1
    have hspot : ad.spot = none := by
      have := hr 0 (Value.int .u8 bs[0].toNat) (by simp [h0])
      simp only [World.cell?] at this
      split at this
      · split at this
        · cases this
        · rename_i hh; simpa [Addr.add] using hh
      · cases this
    obtain ⟨b, off, spot⟩ := ad
    simp only at hspot
    subst hspot
    refine (bN6 bs h0 hl b off cap w fun j hj => ?_).mono ?_
    · have := hr j (Value.int .u8 bs[j].toNat) (by simp [hj])
      have e : (⟨b, off, none⟩ : Addr).add j = ⟨b, off + j, none⟩ := by
        by_cases h0 : j = 0
        · subst h0; rfl
        · simp [Addr.add, h0]
      rw [e] at this
      rw [this]
      simp [hj]
    · rintro ex w' ⟨rfl, hb⟩
      have hs2 : Stay2 w (Hl.Own ρ) w' (Hl.Own ρ) := ⟨fun g hg _ => hb.block g hg, fun _ h => .inl h, hb.size, hb.os, hb.tape, hb.output⟩
      refine ⟨_, _, ρ, _, rfl, ⟨_, rfl, rfl, rfl⟩, ⟨?_, ⟨fun i o ho => by simp [bP] at ho, hS.none, hS.apart, hS.xb⟩, by simp [HV.men], fun i o ho => by simp [bP] at ho, hs2, Moves.refl _ _⟩⟩
      refine bR ?_ rfl rfl
      simp [RepC]
end Go.Proofs.YtenbfeemmpjdhaaGreatDoor

namespace Go.Proofs.YtenbfeemmpjdhaaGreatDoor
open Go Go.Hl Go.Pl
set_option maxRecDepth 10000
set_option maxHeartbeats 16000000


theorem bV1 (h : iM) : aW Tryz.prog 109 [hf h] (fun v => v = .str (bS5 h)) := by
 refine FW Tryz.func109 ?_
 refine R0 ?_
 refine dQ 1 0 rfl rfl ?_
 refine aB fun K hK => Rg ?_
 refine S0 ?_ (e := fun _ h_ => by simp only [sH, ↓sP, sA, tyS, simprocAttr, pB, bG, h.2, denilL_u8, List.drop_zero, gR]; exact AX h_)
 refine HS rfl rfl fun K' hK' => ?_
 simp only [sH, ↓sP, sA, tyS, simprocAttr, pB, bG, h.2, denilL_u8, List.drop_zero, gR]
 refine C1 (bN7 h.1 (by rw [h.2]; omega) (by rw [h.2]; omega)) ?_
 rintro u rfl
 refine AX (hK' _ _ ?_)
 clear hK' K'
 refine S0 ?_ (e := fun _ h_ => by simp only [sH, ↓sP, sA, tyS, simprocAttr, pB, bG, h.2, denilL_u8, List.drop_zero, gR]; exact AX h_)
 refine T2 (hK _ _ _ ?_)
 clear hK K
 refine aD (RT Tryz.results109 ?_)
 exact aC [] (.str _) rfl rfl


theorem bV2 (d : Dig) : aW Tryz.prog 110 [dg d] (fun v => v = .str (bB7 d)) := by
 refine FW Tryz.func110 ?_
 refine R0 ?_
 refine dQ 1 0 rfl rfl ?_
 have hle : 7 + (gB d.1).length ≤ 9223372036854775807 := by rw [mG, d.2]; omega
 refine aB fun K hK => Rg ?_
 refine S0 ?_ (e := fun _ h_ => by simp only [sH, ↓sP, sA, tyS, simprocAttr, xQ, bG, d.2, denilL_u8, List.drop_zero, mZ, hle]; exact AX h_)
 refine HS rfl rfl fun K' hK' => ?_
 simp only [sH, ↓sP, sA, tyS, simprocAttr, xQ, bG, d.2, denilL_u8, List.drop_zero, mZ, hle]
 refine C1 (bN7 d.1 (by rw [d.2]; omega) (by rw [d.2]; omega)) ?_
 rintro u rfl
 refine AX (hK' _ _ ?_)
 clear hK' K'
 iterate 2 refine S0 ?_ (e := fun _ h_ => by simp only [sH, ↓sP, sA, tyS, simprocAttr, xQ, bG, d.2, denilL_u8, List.drop_zero, mZ, hle]; exact AX h_)
 refine T2 (hK _ _ _ ?_)
 clear hK K
 refine aD (RT Tryz.results110 ?_)
 exact aC [] (.str _) rfl rfl


end Go.Proofs.YtenbfeemmpjdhaaGreatDoor

namespace Go.Proofs.YtenbfeemmpjdhaaGreatDoor
open Go Go.Hl Go.Pl Go.RowKit Go.Shelf
set_option maxRecDepth 100000

def aR9 : Go.Shelf.Ren := ⟨fun | 173 => 133 | 246 => 164 | 283 => 184 | 284 => 185 | 285 => 186 | 286 => 187 | 129 => 148 | 317 => 193 | 318 => 194 | 319 => 195 | 320 => 196 | 337 => 199 | 338 => 200 | n => n, fun | 2 => 2 | 3 => 3 | 9 => 9 | 4 => 4 | 171 => 204 | 0 => 0 | 53 => 145 | 37 => 30 | 5 => 5 | 173 => 206 | 212 => 217 | 51 => 151 | 20 => 20 | 213 => 218 | 46 => 144 | 232 => 48 | 233 => 222 | n => n, fun | 17 => 3 | 18 => 4 | 19 => 5 | n => n⟩
theorem cA8 : Go.Proofs.LaysM.n173 Tryz.prog aR9 := {
  mixed := by kernel_rfl
  f129 := Tryz.func148.trans (congrArg some (by kernel_rfl))
  f173 := Tryz.func133.trans (congrArg some (by kernel_rfl))
  f246 := Tryz.func164.trans (congrArg some (by kernel_rfl))
  f283 := Tryz.func184.trans (congrArg some (by kernel_rfl))
  f284 := Tryz.func185.trans (congrArg some (by kernel_rfl))
  f285 := Tryz.func186.trans (congrArg some (by kernel_rfl))
  f286 := Tryz.func187.trans (congrArg some (by kernel_rfl))
  f317 := Tryz.func193.trans (congrArg some (by kernel_rfl))
  f318 := Tryz.func194.trans (congrArg some (by kernel_rfl))
  f319 := Tryz.func195.trans (congrArg some (by kernel_rfl))
  f320 := Tryz.func196.trans (congrArg some (by kernel_rfl))
  f337 := Tryz.func199.trans (congrArg some (by kernel_rfl))
  f338 := Tryz.func200.trans (congrArg some (by kernel_rfl))
  t0 := Tryz.underlying0
  a0 := Tryz.isAgg0
  z0 := Tryz.sizeOf0
  v0 := Tryz.zeroValue0
  t2 := Tryz.underlying2
  a2 := Tryz.isAgg2
  z2 := Tryz.sizeOf2
  v2 := Tryz.zeroValue2
  t3 := Tryz.underlying3
  a3 := Tryz.isAgg3
  z3 := Tryz.sizeOf3
  v3 := Tryz.zeroValue3
  t4 := Tryz.underlying4
  a4 := Tryz.isAgg4
  z4 := Tryz.sizeOf4
  v4 := Tryz.zeroValue4
  t5 := Tryz.underlying5
  a5 := Tryz.isAgg5
  z5 := Tryz.sizeOf5
  v5 := Tryz.zeroValue5
  t9 := Tryz.underlying9
  a9 := Tryz.isAgg9
  z9 := Tryz.sizeOf9
  v9 := Tryz.zeroValue9
  t20 := Tryz.underlying20
  a20 := Tryz.isAgg20
  z20 := Tryz.sizeOf20
  v20 := Tryz.zeroValue20
  t37 := Tryz.underlying30
  a37 := Tryz.isAgg30
  z37 := Tryz.sizeOf30
  v37 := Tryz.zeroValue30
  t46 := Tryz.underlying144
  a46 := Tryz.isAgg144
  z46 := Tryz.sizeOf144
  v46 := Tryz.zeroValue144
  t51 := Tryz.underlying151
  a51 := Tryz.isAgg151
  z51 := Tryz.sizeOf151
  v51 := Tryz.zeroValue151
  t53 := Tryz.underlying145
  a53 := Tryz.isAgg145
  z53 := Tryz.sizeOf145
  v53 := Tryz.zeroValue145
  t171 := Tryz.underlying204
  a171 := Tryz.isAgg204
  z171 := Tryz.sizeOf204
  v171 := Tryz.zeroValue204
  t173 := Tryz.underlying206
  a173 := Tryz.isAgg206
  z173 := Tryz.sizeOf206
  v173 := Tryz.zeroValue206
  t212 := Tryz.underlying217
  a212 := Tryz.isAgg217
  z212 := Tryz.sizeOf217
  v212 := Tryz.zeroValue217
  t213 := Tryz.underlying218
  a213 := Tryz.isAgg218
  z213 := Tryz.sizeOf218
  t232 := Tryz.underlying48
  a232 := Tryz.isAgg48
  z232 := Tryz.sizeOf48
  v232 := Tryz.zeroValue48
  t233 := Tryz.underlying222
  a233 := Tryz.isAgg222
  z233 := Tryz.sizeOf222
  v233 := Tryz.zeroValue222
  g17 := by kernel_rfl
  g18 := by kernel_rfl
  g19 := by kernel_rfl
  i0 := by kernel_rfl
  i2 := by kernel_rfl
  i3 := by kernel_rfl
  i4 := by kernel_rfl
  i5 := by kernel_rfl
  i9 := by kernel_rfl
  i20 := by kernel_rfl
  i37 := by kernel_rfl
  i46 := by kernel_rfl
  i51 := by kernel_rfl
  i53 := by kernel_rfl
  i171 := by kernel_rfl
  i173 := by kernel_rfl
  i212 := by kernel_rfl
  i232 := by kernel_rfl
  i233 := by kernel_rfl
  m17 := by kernel_rfl
  m18 := by kernel_rfl
  m19 := by kernel_rfl }

theorem aD7 : Tryz.prog.globalNamed "internal/strconv.uint64pow10" = some 3 := by kernel_rfl
def tabs : lI := [(3, Lib.pow10Tab.map fun z => Value.int .u64 z)]
theorem bD5 (n : Int) (h : -9223372036854775808 ≤ n ∧ n ≤ 9223372036854775807) : fZ Tryz.prog 133 tabs [.int .i64 n, .int .i64 10] (fun v => v = .str (qB n)) :=
  aN8 (by kernel_rfl) aD7 (List.mem_cons_self) (fun w hw => Any.strconv_FormatInt_10 cA8 n h.1 h.2 w hw)
end Go.Proofs.YtenbfeemmpjdhaaGreatDoor

namespace Go.Proofs.YtenbfeemmpjdhaaGreatDoor
open Go Go.Hl Go.Pl
set_option maxRecDepth 10000
set_option maxHeartbeats 16000000

theorem bN8 (n : Int) (hn : -9223372036854775808 ≤ n ∧ n ≤ 9223372036854775807) : fZ Tryz.prog 108 tabs [.int .i64 n] (fun v => v = .str (qB n)) := by
 refine bH (args := [.c (.int .i64 n)]) Tryz.func108 rfl (by kernel_rfl) (cZ tabs [.int .i64 n]) (Nat.le_of_ble_eq_true rfl) ?_
 refine R0 ?_
 refine aB fun K hK => Rg ?_
 refine S0 ?_
 refine HS rfl rfl fun K' hK' => T5 ?_
 refine eO (args := [_, _]) 0 (bD5 n hn) (eY _ 0) (by simp) ⟨rfl, rfl, rfl, rfl⟩ ?_
 rintro u rfl
 refine AX (hK' _ _ ?_)
 clear hK' K'
 refine S0 ?_
 refine T2 (hK _ _ _ ?_)
 clear hK K
 refine aD (RT Tryz.results108 ?_)
 exact eA [] (.str _) rfl (eY _ 0) (by simp) rfl

end Go.Proofs.YtenbfeemmpjdhaaGreatDoor

namespace Go.Proofs.YtenbfeemmpjdhaaGreatDoor
open Go Go.Hl Go.Pl
set_option maxRecDepth 10000
set_option maxHeartbeats 16000000

end Go.Proofs.YtenbfeemmpjdhaaGreatDoor
