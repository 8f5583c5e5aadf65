/- HL: a function that is handed a box by its address behind its other arguments. By an AI agent. -/
import Derived.Test.YtenbfeemmpjdhaaGreatDoorHyT4
import Derived.Test.YtenbfeemmpjdhaaGreatDoorHyTh
import Derived.Test.YtenbfeemmpjdhaaGreatDoorHySb
import Derived.Test.YtenbfeemmpjdhaaGreatDoorHyTz
import Derived.Test.YtenbfeemmpjdhaaGreatDoorPl11w
import Derived.Shelf.LaysM
import Derived.Shelf.Strings.BuilderK
import Derived.Test.YtenbfeemmpjdhaaGreatDoorPl11m
import Derived.Test.YtenbfeemmpjdhaaGreatDoorChecked
import Derived.WalkKit
import Derived.BigCall
import Derived.Shelf.Strconv.Itoa4
import Derived.Test.YtenbfeemmpjdhaaGreatDoorHyT5
import Derived.Test.YtenbfeemmpjdhaaGreatDoorPl11v
import Derived.Test.YtenbfeemmpjdhaaGreatDoorHyTa
set_option linter.unusedSimpArgs false
set_option linter.unusedVariables false
set_option linter.defProp false
namespace Go.Proofs.YtenbfeemmpjdhaaGreatDoor
open Go Go.Hl Go.Pl
set_option maxRecDepth 10000
set_option maxHeartbeats 16000000
attribute [local simp] tp

theorem aT8 (L : List Int) (a : Nat) (v : Int) (ha : a + 200 < 2 ^ 40) : bM5 Tryz.prog 22 39 (tp L a) [.int .i64 v] (fun u v' => ∃ (r : Rt) (a' : Nat), u = r.cv ∧ v' = tp L a' ∧ a' ≤ a + 150 ∧ rOk r ∧ (1 ≤ v → v ≤ dX → bJ r = true)) := by
 refine bS Tryz.func22 rfl (by kernel_rfl) (fW _ _ _) (Nat.le_of_ble_eq_true rfl) ?_
 refine R0 ?_
 refine aB fun K hK => Rg ?_
 iterate 2 refine S0 ?_
 refine HS rfl rfl fun K' hK' => T5 ?_
 refine bI (args := [_]) (bV L a 100 (by omega) (by omega)) rfl (by simp) ⟨rfl, rfl, rfl, rfl⟩ ?_
 rintro u v' ⟨x0, a1, rfl, rfl, h1, h2, h3, h4⟩
 refine AX (hK' _ _ ?_)
 clear hK' K'
 iterate 4 refine S0 ?_
 refine T2 (hK _ _ _ ?_)
 clear hK K
 refine aB fun K hK => Rg ?_
 refine HS rfl rfl fun K' hK' => T5 ?_
 refine C0 uV ?_
 rintro u rfl
 refine AX (hK' _ _ ?_)
 clear hK' K'
 refine S0 ?_
 refine T2 (hK _ _ _ ?_)
 clear hK K
 refine aB fun K hK => ?_
 refine R0 ?_
 refine aH ?_
 obtain ⟨e0, he0⟩ : ∃ e0, e0 = IntKind.i64.wrap (20 + x0) := ⟨_, rfl⟩
 refine gL 25 2 64 2 rfl rfl rfl rfl ?_
 refine aT (α := {y : Nat × Nat × List Qt // y.1 ≤ 10 ∧ y.2.1 ≤ a + 1 + 2 * y.1 ∧ y.2.2.length ≤ y.1 ∧ ∀ q ∈ y.2.2, q.r ∈ roles10}) (fun y => (fin [(0, .ptr 0 0), (1, .c (.int .i64 v)), (4, .ptr 1 0), (5, .ptr 25 0), (6, .c (.slc (roles10.map .str))), (7, .c (.int .i64 y.1.1))], fob [(0, .box 39 (.c (tp L y.1.2.1))), (1, .box 26 (.c zR)), (25, .box 26 (.agg [.c (.int .i64 v), .c (.int .i64 e0), .own 45 y.1.2.2.length, .c .nils, .c .nils])), (45, .row 64 2 (y.1.2.2.map Qt.cv))])) 100 (fun y => 10 - y.1.1) ⟨(0, a1, []), by simp, by simp only; omega, by simp, by simp⟩ (aQ (by omega) (by simp [aX, fin_at, finA_at, upd_at, HV.men, HV.menL, HV.norm, HV.toC, HV.toCL]) (by simp [bB, fob_at, upd_at, none0_at, bU, HO.men, HV.men, HV.menL, HV.norm, HV.toC, HV.toCL, zR, he0])) ?_
 clear he0 h1 h2 h3 h4
 rintro ⟨⟨i, b, qs⟩, hi, hb0, hql, hqm⟩
 simp only at hi hb0 hql hqm ⊢
 have hrl : (roles10.map CV.str).length = 10 := rfl
 refine aB fun K hK => ?_
 refine aB fun K hK => Rg ?_
 have F := hrl
 iterate 4 refine SF ?_
 refine T2 (hK _ _ _ ?_)
 clear hK K
 refine aJ (b := decide ((i : Int) < 10)) rfl (fun hb => ?_) (fun hb => ?_)
 ·
  have hlt : i < 10 := by simp at hb; omega
  have hlt' : (i : Int) < 10 := by omega
  have hlr : i < roles10.length := hlt
  refine aG ?_
  refine T0 (hK _ _ _ ?_)
  clear hK K
  refine aB fun K hK => ?_
  have key : ∀ (b' : Nat) (qs' : List Qt) fr ob nx, b' ≤ a + 1 + 2 * (i + 1) → qs'.length ≤ i + 1 → (∀ q ∈ qs', q.r ∈ roles10) → Fits 1 fr ob (fin [(0, .ptr 0 0), (1, .c (.int .i64 v)), (4, .ptr 1 0), (5, .ptr 25 0), (6, .c (.slc (roles10.map .str))), (7, .c (.int .i64 i))]) (fob [(0, .box 39 (.c (tp L b'))), (1, .box 26 (.c zR)), (25, .box 26 (.agg [.c (.int .i64 v), .c (.int .i64 e0), .own 45 qs'.length, .c .nils, .c .nils])), (45, .row 64 2 (qs'.map Qt.cv))]) 400 → K fr ob nx := by
   intro b' qs' fr ob nx w1 w2 w3 hf
   refine hK _ _ _ (bE hf ?_)
   clear hf hK K
   refine aM (by kernel_rfl) ?_
   refine TQ (bK i) ?_
   refine ⟨⟨(i + 1, b', qs'), hlt, w1, w2, w3⟩, fF, ?_⟩
   show 10 - (i + 1) < 10 - i
   omega
  refine aH ?_
  refine aB fun K hK => Rg ?_
  have F := aI @Int.natCast_nonneg (aI hrl (aI hlt' (aI hlr (nM hlr))))
  refine SF ?_
  refine HS rfl rfl fun K' hK' => T6 ?_
  refine bI (args := [_]) (bV L b 8 (by omega) (by omega)) rfl (by simp) ⟨rfl, rfl, rfl, rfl⟩ ?_
  rintro u v' ⟨x1, b1, rfl, rfl, g1, g2, g3, g4⟩
  refine AX (hK' _ _ ?_)
  clear hK' K'
  iterate 2 refine SF ?_
  refine aE 25 rfl (fun h6_25 => ?_) (fun h6_25 => ?_)
  ·
   have F := aI @Int.natCast_nonneg (aI hrl (aI hlt' (aI hlr (aI (nM hlr) h6_25))))
   iterate 6 refine SF ?_
   refine T2 (hK _ _ _ ?_)
   clear hK K
   refine CT rfl ?_
   refine DW [(0, [], []), (1, [], []), (2, [], []), (3, [], []), (4, [], []), (5, [], []), (6, [], []), (7, [], [0, 1, 2, 3, 4, 5]), (8, [], []), (9, [], []), (10, [], []), (11, [], []), (12, [], []), (13, [], []), (14, [], [])] [0, 1, 0, 0, 12, 28, 0, 64, 192, 448, 1020, 2044, 4095, 8191, 16383] ?_
   have F := aI @Int.natCast_nonneg (aI hrl (aI hlt' (aI hlr (aI (nM hlr) (aI @List.length_append.{0} h6_25)))))
   iterate 7 refine WF ?_
   refine aN (g := none) rfl rfl fun K' hK' => T6 ?_
   refine bI (args := [_]) (bV L b1 5 (by omega) (by omega)) rfl (by simp) ⟨rfl, rfl, rfl, rfl⟩ ?_
   rintro u v' ⟨x2, b2, rfl, rfl, k1, k2, k3, k4⟩
   refine AX (hK' _ _ ?_)
   clear hK' K'
   iterate 2 refine WF ?_
   refine aN (g := none) rfl rfl fun K' hK' => T6 ?_
   rw [qM _ _ rfl rfl]
   refine AX (hK' _ _ ?_)
   clear hK' K'
   iterate 4 refine WF ?_
   refine T4 ?_
   exact key b2 (qs ++ [⟨roles10[i], IntKind.i64.wrap (1 + IntKind.i64.wrap (x2.tdiv 3))⟩]) _ _ _ (by omega) (by simp; omega) (fun q hq => by
    rcases List.mem_append.1 hq with hq | hq
    ·
     exact hqm q hq
    rw [List.mem_singleton] at hq; rw [hq]; exact List.getElem_mem _) (fF)
  have F := aI @Int.natCast_nonneg (aI hrl (aI hlt' (aI hlr (aI (nM hlr) h6_25))))
  iterate 6 refine SF ?_
  refine aE 31 rfl (fun h6_31 => ?_) (fun h6_31 => ?_)
  ·
   simp only [h6_31]
   refine T2 (hK _ _ _ ?_)
   clear hK K
   refine CT rfl ?_
   refine DW [(0, [], []), (1, [], []), (2, [], []), (3, [], []), (4, [], []), (5, [], []), (6, [], []), (7, [], [0, 1, 2, 3, 4, 5]), (8, [], []), (9, [], []), (10, [], []), (11, [], []), (12, [], []), (13, [], []), (14, [], [])] [0, 1, 0, 0, 12, 28, 0, 64, 192, 448, 1020, 2044, 4095, 8191, 16383] ?_
   have F := aI @Int.natCast_nonneg (aI hrl (aI hlt' (aI hlr (aI (nM hlr) (aI @List.length_append.{0} (aI h6_25 h6_31))))))
   iterate 7 refine WF ?_
   refine aN (g := none) rfl rfl fun K' hK' => T6 ?_
   refine bI (args := [_]) (bV L b1 5 (by omega) (by omega)) rfl (by simp) ⟨rfl, rfl, rfl, rfl⟩ ?_
   rintro u v' ⟨x2, b2, rfl, rfl, k1, k2, k3, k4⟩
   refine AX (hK' _ _ ?_)
   clear hK' K'
   iterate 2 refine WF ?_
   refine aN (g := none) rfl rfl fun K' hK' => T6 ?_
   rw [qM _ _ rfl rfl]
   refine AX (hK' _ _ ?_)
   clear hK' K'
   iterate 4 refine WF ?_
   refine T4 ?_
   exact key b2 (qs ++ [⟨roles10[i], IntKind.i64.wrap (1 + IntKind.i64.wrap (x2.tdiv 3))⟩]) _ _ _ (by omega) (by simp; omega) (fun q hq => by
    rcases List.mem_append.1 hq with hq | hq
    ·
     exact hqm q hq
    rw [List.mem_singleton] at hq; rw [hq]; exact List.getElem_mem _) (fF)
  simp only [h6_31]
  refine T2 (hK _ _ _ ?_)
  clear hK K
  refine CF rfl ?_
  refine aG (T3 ?_)
  exact key b1 qs _ _ _ (by omega) (by omega) hqm (fF)
 refine aS (T3 ?_)
 clear hK K
 refine AX (hK _ _ _ ?_)
 clear hK K
 refine aB fun K hK => ?_
 clear hb
 refine bT [45] (bE (fr2 := fin [(0, .ptr 0 0), (1, .c (.int .i64 v)), (4, .ptr 1 0), (5, .ptr 25 0)]) (ob2 := fob [(0, .box 39 (.c (tp L b))), (1, .box 26 (.c (Rt.cv ⟨0, 0, [], [], []⟩))), (25, .box 26 (.c (Rt.cv ⟨v, e0, qs, [], []⟩)))]) (nx2 := 200) (aQ (by omega) (by simp [aX, cD, fin_at, finA_at, upd_at, fob_at, HV.close, HV.closeL, CV.denil, CV.denilL, denilL_str, denilL_Rv, denilL_Qt, denilL_Ky, HV.men, HV.menL, HV.norm, HV.toC, HV.toCL]) (by simp [bB, cE, fob_at, upd_at, none0_at, bU, HO.close, HV.close, HV.closeL, HO.men, HV.men, HV.menL, HV.norm, HV.toC, HV.toCL, Rt.denil, zR, Rt.cv, CV.denil, CV.denilL, denilL_str, denilL_Rv, denilL_Qt, denilL_Ky, denilL_int])) ?_)
 refine R0 ?_
 refine aH ?_
 refine aT (α := {y : Nat × Nat × List Ky // y.1 ≤ 6 ∧ y.2.1 ≤ a + 21 + 14 * y.1 ∧ y.2.2.length ≤ y.1 ∧ ∀ k ∈ y.2.2, kOk k}) (fun y => (fin [(0, .ptr 0 0), (1, .c (.int .i64 v)), (4, .ptr 1 0), (5, .ptr 25 0), (8, .c (.int .i64 y.1.1))], fob [(0, .box 39 (.c (tp L y.1.2.1))), (1, .box 26 (.c (Rt.cv ⟨0, 0, [], [], []⟩))), (25, .box 26 (.c (Rt.cv ⟨v, e0, qs, y.1.2.2, []⟩)))])) 300 (fun y => 6 - y.1.1) ⟨(0, b, []), by simp, by simp only; omega, by simp, by simp⟩ (fF) ?_
 clear hb0
 rintro ⟨⟨j, b, ks⟩, hj, hb0, hkl, hkm⟩
 simp only at hj hb0 hkl hkm ⊢
 refine aB fun K hK => ?_
 refine R0 ?_
 refine aJ (b := decide ((j : Int) < 6)) rfl (fun hb => ?_) (fun hb => ?_)
 ·
  have hlt : j < 6 := by simp at hb; omega
  refine aG ?_
  refine T0 (hK _ _ _ ?_)
  clear hK K
  refine aB fun K hK => ?_
  have key : ∀ (b' : Nat) (ks' : List Ky) fr ob nx, b' ≤ a + 21 + 14 * (j + 1) → ks'.length ≤ j + 1 → (∀ k ∈ ks', kOk k) → Fits 1 fr ob (fin [(0, .ptr 0 0), (1, .c (.int .i64 v)), (4, .ptr 1 0), (5, .ptr 25 0), (8, .c (.int .i64 j))]) (fob [(0, .box 39 (.c (tp L b'))), (1, .box 26 (.c (Rt.cv ⟨0, 0, [], [], []⟩))), (25, .box 26 (.c (Rt.cv ⟨v, e0, qs, ks', []⟩)))]) 500 → K fr ob nx := by
   intro b' ks' fr ob nx w1 w2 w3 hf
   refine hK _ _ _ (bE hf ?_)
   clear hf hK K
   refine aM (by kernel_rfl) ?_
   refine TQ (bK j) ?_
   refine ⟨⟨(j + 1, b', ks'), hlt, w1, w2, w3⟩, fF, ?_⟩
   show 6 - (j + 1) < 6 - j
   omega
  refine aH ?_
  refine aB fun K hK => ?_
  refine aB fun K hK => Rg ?_
  refine S0 ?_
  refine HS rfl rfl fun K' hK' => T5 ?_
  refine bI (args := [_]) (bV L b 6 (by omega) (by omega)) rfl (by simp) ⟨rfl, rfl, rfl, rfl⟩ ?_
  rintro u v' ⟨x1, b1, rfl, rfl, g1, g2, g3, g4⟩
  refine AX (hK' _ _ ?_)
  clear hK' K'
  refine S0 ?_
  refine T2 (hK _ _ _ ?_)
  clear hK K
  refine aJ (b := x1 == 0) rfl (fun hb => ?_) (fun hb => ?_)
  ·
   refine aS (T3 ?_)
   clear hK K
   exact key b1 ks _ _ _ (by omega) (by omega) hkm (fF)
  refine aG ?_
  refine T0 (hK _ _ _ ?_)
  clear hK K
  refine aB fun K hK => Rg ?_
  refine S0 ?_
  refine HS rfl rfl fun K' hK' => T5 ?_
  refine bI (args := [_]) (bV L b1 6 (by omega) (by omega)) rfl (by simp) ⟨rfl, rfl, rfl, rfl⟩ ?_
  rintro u v' ⟨x2, b2, rfl, rfl, k1, k2, k3, k4⟩
  refine AX (hK' _ _ ?_)
  clear hK' K'
  refine S0 ?_
  refine T2 (hK _ _ _ ?_)
  clear hK K
  refine DW [(0, [], []), (1, [], []), (2, [], []), (4, [], []), (6, [], []), (8, [], []), (9, [], []), (10, [], []), (11, [], []), (3, [], [0, 1, 4, 6, 8, 9, 10, 11]), (5, [], [0, 1, 6, 8, 9, 10, 11]), (7, [], [0, 1, 8, 9, 10, 11]), (12, [], [0, 1, 8, 9, 10]), (13, [], []), (14, [], []), (15, [], []), (16, [], []), (17, [], [])] [0, 1, 0, 4, 0, 28, 0, 124, 0, 0, 512, 0, 2300, 7932, 16380, 32767, 65535, 131071] ?_
  have F := aI @denilL_Ky (aI @denilL_str @Rt.fold)
  iterate 9 refine WF ?_
  refine aN (g := none) rfl rfl fun K' hK' => T6 ?_
  refine C1 (qY j (by omega)) ?_
  rintro u rfl
  refine AX (hK' _ _ ?_)
  clear hK' K'
  refine aN (g := none) rfl rfl fun K' hK' => T6 ?_
  refine C1 (aG7 j (by omega)) ?_
  rintro u rfl
  refine AX (hK' _ _ ?_)
  clear hK' K'
  refine aN (g := none) rfl rfl fun K' hK' => T6 ?_
  refine bI (args := []) (bT4 L b2 (by omega)) rfl (by simp) ⟨rfl, rfl, rfl, rfl⟩ ?_
  rintro u v' ⟨ws, b3, rfl, rfl, n1, n2, n3⟩
  refine AX (hK' _ _ ?_)
  clear hK' K'
  refine aN (g := none) rfl rfl fun K' hK' => T6 ?_
  refine bI (args := [_]) (bV L b3 60 (by omega) (by omega)) rfl (by simp) ⟨rfl, rfl, rfl, rfl⟩ ?_
  rintro u v' ⟨x3, b4, rfl, rfl, o1, o2, o3, o4⟩
  obtain ⟨un, hun⟩ : ∃ un, un = IntKind.i64.wrap (IntKind.i64.wrap (x2 + 1) + x3) := ⟨_, rfl⟩
  refine AX (hK' _ _ ?_)
  clear hK' K'
  iterate 2 refine WF ?_
  refine aN (g := none) rfl rfl fun K' hK' => T6 ?_
  refine C2 (yR ks ⟨aE3 j, kY j, ws, x2, IntKind.i64.wrap (IntKind.i64.wrap (x2 + 1) + x3)⟩ (by omega)) ?_
  rintro u rfl
  refine AX (hK' _ _ ?_)
  clear hK' K'
  iterate 2 refine WF ?_
  refine T4 ?_
  exact key b4 (uA ks ⟨aE3 j, kY j, ws, x2, IntKind.i64.wrap (IntKind.i64.wrap (x2 + 1) + x3)⟩) _ _ _ (by omega) (by rw [aF7]; omega) (fun k hk => by
   rcases aF8 hk with hk | rfl
   ·
    exact hkm k hk
   exact aS2 j ws _ _ n2 n3) (aQ (by omega) (by simp [aX, fin_at, finA_at, upd_at, HV.men, HV.menL, HV.norm, HV.toC, HV.toCL]) (by simp [bB, fob_at, upd_at, none0_at, bU, HO.men, HV.men, HV.menL, HV.norm, HV.toC, HV.toCL]; rfl))
 clear hb
 refine aS (T3 ?_)
 clear hK K
 refine AX (hK _ _ _ ?_)
 clear hK K
 refine aB fun K hK => ?_
 have key : ∀ (b' : Nat) (r : Rt) fr ob nx, b' ≤ a + 150 → rOk r → Fits 1 fr ob (fin [(0, .ptr 0 0), (1, .c (.int .i64 v)), (4, .ptr 1 0), (5, .ptr 25 0)]) (fob [(0, .box 39 (.c (tp L b'))), (1, .box 26 (.c (Rt.cv ⟨0, 0, [], [], []⟩))), (25, .box 26 (.c r.cv))]) 600 → K fr ob nx := by
  intro b' r fr ob nx w1 w2 hf
  refine hK _ _ _ (bE hf ?_)
  clear hf hK K
  refine aB fun K hK => ?_
  refine aB fun K hK => Rg ?_
  refine S0 ?_
  refine HS rfl rfl fun K' hK' => T5 ?_
  refine C1 (gR r w2.1) ?_
  rintro u rfl
  refine AX (hK' _ _ ?_)
  clear hK' K'
  refine S0 ?_
  refine T2 (hK _ _ _ ?_)
  clear hK K
  refine aJ (b := !bJ r) rfl (fun hb => ?_) (fun hb => ?_)
  ·
   refine aB fun K hK => Rg ?_
   refine HS rfl rfl fun K' hK' => T5 ?_
   refine C0 aK0 ?_
   rintro u rfl
   refine AX (hK' _ _ ?_)
   clear hK' K'
   iterate 2 refine S0 ?_
   refine T2 (hK _ _ _ ?_)
   clear hK K
   have F := @Rt.fold
   refine RF ?_
   refine R0 ?_
   refine aD (RT Tryz.results22 ?_)
   refine jJ [] (Rt.cv ⟨v, full.e, full.q, full.k, full.x⟩) (tp L b') (eD (Rt.denil _)) rfl ?_ (by simp) ⟨_, b', rfl, rfl, w1, sJ v, zV⟩
   simp [HV.close, HV.closeL, tp, CV.denil, CV.denilL, denilL_int, HV.norm, HV.toC, HV.toCL]
  refine aG ?_
  refine T0 (hK _ _ _ ?_)
  clear hK K
  refine R0 ?_
  refine aD (RT Tryz.results22 ?_)
  refine jJ [] r.cv (tp L b') (eD (Rt.denil _)) rfl ?_ (by simp) ⟨r, b', rfl, rfl, w1, w2, fun _ _ => by simpa using hb⟩
  simp [HV.close, HV.closeL, tp, CV.denil, CV.denilL, denilL_int, HV.norm, HV.toC, HV.toCL]
 refine aB fun K hK => Rg ?_
 refine S0 ?_
 refine HS rfl rfl fun K' hK' => T5 ?_
 refine bI (args := [_]) (bV L b 4 (by omega) (by omega)) rfl (by simp) ⟨rfl, rfl, rfl, rfl⟩ ?_
 rintro u v' ⟨x1, b1, rfl, rfl, g1, g2, g3, g4⟩
 refine AX (hK' _ _ ?_)
 clear hK' K'
 refine S0 ?_
 refine T2 (hK _ _ _ ?_)
 clear hK K
 refine aJ (b := x1 == 0) rfl (fun hb => ?_) (fun hb => ?_)
 ·
  refine DW [(0, [], []), (1, [], []), (4, [], []), (2, [], [0, 4]), (3, [], [0, 4]), (5, [], [0]), (6, [], []), (7, [], []), (8, [], [])] [0, 0, 2, 6, 0, 30, 62, 127, 255] ?_
  have F := @Rv.fold
  iterate 3 refine WF ?_
  refine aN (g := none) rfl rfl fun K' hK' => T6 ?_
  refine bI (args := [_]) (bV L b1 7 (by omega) (by omega)) rfl (by simp) ⟨rfl, rfl, rfl, rfl⟩ ?_
  rintro u v' ⟨x2, b2, rfl, rfl, k1, k2, k3, k4⟩
  obtain ⟨m, rfl⟩ : ∃ m : Nat, x2 = m := ⟨x2.toNat, by omega⟩
  refine AX (hK' _ _ ?_)
  clear hK' K'
  refine aN (g := none) rfl rfl fun K' hK' => T6 ?_
  refine C1 (vU m (by omega)) ?_
  rintro u rfl
  refine AX (hK' _ _ ?_)
  clear hK' K'
  refine aN (g := none) rfl rfl fun K' hK' => T6 ?_
  refine bI (args := [_]) (bV L b2 30 (by omega) (by omega)) rfl (by simp) ⟨rfl, rfl, rfl, rfl⟩ ?_
  rintro u v' ⟨x3, b3, rfl, rfl, o1, o2, o3, o4⟩
  refine AX (hK' _ _ ?_)
  clear hK' K'
  refine WF ?_
  refine aN (g := none) rfl rfl fun K' hK' => T6 ?_
  refine C2 (qZ ⟨v, e0, qs, ks, []⟩ ⟨mid m, x3⟩ (aM9 (by omega) hqm (by omega) hkm (by simp)).1) ?_
  rintro u ⟨xs, rfl, hxs⟩
  refine AX (hK' _ _ ?_)
  clear hK' K'
  refine WF ?_
  refine T4 ?_
  exact key b3 ⟨v, e0, qs, ks, xs⟩ _ _ _ (by omega) (aM9 (by omega) hqm (by omega) hkm (by simpa using hxs)) (fF)
 refine aG (T3 ?_)
 exact key b1 ⟨v, e0, qs, ks, []⟩ _ _ _ (by omega) (aM9 (by omega) hqm (by omega) hkm (by simp)) (fF)


theorem bL3 : aW Tryz.prog 12 [] (fun v => v = .bool true) := by
 refine FW Tryz.func12 ?_
 refine R0 ?_
 refine aB fun K hK => Rg ?_
 refine HS rfl rfl fun K' hK' => T5 ?_
 refine C0 aK0 ?_
 rintro u rfl
 refine AX (hK' _ _ ?_)
 clear hK' K'
 iterate 2 refine S0 ?_
 refine T2 (hK _ _ _ ?_)
 clear hK K
 refine aB fun K hK => DW [(0, [], []), (1, [], []), (2, [], []), (3, [], []), (4, [], []), (5, [], []), (6, [], []), (7, [], []), (8, [], []), (9, [], [8]), (10, [], []), (11, [], []), (12, [], []), (13, [], [])] [0, 1, 3, 7, 15, 31, 63, 127, 255, 255, 767, 2047, 4095, 8191] ?_
 have F := aI @uB (aI @xG (aI @aE4 @kO))
 refine WF ?_
 refine aN (g := none) rfl rfl fun K' hK' => T6 ?_
 refine C1 (mP full (sJ 1).1) ?_
 rintro u rfl
 refine AX (hK' _ _ ?_)
 clear hK' K'
 iterate 2 refine WF ?_
 refine aN (g := some (5, true)) rfl rfl fun K' hK' => T6 ?_
 refine C2 (aJ5 full tZ (sJ 1).1) ?_
 rintro u rfl
 rw [xG]
 refine AX (hK' _ _ ?_)
 clear hK' K'
 iterate 4 refine WF ?_
 refine aN (g := some (10, true)) rfl rfl fun K' hK' => T6 ?_
 refine C1 (vU 0 (by omega)) ?_
 rintro u rfl
 refine AX (hK' _ _ ?_)
 clear hK' K'
 refine WF ?_
 refine aN (g := some (10, true)) rfl rfl fun K' hK' => T6 ?_
 refine oB (e := 49) (sz := 32) (l := [mid 0].map dg) [full.cv, .str tZ] [.int .i64 5] (qT full tZ [mid 0] 5 (sJ 1).1 (by simp)) rfl rfl (by simp) ⟨rfl, rfl, rfl, rfl⟩ ?_
 rintro u rfl
 refine AX (hK' _ _ ?_)
 clear hK' K'
 iterate 2 refine WF ?_
 refine T2 (hK _ _ _ ?_)
 clear hK K
 refine aD (RT Tryz.results12 ?_)
 exact aC [] (.bool true) rfl rfl

end Go.Proofs.YtenbfeemmpjdhaaGreatDoor

namespace Go.Proofs.YtenbfeemmpjdhaaGreatDoor
open Go Go.Hl Go.Pl
set_option maxRecDepth 10000
set_option maxHeartbeats 16000000
attribute [local simp] tp

theorem cC4 (r : Rt) (L : List Int) (a : Nat) (ha : a + 400 < 2 ^ 40) (hx : r.x.length < 2 ^ 30) : bH9 Tryz.prog 14 39 (tp L a) [r.cv] (fun u x v' => ∃ (r' : Rt) (K : List Dig) (a' : Nat), u = r'.cv ∧ x = .slc (K.map dg) ∧ v' = tp L a' ∧ a' ≤ a + 200 ∧ rSz r' ∧ K.length ≤ 6) := by
 refine bS (args := [.c r.cv, .ptr 0 0]) Tryz.func14 rfl (by kernel_rfl) (nA _ _ [r.cv]) (Nat.le_of_ble_eq_true rfl) ?_
 refine R0 ?_
 refine aB fun K hK => Rg ?_
 iterate 4 refine S0 ?_
 refine HS rfl rfl fun K' hK' => T5 ?_
 refine bI (args := [_]) (aT8 L a (IntKind.i64.wrap (r.v + 1)) (by omega)) rfl (by simp) ⟨rfl, rfl, rfl, rfl⟩ ?_
 rintro u v' ⟨x0, a1, rfl, rfl, k1, hx0, hv0⟩
 refine AX (hK' _ _ ?_)
 clear hK' K'
 iterate 2 refine S0 ?_
 refine T2 (hK _ _ _ ?_)
 clear hK K
 refine R0 ?_
 refine aB fun K hK => ?_
 refine R0 ?_
 refine aH ?_
 refine bT [] ?_
 refine aT (α := {y : Nat × Rt // y.1 ≤ r.x.length ∧ rSz y.2 ∧ y.2.x.length ≤ y.1}) (fun y => (fin [(1, .ptr 0 0), (2, .ptr 1 0), (4, .ptr 5 0), (6, .ptr 33 0), (7, .c (.int .i64 y.1.1))], fob [(0, .box 39 (.c (tp L a1))), (1, .box 26 (.c r.cv)), (5, .box 26 (.c (Rt.cv ⟨0, 0, [], [], []⟩))), (33, .box 26 (.c y.1.2.cv))])) 100 (fun y => r.x.length - y.1.1) ⟨(0, ⟨x0.v, x0.e, x0.q, x0.k, []⟩), by simp, ⟨hx0.1.1, hx0.1.2.1, by simp⟩, by simp⟩ (aQ (by omega) (by simp [aX, cD, fin_at, finA_at, upd_at, fob_at, HV.close, HV.closeL, CV.denil, CV.denilL, denilL_str, denilL_Rv, denilL_Qt, denilL_Ky, HV.men, HV.menL, HV.norm, HV.toC, HV.toCL]) (by simp [bB, cE, fob_at, upd_at, none0_at, bU, HO.close, HV.close, HV.closeL, HO.men, HV.men, HV.menL, HV.norm, HV.toC, HV.toCL, Rt.denil, zR, Rt.cv, CV.denil, CV.denilL, denilL_int, denilL_str, denilL_Rv, denilL_Qt, denilL_Ky])) ?_
 rintro ⟨⟨i, z⟩, hi, hz, hzl⟩
 simp only at hi hz hzl ⊢
 refine aB fun K hK => ?_
 refine aB fun K hK => Rg ?_
 iterate 5 refine S0 ?_
 refine T2 (hK _ _ _ ?_)
 clear hK K
 refine aJ (b := decide ((i : Int) < r.x.length)) rfl (fun hb => ?_) (fun hb => ?_)
 ·
  have hlt : i < r.x.length := by simpa using hb
  clear hb
  refine aG ?_
  refine T0 (hK _ _ _ ?_)
  clear hK K
  refine aB fun K hK => ?_
  refine aH ?_
  refine DW [(0, [], []), (1, [], []), (2, [], []), (3, [], []), (4, [], []), (5, [], []), (6, [], []), (7, [], [])] [0, 0, 2, 0, 14, 30, 63, 127] ?_
  have F := aI @Int.natCast_nonneg (aI @Int.ofNat_lt (aI hlt (nM hlt)))
  iterate 6 refine WF ?_
  refine aN (g := none) rfl rfl fun K' hK' => T6 ?_
  refine C2 (qZ z r.x[i] hz) ?_
  rintro u ⟨xs, rfl, hxs⟩
  refine AX (hK' _ _ ?_)
  clear hK' K'
  refine WF ?_
  refine T2 (hK _ _ _ ?_)
  clear hK K
  refine aM (by kernel_rfl) ?_
  refine TQ (bK i) ?_
  refine ⟨⟨(i + 1, ⟨z.v, z.e, z.q, z.k, xs⟩), hlt, ⟨hz.1, hz.2.1, by show xs.length < _; omega⟩, by show xs.length ≤ _; omega⟩, fF, ?_⟩
  show r.x.length - (i + 1) < r.x.length - i
  omega
 clear hb
 refine aS (T3 ?_)
 clear hK K
 refine AX (hK _ _ _ ?_)
 clear hK K
 refine aB fun K hK => ?_
 have key : ∀ (z : Rt) (b : Nat) fr ob nx, rSz z → b ≤ a1 + 10 → Fits 1 fr ob (fin [(1, .ptr 0 0), (4, .ptr 5 0), (6, .ptr 33 0)]) (fob [(0, .box 39 (.c (tp L b))), (5, .box 26 (.c (Rt.cv ⟨0, 0, [], [], []⟩))), (33, .box 26 (.c z.cv))]) 500 → K fr ob nx := by
  intro z b fr ob nx hz hb hf
  refine hK _ _ _ (bE hf ?_)
  clear hf hK K
  refine R0 ?_
  refine aB fun K hK => ?_
  refine R0 ?_
  refine aH ?_
  refine bT [] ?_
  refine aT (α := {y : Nat × List Dig × Nat // y.1 ≤ 6 ∧ y.2.1.length ≤ y.1 ∧ y.2.2 ≤ b + y.1}) (fun y => (fin [(1, .ptr 0 0), (4, .ptr 5 0), (6, .ptr 33 0), (8, .c (.slc (y.1.2.1.map dg))), (9, .c (.int .i64 y.1.1))], fob [(0, .box 39 (.c (tp L y.1.2.2))), (5, .box 26 (.c (Rt.cv ⟨0, 0, [], [], []⟩))), (33, .box 26 (.c z.cv))])) 600 (fun y => 6 - y.1.1) ⟨(0, [], b), by simp, by simp, by simp⟩ (aQ (by omega) (by simp [aX, cD, fin_at, finA_at, upd_at, fob_at, HV.close, HV.closeL, CV.denil, CV.denilL, HV.men, HV.menL, HV.norm, HV.toC, HV.toCL]) (by simp [bB, cE, fob_at, upd_at, none0_at, bU, HO.close, HV.close, HV.closeL, HO.men, HV.men, HV.menL, HV.norm, HV.toC, HV.toCL, Rt.denil, CV.denil, CV.denilL, denilL_int])) ?_
  rintro ⟨⟨i, Kl, c⟩, hi, hkl, hc⟩
  simp only at hi hkl hc ⊢
  refine aB fun K hK => ?_
  refine R0 ?_
  refine aJ (b := decide ((i : Int) < 6)) rfl (fun hb => ?_) (fun hb => ?_)
  ·
   have hlt : i < 6 := by simp at hb; omega
   refine aG ?_
   refine T0 (hK _ _ _ ?_)
   clear hK K
   refine aB fun K hK => ?_
   have key : ∀ (K' : List Dig) (c' : Nat) fr ob nx, K'.length ≤ i + 1 → c' ≤ c + 1 → Fits 1 fr ob (fin [(1, .ptr 0 0), (4, .ptr 5 0), (6, .ptr 33 0), (8, .c (.slc (K'.map dg))), (9, .c (.int .i64 i))]) (fob [(0, .box 39 (.c (tp L c'))), (5, .box 26 (.c (Rt.cv ⟨0, 0, [], [], []⟩))), (33, .box 26 (.c z.cv))]) 800 → K fr ob nx := by
    intro K' c' fr ob nx w1 w2 hf
    refine hK _ _ _ (bE hf ?_)
    clear hf hK K
    refine aM (by kernel_rfl) ?_
    refine TQ (bK i) ?_
    refine ⟨⟨(i + 1, K', c'), hlt, w1, by simp only; omega⟩, fF, ?_⟩
    show 6 - (i + 1) < 6 - i
    omega
   refine aH ?_
   refine aB fun K hK => Rg ?_
   refine S0 ?_
   refine HS rfl rfl fun K' hK' => T5 ?_
   refine bI (args := [_]) (bV L c 4 (by omega) (by omega)) rfl (by simp) ⟨rfl, rfl, rfl, rfl⟩ ?_
   rintro u v' ⟨y2, c2, rfl, rfl, j2, j3, j4, j5⟩
   refine AX (hK' _ _ ?_)
   clear hK' K'
   refine S0 ?_
   refine T2 (hK _ _ _ ?_)
   clear hK K
   refine aJ (b := decide (0 < y2)) rfl (fun hb => ?_) (fun hb => ?_)
   ·
    refine Rg ?_
    iterate 2 refine S0 ?_
    refine HS rfl rfl fun K' hK' => T5 ?_
    refine C1 (vU i (by omega)) ?_
    rintro u rfl
    refine AX (hK' _ _ ?_)
    clear hK' K'
    refine HS rfl rfl fun K' hK' => T5 ?_
    refine C2 (bR9 Kl (mid i) (by omega)) ?_
    rintro u ⟨K2, rfl, hK2⟩
    refine AX (hK' _ _ ?_)
    clear hK' K'
    refine S0 ?_
    refine T4 ?_
    exact key K2 c2 _ _ _ (by omega) (by omega) (fF)
   refine aG (T3 ?_)
   exact key Kl c2 _ _ _ (by omega) (by omega) (fF)
  refine aS (T3 ?_)
  clear hK K
  refine AX (hK _ _ _ ?_)
  clear hK K
  refine aB fun K hK => Rg ?_
  iterate 4 refine S0 ?_
  refine T2 (hK _ _ _ ?_)
  clear hK K
  refine aD (RT Tryz.results14 ?_)
  refine aO0 [] z.cv (.slc (Kl.map dg)) (tp L c) ?_ rfl ?_ (by simp) ⟨z, Kl, c, rfl, rfl, rfl, by omega, hz, by simp at hb; omega⟩
  ·
   simp [HV.close, HV.closeL, Rt.denil, CV.denil, CV.denilL, denilL_dg, HV.norm, HV.toC, HV.toCL]
  simp [HV.close, HV.closeL, tp, CV.denil, CV.denilL, denilL_int, HV.norm, HV.toC, HV.toCL]
 refine aB fun K hK => Rg ?_
 refine S0 ?_
 refine HS rfl rfl fun K' hK' => T5 ?_
 refine bI (args := [_]) (bV L a1 3 (by omega) (by omega)) rfl (by simp) ⟨rfl, rfl, rfl, rfl⟩ ?_
 rintro u v' ⟨y1, a2, rfl, rfl, k2, k3, k4, k5⟩
 refine AX (hK' _ _ ?_)
 clear hK' K'
 refine S0 ?_
 refine T2 (hK _ _ _ ?_)
 clear hK K
 refine aJ (b := y1 == 0) rfl (fun hb => ?_) (fun hb => ?_)
 ·
  refine DW [(0, [], []), (1, [], []), (4, [], []), (2, [], [0, 4]), (3, [], [0, 4]), (5, [], [0]), (6, [], []), (7, [], []), (8, [], [])] [0, 0, 2, 6, 0, 30, 62, 127, 255] ?_
  have F := @Rv.fold
  iterate 3 refine WF ?_
  refine aN (g := none) rfl rfl fun K' hK' => T6 ?_
  refine bI (args := [_]) (bV L a2 6 (by omega) (by omega)) rfl (by simp) ⟨rfl, rfl, rfl, rfl⟩ ?_
  rintro u v' ⟨y2, a3, rfl, rfl, j2, j3, j4, j5⟩
  obtain ⟨n2, rfl⟩ : ∃ n : Nat, y2 = n := ⟨y2.toNat, by omega⟩
  refine AX (hK' _ _ ?_)
  clear hK' K'
  refine aN (g := none) rfl rfl fun K' hK' => T6 ?_
  refine C1 (vU n2 (by omega)) ?_
  rintro u rfl
  refine AX (hK' _ _ ?_)
  clear hK' K'
  refine aN (g := none) rfl rfl fun K' hK' => T6 ?_
  refine bI (args := [_]) (bV L a3 20 (by omega) (by omega)) rfl (by simp) ⟨rfl, rfl, rfl, rfl⟩ ?_
  rintro u v' ⟨y3, a4, rfl, rfl, m2, m3, m4, m5⟩
  refine AX (hK' _ _ ?_)
  clear hK' K'
  refine WF ?_
  refine aN (g := none) rfl rfl fun K' hK' => T6 ?_
  refine C2 (qZ z ⟨mid n2, y3⟩ hz) ?_
  rintro u ⟨xs, rfl, hxs⟩
  refine AX (hK' _ _ ?_)
  clear hK' K'
  refine WF ?_
  refine T4 ?_
  exact key ⟨z.v, z.e, z.q, z.k, xs⟩ a4 _ _ _ ⟨hz.1, hz.2.1, by show xs.length < _; omega⟩ (by omega) (fF)
 refine aG (T3 ?_)
 exact key z a2 _ _ _ hz (by omega) (fF)


end Go.Proofs.YtenbfeemmpjdhaaGreatDoor

namespace Go.Proofs.YtenbfeemmpjdhaaGreatDoor
open Go Go.Hl Go.Pl Go.RowKit Go.Shelf
set_option maxRecDepth 100000
set_option linter.unusedVariables false

end Go.Proofs.YtenbfeemmpjdhaaGreatDoor

namespace Go.Proofs.YtenbfeemmpjdhaaGreatDoor
open Go Go.Hl Go.Pl Go.RowKit Go.Shelf
set_option maxRecDepth 100000
set_option linter.unusedVariables false
end Go.Proofs.YtenbfeemmpjdhaaGreatDoor

namespace Go.Proofs.YtenbfeemmpjdhaaGreatDoor
open Go Go.Hl Go.Pl
set_option maxRecDepth 10000
set_option maxHeartbeats 16000000


theorem aT9 (bs : List UInt8) (hl : bs.length < 2 ^ 40) : aW Tryz.prog 75 [.slc (bs.map u8)] (fun v => v = .str (pP bs)) := by
 refine FW Tryz.func75 ?_
 refine R0 ?_
 refine R0 ?_
 refine R0 ?_
 refine aB fun K hK => ?_
 refine R0 ?_
 refine aH ?_
 refine eH 4 0 5 1 rfl rfl rfl rfl ?_
 refine aT (α := {i : Nat // i ≤ bs.length}) (fun i => (fin [(0, .c (.slc (bs.map u8))), (3, .c (.str [48, 49, 50, 51, 52, 53, 54, 55, 56, 57, 97, 98, 99, 100, 101, 102])), (4, .own 16 (pP (bs.take i.1)).length), (5, .c (.int .i64 i.1))], fob [(16, .row 5 1 ((pP (bs.take i.1)).map u8))])) 100 (fun i => bs.length - i.1) ⟨0, by omega⟩ (fF) ?_
 rintro ⟨i, hi⟩
 have hle := aH2 (bs.take i)
 rw [List.length_take] at hle
 refine aB fun K hK => ?_
 refine aB fun K hK => Rg ?_
 iterate 4 refine S0 ?_
 refine T2 (hK _ _ _ ?_)
 clear hK K
 refine aJ (b := decide ((i : Int) < bs.length)) rfl (fun hb => ?_) (fun hb => ?_)
 ·
  have hlt : i < bs.length := by simpa using hb
  have hs := aY5 hlt
  have h16 : ((bs[i].toNat / 16 : Nat) : Int) < 16 := by have := bs[i].toNat_lt; omega
  have h15 : ((bs[i].toNat % 16 : Nat) : Int) < 16 := by omega
  refine aG ?_
  refine T0 (hK _ _ _ ?_)
  clear hK K
  refine aB fun K hK => ?_
  refine aH ?_
  refine DW [(0, [], []), (1, [], []), (2, [], []), (3, [], []), (4, [], []), (5, [], []), (6, [], []), (7, [], []), (8, [], []), (9, [], []), (10, [], []), (11, [], []), (12, [], []), (13, [], []), (14, [], []), (15, [], []), (16, [], []), (17, [], [])] [0, 0, 0, 0, 12, 28, 60, 126, 0, 0, 0, 1536, 3584, 7680, 16128, 32766, 65535, 131071] ?_
  iterate 18 refine W0 ?_ (e := fun _ h_ => by simp only [sH, ↓sP, sA, tyS, simprocAttr, Int.natCast_nonneg, Int.ofNat_lt, hlt, aO hlt, u8, List.length_append, List.length_map, cB8, bU5, h16, h15]; exact AX h_)
  refine T2 (hK _ _ _ ?_)
  clear hK K
  refine aM (by kernel_rfl) ?_
  refine TQ (bK i) ?_
  refine ⟨⟨i + 1, hlt⟩, aQ (by omega) ?_ ?_, ?_⟩
  ·
   rw [hs, bH6]
   simp [aX, upd_at, fin_at, HV.men]
  ·
   rw [hs, bH6, List.map_append]
   exact ⟨rfl, by omega, trivial, trivial⟩
  show bs.length - (i + 1) < bs.length - i
  omega
 refine aS (T3 ?_)
 clear hK K
 refine AX (hK _ _ _ ?_)
 clear hK K
 refine bT [16] (bE (fr2 := fin [(4, .c (.slc ((pP (bs.take i)).map u8)))]) (ob2 := fob []) (nx2 := 200) (aQ (by omega) (by simp [aX, cD, fin_at, finA_at, upd_at, fob_at, HV.close, HV.closeL, CV.denil, CV.denilL, denilL_u8, HV.men, HV.menL, HV.norm, HV.toC, HV.toCL]) (by simp [bB, cE, fob_at, upd_at, none0_at, bU, HO.close, HV.close, HV.closeL, HO.men, HV.men, HV.menL, HV.norm, HV.toC, HV.toCL])) ?_)
 have F := @aZ1
 refine RF ?_
 refine aD (RT Tryz.results75 ?_)
 have hei : i = bs.length := by simp at hb; omega
 subst hei
 exact aC [] (.str (pP bs)) (by rw [List.take_length]; rfl) rfl


theorem bL4 (h : iS) : aW Tryz.prog 28 [hf h] (fun v => v = .str (bY3 h)) := by
 refine FW Tryz.func28 ?_
 refine R0 ?_
 refine R0 ?_
 refine aB fun K hK => ?_
 refine R0 ?_
 refine aH ?_
 refine eH 3 0 5 1 rfl rfl rfl rfl ?_
 refine aT (α := {i : Nat // i ≤ 16}) (fun i => (fin [(1, .ptr 0 0), (3, .own 16 (h.1.take i.1).length), (4, .c (.int .i64 i.1))], fob [(0, .box 66 (.c (hf h))), (16, .row 5 1 ((h.1.take i.1).map u8))])) 100 (fun i => 16 - i.1) ⟨0, by omega⟩ (fF) ?_
 rintro ⟨i, hi⟩
 have hhl : h.1.length = 16 := h.2
 have hti : (h.1.take i).length = i := by simp; omega
 refine aB fun K hK => ?_
 refine R0 ?_
 refine aJ (b := decide ((i : Int) < 16)) rfl (fun hb => ?_) (fun hb => ?_)
 ·
  have hlt : i < 16 := by simp at hb; omega
  have hlt' : (i : Int) < 16 := by omega
  have hlh : i < h.1.length := by rw [h.2]; exact hlt
  refine aG ?_
  refine T0 (hK _ _ _ ?_)
  clear hK K
  refine aB fun K hK => ?_
  refine aH ?_
  refine Rg ?_
  iterate 7 refine S0 ?_ (e := fun _ h_ => by simp only [sH, ↓sP, sA, tyS, simprocAttr, Int.natCast_nonneg, hlt', bY2 hlt, Nat.mul_one, u8, hti, List.length_append, List.length_map]; exact AX h_)
  refine T2 (hK _ _ _ ?_)
  clear hK K
  refine aM (by kernel_rfl) ?_
  refine TQ (bK i) ?_
  refine ⟨⟨i + 1, hlt⟩, aQ (by omega) ?_ ?_, ?_⟩
  ·
   simp [aX, upd_at, fin_at, HV.men, hhl]
   omega
  ·
   simp only [List.take_succ_eq_append_getElem hlh, List.map_append]
   exact ⟨rfl, by omega, trivial, rfl, by omega, trivial, trivial⟩
  show 16 - (i + 1) < 16 - i
  omega
 refine aS (T3 ?_)
 clear hK K
 refine AX (hK _ _ _ ?_)
 clear hK K
 have hei : i = 16 := by simp at hb; omega
 subst hei
 rw [List.take_of_length_le (by omega)]
 refine bT [16] (bE (fr2 := fin [(3, .c (.slc (h.1.map u8)))]) (ob2 := fob []) (nx2 := 200) (aQ (by omega) (by simp [aX, cD, fin_at, finA_at, upd_at, fob_at, HV.close, HV.closeL, CV.denil, CV.denilL, denilL_u8, HV.men, HV.menL, HV.norm, HV.toC, HV.toCL]) (by simp [bB, cE, fob_at, upd_at, none0_at, bU, HO.close, HV.close, HV.closeL, HO.men, HV.men, HV.menL, HV.norm, HV.toC, HV.toCL])) ?_)
 refine aB fun K hK => Rg ?_
 have F := @denilL_u8
 refine SF ?_
 refine HS rfl rfl fun K' hK' => T6 ?_
 refine C1 (aT9 h.1 (by rw [h.2]; omega)) ?_
 rintro u rfl
 refine AX (hK' _ _ ?_)
 clear hK' K'
 refine SF ?_
 refine T2 (hK _ _ _ ?_)
 clear hK K
 refine aD (RT Tryz.results28 ?_)
 exact aC [] (.str _) rfl rfl


theorem bL5 (d : Dig) : aW Tryz.prog 29 [dg d] (fun v => v = .str (bY4 d)) := by
 refine FW Tryz.func29 ?_
 refine R0 ?_
 refine R0 ?_
 refine aB fun K hK => ?_
 refine R0 ?_
 refine aH ?_
 refine eH 3 0 5 1 rfl rfl rfl rfl ?_
 refine aT (α := {i : Nat // i ≤ 32}) (fun i => (fin [(1, .ptr 0 0), (3, .own 16 (d.1.take i.1).length), (4, .c (.int .i64 i.1))], fob [(0, .box 49 (.c (dg d))), (16, .row 5 1 ((d.1.take i.1).map u8))])) 100 (fun i => 32 - i.1) ⟨0, by omega⟩ (fF) ?_
 rintro ⟨i, hi⟩
 have hhl : d.1.length = 32 := d.2
 have hti : (d.1.take i).length = i := by simp; omega
 refine aB fun K hK => ?_
 refine R0 ?_
 refine aJ (b := decide ((i : Int) < 32)) rfl (fun hb => ?_) (fun hb => ?_)
 ·
  have hlt : i < 32 := by simp at hb; omega
  have hlt' : (i : Int) < 32 := by omega
  have hlh : i < d.1.length := by rw [d.2]; exact hlt
  refine aG ?_
  refine T0 (hK _ _ _ ?_)
  clear hK K
  refine aB fun K hK => ?_
  refine aH ?_
  refine Rg ?_
  iterate 7 refine S0 ?_ (e := fun _ h_ => by simp only [sH, ↓sP, sA, tyS, simprocAttr, Int.natCast_nonneg, hlt', aL8 hlt, Nat.mul_one, u8, hti, List.length_append, List.length_map]; exact AX h_)
  refine T2 (hK _ _ _ ?_)
  clear hK K
  refine aM (by kernel_rfl) ?_
  refine TQ (bK i) ?_
  refine ⟨⟨i + 1, hlt⟩, aQ (by omega) ?_ ?_, ?_⟩
  ·
   simp [aX, upd_at, fin_at, HV.men, hhl]
   omega
  ·
   simp only [List.take_succ_eq_append_getElem hlh, List.map_append]
   exact ⟨rfl, by omega, trivial, rfl, by omega, trivial, trivial⟩
  show 32 - (i + 1) < 32 - i
  omega
 refine aS (T3 ?_)
 clear hK K
 refine AX (hK _ _ _ ?_)
 clear hK K
 have hei : i = 32 := by simp at hb; omega
 subst hei
 rw [List.take_of_length_le (by omega)]
 have hle : 7 + (pP d.1).length ≤ 9223372036854775807 := by rw [aH2, d.2]; omega
 refine bT [16] (bE (fr2 := fin [(3, .c (.slc (d.1.map u8)))]) (ob2 := fob []) (nx2 := 200) (aQ (by omega) (by simp [aX, cD, fin_at, finA_at, upd_at, fob_at, HV.close, HV.closeL, CV.denil, CV.denilL, denilL_u8, HV.men, HV.menL, HV.norm, HV.toC, HV.toCL]) (by simp [bB, cE, fob_at, upd_at, none0_at, bU, HO.close, HV.close, HV.closeL, HO.men, HV.men, HV.menL, HV.norm, HV.toC, HV.toCL])) ?_)
 refine aB fun K hK => Rg ?_
 have F := aI hle @denilL_u8
 refine SF ?_
 refine HS rfl rfl fun K' hK' => T6 ?_
 refine C1 (aT9 d.1 (by rw [d.2]; omega)) ?_
 rintro u rfl
 refine AX (hK' _ _ ?_)
 clear hK' K'
 iterate 2 refine SF ?_
 refine T2 (hK _ _ _ ?_)
 clear hK K
 refine aD (RT Tryz.results29 ?_)
 exact aC [] (.str _) rfl rfl

end Go.Proofs.YtenbfeemmpjdhaaGreatDoor

namespace Go.Proofs.YtenbfeemmpjdhaaGreatDoor
open Go Go.Hl Go.Pl Go.RowKit Go.Shelf
set_option maxRecDepth 100000

end Go.Proofs.YtenbfeemmpjdhaaGreatDoor

namespace Go.Proofs.YtenbfeemmpjdhaaGreatDoor
open Go Go.Hl Go.Pl
set_option maxRecDepth 10000
set_option maxHeartbeats 16000000

theorem bT5 (n : Int) (hn : -9223372036854775808 ≤ n ∧ n ≤ 9223372036854775807) : aW Tryz.prog 74 [.int .i64 n] (fun v => v = .str (lH n)) := by
 refine FW Tryz.func74 ?_
 refine R0 ?_
 refine aB fun K hK => ?_
 refine R0 ?_
 refine aJ (b := n == 0) rfl (fun hb => ?_) (fun hb => ?_)
 ·
  refine R0 ?_
  refine aD (RT Tryz.results74 ?_)
  exact aC [] (.str [48]) rfl (by rw [show n = 0 from by simpa using hb, aZ2])
 refine aG ?_
 refine T0 (hK _ _ _ ?_)
 clear hK K
 have hne : n ≠ 0 := by simpa using hb
 clear hb
 refine aB fun K hK => Rg ?_
 iterate 4 refine S0 ?_
 refine T2 (hK _ _ _ ?_)
 clear hK K
 refine aB fun K hK => ?_
 have key : ∀ (sg : aK) (u : Nat) fr ob nx, (u < 18446744073709551616 ∧ u ≠ 0 ∧ sg.length ≤ 1 ∧ lH n = sg ++ Lib.decDigits u) → Fits 0 fr ob (fin [(3, .c (.str sg)), (4, .c (.int .u64 u))]) (fob []) 600 → K fr ob nx := by
  rintro sg u fr ob nx ⟨hu, hu0, hsg, hnum⟩ hf
  refine hK _ _ _ (bE hf ?_)
  clear hf hK K
  have hdl := bJ1 hu
  refine R0 ?_
  refine aB fun K hK => ?_
  refine aH ?_
  refine aT (α := {y : Nat × aK // y.1 ≤ u ∧ (if y.1 = 0 then [] else Lib.decDigits y.1) ++ y.2 = Lib.decDigits u}) (fun y => (fin [(3, .c (.str sg)), (4, .c (.int .u64 y.1.1)), (5, .c (.str y.1.2))], fob [])) 100 (fun y => y.1.1) ⟨(u, []), by simp, by simp [hu0]⟩ (fF) ?_
  rintro ⟨⟨v, s⟩, hv, hs⟩
  simp only at hv hs ⊢
  have hsl : s.length ≤ 20 := by
   have := congrArg List.length hs
   rw [List.length_append] at this
   omega
  refine aB fun K hK => ?_
  refine R0 ?_
  refine aJ (b := decide ((0 : Int) < v)) rfl (fun hb => ?_) (fun hb => ?_)
  ·
   have hv0 : v ≠ 0 := by simp at hb; omega
   clear hb
   have hv64 : v < 18446744073709551616 := by omega
   have h10 : ((10 : Int) = 0) ↔ False := by simp
   have hsl1 : [UInt8.ofNat (48 + v % 10)].length + s.length ≤ 9223372036854775807 := by simp; omega
   rw [if_neg hv0, bJ0 hv0] at hs
   refine aG ?_
   refine T0 (hK _ _ _ ?_)
   clear hK K
   refine aH ?_
   refine aB fun K hK => eZ (by kernel_rfl) ?_
   simp only [sR, simprocAttr]
   have F := aI @vF (aI @oI (aI h10 hsl1))
   iterate 4 refine SGF ?_
   refine fH (g := none) 124 rfl rfl fun K' hK' => ?_
   simp only [iO, lQ, sH, ↓sP, sA, tyS, simprocAttr, vF, oI, h10, hsl1]
   repeat refine AI ?_
   refine eA (by first | rfl | simp) ?_
   try simp only [sH, ↓sP, sA, tyS, simprocAttr, vF, oI, h10, hsl1]
   refine AX (hK' _ _ ?_)
   clear hK' K'
   iterate 4 refine SGF ?_
   refine T2 (hK _ _ _ ?_)
   clear hK K
   refine aM (by kernel_rfl) ?_
   simp only [↓sP, sA, tyS, simprocAttr, bQ9 hv64, h10]
   refine ⟨⟨(v / 10, [UInt8.ofNat (48 + v % 10)] ++ s), by simp only; omega, by simp only; rw [← hs, List.append_assoc]⟩, fF, ?_⟩
   show v / 10 < v
   omega
  have hv0 : v = 0 := by simp at hb; omega
  clear hb
  subst hv0
  rw [if_pos rfl, List.nil_append] at hs
  subst hs
  have hle : sg.length + (Lib.decDigits u).length ≤ 9223372036854775807 := by omega
  refine aS (T3 ?_)
  clear hK K
  refine AX (hK _ _ _ ?_)
  clear hK K
  refine aB fun K hK => Rg ?_
  have F := hle
  iterate 4 refine SF ?_
  refine T2 (hK _ _ _ ?_)
  clear hK K
  refine aD (RT Tryz.results74 ?_)
  exact aC [] (.str _) rfl (by rw [hnum])
 refine R0 ?_
 refine aJ (b := decide (n < 0)) rfl (fun hb => ?_) (fun hb => ?_)
 ·
  have hlt : n < 0 := by simpa using hb
  refine Rg ?_
  have F := aA1 hlt hn.1
  iterate 4 refine SF ?_
  refine T4 ?_
  first
   | exact key [45] n.natAbs _ _ _ ⟨by omega, by omega, by simp, aI2 (by simpa using hb)⟩ (by rw [← aA1 (by simpa using hb) hn.1]; exact fF)
   | (have h0 : 0 ≤ n := (by simp at hb; omega); exact key [] n.natAbs _ _ _ ⟨by omega, by omega, by simp, aI1 h0⟩ (by rw [← aT2 h0 hn.2]; exact fF))
 refine aG (T3 ?_)
 first
  | exact key [45] n.natAbs _ _ _ ⟨by omega, by omega, by simp, aI2 (by simpa using hb)⟩ (by rw [← aA1 (by simpa using hb) hn.1]; exact fF)
  | (have h0 : 0 ≤ n := (by simp at hb; omega); exact key [] n.natAbs _ _ _ ⟨by omega, by omega, by simp, aI1 h0⟩ (by rw [← aT2 h0 hn.2]; exact fF))


theorem iH (n : Int) (hn : -9223372036854775808 ≤ n ∧ n ≤ 9223372036854775807) : aW Tryz.prog 27 [.int .i64 n] (fun v => v = .str (lH n)) := by
 refine FW Tryz.func27 ?_
 refine R0 ?_
 refine aB fun K hK => Rg ?_
 refine S0 ?_
 refine HS rfl rfl fun K' hK' => T5 ?_
 refine C1 (bT5 n hn) ?_
 rintro u rfl
 refine AX (hK' _ _ ?_)
 clear hK' K'
 refine S0 ?_
 refine T2 (hK _ _ _ ?_)
 clear hK K
 refine aD (RT Tryz.results27 ?_)
 exact aC [] (.str _) rfl rfl


end Go.Proofs.YtenbfeemmpjdhaaGreatDoor

namespace Go.Proofs.YtenbfeemmpjdhaaGreatDoor
open Go Go.Hl Go.Pl
set_option maxRecDepth 10000
set_option maxHeartbeats 16000000

theorem bL6 (r : Rt) (hr : rSz r) : cW Tryz.prog 9 [r.cv] (fun u v => u = .slc ((aZ8 r).map dN) ∧ v = .int .i64 (bY6 r)) := by
 refine FW Tryz.func9 ?_
 refine R0 ?_
 refine aB fun K hK => ?_
 refine aB fun K hK => Rg ?_
 refine S0 ?_
 refine HS rfl rfl fun K' hK' => T5 ?_
 refine C1 (gR r hr) ?_
 rintro u rfl
 refine AX (hK' _ _ ?_)
 clear hK' K'
 refine S0 ?_
 refine T2 (hK _ _ _ ?_)
 clear hK K
 refine aJ (b := !bJ r) rfl (fun hb => ?_) (fun hb => ?_)
 ·
  refine R0 ?_
  refine aD (RT Tryz.results9 ?_)
  have hv : bJ r = false := by simpa using hb
  refine aL [] (.slc []) (.int .i64 1) ?_ ⟨by rw [aZ8, hv]; rfl, by rw [bY6, hv]; rfl⟩
  simp [HV.close, HV.closeL, CV.denil, CV.denilL, HV.norm, HV.toC, HV.toCL]
 refine aG ?_
 refine T0 (hK _ _ _ ?_)
 clear hK K
 have hv : bJ r = true := by simpa using hb
 clear hb
 obtain ⟨⟨v0, v1⟩, ⟨e0, e1⟩, hq, hk, hx⟩ := wI hv
 obtain ⟨⟨⟨lq, -⟩, ⟨lk, lks⟩, -⟩, -, -, lx⟩ := iY hv
 rw [bJ7] at v1 e1 hk hx
 refine aB fun K hK => jI mixed [(0, [], []), (1, [], []), (3, [], []), (4, [], []), (2, [], [3, 4]), (5, [], []), (6, [], []), (7, [], []), (8, [], [])] [0, 1, 3, 0, 8, 31, 63, 127, 255] (by kernel_rfl) (by kernel_rfl) (by kernel_rfl) (by kernel_rfl) rfl (by kernel_rfl) ?_
 iterate 4 refine WG0 ?_
 refine dJ (g := none) rfl rfl fun K' hK' => T5 ?_
 refine C1 (iH r.v (by omega)) ?_
 rintro u rfl
 refine AX (hK' _ _ ?_)
 clear hK' K'
 refine dJ (g := none) rfl rfl fun K' hK' => T5 ?_
 refine C1 (iH r.e (by omega)) ?_
 rintro u rfl
 refine AX (hK' _ _ ?_)
 clear hK' K'
 refine gD (g := none) 48 rfl rfl fun K' hK' => ?_
 simp only [iO, lQ, sH, ↓sP, sA, tyS, simprocAttr]
 repeat refine AI ?_
 refine eA (by first | rfl | simp) ?_
 try simp only [sH, ↓sP, sA, tyS, simprocAttr]
 refine AX (hK' _ _ ?_)
 clear hK' K'
 iterate 2 refine WG0 ?_
 refine T2 (hK _ _ _ ?_)
 clear hK K
 refine aB fun K hK => ?_
 refine R0 ?_
 refine aH ?_
 refine aT (α := {i : Nat // i ≤ r.q.length}) (fun i => (fin [(1, .ptr 0 0), (4, .own 52 ([aI5 r] ++ (r.q.take i.1).map aI6).length), (5, .c (.int .i64 i.1))], fob [(0, .box 26 (.c r.cv)), (52, .row 60 1 (([aI5 r] ++ (r.q.take i.1).map aI6).map lnC))])) 100 (fun i => r.q.length - i.1) ⟨0, by omega⟩ (aQ (by omega) (by simp [aX, fin_at, finA_at, upd_at, HV.men, HV.menL, HV.norm, HV.toC, HV.toCL]) (by simp [bB, fob_at, upd_at, none0_at, bU, HO.men, HV.men, HV.menL, HV.norm, HV.toC, HV.toCL]; rfl)) ?_
 rintro ⟨i, hi⟩
 have hti : (r.q.take i).length = i := by simp; omega
 refine aB fun K hK => ?_
 refine aB fun K hK => Rg ?_
 iterate 5 refine S0 ?_
 refine T2 (hK _ _ _ ?_)
 clear hK K
 refine aJ (b := decide ((i : Int) < r.q.length)) rfl (fun hb => ?_) (fun hb => ?_)
 ·
  have hlt : i < r.q.length := by simpa using hb
  clear hb
  obtain ⟨q, hqe⟩ : ∃ q, q = r.q[i] := ⟨_, rfl⟩
  have hq1 := hq q (by rw [hqe]; exact List.getElem_mem hlt)
  have hqn : nth (r.q.map Qt.cv) i = q.cv := by rw [aO hlt, hqe]
  refine aG ?_
  refine T0 (hK _ _ _ ?_)
  clear hK K
  refine aB fun K hK => ?_
  refine aH ?_
  refine jI mixed [(0, [], []), (1, [], []), (2, [], []), (3, [], []), (4, [], []), (5, [], []), (6, [], []), (7, [], []), (8, [], []), (9, [], []), (10, [], []), (11, [], []), (12, [], []), (13, [], [0, 1, 2, 3, 4, 5, 6]), (14, [], []), (15, [], []), (16, [], []), (17, [], [])] [0, 0, 2, 0, 14, 30, 62, 0, 128, 0, 896, 1920, 3968, 8064, 16382, 32766, 65535, 131071] (by kernel_rfl) (by kernel_rfl) (by kernel_rfl) (by kernel_rfl) rfl (by kernel_rfl) ?_
  have F := aI @Int.natCast_nonneg (aI @Int.ofNat_lt (aI hlt (aI hqn (aI @Qt.cells (aI hti (aI @List.length_append.{0} @List.length_map.{0,0}))))))
  iterate 13 refine WGF ?_
  refine dJ (g := none) rfl rfl fun K' hK' => T6 ?_
  refine C1 (iH q.n (by omega)) ?_
  rintro u rfl
  refine AX (hK' _ _ ?_)
  clear hK' K'
  refine gD (g := none) 176 rfl rfl fun K' hK' => ?_
  simp only [iO, lQ, sH, ↓sP, sA, tyS, simprocAttr, Int.natCast_nonneg, Int.ofNat_lt, hlt, hqn, Qt.cells, hti, List.length_append, List.length_map]
  repeat refine AI ?_
  refine eA (by first | rfl | simp) ?_
  try simp only [sH, ↓sP, sA, tyS, simprocAttr, Int.natCast_nonneg, Int.ofNat_lt, hlt, hqn, Qt.cells, hti, List.length_append, List.length_map]
  refine AX (hK' _ _ ?_)
  clear hK' K'
  iterate 3 refine WGF ?_
  refine T2 (hK _ _ _ ?_)
  clear hK K
  refine aM (by kernel_rfl) ?_
  refine TQ (bK i) ?_
  refine ⟨⟨i + 1, hlt⟩, aQ (by omega) ?_ ?_, ?_⟩
  ·
   simp [aX, upd_at, fin_at, HV.men]
   omega
  ·
   simp only [List.take_succ_eq_append_getElem hlt, List.map_append, ← List.append_assoc, ← hqe]
   exact ⟨rfl, by omega, trivial, rfl, by omega, trivial, trivial⟩
  show r.q.length - (i + 1) < r.q.length - i
  omega
 have hei : i = r.q.length := by simp at hb; omega
 subst hei
 clear hb
 rw [List.take_length]
 refine aS (T3 ?_)
 clear hK K
 refine AX (hK _ _ _ ?_)
 clear hK K
 refine aB fun K hK => ?_
 refine R0 ?_
 refine aH ?_
 refine aT (α := {i : Nat // i ≤ r.k.length}) (fun i => (fin [(1, .ptr 0 0), (4, .own 52 ([aI5 r] ++ r.q.map aI6 ++ (r.k.take i.1).map aZ7).length), (6, .c (.int .i64 i.1))], fob [(0, .box 26 (.c r.cv)), (52, .row 60 1 (([aI5 r] ++ r.q.map aI6 ++ (r.k.take i.1).map aZ7).map lnC))])) 400 (fun i => r.k.length - i.1) ⟨0, by omega⟩ (fF) ?_
 rintro ⟨i, hi⟩
 have hti : (r.k.take i).length = i := by simp; omega
 refine aB fun K hK => ?_
 refine aB fun K hK => Rg ?_
 iterate 5 refine S0 ?_
 refine T2 (hK _ _ _ ?_)
 clear hK K
 refine aJ (b := decide ((i : Int) < r.k.length)) rfl (fun hb => ?_) (fun hb => ?_)
 ·
  have hlt : i < r.k.length := by simpa using hb
  clear hb
  obtain ⟨k, hke⟩ : ∃ k, k = r.k[i] := ⟨_, rfl⟩
  obtain ⟨⟨kh0, kh1⟩, ⟨kf0, kf1⟩, ⟨ku0, ku1⟩⟩ := hk k (by rw [hke]; exact List.getElem_mem hlt)
  have lks1 := (lks k (by rw [hke]; exact List.getElem_mem hlt)).2.1
  have hkn : nth (r.k.map Ky.cv) i = k.cv := by rw [aO hlt, hke]
  refine aG ?_
  refine T0 (hK _ _ _ ?_)
  clear hK K
  refine aB fun K hK => ?_
  refine aH ?_
  refine aB fun K hK => Rg ?_
  have F := aI @Int.natCast_nonneg (aI @Int.ofNat_lt (aI hlt (aI hkn @Ky.cells)))
  iterate 7 refine SF ?_
  refine T2 (hK _ _ _ ?_)
  clear hK K
  refine aB fun K hK => DW [(0, [], []), (1, [], []), (2, [], []), (4, [], []), (5, [], []), (6, [], []), (8, [], []), (9, [], []), (10, [], []), (11, [], []), (13, [], []), (14, [], []), (3, [], [4, 5, 6, 8, 9, 10, 11, 13, 14]), (7, [], [8, 9, 10, 11, 13, 14]), (12, [], [8, 9, 13, 14]), (15, [], [8, 9]), (16, [], []), (17, [], [])] [0, 1, 3, 7, 0, 16, 48, 127, 0, 256, 0, 1024, 3327, 0, 8192, 31999, 65535, 131071] ?_
  have F := aI @Ky.get_ph (aI @Ky.get_pr @hf_isAgg)
  iterate 12 refine WF ?_
  refine aN (g := none) rfl rfl fun K' hK' => T6 ?_
  refine C1 (iH k.p.h (by omega)) ?_
  rintro u rfl
  refine AX (hK' _ _ ?_)
  clear hK' K'
  refine aN (g := none) rfl rfl fun K' hK' => T6 ?_
  refine C1 (bL4 k.p.r) ?_
  rintro u rfl
  refine AX (hK' _ _ ?_)
  clear hK' K'
  refine aN (g := none) rfl rfl fun K' hK' => T6 ?_
  refine C1 (iH k.fr (by omega)) ?_
  rintro u rfl
  refine AX (hK' _ _ ?_)
  clear hK' K'
  refine aN (g := none) rfl rfl fun K' hK' => T6 ?_
  refine C1 (iH k.un (by omega)) ?_
  rintro u rfl
  refine AX (hK' _ _ ?_)
  clear hK' K'
  iterate 2 refine WF ?_
  refine T2 (hK _ _ _ ?_)
  clear hK K
  refine eZ (by kernel_rfl) ?_
  simp only [sR, simprocAttr]
  have F := aI hti (aI @List.length_append.{0} @List.length_map.{0,0})
  iterate 4 refine SGF ?_
  refine fH (g := none) 512 rfl rfl fun K' hK' => ?_
  simp only [iO, lQ, sH, ↓sP, sA, tyS, simprocAttr, hti, List.length_append, List.length_map]
  repeat refine AI ?_
  refine eA (by first | rfl | simp) ?_
  try simp only [sH, ↓sP, sA, tyS, simprocAttr, hti, List.length_append, List.length_map]
  refine AX (hK' _ _ ?_)
  clear hK' K'
  iterate 3 refine SGF ?_
  refine T2 (hK _ _ _ ?_)
  clear hK K
  refine aM (by kernel_rfl) ?_
  refine TQ (bK i) ?_
  refine ⟨⟨i + 1, hlt⟩, aQ (by omega) ?_ ?_, ?_⟩
  ·
   simp [aX, upd_at, fin_at, HV.men]
   omega
  ·
   simp only [List.take_succ_eq_append_getElem hlt, List.map_append, ← List.append_assoc, ← hke]
   exact ⟨rfl, by omega, trivial, rfl, by omega, trivial, trivial⟩
  show r.k.length - (i + 1) < r.k.length - i
  omega
 have hei : i = r.k.length := by simp at hb; omega
 subst hei
 clear hb
 rw [List.take_length]
 refine aS (T3 ?_)
 clear hK K
 refine AX (hK _ _ _ ?_)
 clear hK K
 refine aB fun K hK => ?_
 refine R0 ?_
 refine aH ?_
 refine aT (α := {i : Nat // i ≤ r.x.length}) (fun i => (fin [(1, .ptr 0 0), (4, .own 52 ([aI5 r] ++ r.q.map aI6 ++ r.k.map aZ7 ++ (r.x.take i.1).map bR3).length), (9, .c (.int .i64 i.1))], fob [(0, .box 26 (.c r.cv)), (52, .row 60 1 (([aI5 r] ++ r.q.map aI6 ++ r.k.map aZ7 ++ (r.x.take i.1).map bR3).map lnC))])) 800 (fun i => r.x.length - i.1) ⟨0, by omega⟩ (fF) ?_
 rintro ⟨i, hi⟩
 have hti : (r.x.take i).length = i := by simp; omega
 refine aB fun K hK => ?_
 refine aB fun K hK => Rg ?_
 iterate 5 refine S0 ?_
 refine T2 (hK _ _ _ ?_)
 clear hK K
 refine aJ (b := decide ((i : Int) < r.x.length)) rfl (fun hb => ?_) (fun hb => ?_)
 ·
  have hlt : i < r.x.length := by simpa using hb
  clear hb
  obtain ⟨x, hxe⟩ : ∃ x, x = r.x[i] := ⟨_, rfl⟩
  obtain ⟨hx0, hx1⟩ := hx x (by rw [hxe]; exact List.getElem_mem hlt)
  have hxn : nth (r.x.map Rv.cv) i = x.cv := by rw [aO hlt, hxe]
  refine aG ?_
  refine T0 (hK _ _ _ ?_)
  clear hK K
  refine aB fun K hK => ?_
  refine aH ?_
  refine jI mixed [(0, [], []), (1, [], []), (2, [], []), (3, [], []), (4, [], []), (5, [], []), (6, [], []), (8, [], []), (9, [], []), (10, [], []), (11, [], []), (12, [], []), (13, [], []), (7, [], [0, 8, 9, 10, 11, 12, 13]), (14, [], [0]), (15, [], []), (16, [], []), (17, [], []), (18, [], [])] [0, 0, 2, 0, 14, 30, 62, 126, 0, 256, 0, 1792, 3840, 7936, 16382, 32766, 65534, 131071, 262143] (by kernel_rfl) (by kernel_rfl) (by kernel_rfl) (by kernel_rfl) rfl (by kernel_rfl) ?_
  have F := aI @Int.natCast_nonneg (aI @Int.ofNat_lt (aI hlt (aI hxn (aI @Rv.cells (aI hti (aI @List.length_append.{0} @List.length_map.{0,0}))))))
  iterate 13 refine WGF ?_
  refine dJ (g := none) rfl rfl fun K' hK' => T6 ?_
  refine C1 (bL5 x.k) ?_
  rintro u rfl
  refine AX (hK' _ _ ?_)
  clear hK' K'
  refine dJ (g := none) rfl rfl fun K' hK' => T6 ?_
  refine C1 (iH x.t (by omega)) ?_
  rintro u rfl
  refine AX (hK' _ _ ?_)
  clear hK' K'
  refine gD (g := none) 880 rfl rfl fun K' hK' => ?_
  simp only [iO, lQ, sH, ↓sP, sA, tyS, simprocAttr, Int.natCast_nonneg, Int.ofNat_lt, hlt, hxn, Rv.cells, hti, List.length_append, List.length_map]
  repeat refine AI ?_
  refine eA (by first | rfl | simp) ?_
  try simp only [sH, ↓sP, sA, tyS, simprocAttr, Int.natCast_nonneg, Int.ofNat_lt, hlt, hxn, Rv.cells, hti, List.length_append, List.length_map]
  refine AX (hK' _ _ ?_)
  clear hK' K'
  iterate 3 refine WGF ?_
  refine T2 (hK _ _ _ ?_)
  clear hK K
  refine aM (by kernel_rfl) ?_
  refine TQ (bK i) ?_
  refine ⟨⟨i + 1, hlt⟩, aQ (by omega) ?_ ?_, ?_⟩
  ·
   simp [aX, upd_at, fin_at, HV.men]
   omega
  ·
   simp only [List.take_succ_eq_append_getElem hlt, List.map_append, ← List.append_assoc, ← hxe]
   exact ⟨rfl, by omega, trivial, rfl, by omega, trivial, trivial⟩
  show r.x.length - (i + 1) < r.x.length - i
  omega
 refine aS (T3 ?_)
 clear hK K
 refine AX (hK _ _ _ ?_)
 clear hK K
 have hei : i = r.x.length := by simp at hb; omega
 subst hei
 clear hb
 rw [List.take_length]
 refine bT [52] (bE (fr2 := fin [(4, .c (.slc ((vJ r).map lnC)))]) (ob2 := fob []) (nx2 := 1200) (aQ (by omega) (by simp [aX, cD, fin_at, finA_at, upd_at, fob_at, HV.close, HV.closeL, CV.denil, CV.denilL, denilL_str, yB, HV.men, HV.menL, HV.norm, HV.toC, HV.toCL, vJ]) (by simp [bB, cE, fob_at, upd_at, none0_at, bU, HO.close, HV.close, HV.closeL, HO.men, HV.men, HV.menL, HV.norm, HV.toC, HV.toCL])) ?_)
 refine aB fun K hK => Rg ?_
 have F := @yB
 refine SF ?_
 refine HS rfl rfl fun K' hK' => T6 ?_
 refine D1 (aT7 (vJ r) (aT5 hv).1 (aT5 hv).2) ?_
 rintro u v ⟨rfl, rfl⟩
 refine AX (hK' _ _ ?_)
 clear hK' K'
 iterate 4 refine SF ?_
 refine T2 (hK _ _ _ ?_)
 clear hK K
 refine aD (RT Tryz.results9 ?_)
 exact aL [] (.slc ((aH1 (vJ r)).map dN)) (.int .i64 (lG (vJ r))) (by simp [HV.close, HV.closeL, CV.denil, CV.denilL, fN, HV.norm, HV.toC, HV.toCL]) ⟨by rw [aZ8, if_pos hv], by rw [bY6, if_pos hv]⟩

end Go.Proofs.YtenbfeemmpjdhaaGreatDoor

namespace Go.Hl
open Go

def bV1 (P : Program) (f : FuncId) (T : TypeId) (v : CV) (args : List CV) (R : CV → CV → Prop) : Prop :=
 HFn P f (args.map .c ++ [.ptr 0 0]) 1 (fob [(0, .box T (.c v))]) (fun r ob' => ∃ u v', r = .c u ∧ ob' = fob [(0, .box T (.c v'))] ∧ R u v')
theorem bB2 {P : Program} {av : List Nat} {f : FuncId} {ob : Ob} {nid id : Nat} {K : HV → Ob → Prop} {T : TypeId} {v : CV} {args : List CV} {R : CV → CV → Prop} (h : bV1 P f T v args R) (hid : ob id = some (.box T (.c v))) (hav : id ∉ av)
  (hfree : ob nid = none ∧ ob (nid + 1) = none ∧ ob (nid + 2) = none ∧ ob (nid + 3) = none) (hK : ∀ u v', R u v' → K (.c u) (upd ob id (some (.box T (.c v'))))) :
  HCall P av f (args.map .c ++ [.ptr id 0]) ob nid K := by
 refine ⟨[id], args.map HV.c ++ [HV.ptr 0 0], _, _, h, nA T v args, ⟨by simp, by simpa using hav⟩, ?_, fun j o hj => ?_, fun r lob' hR _ => ?_⟩
 ·
  simp only [iP, sF, HV.renL, HV.ren]
  rfl
 ·
  by_cases e : j = 0
  ·
   subst e
   simp only [fob_at, if_true, Option.some.injEq] at hj
   subst hj
   simpa [HO.ren, HV.ren] using hid
  ·
   simp [fob_at, fob_nil, e] at hj
 ·
  obtain ⟨u, v', rfl, rfl, hR⟩ := hR
  have e : bG ob [id] nid (fob [(0, .box T (.c v'))]) = upd ob id (some (.box T (.c v'))) := by
   funext i
   by_cases e : i = id
   ·
    subst e
    simp only [bG, aR, List.findIdx?_cons, beq_self_eq_true, if_true, fob_at, Option.map_some]
    rfl
   ·
    have e' : (id == i) = false := by simp; exact fun h => e h.symm
    simp only [bG, List.findIdx?_cons, e', List.findIdx?_nil, Option.map_none, aV _ _ e]
    simp only [Bool.false_eq_true, if_false]
    split
    ·
     rename_i hr
     have h1 : [id].length + (i - nid) ≠ 0 := by simp
     rw [fob_at, if_neg h1, fob_nil]
     have : i = nid ∨ i = nid + 1 ∨ i = nid + 2 ∨ i = nid + 3 := by omega
     rcases this with rfl | rfl | rfl | rfl
     ·
      exact hfree.1.symm
     ·
      exact hfree.2.1.symm
     ·
      exact hfree.2.2.1.symm
     ·
      exact hfree.2.2.2.symm
    ·
     rfl
  rw [e]
  exact hK u v' hR
end Go.Hl
