/- TrustRotates: for any root document, any bytes and any tape of numbers the law returns true and leaves them as they were: the root document after every rotation, and which errors are returned. The listed tables of the library are tied to the program's text by the card. By an AI agent. -/
import Derived.Test.YtenbfeemmpjdhaaGreatDoorHyT4
import Derived.Test.YtenbfeemmpjdhaaGreatDoorHyT5
import Derived.Test.YtenbfeemmpjdhaaGreatDoorHySb
import Derived.Test.YtenbfeemmpjdhaaGreatDoorHyTz
import Derived.Test.YtenbfeemmpjdhaaGreatDoorHlBl
import Derived.Test.YtenbfeemmpjdhaaGreatDoorHyTh
import Derived.Lay
import Derived.SevenTiedAt
import Derived.Test.YtenbfeemmpjdhaaGreatDoorRows
import Derived.Test.YtenbfeemmpjdhaaGreatDoorCards
import Derived.Test.YtenbfeemmpjdhaaGreatDoorTie
set_option linter.unusedSimpArgs false
set_option linter.unusedVariables false
set_option linter.defProp false
namespace Go.Proofs.YtenbfeemmpjdhaaGreatDoor
open Go Go.Hl Go.Pl
set_option maxRecDepth 10000
set_option maxHeartbeats 16000000
attribute [local simp] tp

theorem bZ0 (hmid : ∀ i : Nat, i < 2 ^ 40 → aW Tryz.prog 47 [.int .i64 i] (fun v => v = dg (mid i))) (r : Rt) (L : List Int) (a : Nat) (ha : a + 100 < 2 ^ 40) (hr : rMid r) (hk0 : 0 < r.k.length) (hq0 : 0 < r.q.length) (hx0 : r.x.length ≤ 64) : bV1 Tryz.prog 23 39 (tp L a) [r.cv] (fun u v' => ∃ (r' : Rt) (a' : Nat), u = r'.cv ∧ v' = tp L a' ∧ a' ≤ a + 4 ∧ rMid r') := by
 refine bS (args := [.c r.cv, .ptr 0 0]) Tryz.func23 rfl (by kernel_rfl) (nA _ _ [r.cv]) (Nat.le_of_ble_eq_true rfl) ?_
 have hkl : r.k.length ≤ 32 := hr.2.1.1
 have hql : r.q.length ≤ 12 := hr.1.1
 have hk1 : ¬ r.k = [] := fun h => by rw [h] at hk0; exact absurd hk0 (by decide)
 have hq1 : ¬ r.q = [] := fun h => by rw [h] at hq0; exact absurd hq0 (by decide)
 refine R0 ?_
 refine aB fun K hK => Rg ?_
 have F := @uJ
 iterate 6 refine SF ?_
 refine T2 (hK _ _ _ ?_)
 clear hK K
 refine aB fun K hK => Rg ?_
 have F := @bF5
 iterate 6 refine SF ?_
 refine T2 (hK _ _ _ ?_)
 clear hK K
 refine bE (fr2 := fin [(1, .ptr 0 0), (2, .ptr 1 0), (4, .ptr 5 0)]) (ob2 := fob [(0, .box 39 (.c (tp L a))), (1, .box 26 (.agg [.c (.int .i64 r.v), .c (.int .i64 r.e), .own 33 r.q.length, .own 9 r.k.length, .c (.slc (r.x.map Rv.cv))])), (5, .box 26 (.c zR)), (9, .row 70 21 (r.k.map Ky.cv)), (33, .row 64 2 (r.q.map Qt.cv))]) (nx2 := 100) (aQ (by omega) (by simp [aX, fin_at, finA_at, upd_at, HV.men, HV.menL, HV.norm, HV.toC, HV.toCL]) (by simp [bB, fob_at, upd_at, none0_at, bU, HO.men, HV.men, HV.menL, HV.norm, HV.toC, HV.toCL]; rfl)) ?_
 refine aB fun K hK => Rg ?_
 iterate 4 refine S0 ?_
 refine HS rfl rfl fun K' hK' => T5 ?_
 refine bI (args := [_]) (bV L a r.k.length (by omega) (by omega)) rfl (by simp) ⟨rfl, rfl, rfl, rfl⟩ ?_
 rintro u v' ⟨x1, a1, rfl, rfl, g1, g2, g3, g4⟩
 refine AX (hK' _ _ ?_)
 clear hK' K'
 refine S0 ?_
 refine T2 (hK _ _ _ ?_)
 clear hK K
 refine aB fun K hK => ?_
 have key : ∀ (cl : List Nat) (r' : Rt) (b' : Nat) fr ob nx, b' ≤ a + 4 → rMid r' → Fits 1 (clF ob cl fr) (clO ob cl) (fin [(2, .ptr 1 0), (4, .ptr 5 0)]) (fob [(0, .box 39 (.c (tp L b'))), (1, .box 26 (.c r'.cv)), (5, .box 26 (.c (Rt.cv ⟨0, 0, [], [], []⟩)))]) 900 → K fr ob nx := by
  intro cl r' b' fr ob nx w1 w2 hf
  refine hK _ _ _ (bT cl (bE hf ?_))
  clear hf hK K
  refine R0 ?_
  refine aD (RT Tryz.results23 ?_)
  refine jJ [] r'.cv (tp L b') (eD (Rt.denil _)) rfl ?_ (by simp) ⟨r', b', rfl, rfl, w1, w2⟩
  simp [HV.close, HV.closeL, tp, CV.denil, CV.denilL, denilL_int, HV.norm, HV.toC, HV.toCL]
 obtain ⟨i, rfl⟩ : ∃ i : Nat, x1 = i := ⟨x1.toNat, by omega⟩
 have hil : i < r.k.length := by omega
 have hkk := hr.2.1.2 _ (List.getElem_mem hil)
 refine aB fun K hK => Rg ?_
 refine S0 ?_
 refine HS rfl rfl fun K' hK' => T5 ?_
 refine bI (args := [_]) (bV L a1 9 (by omega) (by omega)) rfl (by simp) ⟨rfl, rfl, rfl, rfl⟩ ?_
 rintro u v' ⟨y, a2, rfl, rfl, k1, k2, k3, k4⟩
 refine AX (hK' _ _ ?_)
 clear hK' K'
 refine T2 (hK _ _ _ ?_)
 clear hK K
 refine aH ?_
 refine R0 ?_
 refine aJ (b := y == 0) rfl (fun hb => ?_) (fun hb => ?_)
 ·
  refine Rg ?_
  refine S0 ?_
  refine HS rfl rfl fun K' hK' => T5 ?_
  refine bI (args := [_]) (bV L a2 3 (by omega) (by omega)) rfl (by simp) ⟨rfl, rfl, rfl, rfl⟩ ?_
  rintro u v' ⟨x2, a3, rfl, rfl, j1, j2, j3, j4⟩
  refine AX (hK' _ _ ?_)
  clear hK' K'
  iterate 3 refine S0 ?_
  refine T4 ?_
  exact key [9, 33] ⟨IntKind.i64.wrap (x2 - 1), r.e, r.q, r.k, r.x⟩ a3 _ _ _ (by omega) (hr) (aQ (by omega) (by simp [aX, cD, fin_at, finA_at, upd_at, fob_at, HV.close, HV.closeL, CV.denil, CV.denilL, denilL_str, denilL_Rv, denilL_Qt, denilL_Ky, HV.men, HV.menL, HV.norm, HV.toC, HV.toCL]) (by simp [bB, cE, fob_at, upd_at, none0_at, bU, HO.close, HV.close, HV.closeL, HO.men, HV.men, HV.menL, HV.norm, HV.toC, HV.toCL, Rt.denil, zR, Rt.cv, CV.denil, CV.denilL, denilL_str, denilL_Rv, denilL_Qt, denilL_Ky, denilL_int, tp]))
 refine R0 ?_
 refine aJ (b := y == 1) rfl (fun hb => ?_) (fun hb => ?_)
 ·
  refine DW [(0, [], []), (1, [], []), (2, [], []), (3, [], []), (4, [], []), (5, [], []), (6, [], []), (7, [], []), (8, [], []), (9, [], []), (10, [], []), (11, [], [])] [0, 1, 0, 0, 8, 0, 56, 120, 248, 511, 1023, 2047] ?_
  iterate 12 refine W0 ?_ (e := fun _ h_ => by simp only [sH, ↓sP, sA, tyS, simprocAttr, hil, hk0, hq0, List.map_eq_nil_iff, hk1, hq1, aO hil, aO hk0, aO hq0, Int.natCast_nonneg, Int.ofNat_lt, Ky.fold, Qt.fold, Pk.fold, ← List.map_set, List.length_set]; exact AX h_)
  refine T4 ?_
  exact key [9, 33] ⟨r.v, r.e, r.q, r.k.set i ⟨r.k[i].p, r.k[i].o, r.k[i].rs, r.k[i].un, r.k[i].un⟩, r.x⟩ a2 _ _ _ (by omega) (hr.setK i _ hkk.1 hkk.2.1 hkk.2.2) (aQ (by omega) (by simp [aX, cD, fin_at, finA_at, upd_at, fob_at, HV.close, HV.closeL, CV.denil, CV.denilL, denilL_str, denilL_Rv, denilL_Qt, denilL_Ky, HV.men, HV.menL, HV.norm, HV.toC, HV.toCL]) (by simp [bB, cE, fob_at, upd_at, none0_at, bU, HO.close, HV.close, HV.closeL, HO.men, HV.men, HV.menL, HV.norm, HV.toC, HV.toCL, Rt.denil, zR, Rt.cv, CV.denil, CV.denilL, denilL_str, denilL_Rv, denilL_Qt, denilL_Ky, denilL_int, tp]))
 refine R0 ?_
 refine aJ (b := y == 2) rfl (fun hb => ?_) (fun hb => ?_)
 ·
  refine eZ (by kernel_rfl) ?_
  simp only [sR, simprocAttr]
  iterate 3 refine SG0 ?_ (e := fun _ h_ => by simp only [sH, ↓sP, sA, tyS, simprocAttr, hil, hk0, hq0, List.map_eq_nil_iff, hk1, hq1, aO hil, aO hk0, aO hq0, Int.natCast_nonneg, Int.ofNat_lt, Ky.fold, Qt.fold, Pk.fold, ← List.map_set, List.length_set, show CV.slc [CV.str [98], CV.str [97]] = CV.slc (([[98], [97]] : List aK).map CV.str) from rfl]; exact AX h_)
  refine fH (g := none) 168 rfl rfl fun K' hK' => ?_
  simp only [iO, lQ, sH, ↓sP, sA, tyS, simprocAttr, hil, hk0, hq0, List.map_eq_nil_iff, hk1, hq1, aO hil, aO hk0, aO hq0, Int.natCast_nonneg, Int.ofNat_lt, Ky.fold, Qt.fold, Pk.fold, ← List.map_set, List.length_set, show CV.slc [CV.str [98], CV.str [97]] = CV.slc (([[98], [97]] : List aK).map CV.str) from rfl]
  repeat refine AI ?_
  refine eA (by first | rfl | simp) ?_
  simp only [sH, ↓sP, sA, tyS, simprocAttr, hil, hk0, hq0, List.map_eq_nil_iff, hk1, hq1, aO hil, aO hk0, aO hq0, Int.natCast_nonneg, Int.ofNat_lt, Ky.fold, Qt.fold, Pk.fold, ← List.map_set, List.length_set, show CV.slc [CV.str [98], CV.str [97]] = CV.slc (([[98], [97]] : List aK).map CV.str) from rfl]
  refine AX (hK' _ _ ?_)
  clear hK' K'
  iterate 3 refine SG0 ?_ (e := fun _ h_ => by simp only [sH, ↓sP, sA, tyS, simprocAttr, hil, hk0, hq0, List.map_eq_nil_iff, hk1, hq1, aO hil, aO hk0, aO hq0, Int.natCast_nonneg, Int.ofNat_lt, Ky.fold, Qt.fold, Pk.fold, ← List.map_set, List.length_set, show CV.slc [CV.str [98], CV.str [97]] = CV.slc (([[98], [97]] : List aK).map CV.str) from rfl]; exact AX h_)
  refine T4 ?_
  exact key [9, 33] ⟨r.v, r.e, r.q, r.k.set i ⟨r.k[i].p, r.k[i].o, [[98], [97]], r.k[i].fr, r.k[i].un⟩, r.x⟩ a2 _ _ _ (by omega) (hr.setK i _ hkk.1 (by simp) (by simp)) (aQ (by omega) (by simp [aX, cD, fin_at, finA_at, upd_at, fob_at, HV.close, HV.closeL, CV.denil, CV.denilL, denilL_str, denilL_Rv, denilL_Qt, denilL_Ky, HV.men, HV.menL, HV.norm, HV.toC, HV.toCL]) (by simp [bB, cE, fob_at, upd_at, none0_at, bU, HO.close, HV.close, HV.closeL, HO.men, HV.men, HV.menL, HV.norm, HV.toC, HV.toCL, Rt.denil, zR, Rt.cv, CV.denil, CV.denilL, denilL_str, denilL_Rv, denilL_Qt, denilL_Ky, denilL_int, tp]))
 refine R0 ?_
 refine aJ (b := y == 3) rfl (fun hb => ?_) (fun hb => ?_)
 ·
  refine Rg ?_
  iterate 6 refine S0 ?_ (e := fun _ h_ => by simp only [sH, ↓sP, sA, tyS, simprocAttr, hil, hk0, hq0, List.map_eq_nil_iff, hk1, hq1, aO hil, aO hk0, aO hq0, Int.natCast_nonneg, Int.ofNat_lt, Ky.fold, Qt.fold, Pk.fold, ← List.map_set, List.length_set]; exact AX h_)
  refine T4 ?_
  exact key [9, 33] ⟨r.v, r.e, r.q, r.k.set i ⟨r.k[i].p, [65, 110, 110], r.k[i].rs, r.k[i].fr, r.k[i].un⟩, r.x⟩ a2 _ _ _ (by omega) (hr.setK i _ (by simp) hkk.2.1 hkk.2.2) (aQ (by omega) (by simp [aX, cD, fin_at, finA_at, upd_at, fob_at, HV.close, HV.closeL, CV.denil, CV.denilL, denilL_str, denilL_Rv, denilL_Qt, denilL_Ky, HV.men, HV.menL, HV.norm, HV.toC, HV.toCL]) (by simp [bB, cE, fob_at, upd_at, none0_at, bU, HO.close, HV.close, HV.closeL, HO.men, HV.men, HV.menL, HV.norm, HV.toC, HV.toCL, Rt.denil, zR, Rt.cv, CV.denil, CV.denilL, denilL_str, denilL_Rv, denilL_Qt, denilL_Ky, denilL_int, tp]))
 refine R0 ?_
 refine aJ (b := y == 4) rfl (fun hb => ?_) (fun hb => ?_)
 ·
  have hil2 : i < (r.k.set 0 r.k[i]).length := by rw [List.length_set]; exact hil
  refine DW [(0, [], []), (1, [], []), (2, [], []), (3, [], []), (4, [], []), (5, [], []), (6, [], []), (7, [], []), (8, [], []), (9, [], []), (10, [], []), (11, [], []), (12, [], []), (13, [], []), (14, [], []), (15, [], [2, 3, 4]), (16, [], []), (17, [], [])] [0, 1, 0, 4, 0, 0, 32, 0, 224, 480, 0, 1024, 3072, 7168, 16355, 32739, 65535, 131071] ?_
  iterate 18 refine W0 ?_ (e := fun _ h_ => by simp only [sH, ↓sP, sA, tyS, simprocAttr, hil, hk0, hq0, List.map_eq_nil_iff, hk1, hq1, aO hil, aO hk0, aO hq0, Int.natCast_nonneg, Int.ofNat_lt, Ky.fold, Qt.fold, Pk.fold, ← List.map_set, List.length_set, aO hil2]; exact AX h_)
  refine T4 ?_
  have hk00 := hr.2.1.2 _ (List.getElem_mem hk0)
  exact key [9, 33] ⟨r.v, r.e, r.q, (r.k.set 0 r.k[i]).set i r.k[0], r.x⟩ a2 _ _ _ (by omega) ((hr.setK 0 r.k[i] hkk.1 hkk.2.1 hkk.2.2).setK i r.k[0] hk00.1 hk00.2.1 hk00.2.2) (aQ (by omega) (by simp [aX, cD, fin_at, finA_at, upd_at, fob_at, HV.close, HV.closeL, CV.denil, CV.denilL, denilL_str, denilL_Rv, denilL_Qt, denilL_Ky, HV.men, HV.menL, HV.norm, HV.toC, HV.toCL]) (by simp [bB, cE, fob_at, upd_at, none0_at, bU, HO.close, HV.close, HV.closeL, HO.men, HV.men, HV.menL, HV.norm, HV.toC, HV.toCL, Rt.denil, zR, Rt.cv, CV.denil, CV.denilL, denilL_str, denilL_Rv, denilL_Qt, denilL_Ky, denilL_int, tp]))
 refine R0 ?_
 refine aJ (b := y == 5) rfl (fun hb => ?_) (fun hb => ?_)
 ·
  refine DW [(0, [], []), (1, [], []), (2, [], []), (3, [], [0, 1]), (4, [], []), (5, [], []), (6, [], []), (7, [], [])] [0, 1, 0, 4, 12, 31, 63, 127] ?_
  iterate 3 refine W0 ?_ (e := fun _ h_ => by simp only [sH, ↓sP, sA, tyS, simprocAttr, hil, hk0, hq0, List.map_eq_nil_iff, hk1, hq1, aO hil, aO hk0, aO hq0, Int.natCast_nonneg, Int.ofNat_lt, Ky.fold, Qt.fold, Pk.fold, ← List.map_set, List.length_set]; exact AX h_)
  refine aN (g := none) rfl rfl fun K' hK' => ?_
  simp only [sH, ↓sP, sA, tyS, simprocAttr, hil, hk0, hq0, List.map_eq_nil_iff, hk1, hq1, aO hil, aO hk0, aO hq0, Int.natCast_nonneg, Int.ofNat_lt, Ky.fold, Qt.fold, Pk.fold, ← List.map_set, List.length_set]
  refine bI (args := [_]) (bV L a2 40 (by omega) (by omega)) rfl (by simp) ⟨rfl, rfl, rfl, rfl⟩ ?_
  rintro u v' ⟨x2, a3, rfl, rfl, j1, j2, j3, j4⟩
  refine AX (hK' _ _ ?_)
  clear hK' K'
  iterate 4 refine W0 ?_ (e := fun _ h_ => by simp only [sH, ↓sP, sA, tyS, simprocAttr, hil, hk0, hq0, List.map_eq_nil_iff, hk1, hq1, aO hil, aO hk0, aO hq0, Int.natCast_nonneg, Int.ofNat_lt, Ky.fold, Qt.fold, Pk.fold, ← List.map_set, List.length_set]; exact AX h_)
  refine T4 ?_
  exact key [9, 33] ⟨r.v, r.e, r.q.set 0 ⟨r.q[0].r, IntKind.i64.wrap (x2 - 2)⟩, r.k, r.x⟩ a3 _ _ _ (by omega) (hr.setQ 0 _ (hr.1.2 r.q[0] (List.getElem_mem hq0))) (aQ (by omega) (by simp [aX, cD, fin_at, finA_at, upd_at, fob_at, HV.close, HV.closeL, CV.denil, CV.denilL, denilL_str, denilL_Rv, denilL_Qt, denilL_Ky, HV.men, HV.menL, HV.norm, HV.toC, HV.toCL]) (by simp [bB, cE, fob_at, upd_at, none0_at, bU, HO.close, HV.close, HV.closeL, HO.men, HV.men, HV.menL, HV.norm, HV.toC, HV.toCL, Rt.denil, zR, Rt.cv, CV.denil, CV.denilL, denilL_str, denilL_Rv, denilL_Qt, denilL_Ky, denilL_int, tp]))
 refine R0 ?_
 refine aJ (b := y == 6) rfl (fun hb => ?_) (fun hb => ?_)
 ·
  refine Rg ?_
  have F := aI @bF4 (aI @Rv.fold @List.length_append.{0})
  iterate 5 refine SF ?_
  refine HS rfl rfl fun K' hK' => T6 ?_
  refine bI (args := [_]) (bV L a2 6 (by omega) (by omega)) rfl (by simp) ⟨rfl, rfl, rfl, rfl⟩ ?_
  rintro u v' ⟨x2, a3, rfl, rfl, j1, j2, j3, j4⟩
  obtain ⟨m, rfl⟩ : ∃ m : Nat, x2 = m := ⟨x2.toNat, by omega⟩
  refine AX (hK' _ _ ?_)
  clear hK' K'
  refine HS rfl rfl fun K' hK' => T6 ?_
  refine C1 (hmid m (by omega)) ?_
  rintro u rfl
  refine AX (hK' _ _ ?_)
  clear hK' K'
  refine SF ?_
  refine HS rfl rfl fun K' hK' => T6 ?_
  refine bI (args := [_]) (bV L a3 9 (by omega) (by omega)) rfl (by simp) ⟨rfl, rfl, rfl, rfl⟩ ?_
  rintro u v' ⟨x3, a4, rfl, rfl, l1, l2, l3, l4⟩
  refine AX (hK' _ _ ?_)
  clear hK' K'
  iterate 6 refine SF ?_
  refine T4 ?_
  exact key [9, 33, 188] ⟨r.v, r.e, r.q, r.k, r.x ++ [⟨mid m, IntKind.i64.wrap (x3 - 1)⟩]⟩ a4 _ _ _ (by omega) (⟨hr.1, hr.2.1, by simp; omega⟩) (aQ (by omega) (by simp [aX, cD, fin_at, finA_at, upd_at, fob_at, HV.close, HV.closeL, CV.denil, CV.denilL, denilL_str, denilL_Rv, denilL_Qt, denilL_Ky, HV.men, HV.menL, HV.norm, HV.toC, HV.toCL]) (by simp [bB, cE, fob_at, upd_at, none0_at, bU, HO.close, HV.close, HV.closeL, HO.men, HV.men, HV.menL, HV.norm, HV.toC, HV.toCL, Rt.denil, zR, Rt.cv, CV.denil, CV.denilL, denilL_str, denilL_Rv, denilL_Qt, denilL_Ky, denilL_int, tp]))
 refine R0 ?_
 refine aJ (b := y == 7) rfl (fun hb => ?_) (fun hb => ?_)
 ·
  refine DW [(0, [], []), (1, [], []), (2, [], []), (3, [], []), (4, [], [0, 1, 2]), (5, [], []), (6, [], []), (7, [], []), (8, [], []), (9, [], [])] [0, 1, 0, 0, 8, 24, 63, 127, 255, 511] ?_
  iterate 4 refine W0 ?_ (e := fun _ h_ => by simp only [sH, ↓sP, sA, tyS, simprocAttr, hil, hk0, hq0, List.map_eq_nil_iff, hk1, hq1, aO hil, aO hk0, aO hq0, Int.natCast_nonneg, Int.ofNat_lt, Ky.fold, Qt.fold, Pk.fold, ← List.map_set, List.length_set, Ky.set_ph]; exact AX h_)
  refine aN (g := none) rfl rfl fun K' hK' => ?_
  simp only [sH, ↓sP, sA, tyS, simprocAttr, hil, hk0, hq0, List.map_eq_nil_iff, hk1, hq1, aO hil, aO hk0, aO hq0, Int.natCast_nonneg, Int.ofNat_lt, Ky.fold, Qt.fold, Pk.fold, ← List.map_set, List.length_set, Ky.set_ph]
  refine bI (args := [_]) (bV L a2 9 (by omega) (by omega)) rfl (by simp) ⟨rfl, rfl, rfl, rfl⟩ ?_
  rintro u v' ⟨x2, a3, rfl, rfl, j1, j2, j3, j4⟩
  refine AX (hK' _ _ ?_)
  clear hK' K'
  iterate 5 refine W0 ?_ (e := fun _ h_ => by simp only [sH, ↓sP, sA, tyS, simprocAttr, hil, hk0, hq0, List.map_eq_nil_iff, hk1, hq1, aO hil, aO hk0, aO hq0, Int.natCast_nonneg, Int.ofNat_lt, Ky.fold, Qt.fold, Pk.fold, ← List.map_set, List.length_set, Ky.set_ph]; exact AX h_)
  refine T4 ?_
  exact key [9, 33] ⟨r.v, r.e, r.q, r.k.set i ⟨⟨IntKind.i64.wrap (x2 - 1), r.k[i].p.r⟩, r.k[i].o, r.k[i].rs, r.k[i].fr, r.k[i].un⟩, r.x⟩ a3 _ _ _ (by omega) (hr.setK i _ hkk.1 hkk.2.1 hkk.2.2) (aQ (by omega) (by simp [aX, cD, fin_at, finA_at, upd_at, fob_at, HV.close, HV.closeL, CV.denil, CV.denilL, denilL_str, denilL_Rv, denilL_Qt, denilL_Ky, HV.men, HV.menL, HV.norm, HV.toC, HV.toCL]) (by simp [bB, cE, fob_at, upd_at, none0_at, bU, HO.close, HV.close, HV.closeL, HO.men, HV.men, HV.menL, HV.norm, HV.toC, HV.toCL, Rt.denil, zR, Rt.cv, CV.denil, CV.denilL, denilL_str, denilL_Rv, denilL_Qt, denilL_Ky, denilL_int, tp]))
 refine DW [(0, [], []), (1, [], []), (2, [], []), (3, [], []), (4, [], []), (5, [], []), (6, [], [0, 1]), (7, [], []), (8, [], []), (9, [], [])] [0, 1, 0, 0, 8, 24, 60, 127, 255, 511] ?_
 have F := @List.length_map.{0,0}
 iterate 6 refine WF ?_
 refine aN (g := none) rfl rfl fun K' hK' => T6 ?_
 refine bI (args := [_]) (bV L a2 r.q.length (by omega) (by omega)) rfl (by simp) ⟨rfl, rfl, rfl, rfl⟩ ?_
 rintro u v' ⟨x2, a3, rfl, rfl, j1, j2, j3, j4⟩
 obtain ⟨m, rfl⟩ : ∃ m : Nat, x2 = m := ⟨x2.toNat, by omega⟩
 have hml : m < r.q.length := by omega
 refine AX (hK' _ _ ?_)
 clear hK' K'
 iterate 3 refine WF ?_
 refine T4 ?_
 exact key [9, 33] ⟨r.v, r.e, r.q.take m, r.k, r.x⟩ a3 _ _ _ (by omega) (⟨⟨by show (r.q.take m).length ≤ 12; rw [List.length_take]; omega, fun q hq => hr.1.2 q (List.mem_of_mem_take hq)⟩, hr.2.1, hr.2.2⟩) (aQ (by omega) (by simp [aX, cD, fin_at, finA_at, upd_at, fob_at, HV.close, HV.closeL, CV.denil, CV.denilL, denilL_str, denilL_Rv, denilL_Qt, denilL_Ky, HV.men, HV.menL, HV.norm, HV.toC, HV.toCL]) (by simp [bB, cE, fob_at, upd_at, none0_at, bU, HO.close, HV.close, HV.closeL, HO.men, HV.men, HV.menL, HV.norm, HV.toC, HV.toCL, Rt.denil, zR, Rt.cv, CV.denil, CV.denilL, denilL_str, denilL_Rv, denilL_Qt, denilL_Ky, denilL_int, tp, hq0, Nat.le_of_lt hml, ← List.map_take]))

end Go.Proofs.YtenbfeemmpjdhaaGreatDoor

namespace Go.Proofs.YtenbfeemmpjdhaaGreatDoor
open Go Go.Hl Go.Pl
set_option maxRecDepth 10000
set_option maxHeartbeats 16000000
attribute [local simp] tp

theorem bT6 {r : Rt} (h : iX r = true) : r.x.length ≤ 100 := by
 unfold iX at h
 simp only [Bool.and_eq_true, decide_eq_true_eq] at h
 exact h.2.2.1
theorem bZ1 : rSz rt0 := ⟨⟨by simp [rt0], by simp [rt0]⟩, ⟨by simp [rt0], by simp [rt0]⟩, by simp [rt0]⟩
theorem bT7 (r : Rt) (b : aK) (l : List Dig) (t : Int) : rSz (kF r b l t) := by
 unfold kF
 split
 ·
  exact vS b
 exact bZ1
theorem cE3 (l : aK) : CV.denilL (l.map dN) = l.map u8 := denilL_u8 l
def bC (l : aK) : CV := .slc (l.map u8)
theorem bB3 (raw : Rt) (L : List Int) (hraw : bN9 raw) : aW Tryz.prog 7 [raw.cv, .slc (L.map (.int .i64))] (fun v => ∃ rs : List Rt, v = .slc (rs.map Rt.cv) ∧ rs.length ≤ 3 ∧ ∀ r ∈ rs, rSz r ∧ r.x.length ≤ 100) := by
 refine FW Tryz.func7 ?_
 refine R0 ?_
 refine aB fun K hK => Rg ?_
 have F := @denilL_int
 iterate 4 refine SF ?_
 refine T2 (hK _ _ _ ?_)
 clear hK K
 refine aB fun K hK => Rg ?_
 iterate 2 refine S0 ?_
 refine HS rfl rfl fun K' hK' => T5 ?_
 refine bI (args := [_]) (bV L 0 3 (by omega) (by omega)) rfl (by simp) ⟨rfl, rfl, rfl, rfl⟩ ?_
 rintro u v' ⟨x, a1, rfl, rfl, k1, k2, k3, k4⟩
 refine AX (hK' _ _ ?_)
 clear hK' K'
 refine S0 ?_
 refine HS rfl rfl fun K' hK' => T5 ?_
 refine bI (args := [_]) (aT8 L a1 (IntKind.i64.wrap (1 + x)) (by omega)) rfl (by simp) ⟨rfl, rfl, rfl, rfl⟩ ?_
 rintro u v' ⟨r, a2, rfl, rfl, k5, hr, hv⟩
 have e1 : IntKind.i64.wrap (1 + x) = 1 + x := IntWalk.i64_in _ (by omega)
 rw [e1] at hv
 obtain ⟨hm, hk0, hq0, hx0⟩ := iY (hv (by omega) (by unfold dX; omega))
 refine AX (hK' _ _ ?_)
 clear hK' K'
 iterate 2 refine S0 ?_
 refine T2 (hK _ _ _ ?_)
 clear hK K
 refine aB fun K hK => DW [(0, [], []), (1, [], []), (2, [], []), (3, [], [0]), (4, [], []), (5, [], [])] [0, 0, 0, 6, 15, 31] ?_
 have F := @aF9
 iterate 3 refine WF ?_
 refine aN (g := none) rfl rfl fun K' hK' => T6 ?_
 refine bB2 (args := [_]) (bZ0 (fun i hi => vU i hi) r L a2 (by omega) hm hk0 hq0 hx0) rfl (by simp) ⟨rfl, rfl, rfl, rfl⟩ ?_
 rintro u v' ⟨r2, a3, rfl, rfl, k6, hm2⟩
 refine AX (hK' _ _ ?_)
 clear hK' K'
 iterate 2 refine WF ?_
 refine T2 (hK _ _ _ ?_)
 clear hK K
 refine aB fun K hK => ?_
 have key : ∀ (m : List Rt) fr ob nx, m.length ≤ 3 → (∀ r ∈ m, rSz r ∧ r.x.length ≤ 100) → Fits 0 fr ob (fin [(7, .own 68 m.length)]) (fob [(68, .row 26 5 (m.map Rt.cv))]) 500 → K fr ob nx := by
  intro m fr ob nx w1 w2 hf
  refine hK _ _ _ (bE hf ?_)
  clear hf hK K
  refine R0 ?_
  refine aD (RT Tryz.results7 ?_)
  refine aC [68] (.slc (m.map Rt.cv)) ?_ ⟨m, rfl, w1, w2⟩
  simp [HV.close, upd_at, fob_at, HV.norm, HV.toC, List.take_of_length_le]
 refine aB fun K hK => Rg ?_
 refine S0 ?_
 refine HS rfl rfl fun K' hK' => T5 ?_
 refine C1 (bL0 raw) ?_
 rintro u rfl
 refine AX (hK' _ _ ?_)
 clear hK' K'
 refine T2 (hK _ _ _ ?_)
 clear hK K
 refine aJ (b := iX raw) rfl (fun hb => ?_) (fun hb => ?_)
 ·
  refine Rg ?_
  have F := aI @List.length_append.{0} @aF9
  iterate 5 refine SF ?_
  refine T4 ?_
  exact key [r, r2, raw] _ _ _ (by simp) (by intro z hz; simp only [List.mem_cons, List.not_mem_nil, or_false] at hz; rcases hz with rfl | rfl | rfl <;> first | exact ⟨hr.1, by omega⟩ | exact ⟨hm2.sz, by have := hm2.2.2; omega⟩ | exact ⟨bF9 hraw hb, bT6 hb⟩) (fF)
 refine aG (T3 ?_)
 exact key [r, r2] _ _ _ (by simp) (by intro z hz; simp only [List.mem_cons, List.not_mem_nil, or_false] at hz; rcases hz with rfl | rfl <;> first | exact ⟨hr.1, by omega⟩ | exact ⟨hm2.sz, by have := hm2.2.2; omega⟩) (fF)



theorem aK1 (raw : Rt) (p : aK) (L : List Int) (hraw : bN9 raw) : aW Tryz.prog 5 [raw.cv, .slc (p.map u8), .slc (L.map (.int .i64))] (fun v => v = .bool true) := by
 refine FW Tryz.func5 ?_
 refine R0 ?_
 refine aB fun K hK => ?_
 have F := @List.length_map.{0,0}
 refine RF ?_
 refine aJ (b := decide ((100000 : Int) < p.length)) rfl (fun hb => ?_) (fun hb => ?_)
 ·
  refine R0 ?_
  refine aD (RT Tryz.results5 ?_)
  exact aC [] (.bool true) rfl rfl
 have hp : p.length ≤ 100000 := by simp at hb; omega
 clear hb
 refine aG ?_
 refine T0 (hK _ _ _ ?_)
 clear hK K
 refine aB fun K hK => Rg ?_
 have F := @denilL_int
 iterate 4 refine SF ?_
 refine T2 (hK _ _ _ ?_)
 clear hK K
 refine aB fun K hK => ?_
 refine aB fun K hK => Rg ?_
 iterate 2 refine SF ?_
 refine HS rfl rfl fun K' hK' => T6 ?_
 refine C2 (bB3 raw L hraw) ?_
 rintro u ⟨rs, rfl, h3, hrs⟩
 refine AX (hK' _ _ ?_)
 clear hK' K'
 iterate 2 refine SF ?_
 refine T2 (hK _ _ _ ?_)
 clear hK K
 refine aH ?_
 refine aT (α := {z : Nat × Nat // z.1 ≤ rs.length ∧ z.2 ≤ 500 * z.1}) (fun z => (fin [(1, .c (.slc (p.map u8))), (7, .ptr 28 0), (29, .c (.slc (rs.map Rt.cv))), (30, .c (.int .i64 rs.length)), (31, .c (.int .i64 z.1.1))], fob [(28, .box 39 (.c (tp L z.1.2)))])) 100 (fun z => rs.length - z.1.1) ⟨(0, 0), by simp, by simp⟩ (fF) ?_
 rintro ⟨⟨i, a⟩, hi, ha⟩
 simp only at hi ha ⊢
 refine R0 ?_
 refine aB fun K hK => ?_
 refine aJ (b := decide ((i : Int) < rs.length)) rfl (fun hb => ?_) (fun hb => ?_)
 ·
  have hlt : i < rs.length := by simpa using hb
  clear hb
  obtain ⟨r, hre⟩ : ∃ r, r = rs[i] := ⟨_, rfl⟩
  obtain ⟨hr, hrx⟩ := hrs r (by rw [hre]; exact List.getElem_mem hlt)
  have hrn : nth (rs.map Rt.cv) i = r.cv := by rw [aO hlt, hre]
  refine aG ?_
  refine T0 (hK _ _ _ ?_)
  clear hK K
  refine aB fun K hK => ?_
  refine aH ?_
  refine aB fun K hK => Rg ?_
  have F := aI @Int.natCast_nonneg (aI @Int.ofNat_lt (aI hlt (aI hrn @Rt.cells)))
  iterate 4 refine SF ?_
  refine T2 (hK _ _ _ ?_)
  clear hK K
  refine aB fun K hK => Rg ?_
  iterate 2 refine S0 ?_
  refine HS rfl rfl fun K' hK' => T5 ?_
  refine aO1 (args := [_]) (cC4 r L a (by omega) (by omega)) rfl (by simp) ⟨rfl, rfl, rfl, rfl⟩ ?_
  rintro u y v' ⟨x, K0, a1, rfl, rfl, rfl, k1, hx, hK0⟩
  refine AX (hK' _ _ ?_)
  clear hK' K'
  iterate 6 refine S0 ?_
  refine T2 (hK _ _ _ ?_)
  clear hK K
  refine aB fun K hK => ?_
  have key : ∀ (x : Rt) (a3 : Nat) fr ob nx, rSz x → a3 ≤ a1 + 2 → Fits 0 fr ob (fin [(1, .c (.slc (p.map u8))), (7, .ptr 28 0), (9, .ptr 112 0), (10, .ptr 144 0), (11, .c (.slc (K0.map dg))), (29, .c (.slc (rs.map Rt.cv))), (30, .c (.int .i64 rs.length)), (31, .c (.int .i64 i))]) (fob [(28, .box 39 (.c (tp L a3))), (112, .box 26 (.c r.cv)), (144, .box 26 (.c x.cv))]) 500 → K fr ob nx := by
   clear hx
   intro x a3 fr ob nx hx ha3 hf
   refine hK _ _ _ (bE hf ?_)
   clear hf hK K
   refine aB fun K hK => Rg ?_
   refine S0 ?_
   refine HS rfl rfl fun K' hK' => T5 ?_
   refine D1 (bL6 x hx) ?_
   rintro u v ⟨rfl, rfl⟩
   refine AX (hK' _ _ ?_)
   clear hK' K'
   iterate 5 refine S0 ?_
   refine T2 (hK _ _ _ ?_)
   clear hK K
   refine aB fun K hK => Rg ?_
   refine S0 ?_
   refine HS rfl rfl fun K' hK' => T5 ?_
   refine bI (args := [_]) (bV L a3 20 (by omega) (by omega)) rfl (by simp) ⟨rfl, rfl, rfl, rfl⟩ ?_
   rintro u v' ⟨at0, a4, rfl, rfl, m1, m2, m3, m4⟩
   refine AX (hK' _ _ ?_)
   clear hK' K'
   refine S0 ?_
   refine T2 (hK _ _ _ ?_)
   clear hK K
   refine aB fun K hK => Rg ?_
   iterate 5 refine S0 ?_
   refine T2 (hK _ _ _ ?_)
   clear hK K
   refine aH ?_
   have hel := bK8 x
   obtain ⟨b, hb0⟩ : ∃ b, b = aZ8 x := ⟨_, rfl⟩
   rw [← hb0] at hel ⊢
   obtain ⟨bs, hbs⟩ : ∃ bs : List aK, bs = [p, b] := ⟨_, rfl⟩
   have hbl : bs.length = 2 := by rw [hbs]; rfl
   have hbw : ∀ w ∈ bs, w.length < 2 ^ 40 := by
    rw [hbs]; intro w hw
    simp only [List.mem_cons, List.not_mem_nil, or_false] at hw
    rcases hw with rfl | rfl <;> omega
   refine bT [548] (bE (fr2 := fin [(1, .c (.slc (p.map u8))), (7, .ptr 28 0), (9, .ptr 112 0), (11, .c (.slc (K0.map dg))), (14, .c (.int .i64 at0)), (29, .c (.slc (rs.map Rt.cv))), (30, .c (.int .i64 rs.length)), (31, .c (.int .i64 i)), (56, .c (.slc (bs.map bC))), (57, .c (.int .i64 2)), (58, .c (.int .i64 0))]) (ob2 := fob [(28, .box 39 (.c (tp L a4))), (112, .box 26 (.c r.cv))]) (nx2 := 600) (aQ (by omega) (by simp [aX, cD, fin_at, finA_at, upd_at, fob_at, HV.close, HV.closeL, CV.denil, CV.denilL, denilL_u8, cE3, denilL_dg, denilL_Rt, bC, HV.men, HV.menL, HV.norm, HV.toC, HV.toCL, hbs]) (by simp [bB, cE, fob_at, upd_at, none0_at, bU, HO.close, HV.close, HV.closeL, CV.denil, CV.denilL, Rt.denil, HO.men, HV.men, HV.menL, HV.norm, HV.toC, HV.toCL, denilL_int])) ?_)
   refine aT (α := {j : Nat // j ≤ 2}) (fun j => (fin [(1, .c (.slc (p.map u8))), (7, .ptr 28 0), (9, .ptr 112 0), (11, .c (.slc (K0.map dg))), (14, .c (.int .i64 at0)), (29, .c (.slc (rs.map Rt.cv))), (30, .c (.int .i64 rs.length)), (31, .c (.int .i64 i)), (56, .c (.slc (bs.map bC))), (57, .c (.int .i64 2)), (58, .c (.int .i64 j.1))], fob [(28, .box 39 (.c (tp L a4))), (112, .box 26 (.c r.cv))])) 700 (fun j => 2 - j.1) ⟨0, by omega⟩ (fF) ?_
   rintro ⟨j, hj⟩
   refine R0 ?_
   refine aB fun K hK => ?_
   refine aJ (b := decide ((j : Int) < 2)) rfl (fun hb => ?_) (fun hb => ?_)
   ·
    have hjt : j < bs.length := by simp at hb; omega
    clear hb
    obtain ⟨w, hwe⟩ : ∃ w, w = bs[j] := ⟨_, rfl⟩
    have hwn : nth (bs.map bC) j = .slc (w.map u8) := by rw [aO hjt, hwe]; rfl
    have hwl := hbw w (by rw [hwe]; exact List.getElem_mem hjt)
    refine aG ?_
    refine T0 (hK _ _ _ ?_)
    clear hK K
    refine aB fun K hK => ?_
    refine aH ?_
    refine R0 ?_ (e := fun _ h_ => by simp only [↓sP, sA, tyS, simprocAttr, Int.natCast_nonneg, Int.ofNat_lt, hjt, hwn, CV.cells]; exact AX h_)
    refine aB fun K hK => Rg ?_
    have F := aI @denilL_u8 @denilL_dg
    iterate 4 refine SF ?_
    refine HS rfl rfl fun K' hK' => T6 ?_
    refine kX (args := [_, _, _, _]) (bB0 r w K0 at0 hr (by omega) (by omega)) ⟨rfl, rfl, rfl, rfl⟩ ?_
    rintro u v ⟨rfl, rfl⟩
    refine AX (hK' _ _ ?_)
    clear hK' K'
    iterate 6 refine SF ?_
    refine T2 (hK _ _ _ ?_)
    clear hK K
    refine aB fun K hK => Rg ?_
    iterate 4 refine SF ?_
    refine HS rfl rfl fun K' hK' => T6 ?_
    refine kX (args := [_, _, _, _]) (aP9 r w K0 at0 hr (by omega) (by omega)) ⟨rfl, rfl, rfl, rfl⟩ ?_
    rintro u v ⟨rfl, rfl⟩
    refine AX (hK' _ _ ?_)
    clear hK' K'
    iterate 6 refine SF ?_
    refine T2 (hK _ _ _ ?_)
    clear hK K
    refine aB fun K hK => Rg ?_
    have F := @bne_self_eq_false.{0}
    iterate 6 refine SF ?_
    refine aZ (g := some (81, false)) rfl rfl fun K' hK' => T6 ?_
    refine C2 (bB1 (kF r w K0 at0) (bT7 r w K0 at0)) ?_
    rintro u rfl
    refine AX (hK' _ _ ?_)
    clear hK' K'
    iterate 2 refine SF ?_
    refine T2 (hK _ _ _ ?_)
    clear hK K
    refine CF rfl ?_
    refine aG ?_
    refine T0 (hK _ _ _ ?_)
    clear hK K
    refine aM (by kernel_rfl) ?_
    refine TQ (bK j) ?_
    refine ⟨⟨j + 1, by omega⟩, fF, ?_⟩
    show 2 - (j + 1) < 2 - j
    omega
   refine aS (T3 ?_)
   clear hK K
   refine AX (hK _ _ _ ?_)
   clear hK K
   refine aM (by kernel_rfl) ?_
   refine TQ (bK i) ?_
   refine ⟨⟨(i + 1, a4), hlt, by show a4 ≤ 500 * (i + 1); omega⟩, fF, ?_⟩
   show rs.length - (i + 1) < rs.length - i
   omega
  refine aB fun K hK => Rg ?_
  refine S0 ?_
  refine HS rfl rfl fun K' hK' => T5 ?_
  refine bI (args := [_]) (bV L a1 4 (by omega) (by omega)) rfl (by simp) ⟨rfl, rfl, rfl, rfl⟩ ?_
  rintro u v' ⟨n1, a2, rfl, rfl, j1, j2, j3, j4⟩
  refine AX (hK' _ _ ?_)
  clear hK' K'
  refine S0 ?_
  refine T2 (hK _ _ _ ?_)
  clear hK K
  refine aJ (b := n1 == 0) rfl (fun hb => ?_) (fun hb => ?_)
  ·
   refine Rg ?_
   refine S0 ?_
   refine HS rfl rfl fun K' hK' => T5 ?_
   refine bI (args := [_]) (bV L a2 5 (by omega) (by omega)) rfl (by simp) ⟨rfl, rfl, rfl, rfl⟩ ?_
   rintro u v' ⟨n2, a3, rfl, rfl, q1, q2, q3, q4⟩
   refine AX (hK' _ _ ?_)
   clear hK' K'
   iterate 2 refine S0 ?_
   refine T4 ?_
   exact key { x with v := n2 } a3 _ _ _ ⟨hx.1, hx.2.1, hx.2.2⟩ (by omega) (fF)
  refine aG (T3 ?_)
  exact key x a2 _ _ _ hx (by omega) (fF)
 refine aS (T3 ?_)
 clear hK K
 refine AX (hK _ _ _ ?_)
 clear hK K
 refine aB fun K hK => Rg ?_
 refine HS rfl rfl fun K' hK' => T5 ?_
 refine C0 bL3 ?_
 rintro u rfl
 refine AX (hK' _ _ ?_)
 clear hK' K'
 refine S0 ?_
 refine T2 (hK _ _ _ ?_)
 clear hK K
 refine aD (RT Tryz.results5 ?_)
 exact aC [] (.bool true) rfl rfl

end Go.Proofs.YtenbfeemmpjdhaaGreatDoor

namespace Go.Proofs.YtenbfeemmpjdhaaGreatDoor
open Go Go.Hl Go.Pl
set_option linter.unusedVariables false
set_option maxRecDepth 100000

theorem lJ (H : Type) (enc : TypeId × Value → H) (W : World) (args : Array Value) (ds gs : List (DataW H)) (before : List MemPlace)
    (hL : laidMetH Tryz.prog Rows.trustRotatesRow.laid W)
    (hval : ∀ (j : Nat) t v, Tryz.f5.params[j]? = some t → args[j]? = some v → Value.okWide Tryz.prog W .any 0 t v)
    (hW : DataW.Whole enc Tryz.prog Tryz.f5.params.toList Rows.trustRotatesSpec.vars false W args.toList ds gs before) :
    Calls Tryz.prog 5 args W fun e W' => ∃ v, e = .returned v ∧ Rows.trustRotatesSpec.post enc Tryz.prog Tryz.f5 false true false false W args v W' := by
  refine bD7 (mm := 6) (tb := 4) (by kernel_rfl) cD7 aN2 rfl (by kernel_rfl) Tryz.underlying4 ?_ ?_ ?_ (fun j t v h1 h2 => ?_) hW
  · rw [Tryz.params5]
    intro H ds h
    match ds, h with
    | [c0, c1, c2], _ => exact ⟨rfl, rfl, rfl⟩
  · rw [Tryz.params5]
    intro t ht
    simp only [List.mem_cons, List.not_mem_nil, or_false] at ht
    rcases ht with rfl | rfl | rfl
    · exact ⟨by kernel_rfl, of_decide_eq_true (by kernel_rfl)⟩
    · exact ⟨by kernel_rfl, of_decide_eq_true (by kernel_rfl)⟩
    · exact ⟨by kernel_rfl, of_decide_eq_true (by kernel_rfl)⟩
  · rw [Tryz.params5]
    intro cs hn hty
    match cs, hn, hty with
    | [c0, c1, c2], _, hty =>
      obtain ⟨raw, rfl, hraw⟩ := bO5 (hty 0 _ c0 rfl rfl)
      obtain ⟨l1, rfl, hl1, hn1⟩ := (hty 1 _ c1 rfl rfl).of_slc Tryz.underlying30
      obtain ⟨p, rfl⟩ : ∃ p : List UInt8, l1 = p.map u8 := by obtain ⟨d, h⟩ := uO hl1 rfl; exact ⟨d.1, h⟩
      obtain ⟨L, rfl, hw, hl⟩ := bO2 (hty 2 _ c2 rfl rfl)
      exact aK1 raw p L hraw
  · exact hval j t v h1 h2

open Go.ChangeShapes Go.WideShapes Go.ChangeAt Go.RowKit in
set_option maxRecDepth 100000 in
theorem nO (os : Os) (started : os.Started) (H : Type) (enc : TypeId × Value → H) :
    ReturnsInHanded {} Tryz.checked os 5 .any (fun w args => (Rows.trustRotatesSpec.pre enc Tryz.prog Tryz.f5 [] false w args ∧ laidMetH Tryz.prog Rows.trustRotatesRow.laid w) ∧ sizedMet enc Tryz.prog Tryz.f5 (OpenSpec.ofChange Rows.trustRotatesSpec) false w args)
      (Rows.trustRotatesSpec.post enc Tryz.prog Tryz.f5 false true false false) := by
  refine returnsInHanded_of_change_and (C := Tryz.checked) (X := fun w _ => laidMetH Tryz.prog Rows.trustRotatesRow.laid w) (fun _ _ _ hh h => h.of_heap hh) own started (by kernel_rfl) Tryz.func5
    (ChangeSpec.witness_shaped (enc := enc) (C := Tryz.checked) (os := os) (X := fun w _ => laidMetH Tryz.prog Rows.trustRotatesRow.laid w) false (World.laidAll Tryz.prog os Rows.trustRotatesRow.laid) #[.agg #[.int .i64 0, .int .i64 0, .slice none 0 0, .slice none 0 0, .slice none 0 0], .slice none 0 0, .slice none 0 0] 8 (World.laidAll_os _ _ _)
      (World.shaped_of_ZipB (by kernel_rfl) (by kernel_rfl)) (by kernel_rfl) (by kernel_rfl) (by kernel_rfl)
      (by rw [MakeChecks.laidMetH_plain _ _ _ (by kernel_rfl)]; exact laidMet_laidAll _ (by kernel_rfl) (by kernel_rfl))) ?_
  intro W base args ds gs before hval hW _ _ hL _
  exact lJ H enc W args ds gs before hL (fun j t v h1 h2 => (hval j t v h1 h2)) hW

theorem rA : Rows.TrustRotatesSaid :=
  OpenClaim.holds_of_wide 5 Tryz.f5 rfl rfl rfl rfl rfl rfl rfl ⟨rfl, rfl, rfl, rfl, rfl⟩ rfl rfl rfl rfl rfl (by kernel_rfl) Tryz.func5 (by kernel_rfl)
    (of_decide_eq_true (by kernel_rfl)) (by unfold Func.isWrapper; first | (rw [if_pos (by decide +kernel)]; kernel_rfl) | (rw [if_neg (by decide +kernel)]; exact ⟨rfl, rfl⟩))
    (fun os started H enc _ => nO os started H enc)

theorem trustRotates_said : Rows.TrustRotatesCardSaid :=
  Claim7.holds_tied_plain_at .later [] [.data, .pinned] true (true, "a6004cba14d084c939e55818a9fd244e68653aaafb07118b80d6f1b0c2c3011d") true rA (fun _ h => by cases h) (by kernel_rfl) (fun _ h => by cases h) trustRotates_row_tie rfl ⟨rfl, rfl⟩ (by kernel_rfl) rfl
    (fun f fn hf hfn => by
      obtain rfl : f = 5 := Option.some.inj ((show Tryz.prog.funcNamed "admission/admissionlaw11.TrustRotates" = some 5 by kernel_rfl).symm.trans hf) |>.symm
      obtain rfl : fn = Tryz.f5 := (Option.some.inj (Tryz.func5.symm.trans hfn)).symm
      exact ⟨by kernel_rfl, fun j t ht => by
        rw [Tryz.params5] at ht
        have hm : t ∈ [26, 30, 27] := by simpa using Array.mem_of_getElem? ht
        have hall : ([26, 30, 27].all fun u => !Tryz.prog.wantsStandIn u) = true := by kernel_rfl
        exact (show Tryz.prog.wantsStandIn t = false by simpa using List.all_eq_true.1 hall t hm)⟩)
    (by kernel_rfl)
#print axioms trustRotates_said
end Go.Proofs.YtenbfeemmpjdhaaGreatDoor
