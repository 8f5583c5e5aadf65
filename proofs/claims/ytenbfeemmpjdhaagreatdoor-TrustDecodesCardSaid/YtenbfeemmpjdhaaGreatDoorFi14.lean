/- TrustDecodes: for any bytes, any root document and any tape of numbers the law returns true and leaves them as they were: the root document of any bytes, and valid ones are decoded from their encoded forms. The listed tables of the library are tied to the program's text by the card. By an AI agent. -/
import Derived.Test.YtenbfeemmpjdhaaGreatDoorHyTa
import Derived.Test.YtenbfeemmpjdhaaGreatDoorPl02e
import Derived.Test.YtenbfeemmpjdhaaGreatDoorHyT5
import Derived.Test.YtenbfeemmpjdhaaGreatDoorHySb
import Derived.Test.YtenbfeemmpjdhaaGreatDoorHyTz
import Derived.Test.YtenbfeemmpjdhaaGreatDoorHyU8
import Derived.Test.YtenbfeemmpjdhaaGreatDoorHyTo
import Derived.Test.YtenbfeemmpjdhaaGreatDoorPl02g
import Derived.Test.YtenbfeemmpjdhaaGreatDoorPl11v
import Derived.Lay
import Derived.SevenTiedAt
import Derived.Test.YtenbfeemmpjdhaaGreatDoorRows
import Derived.Test.YtenbfeemmpjdhaaGreatDoorCards
import Derived.Test.YtenbfeemmpjdhaaGreatDoorTie
set_option linter.unusedSimpArgs false
set_option linter.unusedVariables false
set_option linter.defProp false
namespace Go.Hl
open Go

def bX2 (P : Program) (f : FuncId) (T : TypeId) (v : CV) (args : List CV) (R : CV → CV → Prop) : Prop :=
 HFn P f (args.map .c ++ [.ptr 0 0]) 1 (fob [(0, .box T (.c v))]) (fun r ob' => ∃ u v', r = .c u ∧ ob' = fob [(0, .box T (.c v'))] ∧ R u v')
theorem bD6 {P : Program} {av : List Nat} {f : FuncId} {ob : Ob} {nid id : Nat} {K : HV → Ob → Prop} {T : TypeId} {v : CV} {args : List CV} {R : CV → CV → Prop} (h : bX2 P f T v args R) (hid : ob id = some (.box T (.c v))) (hav : id ∉ av)
  (hfree : ob nid = none ∧ ob (nid + 1) = none ∧ ob (nid + 2) = none ∧ ob (nid + 3) = none) (hK : ∀ u v', R u v' → K (.c u) (upd ob id (some (.box T (.c v'))))) :
  HCall P av f (args.map .c ++ [.ptr id 0]) ob nid K := by
 refine ⟨[id], args.map HV.c ++ [HV.ptr 0 0], _, _, h, xO T v args, ⟨by simp, by simpa using hav⟩, ?_, fun j o hj => ?_, fun r lob' hR _ => ?_⟩
 ·
  simp only [lX, aB6, HV.renL, HV.ren]
  rfl
 ·
  by_cases e : j = 0
  ·
   subst e
   simp only [fob_at, if_true, Option.some.injEq] at hj
   subst hj
   simpa [HO.ren, HV.ren] using hid
  ·
   simp [fob_at, fob_nil, e] at hj
 ·
  obtain ⟨u, v', rfl, rfl, hR⟩ := hR
  have e : bD ob [id] nid (fob [(0, .box T (.c v'))]) = upd ob id (some (.box T (.c v'))) := by
   funext i
   by_cases e : i = id
   ·
    subst e
    simp only [bD, aR, List.findIdx?_cons, beq_self_eq_true, if_true, fob_at, Option.map_some]
    rfl
   ·
    have e' : (id == i) = false := by simp; exact fun h => e h.symm
    simp only [bD, List.findIdx?_cons, e', List.findIdx?_nil, Option.map_none, aV _ _ e]
    simp only [Bool.false_eq_true, if_false]
    split
    ·
     rename_i hr
     have h1 : [id].length + (i - nid) ≠ 0 := by simp
     rw [fob_at, if_neg h1, fob_nil]
     have : i = nid ∨ i = nid + 1 ∨ i = nid + 2 ∨ i = nid + 3 := by omega
     rcases this with rfl | rfl | rfl | rfl
     ·
      exact hfree.1.symm
     ·
      exact hfree.2.1.symm
     ·
      exact hfree.2.2.1.symm
     ·
      exact hfree.2.2.2.symm
    ·
     rfl
  rw [e]
  exact hK u v' hR
end Go.Hl

namespace Go.Proofs.YtenbfeemmpjdhaaGreatDoor
open Go Go.Hl Go.Pl
set_option maxRecDepth 10000
set_option maxHeartbeats 16000000
attribute [local simp] tp

theorem cA9 (hmid : ∀ i : Nat, i < 2 ^ 40 → aW Tryz.prog 47 [.int .i64 i] (fun v => v = dg (mid i))) (r : Rt) (L : List Int) (a : Nat) (ha : a + 100 < 2 ^ 40) (hr : rMid r) (hk0 : 0 < r.k.length) (hq0 : 0 < r.q.length) (hx0 : r.x.length ≤ 64) : bX2 Tryz.prog 23 39 (tp L a) [r.cv] (fun u v' => ∃ (r' : Rt) (a' : Nat), u = r'.cv ∧ v' = tp L a' ∧ a' ≤ a + 4 ∧ rMid r') := by
 refine bH (args := [.c r.cv, .ptr 0 0]) Tryz.func23 rfl (by kernel_rfl) (xO _ _ [r.cv]) (Nat.le_of_ble_eq_true rfl) ?_
 have hkl : r.k.length ≤ 32 := hr.2.1.1
 have hql : r.q.length ≤ 12 := hr.1.1
 have hk1 : ¬ r.k = [] := fun h => by rw [h] at hk0; exact absurd hk0 (by decide)
 have hq1 : ¬ r.q = [] := fun h => by rw [h] at hq0; exact absurd hq0 (by decide)
 refine R0 ?_
 refine aB fun K hK => Rg ?_
 have F := @uY
 iterate 6 refine SF ?_
 refine T2 (hK _ _ _ ?_)
 clear hK K
 refine aB fun K hK => Rg ?_
 have F := @bH9
 iterate 6 refine SF ?_
 refine T2 (hK _ _ _ ?_)
 clear hK K
 refine bF (fr2 := fin [(1, .ptr 0 0), (2, .ptr 1 0), (4, .ptr 5 0)]) (ob2 := fob [(0, .box 39 (.c (tp L a))), (1, .box 26 (.agg [.c (.int .i64 r.v), .c (.int .i64 r.e), .own 33 r.q.length, .own 9 r.k.length, .c (.slc (r.x.map Rv.cv))])), (5, .box 26 (.c zR)), (9, .row 70 21 (r.k.map Ky.cv)), (33, .row 64 2 (r.q.map Qt.cv))]) (nx2 := 100) (aQ (by omega) (by simp [aY, fin_at, finA_at, upd_at, HV.men, HV.menL, HV.norm, HV.toC, HV.toCL]) (by simp [bC, fob_at, upd_at, none0_at, bT, HO.men, HV.men, HV.menL, HV.norm, HV.toC, HV.toCL]; rfl)) ?_
 refine aB fun K hK => Rg ?_
 iterate 4 refine S0 ?_
 refine HS rfl rfl fun K' hK' => T5 ?_
 refine bU (args := [_]) (cT L a r.k.length (by omega) (by omega)) rfl (by simp) ⟨rfl, rfl, rfl, rfl⟩ ?_
 rintro u v' ⟨x1, a1, rfl, rfl, g1, g2, g3, g4⟩
 refine AX (hK' _ _ ?_)
 clear hK' K'
 refine S0 ?_
 refine T2 (hK _ _ _ ?_)
 clear hK K
 refine aB fun K hK => ?_
 have key : ∀ (cl : List Nat) (r' : Rt) (b' : Nat) fr ob nx, b' ≤ a + 4 → rMid r' → Fits 1 (clF ob cl fr) (clO ob cl) (fin [(2, .ptr 1 0), (4, .ptr 5 0)]) (fob [(0, .box 39 (.c (tp L b'))), (1, .box 26 (.c r'.cv)), (5, .box 26 (.c (Rt.cv ⟨0, 0, [], [], []⟩)))]) 900 → K fr ob nx := by
  intro cl r' b' fr ob nx w1 w2 hf
  refine hK _ _ _ (cM cl (bF hf ?_))
  clear hf hK K
  refine R0 ?_
  refine aD (RT Tryz.results23 ?_)
  refine jL [] r'.cv (tp L b') (eT (Rt.denil _)) rfl ?_ (by simp) ⟨r', b', rfl, rfl, w1, w2⟩
  simp [HV.close, HV.closeL, tp, CV.denil, CV.denilL, denilL_int, HV.norm, HV.toC, HV.toCL]
 obtain ⟨i, rfl⟩ : ∃ i : Nat, x1 = i := ⟨x1.toNat, by omega⟩
 have hil : i < r.k.length := by omega
 have hkk := hr.2.1.2 _ (List.getElem_mem hil)
 refine aB fun K hK => Rg ?_
 refine S0 ?_
 refine HS rfl rfl fun K' hK' => T5 ?_
 refine bU (args := [_]) (cT L a1 9 (by omega) (by omega)) rfl (by simp) ⟨rfl, rfl, rfl, rfl⟩ ?_
 rintro u v' ⟨y, a2, rfl, rfl, k1, k2, k3, k4⟩
 refine AX (hK' _ _ ?_)
 clear hK' K'
 refine T2 (hK _ _ _ ?_)
 clear hK K
 refine aH ?_
 refine R0 ?_
 refine aJ (b := y == 0) rfl (fun hb => ?_) (fun hb => ?_)
 ·
  refine Rg ?_
  refine S0 ?_
  refine HS rfl rfl fun K' hK' => T5 ?_
  refine bU (args := [_]) (cT L a2 3 (by omega) (by omega)) rfl (by simp) ⟨rfl, rfl, rfl, rfl⟩ ?_
  rintro u v' ⟨x2, a3, rfl, rfl, j1, j2, j3, j4⟩
  refine AX (hK' _ _ ?_)
  clear hK' K'
  iterate 3 refine S0 ?_
  refine T4 ?_
  exact key [9, 33] ⟨IntKind.i64.wrap (x2 - 1), r.e, r.q, r.k, r.x⟩ a3 _ _ _ (by omega) (hr) (aQ (by omega) (by simp [aY, cQ, fin_at, finA_at, upd_at, fob_at, HV.close, HV.closeL, CV.denil, CV.denilL, denilL_str, denilL_Rv, denilL_Qt, denilL_Ky, HV.men, HV.menL, HV.norm, HV.toC, HV.toCL]) (by simp [bC, cR, fob_at, upd_at, none0_at, bT, HO.close, HV.close, HV.closeL, HO.men, HV.men, HV.menL, HV.norm, HV.toC, HV.toCL, Rt.denil, zR, Rt.cv, CV.denil, CV.denilL, denilL_str, denilL_Rv, denilL_Qt, denilL_Ky, denilL_int, tp]))
 refine R0 ?_
 refine aJ (b := y == 1) rfl (fun hb => ?_) (fun hb => ?_)
 ·
  refine DW [(0, [], []), (1, [], []), (2, [], []), (3, [], []), (4, [], []), (5, [], []), (6, [], []), (7, [], []), (8, [], []), (9, [], []), (10, [], []), (11, [], [])] [0, 1, 0, 0, 8, 0, 56, 120, 248, 511, 1023, 2047] ?_
  iterate 12 refine W0 ?_ (e := fun _ h_ => by simp only [sH, ↓sP, sA, tyS, simprocAttr, hil, hk0, hq0, List.map_eq_nil_iff, hk1, hq1, aN hil, aN hk0, aN hq0, Int.natCast_nonneg, Int.ofNat_lt, Ky.fold, Qt.fold, Pk.fold, ← List.map_set, List.length_set]; exact AX h_)
  refine T4 ?_
  exact key [9, 33] ⟨r.v, r.e, r.q, r.k.set i ⟨r.k[i].p, r.k[i].o, r.k[i].rs, r.k[i].un, r.k[i].un⟩, r.x⟩ a2 _ _ _ (by omega) (hr.setK i _ hkk.1 hkk.2.1 hkk.2.2) (aQ (by omega) (by simp [aY, cQ, fin_at, finA_at, upd_at, fob_at, HV.close, HV.closeL, CV.denil, CV.denilL, denilL_str, denilL_Rv, denilL_Qt, denilL_Ky, HV.men, HV.menL, HV.norm, HV.toC, HV.toCL]) (by simp [bC, cR, fob_at, upd_at, none0_at, bT, HO.close, HV.close, HV.closeL, HO.men, HV.men, HV.menL, HV.norm, HV.toC, HV.toCL, Rt.denil, zR, Rt.cv, CV.denil, CV.denilL, denilL_str, denilL_Rv, denilL_Qt, denilL_Ky, denilL_int, tp]))
 refine R0 ?_
 refine aJ (b := y == 2) rfl (fun hb => ?_) (fun hb => ?_)
 ·
  refine dN (by kernel_rfl) ?_
  simp only [sR, simprocAttr]
  iterate 3 refine SG0 ?_ (e := fun _ h_ => by simp only [sH, ↓sP, sA, tyS, simprocAttr, hil, hk0, hq0, List.map_eq_nil_iff, hk1, hq1, aN hil, aN hk0, aN hq0, Int.natCast_nonneg, Int.ofNat_lt, Ky.fold, Qt.fold, Pk.fold, ← List.map_set, List.length_set, show CV.slc [CV.str [98], CV.str [97]] = CV.slc (([[98], [97]] : List aK).map CV.str) from rfl]; exact AX h_)
  refine dJ (g := none) 168 rfl rfl fun K' hK' => ?_
  simp only [iS, lR, sH, ↓sP, sA, tyS, simprocAttr, hil, hk0, hq0, List.map_eq_nil_iff, hk1, hq1, aN hil, aN hk0, aN hq0, Int.natCast_nonneg, Int.ofNat_lt, Ky.fold, Qt.fold, Pk.fold, ← List.map_set, List.length_set, show CV.slc [CV.str [98], CV.str [97]] = CV.slc (([[98], [97]] : List aK).map CV.str) from rfl]
  repeat refine AI ?_
  refine eG (by first | rfl | simp) ?_
  simp only [sH, ↓sP, sA, tyS, simprocAttr, hil, hk0, hq0, List.map_eq_nil_iff, hk1, hq1, aN hil, aN hk0, aN hq0, Int.natCast_nonneg, Int.ofNat_lt, Ky.fold, Qt.fold, Pk.fold, ← List.map_set, List.length_set, show CV.slc [CV.str [98], CV.str [97]] = CV.slc (([[98], [97]] : List aK).map CV.str) from rfl]
  refine AX (hK' _ _ ?_)
  clear hK' K'
  iterate 3 refine SG0 ?_ (e := fun _ h_ => by simp only [sH, ↓sP, sA, tyS, simprocAttr, hil, hk0, hq0, List.map_eq_nil_iff, hk1, hq1, aN hil, aN hk0, aN hq0, Int.natCast_nonneg, Int.ofNat_lt, Ky.fold, Qt.fold, Pk.fold, ← List.map_set, List.length_set, show CV.slc [CV.str [98], CV.str [97]] = CV.slc (([[98], [97]] : List aK).map CV.str) from rfl]; exact AX h_)
  refine T4 ?_
  exact key [9, 33] ⟨r.v, r.e, r.q, r.k.set i ⟨r.k[i].p, r.k[i].o, [[98], [97]], r.k[i].fr, r.k[i].un⟩, r.x⟩ a2 _ _ _ (by omega) (hr.setK i _ hkk.1 (by simp) (by simp)) (aQ (by omega) (by simp [aY, cQ, fin_at, finA_at, upd_at, fob_at, HV.close, HV.closeL, CV.denil, CV.denilL, denilL_str, denilL_Rv, denilL_Qt, denilL_Ky, HV.men, HV.menL, HV.norm, HV.toC, HV.toCL]) (by simp [bC, cR, fob_at, upd_at, none0_at, bT, HO.close, HV.close, HV.closeL, HO.men, HV.men, HV.menL, HV.norm, HV.toC, HV.toCL, Rt.denil, zR, Rt.cv, CV.denil, CV.denilL, denilL_str, denilL_Rv, denilL_Qt, denilL_Ky, denilL_int, tp]))
 refine R0 ?_
 refine aJ (b := y == 3) rfl (fun hb => ?_) (fun hb => ?_)
 ·
  refine Rg ?_
  iterate 6 refine S0 ?_ (e := fun _ h_ => by simp only [sH, ↓sP, sA, tyS, simprocAttr, hil, hk0, hq0, List.map_eq_nil_iff, hk1, hq1, aN hil, aN hk0, aN hq0, Int.natCast_nonneg, Int.ofNat_lt, Ky.fold, Qt.fold, Pk.fold, ← List.map_set, List.length_set]; exact AX h_)
  refine T4 ?_
  exact key [9, 33] ⟨r.v, r.e, r.q, r.k.set i ⟨r.k[i].p, [65, 110, 110], r.k[i].rs, r.k[i].fr, r.k[i].un⟩, r.x⟩ a2 _ _ _ (by omega) (hr.setK i _ (by simp) hkk.2.1 hkk.2.2) (aQ (by omega) (by simp [aY, cQ, fin_at, finA_at, upd_at, fob_at, HV.close, HV.closeL, CV.denil, CV.denilL, denilL_str, denilL_Rv, denilL_Qt, denilL_Ky, HV.men, HV.menL, HV.norm, HV.toC, HV.toCL]) (by simp [bC, cR, fob_at, upd_at, none0_at, bT, HO.close, HV.close, HV.closeL, HO.men, HV.men, HV.menL, HV.norm, HV.toC, HV.toCL, Rt.denil, zR, Rt.cv, CV.denil, CV.denilL, denilL_str, denilL_Rv, denilL_Qt, denilL_Ky, denilL_int, tp]))
 refine R0 ?_
 refine aJ (b := y == 4) rfl (fun hb => ?_) (fun hb => ?_)
 ·
  have hil2 : i < (r.k.set 0 r.k[i]).length := by rw [List.length_set]; exact hil
  refine DW [(0, [], []), (1, [], []), (2, [], []), (3, [], []), (4, [], []), (5, [], []), (6, [], []), (7, [], []), (8, [], []), (9, [], []), (10, [], []), (11, [], []), (12, [], []), (13, [], []), (14, [], []), (15, [], [2, 3, 4]), (16, [], []), (17, [], [])] [0, 1, 0, 4, 0, 0, 32, 0, 224, 480, 0, 1024, 3072, 7168, 16355, 32739, 65535, 131071] ?_
  iterate 18 refine W0 ?_ (e := fun _ h_ => by simp only [sH, ↓sP, sA, tyS, simprocAttr, hil, hk0, hq0, List.map_eq_nil_iff, hk1, hq1, aN hil, aN hk0, aN hq0, Int.natCast_nonneg, Int.ofNat_lt, Ky.fold, Qt.fold, Pk.fold, ← List.map_set, List.length_set, aN hil2]; exact AX h_)
  refine T4 ?_
  have hk00 := hr.2.1.2 _ (List.getElem_mem hk0)
  exact key [9, 33] ⟨r.v, r.e, r.q, (r.k.set 0 r.k[i]).set i r.k[0], r.x⟩ a2 _ _ _ (by omega) ((hr.setK 0 r.k[i] hkk.1 hkk.2.1 hkk.2.2).setK i r.k[0] hk00.1 hk00.2.1 hk00.2.2) (aQ (by omega) (by simp [aY, cQ, fin_at, finA_at, upd_at, fob_at, HV.close, HV.closeL, CV.denil, CV.denilL, denilL_str, denilL_Rv, denilL_Qt, denilL_Ky, HV.men, HV.menL, HV.norm, HV.toC, HV.toCL]) (by simp [bC, cR, fob_at, upd_at, none0_at, bT, HO.close, HV.close, HV.closeL, HO.men, HV.men, HV.menL, HV.norm, HV.toC, HV.toCL, Rt.denil, zR, Rt.cv, CV.denil, CV.denilL, denilL_str, denilL_Rv, denilL_Qt, denilL_Ky, denilL_int, tp]))
 refine R0 ?_
 refine aJ (b := y == 5) rfl (fun hb => ?_) (fun hb => ?_)
 ·
  refine DW [(0, [], []), (1, [], []), (2, [], []), (3, [], [0, 1]), (4, [], []), (5, [], []), (6, [], []), (7, [], [])] [0, 1, 0, 4, 12, 31, 63, 127] ?_
  iterate 3 refine W0 ?_ (e := fun _ h_ => by simp only [sH, ↓sP, sA, tyS, simprocAttr, hil, hk0, hq0, List.map_eq_nil_iff, hk1, hq1, aN hil, aN hk0, aN hq0, Int.natCast_nonneg, Int.ofNat_lt, Ky.fold, Qt.fold, Pk.fold, ← List.map_set, List.length_set]; exact AX h_)
  refine aO (g := none) rfl rfl fun K' hK' => ?_
  simp only [sH, ↓sP, sA, tyS, simprocAttr, hil, hk0, hq0, List.map_eq_nil_iff, hk1, hq1, aN hil, aN hk0, aN hq0, Int.natCast_nonneg, Int.ofNat_lt, Ky.fold, Qt.fold, Pk.fold, ← List.map_set, List.length_set]
  refine bU (args := [_]) (cT L a2 40 (by omega) (by omega)) rfl (by simp) ⟨rfl, rfl, rfl, rfl⟩ ?_
  rintro u v' ⟨x2, a3, rfl, rfl, j1, j2, j3, j4⟩
  refine AX (hK' _ _ ?_)
  clear hK' K'
  iterate 4 refine W0 ?_ (e := fun _ h_ => by simp only [sH, ↓sP, sA, tyS, simprocAttr, hil, hk0, hq0, List.map_eq_nil_iff, hk1, hq1, aN hil, aN hk0, aN hq0, Int.natCast_nonneg, Int.ofNat_lt, Ky.fold, Qt.fold, Pk.fold, ← List.map_set, List.length_set]; exact AX h_)
  refine T4 ?_
  exact key [9, 33] ⟨r.v, r.e, r.q.set 0 ⟨r.q[0].r, IntKind.i64.wrap (x2 - 2)⟩, r.k, r.x⟩ a3 _ _ _ (by omega) (hr.setQ 0 _ (hr.1.2 r.q[0] (List.getElem_mem hq0))) (aQ (by omega) (by simp [aY, cQ, fin_at, finA_at, upd_at, fob_at, HV.close, HV.closeL, CV.denil, CV.denilL, denilL_str, denilL_Rv, denilL_Qt, denilL_Ky, HV.men, HV.menL, HV.norm, HV.toC, HV.toCL]) (by simp [bC, cR, fob_at, upd_at, none0_at, bT, HO.close, HV.close, HV.closeL, HO.men, HV.men, HV.menL, HV.norm, HV.toC, HV.toCL, Rt.denil, zR, Rt.cv, CV.denil, CV.denilL, denilL_str, denilL_Rv, denilL_Qt, denilL_Ky, denilL_int, tp]))
 refine R0 ?_
 refine aJ (b := y == 6) rfl (fun hb => ?_) (fun hb => ?_)
 ·
  refine Rg ?_
  have F := aI @bH8 (aI @Rv.fold @List.length_append.{0})
  iterate 5 refine SF ?_
  refine HS rfl rfl fun K' hK' => T6 ?_
  refine bU (args := [_]) (cT L a2 6 (by omega) (by omega)) rfl (by simp) ⟨rfl, rfl, rfl, rfl⟩ ?_
  rintro u v' ⟨x2, a3, rfl, rfl, j1, j2, j3, j4⟩
  obtain ⟨m, rfl⟩ : ∃ m : Nat, x2 = m := ⟨x2.toNat, by omega⟩
  refine AX (hK' _ _ ?_)
  clear hK' K'
  refine HS rfl rfl fun K' hK' => T6 ?_
  refine C1 (hmid m (by omega)) ?_
  rintro u rfl
  refine AX (hK' _ _ ?_)
  clear hK' K'
  refine SF ?_
  refine HS rfl rfl fun K' hK' => T6 ?_
  refine bU (args := [_]) (cT L a3 9 (by omega) (by omega)) rfl (by simp) ⟨rfl, rfl, rfl, rfl⟩ ?_
  rintro u v' ⟨x3, a4, rfl, rfl, l1, l2, l3, l4⟩
  refine AX (hK' _ _ ?_)
  clear hK' K'
  iterate 6 refine SF ?_
  refine T4 ?_
  exact key [9, 33, 188] ⟨r.v, r.e, r.q, r.k, r.x ++ [⟨mid m, IntKind.i64.wrap (x3 - 1)⟩]⟩ a4 _ _ _ (by omega) (⟨hr.1, hr.2.1, by simp; omega⟩) (aQ (by omega) (by simp [aY, cQ, fin_at, finA_at, upd_at, fob_at, HV.close, HV.closeL, CV.denil, CV.denilL, denilL_str, denilL_Rv, denilL_Qt, denilL_Ky, HV.men, HV.menL, HV.norm, HV.toC, HV.toCL]) (by simp [bC, cR, fob_at, upd_at, none0_at, bT, HO.close, HV.close, HV.closeL, HO.men, HV.men, HV.menL, HV.norm, HV.toC, HV.toCL, Rt.denil, zR, Rt.cv, CV.denil, CV.denilL, denilL_str, denilL_Rv, denilL_Qt, denilL_Ky, denilL_int, tp]))
 refine R0 ?_
 refine aJ (b := y == 7) rfl (fun hb => ?_) (fun hb => ?_)
 ·
  refine DW [(0, [], []), (1, [], []), (2, [], []), (3, [], []), (4, [], [0, 1, 2]), (5, [], []), (6, [], []), (7, [], []), (8, [], []), (9, [], [])] [0, 1, 0, 0, 8, 24, 63, 127, 255, 511] ?_
  iterate 4 refine W0 ?_ (e := fun _ h_ => by simp only [sH, ↓sP, sA, tyS, simprocAttr, hil, hk0, hq0, List.map_eq_nil_iff, hk1, hq1, aN hil, aN hk0, aN hq0, Int.natCast_nonneg, Int.ofNat_lt, Ky.fold, Qt.fold, Pk.fold, ← List.map_set, List.length_set, Ky.set_ph]; exact AX h_)
  refine aO (g := none) rfl rfl fun K' hK' => ?_
  simp only [sH, ↓sP, sA, tyS, simprocAttr, hil, hk0, hq0, List.map_eq_nil_iff, hk1, hq1, aN hil, aN hk0, aN hq0, Int.natCast_nonneg, Int.ofNat_lt, Ky.fold, Qt.fold, Pk.fold, ← List.map_set, List.length_set, Ky.set_ph]
  refine bU (args := [_]) (cT L a2 9 (by omega) (by omega)) rfl (by simp) ⟨rfl, rfl, rfl, rfl⟩ ?_
  rintro u v' ⟨x2, a3, rfl, rfl, j1, j2, j3, j4⟩
  refine AX (hK' _ _ ?_)
  clear hK' K'
  iterate 5 refine W0 ?_ (e := fun _ h_ => by simp only [sH, ↓sP, sA, tyS, simprocAttr, hil, hk0, hq0, List.map_eq_nil_iff, hk1, hq1, aN hil, aN hk0, aN hq0, Int.natCast_nonneg, Int.ofNat_lt, Ky.fold, Qt.fold, Pk.fold, ← List.map_set, List.length_set, Ky.set_ph]; exact AX h_)
  refine T4 ?_
  exact key [9, 33] ⟨r.v, r.e, r.q, r.k.set i ⟨⟨IntKind.i64.wrap (x2 - 1), r.k[i].p.r⟩, r.k[i].o, r.k[i].rs, r.k[i].fr, r.k[i].un⟩, r.x⟩ a3 _ _ _ (by omega) (hr.setK i _ hkk.1 hkk.2.1 hkk.2.2) (aQ (by omega) (by simp [aY, cQ, fin_at, finA_at, upd_at, fob_at, HV.close, HV.closeL, CV.denil, CV.denilL, denilL_str, denilL_Rv, denilL_Qt, denilL_Ky, HV.men, HV.menL, HV.norm, HV.toC, HV.toCL]) (by simp [bC, cR, fob_at, upd_at, none0_at, bT, HO.close, HV.close, HV.closeL, HO.men, HV.men, HV.menL, HV.norm, HV.toC, HV.toCL, Rt.denil, zR, Rt.cv, CV.denil, CV.denilL, denilL_str, denilL_Rv, denilL_Qt, denilL_Ky, denilL_int, tp]))
 refine DW [(0, [], []), (1, [], []), (2, [], []), (3, [], []), (4, [], []), (5, [], []), (6, [], [0, 1]), (7, [], []), (8, [], []), (9, [], [])] [0, 1, 0, 0, 8, 24, 60, 127, 255, 511] ?_
 have F := @List.length_map.{0,0}
 iterate 6 refine WF ?_
 refine aO (g := none) rfl rfl fun K' hK' => T6 ?_
 refine bU (args := [_]) (cT L a2 r.q.length (by omega) (by omega)) rfl (by simp) ⟨rfl, rfl, rfl, rfl⟩ ?_
 rintro u v' ⟨x2, a3, rfl, rfl, j1, j2, j3, j4⟩
 obtain ⟨m, rfl⟩ : ∃ m : Nat, x2 = m := ⟨x2.toNat, by omega⟩
 have hml : m < r.q.length := by omega
 refine AX (hK' _ _ ?_)
 clear hK' K'
 iterate 3 refine WF ?_
 refine T4 ?_
 exact key [9, 33] ⟨r.v, r.e, r.q.take m, r.k, r.x⟩ a3 _ _ _ (by omega) (⟨⟨by show (r.q.take m).length ≤ 12; rw [List.length_take]; omega, fun q hq => hr.1.2 q (List.mem_of_mem_take hq)⟩, hr.2.1, hr.2.2⟩) (aQ (by omega) (by simp [aY, cQ, fin_at, finA_at, upd_at, fob_at, HV.close, HV.closeL, CV.denil, CV.denilL, denilL_str, denilL_Rv, denilL_Qt, denilL_Ky, HV.men, HV.menL, HV.norm, HV.toC, HV.toCL]) (by simp [bC, cR, fob_at, upd_at, none0_at, bT, HO.close, HV.close, HV.closeL, HO.men, HV.men, HV.menL, HV.norm, HV.toC, HV.toCL, Rt.denil, zR, Rt.cv, CV.denil, CV.denilL, denilL_str, denilL_Rv, denilL_Qt, denilL_Ky, denilL_int, tp, hq0, Nat.le_of_lt hml, ← List.map_take]))

end Go.Proofs.YtenbfeemmpjdhaaGreatDoor

namespace Go.Proofs.YtenbfeemmpjdhaaGreatDoor
open Go Go.Hl Go.Pl
set_option maxRecDepth 10000
set_option maxHeartbeats 16000000
attribute [local simp] tp

theorem bV3 {r : Rt} (h : iZ r = true) : r.x.length ≤ 100 := by
 unfold iZ at h
 simp only [Bool.and_eq_true, decide_eq_true_eq] at h
 exact h.2.2.1
theorem cG7 (l : aK) : CV.denilL (l.map cU) = l.map u8 := denilL_u8 l
theorem bD7 (raw : Rt) (L : List Int) (hraw : bQ3 raw) : aW Tryz.prog 7 [raw.cv, .slc (L.map (.int .i64))] (fun v => ∃ rs : List Rt, v = .slc (rs.map Rt.cv) ∧ rs.length ≤ 3 ∧ ∀ r ∈ rs, rSz r ∧ r.x.length ≤ 100) := by
 refine FW Tryz.func7 ?_
 refine R0 ?_
 refine aB fun K hK => Rg ?_
 have F := @denilL_int
 iterate 4 refine SF ?_
 refine T2 (hK _ _ _ ?_)
 clear hK K
 refine aB fun K hK => Rg ?_
 iterate 2 refine S0 ?_
 refine HS rfl rfl fun K' hK' => T5 ?_
 refine bU (args := [_]) (cT L 0 3 (by omega) (by omega)) rfl (by simp) ⟨rfl, rfl, rfl, rfl⟩ ?_
 rintro u v' ⟨x, a1, rfl, rfl, k1, k2, k3, k4⟩
 refine AX (hK' _ _ ?_)
 clear hK' K'
 refine S0 ?_
 refine HS rfl rfl fun K' hK' => T5 ?_
 refine bU (args := [_]) (bU9 L a1 (IntKind.i64.wrap (1 + x)) (by omega)) rfl (by simp) ⟨rfl, rfl, rfl, rfl⟩ ?_
 rintro u v' ⟨r, a2, rfl, rfl, k5, hr, hv⟩
 have e1 : IntKind.i64.wrap (1 + x) = 1 + x := IntWalk.i64_in _ (by omega)
 rw [e1] at hv
 obtain ⟨hm, hk0, hq0, hx0⟩ := jA (hv (by omega) (by unfold eD; omega))
 refine AX (hK' _ _ ?_)
 clear hK' K'
 iterate 2 refine S0 ?_
 refine T2 (hK _ _ _ ?_)
 clear hK K
 refine aB fun K hK => DW [(0, [], []), (1, [], []), (2, [], []), (3, [], [0]), (4, [], []), (5, [], [])] [0, 0, 0, 6, 15, 31] ?_
 have F := @aJ0
 iterate 3 refine WF ?_
 refine aO (g := none) rfl rfl fun K' hK' => T6 ?_
 refine bD6 (args := [_]) (cA9 (fun i hi => aR8 i hi) r L a2 (by omega) hm hk0 hq0 hx0) rfl (by simp) ⟨rfl, rfl, rfl, rfl⟩ ?_
 rintro u v' ⟨r2, a3, rfl, rfl, k6, hm2⟩
 refine AX (hK' _ _ ?_)
 clear hK' K'
 iterate 2 refine WF ?_
 refine T2 (hK _ _ _ ?_)
 clear hK K
 refine aB fun K hK => ?_
 have key : ∀ (m : List Rt) fr ob nx, m.length ≤ 3 → (∀ r ∈ m, rSz r ∧ r.x.length ≤ 100) → Fits 0 fr ob (fin [(7, .own 68 m.length)]) (fob [(68, .row 26 5 (m.map Rt.cv))]) 500 → K fr ob nx := by
  intro m fr ob nx w1 w2 hf
  refine hK _ _ _ (bF hf ?_)
  clear hf hK K
  refine R0 ?_
  refine aD (RT Tryz.results7 ?_)
  refine aC [68] (.slc (m.map Rt.cv)) ?_ ⟨m, rfl, w1, w2⟩
  simp [HV.close, upd_at, fob_at, HV.norm, HV.toC, List.take_of_length_le]
 refine aB fun K hK => Rg ?_
 refine S0 ?_
 refine HS rfl rfl fun K' hK' => T5 ?_
 refine C1 (bN3 raw) ?_
 rintro u rfl
 refine AX (hK' _ _ ?_)
 clear hK' K'
 refine T2 (hK _ _ _ ?_)
 clear hK K
 refine aJ (b := iZ raw) rfl (fun hb => ?_) (fun hb => ?_)
 ·
  refine Rg ?_
  have F := aI @List.length_append.{0} @aJ0
  iterate 5 refine SF ?_
  refine T4 ?_
  exact key [r, r2, raw] _ _ _ (by simp) (by intro z hz; simp only [List.mem_cons, List.not_mem_nil, or_false] at hz; rcases hz with rfl | rfl | rfl <;> first | exact ⟨hr.1, by omega⟩ | exact ⟨hm2.sz, by have := hm2.2.2; omega⟩ | exact ⟨bI3 hraw hb, bV3 hb⟩) (fF)
 refine aG (T3 ?_)
 exact key [r, r2] _ _ _ (by simp) (by intro z hz; simp only [List.mem_cons, List.not_mem_nil, or_false] at hz; rcases hz with rfl | rfl <;> first | exact ⟨hr.1, by omega⟩ | exact ⟨hm2.sz, by have := hm2.2.2; omega⟩) (fF)



end Go.Proofs.YtenbfeemmpjdhaaGreatDoor

namespace Go.Proofs.YtenbfeemmpjdhaaGreatDoor
open Go Go.Hl Go.Pl
set_option maxRecDepth 10000
set_option maxHeartbeats 16000000

def avC : Av → CV
 | .i n => .ifc 3 (.int .i64 n)
 | .l n => .ifc 2 (.int .i64 n)
 | .h x => .ifc 66 (hf x)
 | .d x => .ifc 49 (dg x)
 | .s w => .ifc 9 (.str w)
theorem zQ (x : Av) : (avC x).cells = 1 := by cases x <;> rfl
theorem nI (x : Av) : (avC x).denil = avC x := by cases x <;> rfl
theorem zS (x : Av) : CV.getAt 0 1 false (avC x) = some (avC x) := by cases x <;> rfl

theorem cB0 (n : Int) (hn : -9223372036854775808 ≤ n ∧ n ≤ 9223372036854775807) : fZ Tryz.prog 70 tabs [avC (.i n)] (fun v => v = .str (Av.w (.i n))) := by
 refine bH (args := [.c (avC (.i n))]) Tryz.func70 rfl (by kernel_rfl) (cZ tabs [avC (.i n)]) (Nat.le_of_ble_eq_true rfl) ?_
 unfold dW
 simp only [avC]
 refine R0 ?_
 refine aB fun K hK => ?_
 refine R0 ?_
 refine aH ?_
 refine R0 ?_
 refine CT rfl ?_
 refine R0 ?_
 refine aB fun K hK => Rg ?_
 refine S0 ?_
 refine HS rfl rfl fun K' hK' => T5 ?_
 refine eO (args := [_]) 0 (bN8 n hn) rfl (by simp) ⟨rfl, rfl, rfl, rfl⟩ ?_
 rintro u rfl
 refine AX (hK' _ _ ?_)
 clear hK' K'
 refine S0 ?_
 refine T2 (hK _ _ _ ?_)
 clear hK K
 refine aD (RT Tryz.results70 ?_)
 exact eA [] (.str _) rfl rfl (by simp) rfl


theorem cB1 (n : Int) (hn : -9223372036854775808 ≤ n ∧ n ≤ 9223372036854775807) : fZ Tryz.prog 70 tabs [avC (.l n)] (fun v => v = .str (Av.w (.l n))) := by
 refine bH (args := [.c (avC (.l n))]) Tryz.func70 rfl (by kernel_rfl) (cZ tabs [avC (.l n)]) (Nat.le_of_ble_eq_true rfl) ?_
 unfold dW
 simp only [avC]
 refine R0 ?_
 refine aB fun K hK => ?_
 refine R0 ?_
 refine aH ?_
 refine R0 ?_
 refine CF rfl ?_
 refine R0 ?_
 refine CT rfl ?_
 refine R0 ?_
 refine aB fun K hK => Rg ?_
 refine S0 ?_
 refine HS rfl rfl fun K' hK' => T5 ?_
 refine eO (args := [_]) 0 (bN8 n hn) rfl (by simp) ⟨rfl, rfl, rfl, rfl⟩ ?_
 rintro u rfl
 refine AX (hK' _ _ ?_)
 clear hK' K'
 refine S0 ?_
 refine T2 (hK _ _ _ ?_)
 clear hK K
 refine aD (RT Tryz.results70 ?_)
 exact eA [] (.str _) rfl rfl (by simp) rfl


theorem cB2 (x : iM) : fZ Tryz.prog 70 tabs [avC (.h x)] (fun v => v = .str (Av.w (.h x))) := by
 refine bH (args := [.c (avC (.h x))]) Tryz.func70 rfl (by kernel_rfl) (cZ tabs [avC (.h x)]) (Nat.le_of_ble_eq_true rfl) ?_
 unfold dW
 simp only [avC]
 refine R0 ?_
 refine aB fun K hK => ?_
 refine R0 ?_
 refine aH ?_
 refine R0 ?_
 refine CF rfl ?_
 refine R0 ?_
 refine CF rfl ?_
 refine R0 ?_
 refine CT rfl ?_
 refine R0 ?_
 refine aB fun K hK => Rg ?_
 refine S0 ?_
 refine HS rfl rfl fun K' hK' => T5 ?_
 refine C1 (bV1 x) ?_
 rintro u rfl
 refine AX (hK' _ _ ?_)
 clear hK' K'
 refine S0 ?_
 refine T2 (hK _ _ _ ?_)
 clear hK K
 refine aD (RT Tryz.results70 ?_)
 exact eA [] (.str _) rfl rfl (by simp) rfl


theorem cB3 (x : Dig) : fZ Tryz.prog 70 tabs [avC (.d x)] (fun v => v = .str (Av.w (.d x))) := by
 refine bH (args := [.c (avC (.d x))]) Tryz.func70 rfl (by kernel_rfl) (cZ tabs [avC (.d x)]) (Nat.le_of_ble_eq_true rfl) ?_
 unfold dW
 simp only [avC]
 refine R0 ?_
 refine aB fun K hK => ?_
 refine R0 ?_
 refine aH ?_
 refine R0 ?_
 refine CF rfl ?_
 refine R0 ?_
 refine CF rfl ?_
 refine R0 ?_
 refine CF rfl ?_
 refine R0 ?_
 refine CT rfl ?_
 refine R0 ?_
 refine aB fun K hK => Rg ?_
 refine S0 ?_
 refine HS rfl rfl fun K' hK' => T5 ?_
 refine C1 (bV2 x) ?_
 rintro u rfl
 refine AX (hK' _ _ ?_)
 clear hK' K'
 refine S0 ?_
 refine T2 (hK _ _ _ ?_)
 clear hK K
 refine aD (RT Tryz.results70 ?_)
 exact eA [] (.str _) rfl rfl (by simp) rfl


theorem cB4 (w : aK) : fZ Tryz.prog 70 tabs [avC (.s w)] (fun v => v = .str (Av.w (.s w))) := by
 refine bH (args := [.c (avC (.s w))]) Tryz.func70 rfl (by kernel_rfl) (cZ tabs [avC (.s w)]) (Nat.le_of_ble_eq_true rfl) ?_
 unfold dW
 simp only [avC]
 refine R0 ?_
 refine aB fun K hK => ?_
 refine R0 ?_
 refine aH ?_
 refine R0 ?_
 refine CF rfl ?_
 refine R0 ?_
 refine CF rfl ?_
 refine R0 ?_
 refine CF rfl ?_
 refine R0 ?_
 refine CF rfl ?_
 refine R0 ?_
 refine CT rfl ?_
 refine R0 ?_
 refine R0 ?_
 refine aD (RT Tryz.results70 ?_)
 exact eA [] (.str _) rfl rfl (by simp) rfl


theorem zT (x : Av) (hx : x.ok) : fZ Tryz.prog 70 tabs [avC x] (fun v => v = .str x.w) := by
 cases x with
 | i n => exact cB0 n hx
 | l n => exact cB1 n hx
 | h x => exact cB2 x
 | d x => exact cB3 x
 | s w => exact cB4 w

theorem aD8 (l : List Av) (hx : ∀ x ∈ l, x.ok) (hl : l.length < 2 ^ 40) : fZ Tryz.prog 25 tabs [.slc (l.map avC)] (fun v => v = .slc ((l.map Av.w).map .str)) := by
 refine bH (args := [.c (.slc (l.map avC))]) Tryz.func25 rfl (by kernel_rfl) (cZ tabs [.slc (l.map avC)]) (Nat.le_of_ble_eq_true rfl) ?_
 unfold dW
 refine R0 ?_
 refine R0 ?_
 refine aB fun K hK => ?_
 refine R0 ?_
 refine aH ?_
 refine fE 3 0 9 1 rfl rfl rfl rfl ?_
 refine aU (α := {i : Nat // i ≤ l.length}) (fun i => (fin [(3, .own 21 (l.take i.1).length), (6, .c (.slc (l.map avC))), (7, .c (.int .i64 l.length)), (8, .c (.int .i64 i.1))], fob [(0, .tab tabs), (21, .row 9 1 (((l.take i.1).map Av.w).map .str))])) 100 (fun i => l.length - i.1) ⟨0, by omega⟩ (fF) ?_
 rintro ⟨i, hi⟩
 have hti : (l.take i).length = i := by simp; omega
 refine R0 ?_
 refine aB fun K hK => ?_
 refine aJ (b := decide ((i : Int) < l.length)) rfl (fun hb => ?_) (fun hb => ?_)
 ·
  have hlt : i < l.length := by simpa using hb
  clear hb
  have hxi := hx l[i] (List.getElem_mem hlt)
  refine aG ?_
  refine T0 (hK _ _ _ ?_)
  clear hK K
  refine aB fun K hK => ?_
  refine aH ?_
  have F := aI @Int.natCast_nonneg (aI @Int.ofNat_lt (aI hlt (aI (nM hlt) (aI @zQ (aI @zS @nI)))))
  refine RF ?_
  refine Rg ?_
  have F := aI @nI (aI hti (aI @List.length_append.{0} @List.length_map.{0,0}))
  iterate 2 refine SF ?_
  refine HS rfl rfl fun K' hK' => T6 ?_
  refine eO (args := [_]) 0 (zT l[i] hxi) rfl (by simp) ⟨rfl, rfl, rfl, rfl⟩ ?_
  rintro u rfl
  refine AX (hK' _ _ ?_)
  clear hK' K'
  iterate 3 refine SF ?_
  refine T2 (hK _ _ _ ?_)
  clear hK K
  refine aL (by kernel_rfl) ?_
  refine TQ (bK i) ?_
  refine ⟨⟨i + 1, hlt⟩, aQ (by omega) ?_ ?_, ?_⟩
  ·
   simp [aY, upd_at, fin_at, HV.men]
   omega
  ·
   simp only [List.take_succ_eq_append_getElem hlt, List.map_append]
   exact ⟨rfl, by omega, trivial, rfl, by omega, trivial, trivial⟩
  show l.length - (i + 1) < l.length - i
  omega
 refine aS (T3 ?_)
 clear hK K
 refine AX (hK _ _ _ ?_)
 clear hK K
 refine R0 ?_
 refine aD (RT Tryz.results25 ?_)
 have hei : i = l.length := by simp at hb; omega
 subst hei
 refine eA [21] (.slc ((l.map Av.w).map .str)) ?_ rfl (by simp) rfl
 rw [List.take_length]
 simp [HV.close, fob_at, upd_at, HV.norm, HV.toC, HV.closeL, HV.toCL, CV.denil]

end Go.Proofs.YtenbfeemmpjdhaaGreatDoor

namespace Go.Proofs.YtenbfeemmpjdhaaGreatDoor
open Go Go.Hl Go.Pl
set_option maxRecDepth 10000
set_option maxHeartbeats 16000000

theorem bN9 (l : List Av) (hx : ∀ x ∈ l, x.ok) (hl : l.length < 2 ^ 40) : bW0 Tryz.prog 25 tabs [.slc (l.map avC)] 9 1 (fun v => v = (l.map Av.w).map .str) := by
 refine bH (args := [.c (.slc (l.map avC))]) Tryz.func25 rfl (by kernel_rfl) (cZ tabs [.slc (l.map avC)]) (Nat.le_of_ble_eq_true rfl) ?_
 unfold dW
 refine R0 ?_
 refine R0 ?_
 refine aB fun K hK => ?_
 refine R0 ?_
 refine aH ?_
 refine fE 3 0 9 1 rfl rfl rfl rfl ?_
 refine aU (α := {i : Nat // i ≤ l.length}) (fun i => (fin [(3, .own 21 (l.take i.1).length), (6, .c (.slc (l.map avC))), (7, .c (.int .i64 l.length)), (8, .c (.int .i64 i.1))], fob [(0, .tab tabs), (21, .row 9 1 (((l.take i.1).map Av.w).map .str))])) 100 (fun i => l.length - i.1) ⟨0, by omega⟩ (fF) ?_
 rintro ⟨i, hi⟩
 have hti : (l.take i).length = i := by simp; omega
 refine R0 ?_
 refine aB fun K hK => ?_
 refine aJ (b := decide ((i : Int) < l.length)) rfl (fun hb => ?_) (fun hb => ?_)
 ·
  have hlt : i < l.length := by simpa using hb
  clear hb
  have hxi := hx l[i] (List.getElem_mem hlt)
  refine aG ?_
  refine T0 (hK _ _ _ ?_)
  clear hK K
  refine aB fun K hK => ?_
  refine aH ?_
  have F := aI @Int.natCast_nonneg (aI @Int.ofNat_lt (aI hlt (aI (nM hlt) (aI @zQ (aI @zS @nI)))))
  refine RF ?_
  refine Rg ?_
  have F := aI @nI (aI hti (aI @List.length_append.{0} @List.length_map.{0,0}))
  iterate 2 refine SF ?_
  refine HS rfl rfl fun K' hK' => T6 ?_
  refine eO (args := [_]) 0 (zT l[i] hxi) rfl (by simp) ⟨rfl, rfl, rfl, rfl⟩ ?_
  rintro u rfl
  refine AX (hK' _ _ ?_)
  clear hK' K'
  iterate 3 refine SF ?_
  refine T2 (hK _ _ _ ?_)
  clear hK K
  refine aL (by kernel_rfl) ?_
  refine TQ (bK i) ?_
  refine ⟨⟨i + 1, hlt⟩, aQ (by omega) ?_ ?_, ?_⟩
  ·
   simp [aY, upd_at, fin_at, HV.men]
   omega
  ·
   simp only [List.take_succ_eq_append_getElem hlt, List.map_append]
   exact ⟨rfl, by omega, trivial, rfl, by omega, trivial, trivial⟩
  show l.length - (i + 1) < l.length - i
  omega
 refine aS (T3 ?_)
 clear hK K
 refine AX (hK _ _ _ ?_)
 clear hK K
 refine R0 ?_
 refine aD (RT Tryz.results25 ?_)
 have hei : i = l.length := by simp at hb; omega
 subst hei
 exact aX9 rfl rfl (by simp) (by decide) (by rw [List.take_length])


theorem bV4 (r : Rt) (hr : rSz r) : aT4 Tryz.prog 8 tabs [r.cv] (fun u v => u = .slc ((wS r).map cU) ∧ v = .int .i64 (aL0 r)) := by
 refine bH (args := [.c r.cv]) Tryz.func8 rfl (by kernel_rfl) (cZ tabs [r.cv]) (Nat.le_of_ble_eq_true rfl) ?_
 unfold dW
 refine R0 ?_
 refine aB fun K hK => ?_
 refine aB fun K hK => Rg ?_
 refine S0 ?_
 refine HS rfl rfl fun K' hK' => T5 ?_
 refine C1 (mM r hr) ?_
 rintro u rfl
 refine AX (hK' _ _ ?_)
 clear hK' K'
 refine S0 ?_
 refine T2 (hK _ _ _ ?_)
 clear hK K
 refine aJ (b := !bQ r) rfl (fun hb => ?_) (fun hb => ?_)
 ·
  refine R0 ?_
  refine aD (RT Tryz.results8 ?_)
  have hv : bQ r = false := by simpa using hb
  refine rZ [] (.slc []) (.int .i64 1) ?_ rfl (by simp) ⟨by rw [wS, hv]; rfl, by rw [aL0, hv]; rfl⟩
  simp [HV.close, HV.closeL, CV.denil, CV.denilL, HV.norm, HV.toC, HV.toCL]
 refine aG ?_
 refine T0 (hK _ _ _ ?_)
 clear hK K
 have hv : bQ r = true := by simpa using hb
 clear hb
 obtain ⟨⟨v0, v1⟩, ⟨e0, e1⟩, hq, hk, hx⟩ := nR hv
 obtain ⟨⟨⟨lq, -⟩, ⟨lk, lks⟩, -⟩, -, -, lx⟩ := jA hv
 rw [aL1] at v1 e1 hk hx
 refine aB fun K hK => dN (by kernel_rfl) ?_
 simp only [sR, simprocAttr]
 iterate 7 refine SG0 ?_
 refine dJ (g := none) 53 rfl rfl fun K' hK' => ?_
 simp only [iS, lR, sH, ↓sP, sA, tyS, simprocAttr]
 repeat refine AI ?_
 refine eG (by first | rfl | simp) ?_
 try simp only [sH, ↓sP, sA, tyS, simprocAttr]
 refine AX (hK' _ _ ?_)
 clear hK' K'
 refine eN (g := none) rfl rfl fun K' hK' => T5 ?_
 refine eO (args := [.slc (([.s wRoot, .l r.v, .l r.e] : List Av).map avC)]) 0 (aD8 _ (by simp [Av.ok]; omega) (by simp)) rfl (by simp) ⟨rfl, rfl, rfl, rfl⟩ ?_
 rintro u rfl
 refine AX (hK' _ _ ?_)
 clear hK' K'
 iterate 2 refine SG0 ?_
 refine T2 (hK _ _ _ ?_)
 clear hK K
 refine aB fun K hK => ?_
 refine aB fun K hK => Rg ?_
 iterate 4 refine S0 ?_
 refine T2 (hK _ _ _ ?_)
 clear hK K
 refine aH ?_
 refine aU (α := {i : Nat // i ≤ r.q.length}) (fun i => (fin [(1, .ptr 1 0), (4, .own 61 ([rG r] ++ (r.q.take i.1).map qC).length), (26, .c (.slc (r.q.map Qt.cv))), (27, .c (.int .i64 r.q.length)), (28, .c (.int .i64 i.1))], fob [(0, .tab tabs), (1, .box 26 (.c r.cv)), (61, .row 60 1 (([rG r] ++ (r.q.take i.1).map qC).map lnC))])) 100 (fun i => r.q.length - i.1) ⟨0, by omega⟩ (aQ (by omega) (by simp [aY, fin_at, finA_at, upd_at, HV.men, HV.menL, HV.norm, HV.toC, HV.toCL]) (by simp [bC, fob_at, upd_at, none0_at, bT, HO.men, HV.men, HV.menL, HV.norm, HV.toC, HV.toCL]; rfl)) ?_
 rintro ⟨i, hi⟩
 have hti : (r.q.take i).length = i := by simp; omega
 refine R0 ?_
 refine aB fun K hK => ?_
 refine aJ (b := decide ((i : Int) < r.q.length)) rfl (fun hb => ?_) (fun hb => ?_)
 ·
  have hlt : i < r.q.length := by simpa using hb
  clear hb
  obtain ⟨q, hqe⟩ : ∃ q, q = r.q[i] := ⟨_, rfl⟩
  have hq1 := hq q (by rw [hqe]; exact List.getElem_mem hlt)
  have hqn : nth (r.q.map Qt.cv) i = q.cv := by rw [aN hlt, hqe]
  refine aG ?_
  refine T0 (hK _ _ _ ?_)
  clear hK K
  refine aB fun K hK => ?_
  refine aH ?_
  refine aB fun K hK => Rg ?_
  have F := aI @Int.natCast_nonneg (aI @Int.ofNat_lt (aI hlt (aI hqn @Qt.cells)))
  iterate 4 refine SF ?_
  refine T2 (hK _ _ _ ?_)
  clear hK K
  refine dN (by kernel_rfl) ?_
  simp only [sR, simprocAttr]
  have F := aI hti (aI @List.length_append.{0} @List.length_map.{0,0})
  iterate 8 refine SGF ?_
  refine dJ (g := none) 152 rfl rfl fun K' hK' => ?_
  simp only [iS, lR, sH, ↓sP, sA, tyS, simprocAttr, hti, List.length_append, List.length_map]
  repeat refine AI ?_
  refine eG (by first | rfl | simp) ?_
  try simp only [sH, ↓sP, sA, tyS, simprocAttr, hti, List.length_append, List.length_map]
  refine AX (hK' _ _ ?_)
  clear hK' K'
  refine eN (g := none) rfl rfl fun K' hK' => T6 ?_
  refine eO (args := [.slc (([.s wQuota, .s q.r, .i q.n] : List Av).map avC)]) 0 (aD8 _ (by simp [Av.ok]; omega) (by simp)) rfl (by simp) ⟨rfl, rfl, rfl, rfl⟩ ?_
  rintro u rfl
  refine AX (hK' _ _ ?_)
  clear hK' K'
  iterate 3 refine SGF ?_
  refine T2 (hK _ _ _ ?_)
  clear hK K
  refine aL (by kernel_rfl) ?_
  refine TQ (bK i) ?_
  refine ⟨⟨i + 1, hlt⟩, aQ (by omega) ?_ ?_, ?_⟩
  ·
   simp [aY, upd_at, fin_at, HV.men]
   omega
  ·
   simp only [List.take_succ_eq_append_getElem hlt, List.map_append, ← List.append_assoc, ← hqe]
   exact ⟨rfl, by omega, trivial, rfl, by omega, trivial, rfl, by omega, trivial, trivial⟩
  show r.q.length - (i + 1) < r.q.length - i
  omega
 have hei : i = r.q.length := by simp at hb; omega
 subst hei
 clear hb
 rw [List.take_length]
 refine aS (T3 ?_)
 clear hK K
 refine AX (hK _ _ _ ?_)
 clear hK K
 refine aB fun K hK => ?_
 refine aB fun K hK => Rg ?_
 iterate 4 refine S0 ?_
 refine T2 (hK _ _ _ ?_)
 clear hK K
 refine aH ?_
 refine aU (α := {i : Nat // i ≤ r.k.length}) (fun i => (fin [(1, .ptr 1 0), (4, .own 61 ([rG r] ++ r.q.map qC ++ (r.k.take i.1).map oI).length), (46, .c (.slc (r.k.map Ky.cv))), (47, .c (.int .i64 r.k.length)), (48, .c (.int .i64 i.1))], fob [(0, .tab tabs), (1, .box 26 (.c r.cv)), (61, .row 60 1 (([rG r] ++ r.q.map qC ++ (r.k.take i.1).map oI).map lnC))])) 400 (fun i => r.k.length - i.1) ⟨0, by omega⟩ (fF) ?_
 rintro ⟨i, hi⟩
 have hti : (r.k.take i).length = i := by simp; omega
 refine R0 ?_
 refine aB fun K hK => ?_
 refine aJ (b := decide ((i : Int) < r.k.length)) rfl (fun hb => ?_) (fun hb => ?_)
 ·
  have hlt : i < r.k.length := by simpa using hb
  clear hb
  obtain ⟨k, hke⟩ : ∃ k, k = r.k[i] := ⟨_, rfl⟩
  obtain ⟨⟨kh0, kh1⟩, ⟨kf0, kf1⟩, ⟨ku0, ku1⟩⟩ := hk k (by rw [hke]; exact List.getElem_mem hlt)
  have lks1 := (lks k (by rw [hke]; exact List.getElem_mem hlt)).2.1
  have hkn : nth (r.k.map Ky.cv) i = k.cv := by rw [aN hlt, hke]
  refine aG ?_
  refine T0 (hK _ _ _ ?_)
  clear hK K
  refine aB fun K hK => ?_
  refine aH ?_
  refine aB fun K hK => Rg ?_
  have F := aI @Int.natCast_nonneg (aI @Int.ofNat_lt (aI hlt (aI hkn @Ky.cells)))
  iterate 4 refine SF ?_
  refine T2 (hK _ _ _ ?_)
  clear hK K
  refine aB fun K hK => dN (by kernel_rfl) ?_
  simp only [sR, simprocAttr]
  have F := aI @Ky.get_ph (aI @Ky.get_pr @hf_isAgg)
  iterate 18 refine SGF ?_
  refine dJ (g := none) 492 rfl rfl fun K' hK' => ?_
  simp only [iS, lR, sH, ↓sP, sA, tyS, simprocAttr, Ky.get_ph, Ky.get_pr, hf_isAgg]
  repeat refine AI ?_
  refine eG (by first | rfl | simp) ?_
  try simp only [sH, ↓sP, sA, tyS, simprocAttr, Ky.get_ph, Ky.get_pr, hf_isAgg]
  refine AX (hK' _ _ ?_)
  clear hK' K'
  refine eN (g := none) rfl rfl fun K' hK' => T6 ?_
  refine aY0 (args := [.slc (([.s wKey, .i k.p.h, .h k.p.r, .s k.o, .l k.fr, .l k.un] : List Av).map avC)]) 0 (bN9 _ (by simp [Av.ok]; omega) (by simp)) rfl (by simp) ⟨rfl, rfl, rfl, rfl⟩ ?_
  rintro l rfl
  refine AX (hK' _ _ ?_)
  clear hK' K'
  refine SGF ?_
  refine T2 (hK _ _ _ ?_)
  clear hK K
  refine dN (by kernel_rfl) ?_
  simp only [sR, simprocAttr]
  have F := aI hti (aI @List.length_append.{0} @List.length_map.{0,0})
  iterate 4 refine SGF ?_
  refine dJ (g := none) 496 rfl rfl fun K' hK' => ?_
  simp only [iS, lR, sH, ↓sP, sA, tyS, simprocAttr, hti, List.length_append, List.length_map]
  repeat refine AI ?_
  refine eG (by first | rfl | simp) ?_
  try simp only [sH, ↓sP, sA, tyS, simprocAttr, hti, List.length_append, List.length_map]
  refine AX (hK' _ _ ?_)
  clear hK' K'
  iterate 3 refine SGF ?_
  refine T2 (hK _ _ _ ?_)
  clear hK K
  refine aL (by kernel_rfl) ?_
  refine TQ (bK i) ?_
  refine ⟨⟨i + 1, hlt⟩, aQ (by omega) ?_ ?_, ?_⟩
  ·
   simp [aY, upd_at, fin_at, HV.men]
   omega
  ·
   simp only [List.take_succ_eq_append_getElem hlt, List.map_append, ← List.append_assoc, ← hke]
   exact ⟨rfl, by omega, trivial, rfl, by omega, trivial, rfl, by omega, trivial, trivial⟩
  show r.k.length - (i + 1) < r.k.length - i
  omega
 have hei : i = r.k.length := by simp at hb; omega
 subst hei
 clear hb
 rw [List.take_length]
 refine aS (T3 ?_)
 clear hK K
 refine AX (hK _ _ _ ?_)
 clear hK K
 refine aB fun K hK => ?_
 refine aB fun K hK => Rg ?_
 iterate 4 refine S0 ?_
 refine T2 (hK _ _ _ ?_)
 clear hK K
 refine aH ?_
 refine aU (α := {i : Nat // i ≤ r.x.length}) (fun i => (fin [(4, .own 61 ([rG r] ++ r.q.map qC ++ r.k.map oI ++ (r.x.take i.1).map vQ).length), (81, .c (.slc (r.x.map Rv.cv))), (82, .c (.int .i64 r.x.length)), (83, .c (.int .i64 i.1))], fob [(0, .tab tabs), (61, .row 60 1 (([rG r] ++ r.q.map qC ++ r.k.map oI ++ (r.x.take i.1).map vQ).map lnC))])) 800 (fun i => r.x.length - i.1) ⟨0, by omega⟩ (fF) ?_
 rintro ⟨i, hi⟩
 have hti : (r.x.take i).length = i := by simp; omega
 refine R0 ?_
 refine aB fun K hK => ?_
 refine aJ (b := decide ((i : Int) < r.x.length)) rfl (fun hb => ?_) (fun hb => ?_)
 ·
  have hlt : i < r.x.length := by simpa using hb
  clear hb
  obtain ⟨x, hxe⟩ : ∃ x, x = r.x[i] := ⟨_, rfl⟩
  obtain ⟨hx0, hx1⟩ := hx x (by rw [hxe]; exact List.getElem_mem hlt)
  have hxn : nth (r.x.map Rv.cv) i = x.cv := by rw [aN hlt, hxe]
  refine aG ?_
  refine T0 (hK _ _ _ ?_)
  clear hK K
  refine aB fun K hK => ?_
  refine aH ?_
  refine aB fun K hK => Rg ?_
  have F := aI @Int.natCast_nonneg (aI @Int.ofNat_lt (aI hlt (aI hxn @Rv.cells)))
  iterate 4 refine SF ?_
  refine T2 (hK _ _ _ ?_)
  clear hK K
  refine dN (by kernel_rfl) ?_
  simp only [sR, simprocAttr]
  have F := aI hti (aI @List.length_append.{0} @List.length_map.{0,0})
  iterate 8 refine SGF ?_
  refine dJ (g := none) 852 rfl rfl fun K' hK' => ?_
  simp only [iS, lR, sH, ↓sP, sA, tyS, simprocAttr, hti, List.length_append, List.length_map]
  repeat refine AI ?_
  refine eG (by first | rfl | simp) ?_
  try simp only [sH, ↓sP, sA, tyS, simprocAttr, hti, List.length_append, List.length_map]
  refine AX (hK' _ _ ?_)
  clear hK' K'
  refine eN (g := none) rfl rfl fun K' hK' => T6 ?_
  refine eO (args := [.slc (([.s wRevoked, .d x.k, .l x.t] : List Av).map avC)]) 0 (aD8 _ (by simp [Av.ok]; omega) (by simp)) rfl (by simp) ⟨rfl, rfl, rfl, rfl⟩ ?_
  rintro u rfl
  refine AX (hK' _ _ ?_)
  clear hK' K'
  iterate 3 refine SGF ?_
  refine T2 (hK _ _ _ ?_)
  clear hK K
  refine aL (by kernel_rfl) ?_
  refine TQ (bK i) ?_
  refine ⟨⟨i + 1, hlt⟩, aQ (by omega) ?_ ?_, ?_⟩
  ·
   simp [aY, upd_at, fin_at, HV.men]
   omega
  ·
   simp only [List.take_succ_eq_append_getElem hlt, List.map_append, ← List.append_assoc, ← hxe]
   exact ⟨rfl, by omega, trivial, rfl, by omega, trivial, trivial⟩
  show r.x.length - (i + 1) < r.x.length - i
  omega
 refine aS (T3 ?_)
 clear hK K
 refine AX (hK _ _ _ ?_)
 clear hK K
 have hei : i = r.x.length := by simp at hb; omega
 subst hei
 clear hb
 rw [List.take_length]
 refine cM [61] (bF (fr2 := fin [(4, .c (.slc ((lK r).map lnC)))]) (ob2 := fob [(0, .tab tabs)]) (nx2 := 1200) (aQ (by omega) (by simp [aY, cQ, fin_at, finA_at, upd_at, fob_at, HV.close, HV.closeL, CV.denil, CV.denilL, denilL_str, yT, HV.men, HV.menL, HV.norm, HV.toC, HV.toCL, lK]) (by simp [bC, cR, fob_at, upd_at, none0_at, bT, HO.close, HV.close, HV.closeL, HO.men, HV.men, HV.menL, HV.norm, HV.toC, HV.toCL, lK])) ?_)
 refine aB fun K hK => Rg ?_
 have F := @yT
 refine SF ?_
 refine HS rfl rfl fun K' hK' => T6 ?_
 refine D1 (cA1 (lK r) (aV7 hv).1 (aV7 hv).2) ?_
 rintro u v ⟨rfl, rfl⟩
 refine AX (hK' _ _ ?_)
 clear hK' K'
 iterate 4 refine SF ?_
 refine T2 (hK _ _ _ ?_)
 clear hK K
 refine aD (RT Tryz.results8 ?_)
 exact rZ [] (.slc ((qY (lK r)).map cU)) (.int .i64 (iN (lK r))) (by simp [HV.close, HV.closeL, CV.denil, CV.denilL, dX, HV.norm, HV.toC, HV.toCL]) rfl (by simp) ⟨by rw [wS, if_pos hv], by rw [aL0, if_pos hv]⟩

end Go.Proofs.YtenbfeemmpjdhaaGreatDoor

namespace Go.Proofs.YtenbfeemmpjdhaaGreatDoor
open Go Go.Hl Go.Pl
set_option maxRecDepth 10000
set_option maxHeartbeats 16000000

theorem aM3 (b : aK) (raw : Rt) (L : List Int) (hraw : bQ3 raw) : fZ Tryz.prog 6 tabs [.slc (b.map u8), raw.cv, .slc (L.map (.int .i64))] (fun v => v = .bool true) := by
 refine bH (args := [.c (.slc (b.map u8)), .c raw.cv, .c (.slc (L.map (.int .i64)))]) Tryz.func6 rfl (by kernel_rfl) (cZ tabs [.slc (b.map u8), raw.cv, .slc (L.map (.int .i64))]) (Nat.le_of_ble_eq_true rfl) ?_
 unfold dW
 refine R0 ?_
 refine aB fun K hK => ?_
 have F := @List.length_map.{0,0}
 refine RF ?_
 refine aJ (b := decide ((100000 : Int) < b.length)) rfl (fun hb => ?_) (fun hb => ?_)
 ·
  refine R0 ?_
  refine aD (RT Tryz.results6 ?_)
  exact eA [] (.bool true) rfl rfl (by simp) rfl
 have hp : b.length ≤ 100000 := by simp at hb; omega
 clear hb
 refine aG ?_
 refine T0 (hK _ _ _ ?_)
 clear hK K
 refine aB fun K hK => Rg ?_
 have F := @denilL_u8
 refine SF ?_
 refine HS rfl rfl fun K' hK' => T6 ?_
 refine D1 (aV9 b (by omega)) ?_
 rintro u v ⟨rfl, rfl⟩
 refine AX (hK' _ _ ?_)
 clear hK' K'
 iterate 6 refine SF ?_
 refine T2 (hK _ _ _ ?_)
 clear hK K
 refine aB fun K hK => Rg ?_
 refine SF ?_
 refine HS rfl rfl fun K' hK' => T6 ?_
 refine D1 (bU7 b (by omega)) ?_
 rintro u v ⟨rfl, rfl⟩
 refine AX (hK' _ _ ?_)
 clear hK' K'
 iterate 6 refine SF ?_
 refine T2 (hK _ _ _ ?_)
 clear hK K
 refine aB fun K hK => ?_
 refine aB fun K hK => Rg ?_
 have F := @bne_self_eq_false.{0}
 iterate 6 refine SF ?_
 refine bA (g := some (33, false)) rfl rfl fun K' hK' => T6 ?_
 refine C2 (zN (eR b) (bN0 b)) ?_
 rintro u rfl
 refine AX (hK' _ _ ?_)
 clear hK' K'
 iterate 2 refine SF ?_
 refine T2 (hK _ _ _ ?_)
 clear hK K
 refine CF rfl ?_
 refine aG ?_
 refine T0 (hK _ _ _ ?_)
 clear hK K
 refine aB fun K hK => ?_
 refine aB fun K hK => Rg ?_
 have F := @denilL_int
 iterate 2 refine SF ?_
 refine HS rfl rfl fun K' hK' => T6 ?_
 refine C2 (bD7 raw L hraw) ?_
 rintro u ⟨rs, rfl, h3, hrs⟩
 refine AX (hK' _ _ ?_)
 clear hK' K'
 iterate 2 refine SF ?_
 refine T2 (hK _ _ _ ?_)
 clear hK K
 refine aH ?_
 refine aU (α := {i : Nat // i ≤ rs.length}) (fun i => (fin [(41, .c (.slc (rs.map Rt.cv))), (42, .c (.int .i64 rs.length)), (43, .c (.int .i64 i.1))], fob [(0, .tab tabs)])) 400 (fun i => rs.length - i.1) ⟨0, by omega⟩ (fF) ?_
 rintro ⟨i, hi⟩
 refine R0 ?_
 refine aB fun K hK => ?_
 refine aJ (b := decide ((i : Int) < rs.length)) rfl (fun hb => ?_) (fun hb => ?_)
 ·
  have hlt : i < rs.length := by simpa using hb
  clear hb
  obtain ⟨r, hre⟩ : ∃ r, r = rs[i] := ⟨_, rfl⟩
  obtain ⟨hr, -⟩ := hrs r (by rw [hre]; exact List.getElem_mem hlt)
  have hrn : nth (rs.map Rt.cv) i = r.cv := by rw [aN hlt, hre]
  have hel := bN1 r
  refine aG ?_
  refine T0 (hK _ _ _ ?_)
  clear hK K
  refine aB fun K hK => ?_
  have key : ∀ fr ob nx, Fits 1 fr ob (fin [(41, .c (.slc (rs.map Rt.cv))), (42, .c (.int .i64 rs.length)), (43, .c (.int .i64 i))]) (fob [(0, .tab tabs)]) 800 → K fr ob nx := by
   intro fr ob nx hf
   refine hK _ _ _ (bF hf ?_)
   clear hf hK K
   refine aL (by kernel_rfl) ?_
   refine TQ (bK i) ?_
   refine ⟨⟨i + 1, hlt⟩, fF, ?_⟩
   show rs.length - (i + 1) < rs.length - i
   omega
  refine aH ?_
  refine aB fun K hK => Rg ?_
  have F := aI @Int.natCast_nonneg (aI @Int.ofNat_lt (aI hlt (aI hrn @Rt.cells)))
  iterate 4 refine SF ?_
  refine T2 (hK _ _ _ ?_)
  clear hK K
  refine aB fun K hK => Rg ?_
  refine S0 ?_
  refine HS rfl rfl fun K' hK' => T5 ?_
  refine aH1 (args := [_]) 0 (bV4 r hr) rfl (by simp) ⟨rfl, rfl, rfl, rfl⟩ ?_
  rintro u v ⟨rfl, rfl⟩
  refine AX (hK' _ _ ?_)
  clear hK' K'
  iterate 5 refine S0 ?_
  refine T2 (hK _ _ _ ?_)
  clear hK K
  refine aB fun K hK => ?_
  refine R0 ?_
  refine aJ (b := aL0 r != 0) rfl (fun hb => ?_) (fun hb => ?_)
  ·
   refine aS (T3 ?_)
   clear hK K
   exact key _ _ _ (fF)
  have h0 : aL0 r = 0 := by simpa using hb
  clear hb
  obtain ⟨hE, hO⟩ := aR5 h0
  refine aG ?_
  refine T0 (hK _ _ _ ?_)
  clear hK K
  refine aB fun K hK => Rg ?_
  have F := @cG7
  refine SF ?_
  refine HS rfl rfl fun K' hK' => T6 ?_
  refine D1 (aV9 (wS r) (by omega)) ?_
  rintro u v ⟨rfl, rfl⟩
  rw [hE, hO]
  refine AX (hK' _ _ ?_)
  clear hK' K'
  iterate 6 refine SF ?_
  refine T2 (hK _ _ _ ?_)
  clear hK K
  refine aB fun K hK => Rg ?_
  have F := @bne_self_eq_false.{0}
  iterate 5 refine SF ?_
  refine bA (g := some (61, false)) rfl rfl fun K' hK' => T6 ?_
  refine C2 (zN r hr) ?_
  rintro u rfl
  refine AX (hK' _ _ ?_)
  clear hK' K'
  iterate 2 refine SF ?_
  refine T2 (hK _ _ _ ?_)
  clear hK K
  refine CF rfl ?_
  refine aG (T3 ?_)
  exact key _ _ _ (fF)
 refine aS (T3 ?_)
 clear hK K
 refine AX (hK _ _ _ ?_)
 clear hK K
 refine aB fun K hK => Rg ?_
 refine HS rfl rfl fun K' hK' => T5 ?_
 refine C0 bN4 ?_
 rintro u rfl
 refine AX (hK' _ _ ?_)
 clear hK' K'
 refine S0 ?_
 refine T2 (hK _ _ _ ?_)
 clear hK K
 refine aD (RT Tryz.results6 ?_)
 exact eA [] (.bool true) rfl rfl (by simp) rfl

end Go.Proofs.YtenbfeemmpjdhaaGreatDoor

namespace Go.Proofs.YtenbfeemmpjdhaaGreatDoor
open Go Go.Hl Go.Pl
set_option linter.unusedVariables false
set_option maxRecDepth 100000

theorem wT {W : World} (h : laidMetH Tryz.prog Rows.trustDecodesRow.laid W) : Lib.TabIs Tryz.prog W "internal/strconv.uint64pow10" .u64 Lib.pow10Tab := by
  rw [MakeChecks.laidMetH_plain _ _ _ (by kernel_rfl)] at h
  have h2 := laidMet.filter (fun x => x.1 == "internal/strconv.uint64pow10") h
  have e : (Rows.trustDecodesRow.laid.filter fun x => x.1 == "internal/strconv.uint64pow10") = [("internal/strconv.uint64pow10", Lib.tabData .u64 Lib.pow10Tab)] := by kernel_rfl
  rw [e] at h2
  exact Lib.tabIs_of_head aD7 (by kernel_rfl) Tryz.underlying217 Tryz.underlying145 (by kernel_rfl) (by kernel_rfl) h2

theorem lL (H : Type) (enc : TypeId × Value → H) (W : World) (args : Array Value) (ds gs : List (DataW H)) (before : List MemPlace)
    (hL : laidMetH Tryz.prog Rows.trustDecodesRow.laid W)
    (hval : ∀ (j : Nat) t v, Tryz.f6.params[j]? = some t → args[j]? = some v → Value.okWide Tryz.prog W .any 0 t v)
    (hW : DataW.Whole enc Tryz.prog Tryz.f6.params.toList Rows.trustDecodesSpec.vars false W args.toList ds gs before) :
    Calls Tryz.prog 6 args W fun e W' => ∃ v, e = .returned v ∧ Rows.trustDecodesSpec.post enc Tryz.prog Tryz.f6 false true false false W args v W' := by
  refine aY1 (mm := 6) (tb := 4) (tabs := tabs) (by kernel_rfl) cG0 aP2 rfl (by kernel_rfl) Tryz.underlying4 ?_ ?_ ?_ ?_ (fun j t v h1 h2 => ?_) hW
  · rw [Tryz.params6]
    intro H ds h
    match ds, h with
    | [c0, c1, c2], _ => exact ⟨rfl, rfl, rfl⟩
  · rw [Tryz.params6]
    intro t ht
    simp only [List.mem_cons, List.not_mem_nil, or_false] at ht
    rcases ht with rfl | rfl | rfl
    · exact ⟨by kernel_rfl, of_decide_eq_true (by kernel_rfl)⟩
    · exact ⟨by kernel_rfl, of_decide_eq_true (by kernel_rfl)⟩
    · exact ⟨by kernel_rfl, of_decide_eq_true (by kernel_rfl)⟩
  · rw [Tryz.params6]
    intro cs hn hty
    match cs, hn, hty with
    | [c0, c1, c2], _, hty =>
      obtain ⟨l0, rfl, hl0, hn0⟩ := (hty 0 _ c0 rfl rfl).of_slc Tryz.underlying30
      obtain ⟨p, rfl⟩ : ∃ p : List UInt8, l0 = p.map u8 := by obtain ⟨d, h⟩ := vA hl0 rfl; exact ⟨d.1, h⟩
      obtain ⟨raw, rfl, hraw⟩ := bQ8 (hty 1 _ c1 rfl rfl)
      obtain ⟨L, rfl, hw, hl⟩ := bQ5 (hty 2 _ c2 rfl rfl)
      exact aM3 p raw L hraw
  · intro x hx
    simp only [tabs, List.mem_cons, List.not_mem_nil, or_false] at hx
    rcases hx with rfl
    · exact wO aD7 (wT hL)
  · exact hval j t v h1 h2

open Go.ChangeShapes Go.WideShapes Go.ChangeAt Go.RowKit in
set_option maxRecDepth 100000 in
theorem nK (os : Os) (started : os.Started) (H : Type) (enc : TypeId × Value → H) :
    ReturnsInHanded {} Tryz.checked os 6 .any (fun w args => (Rows.trustDecodesSpec.pre enc Tryz.prog Tryz.f6 [] false w args ∧ laidMetH Tryz.prog Rows.trustDecodesRow.laid w) ∧ sizedMet enc Tryz.prog Tryz.f6 (OpenSpec.ofChange Rows.trustDecodesSpec) false w args)
      (Rows.trustDecodesSpec.post enc Tryz.prog Tryz.f6 false true false false) := by
  refine returnsInHanded_of_change_and (C := Tryz.checked) (X := fun w _ => laidMetH Tryz.prog Rows.trustDecodesRow.laid w) (fun _ _ _ hh h => h.of_heap hh) own started (by kernel_rfl) Tryz.func6
    (ChangeSpec.witness_shaped (enc := enc) (C := Tryz.checked) (os := os) (X := fun w _ => laidMetH Tryz.prog Rows.trustDecodesRow.laid w) false (World.laidAll Tryz.prog os Rows.trustDecodesRow.laid) #[.slice none 0 0, .agg #[.int .i64 0, .int .i64 0, .slice none 0 0, .slice none 0 0, .slice none 0 0], .slice none 0 0] 8 (World.laidAll_os _ _ _)
      (World.shaped_of_ZipB (by kernel_rfl) (by kernel_rfl)) (by kernel_rfl) (by kernel_rfl) (by kernel_rfl)
      (by rw [MakeChecks.laidMetH_plain _ _ _ (by kernel_rfl)]; exact laidMet_laidAll _ (by kernel_rfl) (by kernel_rfl))) ?_
  intro W base args ds gs before hval hW _ _ hL _
  exact lL H enc W args ds gs before hL (fun j t v h1 h2 => (hval j t v h1 h2)) hW

theorem rN : Rows.TrustDecodesSaid :=
  OpenClaim.holds_of_wide 6 Tryz.f6 rfl rfl rfl rfl rfl rfl rfl ⟨rfl, rfl, rfl, rfl, rfl⟩ rfl rfl rfl rfl rfl (by kernel_rfl) Tryz.func6 (by kernel_rfl)
    (of_decide_eq_true (by kernel_rfl)) (by unfold Func.isWrapper; first | (rw [if_pos (by decide +kernel)]; kernel_rfl) | (rw [if_neg (by decide +kernel)]; exact ⟨rfl, rfl⟩))
    (fun os started H enc _ => nK os started H enc)

theorem trustDecodes_said : Rows.TrustDecodesCardSaid :=
  Claim7.holds_tied_plain_at .later [] [.data, .data, .data, .data, .pinned] true (true, "a6004cba14d084c939e55818a9fd244e68653aaafb07118b80d6f1b0c2c3011d") true rN (fun _ h => by cases h) (by kernel_rfl) (fun _ h => by cases h) trustDecodes_row_tie rfl ⟨rfl, rfl⟩ (by kernel_rfl) rfl
    (fun f fn hf hfn => by
      obtain rfl : f = 6 := Option.some.inj ((show Tryz.prog.funcNamed "admission/admissionlaw11.TrustDecodes" = some 6 by kernel_rfl).symm.trans hf) |>.symm
      obtain rfl : fn = Tryz.f6 := (Option.some.inj (Tryz.func6.symm.trans hfn)).symm
      exact ⟨by kernel_rfl, fun j t ht => by
        rw [Tryz.params6] at ht
        have hm : t ∈ [30, 26, 27] := by simpa using Array.mem_of_getElem? ht
        have hall : ([30, 26, 27].all fun u => !Tryz.prog.wantsStandIn u) = true := by kernel_rfl
        exact (show Tryz.prog.wantsStandIn t = false by simpa using List.all_eq_true.1 hall t hm)⟩)
    (by kernel_rfl)
#print axioms trustDecodes_said
end Go.Proofs.YtenbfeemmpjdhaaGreatDoor
