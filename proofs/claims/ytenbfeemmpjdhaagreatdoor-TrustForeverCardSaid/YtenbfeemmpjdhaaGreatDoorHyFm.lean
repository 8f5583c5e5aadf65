/- strconv.FormatInt at base 10, at this seat: from the shelf. By an AI agent. -/
import Derived.Test.YtenbfeemmpjdhaaGreatDoorHySq
import Derived.Test.YtenbfeemmpjdhaaGreatDoorHyTg
import Derived.Test.YtenbfeemmpjdhaaGreatDoorHlZb
import Derived.Test.YtenbfeemmpjdhaaGreatDoorPl11q
import Derived.Test.YtenbfeemmpjdhaaGreatDoorHlFl
import Derived.Shelf.LaysM
import Derived.Shelf.Strings.BuilderK
import Derived.Test.YtenbfeemmpjdhaaGreatDoorHyU1
import Derived.Test.YtenbfeemmpjdhaaGreatDoorChecked
import Derived.WalkKit
import Derived.BigCall
import Derived.Shelf.Strconv.Itoa4
set_option linter.unusedSimpArgs false
set_option linter.unusedVariables false
set_option linter.defProp false
namespace Go.Proofs.YtenbfeemmpjdhaaGreatDoor
open Go Go.Hl Go.Pl
set_option maxRecDepth 10000
set_option maxHeartbeats 4000000
set_option linter.unusedSimpArgs false
set_option linter.unusedVariables false
attribute [local simp] tp

theorem revoke_ok (r : Rt) (x : Rv) (hr : rSz r) : HPure Tryz.prog 52 [r.cv, x.cv] (fun v => ∃ xs : List Rv, v = (Rt.mk r.v r.e r.q r.k xs).cv ∧ xs.length ≤ r.x.length + 1) := by
 have hlx : r.x.length < 2 ^ 40 := hr.2.2
 refine hfn_walk Tryz.func52 rfl (by kernel_rfl) (locOk_nil _) (Nat.le_of_ble_eq_true rfl) ?_
 refine R0 ?_
 refine R0 ?_
 refine hw_seq fun K hK => ?_
 refine R0 ?_
 refine hw_block ?_
 refine hw_own 5 0 51 33 rfl rfl rfl rfl ?_
 refine hw_loop (α := {y : Nat × List Rv // y.1 ≤ r.x.length ∧ y.2.length ≤ y.1}) (fun y => (fin [(2, .ptr 0 0), (3, .ptr 4 0), (4, .ptr 8 0), (5, .own 20 y.1.2.length), (6, .c (.int .i64 y.1.1))], fob [(0, .box 26 (.c r.cv)), (4, .box 51 (.c x.cv)), (8, .box 26 (.c zR)), (20, .row 51 33 (y.1.2.map Rv.cv))])) 100 (fun y => r.x.length - y.1.1) ⟨(0, []), by simp, by simp⟩ (fits_fin (by omega) (by simp [FinOk, fin_at, finA_at, upd_at, HV.men, HV.menL, HV.norm, HV.toC, HV.toCL]) (by simp [FobOk, fob_at, upd_at, none0_at, gone, HO.men, HV.men, HV.menL, HV.norm, HV.toC, HV.toCL]; rfl)) ?_
 rintro ⟨⟨i, ys⟩, hi, hy⟩
 simp only at hi hy ⊢
 refine hw_seq fun K hK => ?_
 refine hw_seq fun K hK => Rg ?_
 iterate 5 refine S0 ?_
 refine T2 (hK _ _ _ ?_)
 clear hK K
 refine hw_cond (b := decide ((i : Int) < r.x.length)) rfl (fun hb => ?_) (fun hb => ?_)
 ·
  have hlt : i < r.x.length := by simpa using hb
  refine hw_skip ?_
  refine T0 (hK _ _ _ ?_)
  clear hK K
  refine hw_seq fun K hK => ?_
  have key : ∀ (ys' : List Rv) fr ob nx, ys'.length ≤ i + 1 → Fits 0 fr ob (fin [(2, .ptr 0 0), (3, .ptr 4 0), (4, .ptr 8 0), (5, .own 20 ys'.length), (6, .c (.int .i64 i))]) (fob [(0, .box 26 (.c r.cv)), (4, .box 51 (.c x.cv)), (8, .box 26 (.c zR)), (20, .row 51 33 (ys'.map Rv.cv))]) 400 → K fr ob nx := by
   intro ys' fr ob nx w1 hf
   refine hK _ _ _ (hw_fits hf ?_)
   clear hf hK K
   refine hw_region (by kernel_rfl) ?_
   simp only [↓sP, sA, tyS, simprocAttr, i64s i]
   refine ⟨⟨(i + 1, ys'), hlt, w1⟩, fF, ?_⟩
   show r.x.length - (i + 1) < r.x.length - i
   omega
  refine hw_block ?_
  refine hw_seq fun K hK => hw_quiet mixed (by kernel_rfl) (by kernel_rfl) (by kernel_rfl) ?_
  simp only [sR, simprocAttr]
  iterate 9 refine S0 ?_ (e := fun _ h_ => by simp only [sH, ↓sP, sA, tyS, simprocAttr, Int.natCast_nonneg, Int.ofNat_lt, hlt, nth_map hlt]; exact AX h_)
  refine T2 (hK _ _ _ ?_)
  clear hK K
  refine hw_cond (b := !(r.x[i].k == x.k)) rfl (fun hb => ?_) (fun hb => ?_)
  ·
   refine hw_region (by kernel_rfl) ?_
   simp only [sR, simprocAttr]
   iterate 9 refine S0 ?_ (e := fun _ h_ => by simp only [sH, ↓sP, sA, tyS, simprocAttr, Int.natCast_nonneg, Int.ofNat_lt, hlt, nth_map hlt, List.length_append]; exact AX h_)
   simp only [sE, ↓reduceIte, simprocAttr]
   exact key (ys ++ [r.x[i]]) _ _ _ (by simp; omega) (fF)
  refine hw_skip ?_
  simp only [↓sP, sA, tyS, simprocAttr]
  exact key ys _ _ _ (by omega) (fF)
 clear hb
 refine hw_exit ?_
 simp only [↓sP, sA, tyS, simprocAttr]
 clear hK K
 refine AX (hK _ _ _ ?_)
 clear hK K
 refine hw_seq fun K hK => Rg ?_
 iterate 5 refine S0 ?_ (e := fun _ h_ => by simp only [sH, ↓sP, sA, tyS, simprocAttr, List.length_append]; exact AX h_)
 refine T2 (hK _ _ _ ?_)
 clear hK K
 refine hw_seq fun K hK => ?_
 have key : ∀ (ws : List Rv) fr ob nx, ws.length ≤ r.x.length + 1 → Fits 0 fr ob (fin [(2, .ptr 0 0), (4, .ptr 8 0), (5, .own 20 ws.length)]) (fob [(0, .box 26 (.c r.cv)), (8, .box 26 (.c zR)), (20, .row 51 33 (ws.map Rv.cv))]) 600 → K fr ob nx := by
  intro ws fr ob nx w1 hf
  refine hK _ _ _ (hw_fits hf ?_)
  clear hf hK K
  refine hw_close [20] (hw_fits (fr2 := fin [(2, .ptr 0 0), (4, .ptr 8 0), (5, .c (.slc (ws.map Rv.cv)))]) (ob2 := fob [(0, .box 26 (.c r.cv)), (8, .box 26 (.c (Rt.cv ⟨0, 0, [], [], []⟩)))]) (nx2 := 700) (fits_fin (by omega) (by simp [FinOk, clF_at, fin_at, finA_at, upd_at, fob_at, HV.close, HV.closeL, CV.denil, CV.denilL, denilL_str, denilL_Rv, denilL_Qt, denilL_Ky, HV.men, HV.menL, HV.norm, HV.toC, HV.toCL]) (by simp [FobOk, clO_at, fob_at, upd_at, none0_at, gone, HO.close, HV.close, HV.closeL, HO.men, HV.men, HV.menL, HV.norm, HV.toC, HV.toCL, Rt.denil, zR, Rt.cv, CV.denil, CV.denilL, denilL_str, denilL_Rv, denilL_Qt, denilL_Ky])) ?_)
  refine hw_seq fun K hK => Rg ?_
  iterate 3 refine S0 ?_
  refine T2 (hK _ _ _ ?_)
  clear hK K
  refine R0 ?_
  refine hw_ret ?_
  simp only [hpost, Tryz.results52, hresL, hres1, tupOf, ↓sP, sA, tyS, simprocAttr]
  exact hret_pure [] (Rt.mk r.v r.e r.q r.k ws).cv (close_c (Rt.denil _)) ⟨ws, rfl, w1⟩
 refine hw_fits (fr2 := fin [(2, .ptr 0 0), (3, .ptr 4 0), (4, .ptr 8 0), (5, .own 20 (ys ++ [x]).length)]) (ob2 := fob [(0, .box 26 (.c r.cv)), (4, .box 51 (.c x.cv)), (8, .box 26 (.c zR)), (20, .row 51 33 ((ys ++ [x]).map Rv.cv))]) (nx2 := 400) (fF) ?_
 obtain ⟨zs, hzs⟩ : ∃ zs, zs = ys ++ [x] := ⟨_, rfl⟩
 have hzl : zs.length = ys.length + 1 := by rw [hzs]; simp
 rw [← hzs]
 clear hzs
 have m1 : IntKind.i64.wrap ((zs.length : Int) - 1) = ((zs.length - 1 : Nat) : Int) := by rw [IntWalk.i64_in _ (by omega)]; omega
 refine hw_seq fun K hK => Rg ?_
 iterate 4 refine S0 ?_ (e := fun _ h_ => by simp only [sH, ↓sP, sA, tyS, simprocAttr, m1]; exact AX h_)
 refine T2 (hK _ _ _ ?_)
 clear hK K
 refine hw_block ?_
 refine hw_loop (α := {y : Nat × List Rv // y.1 < zs.length ∧ y.2.length = zs.length}) (fun y => (fin [(2, .ptr 0 0), (3, .ptr 4 0), (4, .ptr 8 0), (5, .own 20 zs.length), (7, .c (.int .i64 y.1.1))], fob [(0, .box 26 (.c r.cv)), (4, .box 51 (.c x.cv)), (8, .box 26 (.c zR)), (20, .row 51 33 (y.1.2.map Rv.cv))])) 500 (fun y => y.1.1) ⟨(zs.length - 1, zs), by simp only; omega, rfl⟩ (fF) ?_
 rintro ⟨⟨j, ws⟩, hj, hw⟩
 simp only at hj hw ⊢
 have hjw : j < ws.length := by omega
 have hj1 : j - 1 < ws.length := by omega
 have hj2 : j - 1 < zs.length := by omega
 have hm : 0 < j → IntKind.i64.wrap ((j : Int) - 1) = ((j - 1 : Nat) : Int) := fun h => by rw [IntWalk.i64_in _ (by omega)]; omega
 have hwl : (ws.map Rv.cv).length = zs.length := by rw [List.length_map, hw]
 have hwne : ¬ ws = [] := by rintro rfl; simp at hw; omega
 refine hw_seq fun K hK => ?_
 by_cases h0 : 0 < j
 ·
  refine hw_seq fun K hK => hw_draw2 mixed [(0, [], []), (1, [], []), (2, [], []), (3, [], []), (4, [], []), (5, [], []), (6, [], []), (7, [], []), (8, [], []), (9, [], []), (10, [], []), (11, [], []), (12, [], []), (13, [], []), (14, [], []), (15, [], [])] [0, 1, 3, 7, 7, 31, 63, 127, 7, 7, 519, 1799, 3847, 7943, 16383, 32767] (by kernel_rfl) (by kernel_rfl) (by kernel_rfl) (by kernel_rfl) rfl (by kernel_rfl) ?_
  iterate 14 refine W0 ?_ (e := fun _ h_ => by simp only [sH, ↓sP, sA, tyS, simprocAttr, List.map_eq_nil_iff, hwne, Int.natCast_pos, h0, hm, hw, hj, hj2, hjw, hj1, nth_map hjw, nth_map hj1, Int.natCast_nonneg, Int.ofNat_lt]; exact AX h_)
  refine hwalk2_step (g := some (41, true)) rfl rfl fun K' hK' => ?_
  simp only [sH, ↓sP, sA, tyS, simprocAttr, List.map_eq_nil_iff, hwne, Int.natCast_pos, h0, hm, hw, hj, hj2, hjw, hj1, nth_map hjw, nth_map hj1, Int.natCast_nonneg, Int.ofNat_lt]
  refine call_pure (args := [_, _]) (less_ok ws[j].k ws[j - 1].k) ⟨rfl, rfl, rfl, rfl⟩ ?_
  rintro u rfl
  refine AX (hK' _ _ ?_)
  clear hK' K'
  refine W0 ?_ (e := fun _ h_ => by simp only [sH, ↓sP, sA, tyS, simprocAttr, List.map_eq_nil_iff, hwne, Int.natCast_pos, h0, hm, hw, hj, hj2, hjw, hj1, nth_map hjw, nth_map hj1, Int.natCast_nonneg, Int.ofNat_lt]; exact AX h_)
  refine T2 (hK _ _ _ ?_)
  clear hK K
  refine hw_cond (b := dlt ws[j].k ws[j - 1].k) rfl (fun hb => ?_) (fun hb => ?_)
  ·
   refine hw_skip ?_
   refine T0 (hK _ _ _ ?_)
   clear hK K
   refine hw_seq fun K hK => ?_
   refine hw_block ?_
   have hjs : j - 1 < (ws.set j ws[j - 1]).length := by rw [List.length_set]; exact hj1
   refine hw_draw2 mixed [(0, [], []), (1, [], []), (2, [], []), (3, [], []), (4, [], []), (5, [], []), (6, [], []), (7, [], []), (8, [], []), (9, [], []), (10, [], []), (11, [], []), (12, [], []), (13, [], []), (14, [], []), (15, [], [2, 3, 4]), (16, [], []), (17, [], [])] [0, 0, 0, 0, 8, 0, 0, 64, 224, 480, 0, 0, 3072, 7168, 16355, 32739, 65535, 131071] (by kernel_rfl) (by kernel_rfl) (by kernel_rfl) (by kernel_rfl) rfl (by kernel_rfl) ?_
   iterate 18 refine W0 ?_ (e := fun _ h_ => by simp only [sH, ↓sP, sA, tyS, simprocAttr, nth_map hjs, List.map_eq_nil_iff, List.set_eq_nil_iff, hwne, hm, h0, hw, hj, hj2, hjw, hj1, nth_map hjw, nth_map hj1, Int.natCast_nonneg, Int.ofNat_lt, List.length_set, ← List.map_set]; exact AX h_)
   refine T2 (hK _ _ _ ?_)
   clear hK K
   refine hw_region (by kernel_rfl) ?_
   simp only [↓sP, sA, tyS, simprocAttr, hm, h0]
   refine ⟨⟨(j - 1, (ws.set j ws[j - 1]).set (j - 1) ws[j]), by simp only; omega, by simp [hw]⟩, fF, ?_⟩
   show j - 1 < j
   omega
  refine hw_exit ?_
  simp only [↓sP, sA, tyS, simprocAttr]
  clear hK K
  rw [← hw] 
  exact key ws _ _ _ (by omega) (fF)
 refine hw_seq fun K hK => hw_draw2 mixed [(0, [], []), (1, [], []), (2, [], []), (3, [], []), (4, [], []), (5, [], []), (6, [], []), (7, [], []), (8, [], []), (9, [], []), (10, [], []), (11, [], []), (12, [], []), (13, [], []), (14, [], []), (15, [], [])] [0, 1, 3, 7, 7, 31, 63, 127, 7, 7, 519, 1799, 3847, 7943, 16383, 32767] (by kernel_rfl) (by kernel_rfl) (by kernel_rfl) (by kernel_rfl) rfl (by kernel_rfl) ?_
 iterate 16 refine W0 ?_ (e := fun _ h_ => by simp only [sH, ↓sP, sA, tyS, simprocAttr, Int.natCast_pos, h0]; exact AX h_)
 refine T2 (hK _ _ _ ?_)
 clear hK K
 refine hw_cond (b := _) rfl (fun hb => ?_) (fun hb => ?_)
 ·
  cases hb
 refine hw_exit ?_
 simp only [↓sP, sA, tyS, simprocAttr]
 clear hK K
 rw [← hw] 
 exact key ws _ _ _ (by omega) (fF)


theorem mfull_ok : HPure Tryz.prog 13 [] (fun v => v = full.cv) := by
 refine hfn_walk Tryz.func13 rfl (by kernel_rfl) (locOk_nil _) (Nat.le_of_ble_eq_true rfl) ?_
 refine R0 ?_
 refine R0 ?_
 refine hw_seq fun K hK => Rg ?_
 refine hlex_step (g := none) rfl rfl fun K' hK' => ?_
 simp only [sH, ↓sP, sA, tyS, simprocAttr]
 refine call_pure (args := []) roles_ok ⟨rfl, rfl, rfl, rfl⟩ ?_
 rintro u rfl
 refine AX (hK' _ _ ?_)
 clear hK' K'
 refine S0 ?_
 refine T2 (hK _ _ _ ?_)
 clear hK K
 refine hw_seq fun K hK => ?_
 refine R0 ?_
 refine hw_block ?_
 refine hw_ownb 8 2 64 2 rfl rfl rfl rfl ?_
 refine hw_loop (α := {i : Nat // i ≤ 10}) (fun i => (fin [(0, .ptr 0 0), (1, .ptr 8 0), (2, .c (.slc (roles10.map .str))), (3, .c (.int .i64 i.1))], fob [(0, .box 26 (.c zR)), (8, .box 26 (.agg [.c (.int .i64 1), .c (.int .i64 1099511627776), .own 28 i.1, .c .nils, .c .nils])), (28, .row 64 2 ((qz i.1).map Qt.cv))])) 100 (fun i => 10 - i.1) ⟨0, by omega⟩ (fits_fin (by omega) (by simp [FinOk, fin_at, finA_at, upd_at, HV.men, HV.menL, HV.norm, HV.toC, HV.toCL]) (by simp [FobOk, fob_at, upd_at, none0_at, gone, HO.men, HV.men, HV.menL, HV.norm, HV.toC, HV.toCL, zR, qz])) ?_
 rintro ⟨i, hi⟩
 have hrl : (roles10.map CV.str).length = 10 := rfl
 have hql := qz_len hi
 have hq10 : full.q.length = 10 := rfl
 refine hw_seq fun K hK => ?_
 refine hw_seq fun K hK => Rg ?_
 iterate 4 refine S0 ?_ (e := fun _ h_ => by simp only [sH, ↓sP, sA, tyS, simprocAttr, hrl]; exact AX h_)
 refine T2 (hK _ _ _ ?_)
 clear hK K
 refine hw_cond (b := decide ((i : Int) < 10)) rfl (fun hb => ?_) (fun hb => ?_)
 ·
  have hlt : i < 10 := by simp at hb; omega
  have hlt' : (i : Int) < 10 := by omega
  have hlr : i < roles10.length := hlt
  refine hw_skip ?_
  refine T0 (hK _ _ _ ?_)
  clear hK K
  refine hw_seq fun K hK => ?_
  refine hw_block ?_
  refine hw_draw2 mixed [(0, [], []), (1, [], []), (2, [], []), (3, [], []), (4, [], []), (5, [], []), (6, [], []), (7, [], []), (8, [], []), (9, [], []), (10, [], [])] [0, 1, 0, 0, 12, 28, 60, 124, 255, 511, 1023] (by kernel_rfl) (by kernel_rfl) (by kernel_rfl) (by kernel_rfl) rfl (by kernel_rfl) ?_
  iterate 6 refine W0 ?_ (e := fun _ h_ => by simp only [sH, ↓sP, sA, tyS, simprocAttr, Int.natCast_nonneg, hrl, hlt', hlr, nth_map hlr, List.length_append, hql]; exact AX h_)
  refine hwalk2_step (g := none) rfl rfl fun K' hK' => ?_
  simp only [sH, ↓sP, sA, tyS, simprocAttr, Int.natCast_nonneg, hrl, hlt', hlr, nth_map hlr, List.length_append, hql]
  rw [hbuild_qt _ _ rfl rfl]
  refine AX (hK' _ _ ?_)
  clear hK' K'
  iterate 4 refine W0 ?_ (e := fun _ h_ => by simp only [sH, ↓sP, sA, tyS, simprocAttr, Int.natCast_nonneg, hrl, hlt', hlr, nth_map hlr, List.length_append, hql]; exact AX h_)
  refine T2 (hK _ _ _ ?_)
  clear hK K
  refine hw_region (by kernel_rfl) ?_
  simp only [↓sP, sA, tyS, simprocAttr, i64s i]
  refine ⟨⟨i + 1, hlt⟩, fits_fin (by omega) (by simp [FinOk, fin_at, finA_at, upd_at, HV.men, HV.menL, HV.norm, HV.toC, HV.toCL]) (by simp [FobOk, fob_at, upd_at, none0_at, gone, HO.men, HV.men, HV.menL, HV.norm, HV.toC, HV.toCL, zR, qz_succ hlr]), ?_⟩
  show 10 - (i + 1) < 10 - i
  omega
 refine hw_exit ?_
 simp only [↓sP, sA, tyS, simprocAttr]
 clear hK K
 refine AX (hK _ _ _ ?_)
 clear hK K
 refine hw_seq fun K hK => ?_
 have hei : i = 10 := by simp at hb; omega
 subst hei
 clear hb
 refine hw_close [28] (hw_fits (fr2 := fin [(0, .ptr 0 0), (1, .ptr 8 0), (2, .c (.slc (roles10.map .str)))]) (ob2 := fob [(0, .box 26 (.c (Rt.cv ⟨0, 0, [], [], []⟩))), (8, .box 26 (.c (Rt.cv ⟨1, 1099511627776, full.q, [], []⟩)))]) (nx2 := 200) (fits_fin (by omega) (by simp [FinOk, clF_at, fin_at, finA_at, upd_at, fob_at, HV.close, HV.closeL, CV.denil, CV.denilL, denilL_str, denilL_Rv, denilL_Qt, denilL_Ky, HV.men, HV.menL, HV.norm, HV.toC, HV.toCL]) (by simp [FobOk, clO_at, fob_at, upd_at, none0_at, gone, HO.close, HV.close, HV.closeL, HO.men, HV.men, HV.menL, HV.norm, HV.toC, HV.toCL, Rt.denil, zR, Rt.cv, CV.denil, CV.denilL, denilL_str, denilL_Rv, denilL_Qt, denilL_Ky, hql, qz_all, hq10])) ?_)
 refine R0 ?_
 refine hw_block ?_
 refine hw_loop (α := {i : Nat // i ≤ 5}) (fun i => (fin [(0, .ptr 0 0), (1, .ptr 8 0), (2, .c (.slc (roles10.map .str))), (4, .c (.int .i64 i.1))], fob [(0, .box 26 (.c (Rt.cv ⟨0, 0, [], [], []⟩))), (8, .box 26 (.c (Rt.cv ⟨1, 1099511627776, full.q, kz i.1, []⟩)))])) 300 (fun i => 5 - i.1) ⟨0, by omega⟩ (fits_fin (by omega) (by simp [FinOk, fin_at, finA_at, upd_at, HV.men, HV.menL, HV.norm, HV.toC, HV.toCL]) (by simp [FobOk, fob_at, upd_at, none0_at, gone, HO.men, HV.men, HV.menL, HV.norm, HV.toC, HV.toCL]; rfl)) ?_
 rintro ⟨i, hi⟩
 have hkl := kz_len i
 refine hw_seq fun K hK => ?_
 refine R0 ?_
 refine hw_cond (b := decide ((i : Int) < 5)) rfl (fun hb => ?_) (fun hb => ?_)
 ·
  have hlt : i < 5 := by simp at hb; omega
  refine hw_skip ?_
  refine T0 (hK _ _ _ ?_)
  clear hK K
  refine hw_seq fun K hK => ?_
  refine hw_block ?_
  refine hw_draw2 mixed [(0, [], []), (1, [], []), (2, [], []), (4, [], []), (6, [], []), (3, [], [0, 1, 4, 6]), (5, [], [0, 1, 6]), (7, [], []), (8, [], []), (9, [], []), (10, [], [])] [0, 1, 0, 4, 0, 28, 0, 124, 255, 511, 1023] (by kernel_rfl) (by kernel_rfl) (by kernel_rfl) (by kernel_rfl) rfl (by kernel_rfl) ?_
  iterate 5 refine W0 ?_ (e := fun _ h_ => by simp only [sH, ↓sP, sA, tyS, simprocAttr, denilL_Ky, denilL_str, Rt.fold]; exact AX h_)
  refine hwalk2_step (g := none) rfl rfl fun K' hK' => ?_
  simp only [sH, ↓sP, sA, tyS, simprocAttr, denilL_Ky, denilL_str, Rt.fold]
  refine call_pure (args := [_]) (public_ok i (by omega)) ⟨rfl, rfl, rfl, rfl⟩ ?_
  rintro u rfl
  refine AX (hK' _ _ ?_)
  clear hK' K'
  refine hwalk2_step (g := none) rfl rfl fun K' hK' => ?_
  simp only [sH, ↓sP, sA, tyS, simprocAttr, denilL_Ky, denilL_str, Rt.fold]
  refine call_pure (args := [_]) (owner_ok i (by omega)) ⟨rfl, rfl, rfl, rfl⟩ ?_
  rintro u rfl
  refine AX (hK' _ _ ?_)
  clear hK' K'
  refine W0 ?_ (e := fun _ h_ => by simp only [sH, ↓sP, sA, tyS, simprocAttr, denilL_Ky, denilL_str, Rt.fold]; exact AX h_)
  refine hwalk2_step (g := none) rfl rfl fun K' hK' => ?_
  simp only [sH, ↓sP, sA, tyS, simprocAttr, denilL_Ky, denilL_str, Rt.fold]
  refine call_pure (args := [_, _]) (insert_ok (kz i) (mKey i) (by omega)) ⟨rfl, rfl, rfl, rfl⟩ ?_
  rintro u rfl
  refine AX (hK' _ _ ?_)
  clear hK' K'
  iterate 2 refine W0 ?_ (e := fun _ h_ => by simp only [sH, ↓sP, sA, tyS, simprocAttr, denilL_Ky, denilL_str, Rt.fold]; exact AX h_)
  refine T2 (hK _ _ _ ?_)
  clear hK K
  refine hw_region (by kernel_rfl) ?_
  simp only [↓sP, sA, tyS, simprocAttr, i64s i]
  refine ⟨⟨i + 1, hlt⟩, fits_fin (by omega) (by simp [FinOk, fin_at, finA_at, upd_at, HV.men, HV.menL, HV.norm, HV.toC, HV.toCL]) (by simp [FobOk, fob_at, upd_at, none0_at, gone, HO.men, HV.men, HV.menL, HV.norm, HV.toC, HV.toCL, kz_succ]; rfl), ?_⟩
  show 5 - (i + 1) < 5 - i
  omega
 refine hw_exit ?_
 simp only [↓sP, sA, tyS, simprocAttr]
 clear hK K
 refine AX (hK _ _ _ ?_)
 clear hK K
 have hei : i = 5 := by simp at hb; omega
 subst hei
 clear hb
 refine R0 ?_
 refine hw_ret ?_
 simp only [hpost, Tryz.results13, hresL, hres1, tupOf, ↓sP, sA, tyS, simprocAttr]
 exact hret_pure [] (Rt.cv ⟨1, 1099511627776, full.q, kz 5, []⟩) (close_c (Rt.denil _)) (by rw [kz_all]; rfl)

end Go.Proofs.YtenbfeemmpjdhaaGreatDoor

namespace Go.Proofs.YtenbfeemmpjdhaaGreatDoor
open Go Go.Hl Go.Pl
set_option maxRecDepth 10000
set_option maxHeartbeats 8000000
set_option linter.unusedSimpArgs false
set_option linter.unusedVariables false
attribute [local simp] tp

theorem root_ok (L : List Int) (a : Nat) (v : Int) (ha : a + 200 < 2 ^ 40) : HBox Tryz.prog 22 39 (tp L a) [.int .i64 v] (fun u v' => ∃ (r : Rt) (a' : Nat), u = r.cv ∧ v' = tp L a' ∧ a' ≤ a + 150 ∧ rOk r ∧ (1 ≤ v → v ≤ maxN → validR r = true)) := by
 refine hfn_walk Tryz.func22 rfl (by kernel_rfl) (locOk_box _ _ _) (Nat.le_of_ble_eq_true rfl) ?_
 refine R0 ?_
 refine hw_seq fun K hK => Rg ?_
 iterate 2 refine S0 ?_
 refine hlex_step (g := none) rfl rfl fun K' hK' => ?_
 simp only [sH, ↓sP, sA, tyS, simprocAttr]
 refine call_box (args := [_]) (next_ok L a 100 (by omega) (by omega)) rfl (by simp) ⟨rfl, rfl, rfl, rfl⟩ ?_
 rintro u v' ⟨x0, a1, rfl, rfl, h1, h2, h3, h4⟩
 refine AX (hK' _ _ ?_)
 clear hK' K'
 iterate 4 refine S0 ?_
 refine T2 (hK _ _ _ ?_)
 clear hK K
 refine hw_seq fun K hK => Rg ?_
 refine hlex_step (g := none) rfl rfl fun K' hK' => ?_
 simp only [sH, ↓sP, sA, tyS, simprocAttr]
 refine call_pure (args := []) roles_ok ⟨rfl, rfl, rfl, rfl⟩ ?_
 rintro u rfl
 refine AX (hK' _ _ ?_)
 clear hK' K'
 refine S0 ?_
 refine T2 (hK _ _ _ ?_)
 clear hK K
 refine hw_seq fun K hK => ?_
 refine R0 ?_
 refine hw_block ?_
 obtain ⟨e0, he0⟩ : ∃ e0, e0 = IntKind.i64.wrap (20 + x0) := ⟨_, rfl⟩
 refine hw_ownb 25 2 64 2 rfl rfl rfl rfl ?_
 refine hw_loop (α := {y : Nat × Nat × List Qt // y.1 ≤ 10 ∧ y.2.1 ≤ a + 1 + 2 * y.1 ∧ y.2.2.length ≤ y.1 ∧ ∀ q ∈ y.2.2, q.r ∈ roles10}) (fun y => (fin [(0, .ptr 0 0), (1, .c (.int .i64 v)), (4, .ptr 1 0), (5, .ptr 25 0), (6, .c (.slc (roles10.map .str))), (7, .c (.int .i64 y.1.1))], fob [(0, .box 39 (.c (tp L y.1.2.1))), (1, .box 26 (.c zR)), (25, .box 26 (.agg [.c (.int .i64 v), .c (.int .i64 e0), .own 45 y.1.2.2.length, .c .nils, .c .nils])), (45, .row 64 2 (y.1.2.2.map Qt.cv))])) 100 (fun y => 10 - y.1.1) ⟨(0, a1, []), by simp, by simp only; omega, by simp, by simp⟩ (fits_fin (by omega) (by simp [FinOk, fin_at, finA_at, upd_at, HV.men, HV.menL, HV.norm, HV.toC, HV.toCL]) (by simp [FobOk, fob_at, upd_at, none0_at, gone, HO.men, HV.men, HV.menL, HV.norm, HV.toC, HV.toCL, zR, he0])) ?_
 clear he0 h1 h2 h3 h4
 rintro ⟨⟨i, b, qs⟩, hi, hb0, hql, hqm⟩
 simp only at hi hb0 hql hqm ⊢
 have hrl : (roles10.map CV.str).length = 10 := rfl
 refine hw_seq fun K hK => ?_
 refine hw_seq fun K hK => Rg ?_
 iterate 4 refine S0 ?_ (e := fun _ h_ => by simp only [sH, ↓sP, sA, tyS, simprocAttr, hrl]; exact AX h_)
 refine T2 (hK _ _ _ ?_)
 clear hK K
 refine hw_cond (b := decide ((i : Int) < 10)) rfl (fun hb => ?_) (fun hb => ?_)
 ·
  have hlt : i < 10 := by simp at hb; omega
  have hlt' : (i : Int) < 10 := by omega
  have hlr : i < roles10.length := hlt
  refine hw_skip ?_
  refine T0 (hK _ _ _ ?_)
  clear hK K
  refine hw_seq fun K hK => ?_
  have key : ∀ (b' : Nat) (qs' : List Qt) fr ob nx, b' ≤ a + 1 + 2 * (i + 1) → qs'.length ≤ i + 1 → (∀ q ∈ qs', q.r ∈ roles10) → Fits 1 fr ob (fin [(0, .ptr 0 0), (1, .c (.int .i64 v)), (4, .ptr 1 0), (5, .ptr 25 0), (6, .c (.slc (roles10.map .str))), (7, .c (.int .i64 i))]) (fob [(0, .box 39 (.c (tp L b'))), (1, .box 26 (.c zR)), (25, .box 26 (.agg [.c (.int .i64 v), .c (.int .i64 e0), .own 45 qs'.length, .c .nils, .c .nils])), (45, .row 64 2 (qs'.map Qt.cv))]) 400 → K fr ob nx := by
   intro b' qs' fr ob nx w1 w2 w3 hf
   refine hK _ _ _ (hw_fits hf ?_)
   clear hf hK K
   refine hw_region (by kernel_rfl) ?_
   simp only [↓sP, sA, tyS, simprocAttr, i64s i]
   refine ⟨⟨(i + 1, b', qs'), hlt, w1, w2, w3⟩, fF, ?_⟩
   show 10 - (i + 1) < 10 - i
   omega
  refine hw_block ?_
  refine hw_seq fun K hK => Rg ?_
  refine S0 ?_ (e := fun _ h_ => by simp only [sH, ↓sP, sA, tyS, simprocAttr, Int.natCast_nonneg, hrl, hlt', hlr, nth_map hlr]; exact AX h_)
  refine hlex_step (g := none) rfl rfl fun K' hK' => ?_
  simp only [sH, ↓sP, sA, tyS, simprocAttr, Int.natCast_nonneg, hrl, hlt', hlr, nth_map hlr]
  refine call_box (args := [_]) (next_ok L b 8 (by omega) (by omega)) rfl (by simp) ⟨rfl, rfl, rfl, rfl⟩ ?_
  rintro u v' ⟨x1, b1, rfl, rfl, g1, g2, g3, g4⟩
  refine AX (hK' _ _ ?_)
  clear hK' K'
  iterate 2 refine S0 ?_ (e := fun _ h_ => by simp only [sH, ↓sP, sA, tyS, simprocAttr, Int.natCast_nonneg, hrl, hlt', hlr, nth_map hlr]; exact AX h_)
  refine hlex_cases 25 rfl (fun h6_25 => ?_) (fun h6_25 => ?_)
  ·
   iterate 6 refine S0 ?_ (e := fun _ h_ => by simp only [sH, ↓sP, sA, tyS, simprocAttr, Int.natCast_nonneg, hrl, hlt', hlr, nth_map hlr, h6_25]; exact AX h_)
   refine T2 (hK _ _ _ ?_)
   clear hK K
   refine hw_cond (b := true) rfl (fun hb => ?_) (fun hb => ?_)
   ·
    refine hw_draw2 mixed [(0, [], []), (1, [], []), (2, [], []), (3, [], []), (4, [], []), (5, [], []), (6, [], []), (7, [], [0, 1, 2, 3, 4, 5]), (8, [], []), (9, [], []), (10, [], []), (11, [], []), (12, [], []), (13, [], []), (14, [], [])] [0, 1, 0, 0, 12, 28, 0, 64, 192, 448, 1020, 2044, 4095, 8191, 16383] (by kernel_rfl) (by kernel_rfl) (by kernel_rfl) (by kernel_rfl) rfl (by kernel_rfl) ?_
    iterate 7 refine W0 ?_ (e := fun _ h_ => by simp only [sH, ↓sP, sA, tyS, simprocAttr, Int.natCast_nonneg, hrl, hlt', hlr, nth_map hlr, List.length_append, h6_25]; exact AX h_)
    refine hwalk2_step (g := none) rfl rfl fun K' hK' => ?_
    simp only [sH, ↓sP, sA, tyS, simprocAttr, Int.natCast_nonneg, hrl, hlt', hlr, nth_map hlr, List.length_append, h6_25]
    refine call_box (args := [_]) (next_ok L b1 5 (by omega) (by omega)) rfl (by simp) ⟨rfl, rfl, rfl, rfl⟩ ?_
    rintro u v' ⟨x2, b2, rfl, rfl, k1, k2, k3, k4⟩
    refine AX (hK' _ _ ?_)
    clear hK' K'
    iterate 2 refine W0 ?_ (e := fun _ h_ => by simp only [sH, ↓sP, sA, tyS, simprocAttr, Int.natCast_nonneg, hrl, hlt', hlr, nth_map hlr, List.length_append, h6_25]; exact AX h_)
    refine hwalk2_step (g := none) rfl rfl fun K' hK' => ?_
    simp only [sH, ↓sP, sA, tyS, simprocAttr, Int.natCast_nonneg, hrl, hlt', hlr, nth_map hlr, List.length_append, h6_25]
    rw [hbuild_qt _ _ rfl rfl]
    refine AX (hK' _ _ ?_)
    clear hK' K'
    iterate 4 refine W0 ?_ (e := fun _ h_ => by simp only [sH, ↓sP, sA, tyS, simprocAttr, Int.natCast_nonneg, hrl, hlt', hlr, nth_map hlr, List.length_append, h6_25]; exact AX h_)
    simp only [sE, ↓reduceIte, simprocAttr]
    exact key b2 (qs ++ [⟨roles10[i], IntKind.i64.wrap (1 + IntKind.i64.wrap (x2.tdiv 3))⟩]) _ _ _ (by omega) (by simp; omega) (fun q hq => by
     rcases List.mem_append.1 hq with hq | hq
     ·
      exact hqm q hq
     rw [List.mem_singleton] at hq; rw [hq]; exact List.getElem_mem _) (fF)
   cases hb
  iterate 6 refine S0 ?_ (e := fun _ h_ => by simp only [sH, ↓sP, sA, tyS, simprocAttr, Int.natCast_nonneg, hrl, hlt', hlr, nth_map hlr, h6_25]; exact AX h_)
  refine hlex_cases 31 rfl (fun h6_31 => ?_) (fun h6_31 => ?_)
  ·
   simp only [h6_31]
   refine T2 (hK _ _ _ ?_)
   clear hK K
   refine hw_cond (b := true) rfl (fun hb => ?_) (fun hb => ?_)
   ·
    refine hw_draw2 mixed [(0, [], []), (1, [], []), (2, [], []), (3, [], []), (4, [], []), (5, [], []), (6, [], []), (7, [], [0, 1, 2, 3, 4, 5]), (8, [], []), (9, [], []), (10, [], []), (11, [], []), (12, [], []), (13, [], []), (14, [], [])] [0, 1, 0, 0, 12, 28, 0, 64, 192, 448, 1020, 2044, 4095, 8191, 16383] (by kernel_rfl) (by kernel_rfl) (by kernel_rfl) (by kernel_rfl) rfl (by kernel_rfl) ?_
    iterate 7 refine W0 ?_ (e := fun _ h_ => by simp only [sH, ↓sP, sA, tyS, simprocAttr, Int.natCast_nonneg, hrl, hlt', hlr, nth_map hlr, List.length_append, h6_25, h6_31]; exact AX h_)
    refine hwalk2_step (g := none) rfl rfl fun K' hK' => ?_
    simp only [sH, ↓sP, sA, tyS, simprocAttr, Int.natCast_nonneg, hrl, hlt', hlr, nth_map hlr, List.length_append, h6_25, h6_31]
    refine call_box (args := [_]) (next_ok L b1 5 (by omega) (by omega)) rfl (by simp) ⟨rfl, rfl, rfl, rfl⟩ ?_
    rintro u v' ⟨x2, b2, rfl, rfl, k1, k2, k3, k4⟩
    refine AX (hK' _ _ ?_)
    clear hK' K'
    iterate 2 refine W0 ?_ (e := fun _ h_ => by simp only [sH, ↓sP, sA, tyS, simprocAttr, Int.natCast_nonneg, hrl, hlt', hlr, nth_map hlr, List.length_append, h6_25, h6_31]; exact AX h_)
    refine hwalk2_step (g := none) rfl rfl fun K' hK' => ?_
    simp only [sH, ↓sP, sA, tyS, simprocAttr, Int.natCast_nonneg, hrl, hlt', hlr, nth_map hlr, List.length_append, h6_25, h6_31]
    rw [hbuild_qt _ _ rfl rfl]
    refine AX (hK' _ _ ?_)
    clear hK' K'
    iterate 4 refine W0 ?_ (e := fun _ h_ => by simp only [sH, ↓sP, sA, tyS, simprocAttr, Int.natCast_nonneg, hrl, hlt', hlr, nth_map hlr, List.length_append, h6_25, h6_31]; exact AX h_)
    simp only [sE, ↓reduceIte, simprocAttr]
    exact key b2 (qs ++ [⟨roles10[i], IntKind.i64.wrap (1 + IntKind.i64.wrap (x2.tdiv 3))⟩]) _ _ _ (by omega) (by simp; omega) (fun q hq => by
     rcases List.mem_append.1 hq with hq | hq
     ·
      exact hqm q hq
     rw [List.mem_singleton] at hq; rw [hq]; exact List.getElem_mem _) (fF)
   cases hb
  simp only [h6_31]
  refine T2 (hK _ _ _ ?_)
  clear hK K
  refine hw_cond (b := false) rfl (fun hb => ?_) (fun hb => ?_)
  ·
   cases hb
  refine hw_skip ?_
  simp only [↓sP, sA, tyS, simprocAttr]
  exact key b1 qs _ _ _ (by omega) (by omega) hqm (fF)
 refine hw_exit ?_
 simp only [↓sP, sA, tyS, simprocAttr]
 clear hK K
 refine AX (hK _ _ _ ?_)
 clear hK K
 refine hw_seq fun K hK => ?_
 clear hb
 refine hw_close [45] (hw_fits (fr2 := fin [(0, .ptr 0 0), (1, .c (.int .i64 v)), (4, .ptr 1 0), (5, .ptr 25 0)]) (ob2 := fob [(0, .box 39 (.c (tp L b))), (1, .box 26 (.c (Rt.cv ⟨0, 0, [], [], []⟩))), (25, .box 26 (.c (Rt.cv ⟨v, e0, qs, [], []⟩)))]) (nx2 := 200) (fits_fin (by omega) (by simp [FinOk, clF_at, fin_at, finA_at, upd_at, fob_at, HV.close, HV.closeL, CV.denil, CV.denilL, denilL_str, denilL_Rv, denilL_Qt, denilL_Ky, HV.men, HV.menL, HV.norm, HV.toC, HV.toCL]) (by simp [FobOk, clO_at, fob_at, upd_at, none0_at, gone, HO.close, HV.close, HV.closeL, HO.men, HV.men, HV.menL, HV.norm, HV.toC, HV.toCL, Rt.denil, zR, Rt.cv, CV.denil, CV.denilL, denilL_str, denilL_Rv, denilL_Qt, denilL_Ky, denilL_int])) ?_)
 refine R0 ?_
 refine hw_block ?_
 refine hw_loop (α := {y : Nat × Nat × List Ky // y.1 ≤ 6 ∧ y.2.1 ≤ a + 21 + 14 * y.1 ∧ y.2.2.length ≤ y.1 ∧ ∀ k ∈ y.2.2, kOk k}) (fun y => (fin [(0, .ptr 0 0), (1, .c (.int .i64 v)), (4, .ptr 1 0), (5, .ptr 25 0), (8, .c (.int .i64 y.1.1))], fob [(0, .box 39 (.c (tp L y.1.2.1))), (1, .box 26 (.c (Rt.cv ⟨0, 0, [], [], []⟩))), (25, .box 26 (.c (Rt.cv ⟨v, e0, qs, y.1.2.2, []⟩)))])) 300 (fun y => 6 - y.1.1) ⟨(0, b, []), by simp, by simp only; omega, by simp, by simp⟩ (fF) ?_
 clear hb0
 rintro ⟨⟨j, b, ks⟩, hj, hb0, hkl, hkm⟩
 simp only at hj hb0 hkl hkm ⊢
 refine hw_seq fun K hK => ?_
 refine R0 ?_
 refine hw_cond (b := decide ((j : Int) < 6)) rfl (fun hb => ?_) (fun hb => ?_)
 ·
  have hlt : j < 6 := by simp at hb; omega
  refine hw_skip ?_
  refine T0 (hK _ _ _ ?_)
  clear hK K
  refine hw_seq fun K hK => ?_
  have key : ∀ (b' : Nat) (ks' : List Ky) fr ob nx, b' ≤ a + 21 + 14 * (j + 1) → ks'.length ≤ j + 1 → (∀ k ∈ ks', kOk k) → Fits 1 fr ob (fin [(0, .ptr 0 0), (1, .c (.int .i64 v)), (4, .ptr 1 0), (5, .ptr 25 0), (8, .c (.int .i64 j))]) (fob [(0, .box 39 (.c (tp L b'))), (1, .box 26 (.c (Rt.cv ⟨0, 0, [], [], []⟩))), (25, .box 26 (.c (Rt.cv ⟨v, e0, qs, ks', []⟩)))]) 500 → K fr ob nx := by
   intro b' ks' fr ob nx w1 w2 w3 hf
   refine hK _ _ _ (hw_fits hf ?_)
   clear hf hK K
   refine hw_region (by kernel_rfl) ?_
   simp only [↓sP, sA, tyS, simprocAttr, i64s j]
   refine ⟨⟨(j + 1, b', ks'), hlt, w1, w2, w3⟩, fF, ?_⟩
   show 6 - (j + 1) < 6 - j
   omega
  refine hw_block ?_
  refine hw_seq fun K hK => ?_
  refine hw_seq fun K hK => Rg ?_
  refine S0 ?_
  refine hlex_step (g := none) rfl rfl fun K' hK' => ?_
  simp only [sH, ↓sP, sA, tyS, simprocAttr]
  refine call_box (args := [_]) (next_ok L b 6 (by omega) (by omega)) rfl (by simp) ⟨rfl, rfl, rfl, rfl⟩ ?_
  rintro u v' ⟨x1, b1, rfl, rfl, g1, g2, g3, g4⟩
  refine AX (hK' _ _ ?_)
  clear hK' K'
  refine S0 ?_
  refine T2 (hK _ _ _ ?_)
  clear hK K
  refine hw_cond (b := x1 == 0) rfl (fun hb => ?_) (fun hb => ?_)
  ·
   refine hw_exit ?_
   simp only [↓sP, sA, tyS, simprocAttr]
   clear hK K
   exact key b1 ks _ _ _ (by omega) (by omega) hkm (fF)
  refine hw_skip ?_
  refine T0 (hK _ _ _ ?_)
  clear hK K
  refine hw_seq fun K hK => Rg ?_
  refine S0 ?_
  refine hlex_step (g := none) rfl rfl fun K' hK' => ?_
  simp only [sH, ↓sP, sA, tyS, simprocAttr]
  refine call_box (args := [_]) (next_ok L b1 6 (by omega) (by omega)) rfl (by simp) ⟨rfl, rfl, rfl, rfl⟩ ?_
  rintro u v' ⟨x2, b2, rfl, rfl, k1, k2, k3, k4⟩
  refine AX (hK' _ _ ?_)
  clear hK' K'
  refine S0 ?_
  refine T2 (hK _ _ _ ?_)
  clear hK K
  refine hw_draw2 mixed [(0, [], []), (1, [], []), (2, [], []), (4, [], []), (6, [], []), (8, [], []), (9, [], []), (10, [], []), (11, [], []), (3, [], [0, 1, 4, 6, 8, 9, 10, 11]), (5, [], [0, 1, 6, 8, 9, 10, 11]), (7, [], [0, 1, 8, 9, 10, 11]), (12, [], [0, 1, 8, 9, 10]), (13, [], []), (14, [], []), (15, [], []), (16, [], []), (17, [], [])] [0, 1, 0, 4, 0, 28, 0, 124, 0, 0, 512, 0, 2300, 7932, 16380, 32767, 65535, 131071] (by kernel_rfl) (by kernel_rfl) (by kernel_rfl) (by kernel_rfl) rfl (by kernel_rfl) ?_
  iterate 9 refine W0 ?_ (e := fun _ h_ => by simp only [sH, ↓sP, sA, tyS, simprocAttr, denilL_Ky, denilL_str, Rt.fold]; exact AX h_)
  refine hwalk2_step (g := none) rfl rfl fun K' hK' => ?_
  simp only [sH, ↓sP, sA, tyS, simprocAttr, denilL_Ky, denilL_str, Rt.fold]
  refine call_pure (args := [_]) (public_ok j (by omega)) ⟨rfl, rfl, rfl, rfl⟩ ?_
  rintro u rfl
  refine AX (hK' _ _ ?_)
  clear hK' K'
  refine hwalk2_step (g := none) rfl rfl fun K' hK' => ?_
  simp only [sH, ↓sP, sA, tyS, simprocAttr, denilL_Ky, denilL_str, Rt.fold]
  refine call_pure (args := [_]) (owner_ok j (by omega)) ⟨rfl, rfl, rfl, rfl⟩ ?_
  rintro u rfl
  refine AX (hK' _ _ ?_)
  clear hK' K'
  refine hwalk2_step (g := none) rfl rfl fun K' hK' => ?_
  simp only [sH, ↓sP, sA, tyS, simprocAttr, denilL_Ky, denilL_str, Rt.fold]
  refine call_box (args := []) (some_ok L b2 (by omega)) rfl (by simp) ⟨rfl, rfl, rfl, rfl⟩ ?_
  rintro u v' ⟨ws, b3, rfl, rfl, n1, n2, n3⟩
  refine AX (hK' _ _ ?_)
  clear hK' K'
  refine hwalk2_step (g := none) rfl rfl fun K' hK' => ?_
  simp only [sH, ↓sP, sA, tyS, simprocAttr, denilL_Ky, denilL_str, Rt.fold]
  refine call_box (args := [_]) (next_ok L b3 60 (by omega) (by omega)) rfl (by simp) ⟨rfl, rfl, rfl, rfl⟩ ?_
  rintro u v' ⟨x3, b4, rfl, rfl, o1, o2, o3, o4⟩
  obtain ⟨un, hun⟩ : ∃ un, un = IntKind.i64.wrap (IntKind.i64.wrap (x2 + 1) + x3) := ⟨_, rfl⟩
  refine AX (hK' _ _ ?_)
  clear hK' K'
  iterate 2 refine W0 ?_ (e := fun _ h_ => by simp only [sH, ↓sP, sA, tyS, simprocAttr, denilL_Ky, denilL_str, Rt.fold]; exact AX h_)
  refine hwalk2_step (g := none) rfl rfl fun K' hK' => ?_
  simp only [sH, ↓sP, sA, tyS, simprocAttr, denilL_Ky, denilL_str, Rt.fold]
  refine call_pure (args := [_, _]) (insert_ok ks ⟨mPub j, mOwner j, ws, x2, IntKind.i64.wrap (IntKind.i64.wrap (x2 + 1) + x3)⟩ (by omega)) ⟨rfl, rfl, rfl, rfl⟩ ?_
  rintro u rfl
  refine AX (hK' _ _ ?_)
  clear hK' K'
  iterate 2 refine W0 ?_ (e := fun _ h_ => by simp only [sH, ↓sP, sA, tyS, simprocAttr, denilL_Ky, denilL_str, Rt.fold]; exact AX h_)
  simp only [sE, ↓reduceIte, simprocAttr]
  exact key b4 (insK ks ⟨mPub j, mOwner j, ws, x2, IntKind.i64.wrap (IntKind.i64.wrap (x2 + 1) + x3)⟩) _ _ _ (by omega) (by rw [insK_len]; omega) (fun k hk => by
   rcases insK_mem hk with hk | rfl
   ·
    exact hkm k hk
   exact mKey_ok j ws _ _ n2 n3) (fits_fin (by omega) (by simp [FinOk, fin_at, finA_at, upd_at, HV.men, HV.menL, HV.norm, HV.toC, HV.toCL]) (by simp [FobOk, fob_at, upd_at, none0_at, gone, HO.men, HV.men, HV.menL, HV.norm, HV.toC, HV.toCL]; rfl))
 clear hb
 refine hw_exit ?_
 simp only [↓sP, sA, tyS, simprocAttr]
 clear hK K
 refine AX (hK _ _ _ ?_)
 clear hK K
 refine hw_seq fun K hK => ?_
 have key : ∀ (b' : Nat) (r : Rt) fr ob nx, b' ≤ a + 150 → rOk r → Fits 1 fr ob (fin [(0, .ptr 0 0), (1, .c (.int .i64 v)), (4, .ptr 1 0), (5, .ptr 25 0)]) (fob [(0, .box 39 (.c (tp L b'))), (1, .box 26 (.c (Rt.cv ⟨0, 0, [], [], []⟩))), (25, .box 26 (.c r.cv))]) 600 → K fr ob nx := by
  intro b' r fr ob nx w1 w2 hf
  refine hK _ _ _ (hw_fits hf ?_)
  clear hf hK K
  refine hw_seq fun K hK => ?_
  refine hw_seq fun K hK => Rg ?_
  refine S0 ?_
  refine hlex_step (g := none) rfl rfl fun K' hK' => ?_
  simp only [sH, ↓sP, sA, tyS, simprocAttr]
  refine call_pure (args := [_]) (rvalid_ok r w2.1) ⟨rfl, rfl, rfl, rfl⟩ ?_
  rintro u rfl
  refine AX (hK' _ _ ?_)
  clear hK' K'
  refine S0 ?_
  refine T2 (hK _ _ _ ?_)
  clear hK K
  refine hw_cond (b := !validR r) rfl (fun hb => ?_) (fun hb => ?_)
  ·
   refine hw_seq fun K hK => Rg ?_
   refine hlex_step (g := none) rfl rfl fun K' hK' => ?_
   simp only [sH, ↓sP, sA, tyS, simprocAttr]
   refine call_pure (args := []) mfull_ok ⟨rfl, rfl, rfl, rfl⟩ ?_
   rintro u rfl
   refine AX (hK' _ _ ?_)
   clear hK' K'
   iterate 2 refine S0 ?_
   refine T2 (hK _ _ _ ?_)
   clear hK K
   refine R0 ?_ (e := fun _ h_ => by simp only [↓sP, sA, tyS, simprocAttr, Rt.fold]; exact AX h_)
   refine R0 ?_
   refine hw_ret ?_
   simp only [hpost, Tryz.results22, hresL, hres1, tupOf, ↓sP, sA, tyS, simprocAttr]
   refine hret_box [] (Rt.cv ⟨v, full.e, full.q, full.k, full.x⟩) (tp L b') (close_c (Rt.denil _)) rfl ?_ (by simp) ⟨_, b', rfl, rfl, w1, full_ok v, full_valid_v⟩
   simp [HV.close, HV.closeL, tp, CV.denil, CV.denilL, denilL_int, HV.norm, HV.toC, HV.toCL]
  refine hw_skip ?_
  refine T0 (hK _ _ _ ?_)
  clear hK K
  refine R0 ?_
  refine hw_ret ?_
  simp only [hpost, Tryz.results22, hresL, hres1, tupOf, ↓sP, sA, tyS, simprocAttr]
  refine hret_box [] r.cv (tp L b') (close_c (Rt.denil _)) rfl ?_ (by simp) ⟨r, b', rfl, rfl, w1, w2, fun _ _ => by simpa using hb⟩
  simp [HV.close, HV.closeL, tp, CV.denil, CV.denilL, denilL_int, HV.norm, HV.toC, HV.toCL]
 refine hw_seq fun K hK => Rg ?_
 refine S0 ?_
 refine hlex_step (g := none) rfl rfl fun K' hK' => ?_
 simp only [sH, ↓sP, sA, tyS, simprocAttr]
 refine call_box (args := [_]) (next_ok L b 4 (by omega) (by omega)) rfl (by simp) ⟨rfl, rfl, rfl, rfl⟩ ?_
 rintro u v' ⟨x1, b1, rfl, rfl, g1, g2, g3, g4⟩
 refine AX (hK' _ _ ?_)
 clear hK' K'
 refine S0 ?_
 refine T2 (hK _ _ _ ?_)
 clear hK K
 refine hw_cond (b := x1 == 0) rfl (fun hb => ?_) (fun hb => ?_)
 ·
  refine hw_draw2 mixed [(0, [], []), (1, [], []), (4, [], []), (2, [], [0, 4]), (3, [], [0, 4]), (5, [], [0]), (6, [], []), (7, [], []), (8, [], [])] [0, 0, 2, 6, 0, 30, 62, 127, 255] (by kernel_rfl) (by kernel_rfl) (by kernel_rfl) (by kernel_rfl) rfl (by kernel_rfl) ?_
  iterate 3 refine W0 ?_ (e := fun _ h_ => by simp only [sH, ↓sP, sA, tyS, simprocAttr, Rv.fold]; exact AX h_)
  refine hwalk2_step (g := none) rfl rfl fun K' hK' => ?_
  simp only [sH, ↓sP, sA, tyS, simprocAttr, Rv.fold]
  refine call_box (args := [_]) (next_ok L b1 7 (by omega) (by omega)) rfl (by simp) ⟨rfl, rfl, rfl, rfl⟩ ?_
  rintro u v' ⟨x2, b2, rfl, rfl, k1, k2, k3, k4⟩
  obtain ⟨m, rfl⟩ : ∃ m : Nat, x2 = m := ⟨x2.toNat, by omega⟩
  refine AX (hK' _ _ ?_)
  clear hK' K'
  refine hwalk2_step (g := none) rfl rfl fun K' hK' => ?_
  simp only [sH, ↓sP, sA, tyS, simprocAttr, Rv.fold]
  refine call_pure (args := [_]) (mid_ok m (by omega)) ⟨rfl, rfl, rfl, rfl⟩ ?_
  rintro u rfl
  refine AX (hK' _ _ ?_)
  clear hK' K'
  refine hwalk2_step (g := none) rfl rfl fun K' hK' => ?_
  simp only [sH, ↓sP, sA, tyS, simprocAttr, Rv.fold]
  refine call_box (args := [_]) (next_ok L b2 30 (by omega) (by omega)) rfl (by simp) ⟨rfl, rfl, rfl, rfl⟩ ?_
  rintro u v' ⟨x3, b3, rfl, rfl, o1, o2, o3, o4⟩
  refine AX (hK' _ _ ?_)
  clear hK' K'
  refine W0 ?_ (e := fun _ h_ => by simp only [sH, ↓sP, sA, tyS, simprocAttr, Rv.fold]; exact AX h_)
  refine hwalk2_step (g := none) rfl rfl fun K' hK' => ?_
  simp only [sH, ↓sP, sA, tyS, simprocAttr, Rv.fold]
  refine call_pure (args := [_, _]) (revoke_ok ⟨v, e0, qs, ks, []⟩ ⟨mid m, x3⟩ (rOk_of (by omega) hqm (by omega) hkm (by simp)).1) ⟨rfl, rfl, rfl, rfl⟩ ?_
  rintro u ⟨xs, rfl, hxs⟩
  refine AX (hK' _ _ ?_)
  clear hK' K'
  refine W0 ?_ (e := fun _ h_ => by simp only [sH, ↓sP, sA, tyS, simprocAttr, Rv.fold]; exact AX h_)
  simp only [sE, ↓reduceIte, simprocAttr]
  exact key b3 ⟨v, e0, qs, ks, xs⟩ _ _ _ (by omega) (rOk_of (by omega) hqm (by omega) hkm (by simpa using hxs)) (fF)
 refine hw_skip ?_
 simp only [↓sP, sA, tyS, simprocAttr]
 exact key b1 ⟨v, e0, qs, ks, []⟩ _ _ _ (by omega) (rOk_of (by omega) hqm (by omega) hkm (by simp)) (fF)


theorem awake_ok : HPure Tryz.prog 12 [] (fun v => v = .bool true) := by
 refine hfn_walk Tryz.func12 rfl (by kernel_rfl) (locOk_nil _) (Nat.le_of_ble_eq_true rfl) ?_
 refine R0 ?_
 refine hw_seq fun K hK => Rg ?_
 refine hlex_step (g := none) rfl rfl fun K' hK' => ?_
 simp only [sH, ↓sP, sA, tyS, simprocAttr]
 refine call_pure (args := []) mfull_ok ⟨rfl, rfl, rfl, rfl⟩ ?_
 rintro u rfl
 refine AX (hK' _ _ ?_)
 clear hK' K'
 iterate 2 refine S0 ?_
 refine T2 (hK _ _ _ ?_)
 clear hK K
 refine hw_seq fun K hK => hw_draw2 mixed [(0, [], []), (1, [], []), (2, [], []), (3, [], []), (4, [], []), (5, [], []), (6, [], []), (7, [], []), (8, [], []), (9, [], [8]), (10, [], []), (11, [], []), (12, [], []), (13, [], [])] [0, 1, 3, 7, 15, 31, 63, 127, 255, 255, 767, 2047, 4095, 8191] (by kernel_rfl) (by kernel_rfl) (by kernel_rfl) (by kernel_rfl) rfl (by kernel_rfl) ?_
 refine W0 ?_ (e := fun _ h_ => by simp only [sH, ↓sP, sA, tyS, simprocAttr, full_valid, full_need, full_enough, gone_at]; exact AX h_)
 refine hwalk2_step (g := none) rfl rfl fun K' hK' => ?_
 simp only [sH, ↓sP, sA, tyS, simprocAttr, full_valid, full_need, full_enough, gone_at]
 refine call_pure (args := [_]) (valid_ok full (full_ok 1).1) ⟨rfl, rfl, rfl, rfl⟩ ?_
 rintro u rfl
 refine AX (hK' _ _ ?_)
 clear hK' K'
 iterate 2 refine W0 ?_ (e := fun _ h_ => by simp only [sH, ↓sP, sA, tyS, simprocAttr, full_valid, full_need, full_enough, gone_at]; exact AX h_)
 refine hwalk2_step (g := some (5, true)) rfl rfl fun K' hK' => ?_
 simp only [sH, ↓sP, sA, tyS, simprocAttr, full_valid, full_need, full_enough, gone_at]
 refine call_pure (args := [_, _]) (tneed_ok full wStep (full_ok 1).1) ⟨rfl, rfl, rfl, rfl⟩ ?_
 rintro u rfl
 rw [full_need]
 refine AX (hK' _ _ ?_)
 clear hK' K'
 iterate 4 refine W0 ?_ (e := fun _ h_ => by simp only [sH, ↓sP, sA, tyS, simprocAttr, full_valid, full_need, full_enough, gone_at]; exact AX h_)
 refine hwalk2_step (g := some (10, true)) rfl rfl fun K' hK' => ?_
 simp only [sH, ↓sP, sA, tyS, simprocAttr, full_valid, full_need, full_enough, gone_at]
 refine call_pure (args := [_]) (mid_ok 0 (by omega)) ⟨rfl, rfl, rfl, rfl⟩ ?_
 rintro u rfl
 refine AX (hK' _ _ ?_)
 clear hK' K'
 refine W0 ?_ (e := fun _ h_ => by simp only [sH, ↓sP, sA, tyS, simprocAttr, full_valid, full_need, full_enough, gone_at]; exact AX h_)
 refine hwalk2_step (g := some (10, true)) rfl rfl fun K' hK' => ?_
 simp only [sH, ↓sP, sA, tyS, simprocAttr, full_valid, full_need, full_enough, gone_at]
 refine call_close (e := 49) (sz := 32) (l := [mid 0].map dg) [full.cv, .str wStep] [.int .i64 5] (enough_ok full wStep [mid 0] 5 (full_ok 1).1 (by simp)) rfl rfl (by simp) ⟨rfl, rfl, rfl, rfl⟩ ?_
 rintro u rfl
 refine AX (hK' _ _ ?_)
 clear hK' K'
 iterate 2 refine W0 ?_ (e := fun _ h_ => by simp only [sH, ↓sP, sA, tyS, simprocAttr, full_valid, full_need, full_enough, gone_at]; exact AX h_)
 refine T2 (hK _ _ _ ?_)
 clear hK K
 refine hw_ret ?_
 simp only [hpost, Tryz.results12, hresL, hres1, tupOf, ↓sP, sA, tyS, simprocAttr]
 exact hret_pure [] (.bool true) rfl rfl

end Go.Proofs.YtenbfeemmpjdhaaGreatDoor

namespace Go.Proofs.YtenbfeemmpjdhaaGreatDoor
open Go Go.Hl Go.Pl
set_option maxRecDepth 10000
set_option maxHeartbeats 8000000
set_option linter.unusedSimpArgs false
set_option linter.unusedVariables false
attribute [local simp] tp

theorem nx_ok (r : Rt) (L : List Int) (a : Nat) (ha : a + 400 < 2 ^ 40) (hx : r.x.length < 2 ^ 30) : HBoxL2 Tryz.prog 14 39 (tp L a) [r.cv] (fun u x v' => ∃ (r' : Rt) (K : List Dig) (a' : Nat), u = r'.cv ∧ x = .slc (K.map dg) ∧ v' = tp L a' ∧ a' ≤ a + 200 ∧ rSz r' ∧ K.length ≤ 6) := by
 refine hfn_walk (args := [.c r.cv, .ptr 0 0]) Tryz.func14 rfl (by kernel_rfl) (locOk_clo _ _ [r.cv]) (Nat.le_of_ble_eq_true rfl) ?_
 refine R0 ?_
 refine hw_seq fun K hK => Rg ?_
 iterate 4 refine S0 ?_
 refine hlex_step (g := none) rfl rfl fun K' hK' => ?_
 simp only [sH, ↓sP, sA, tyS, simprocAttr]
 refine call_box (args := [_]) (root_ok L a (IntKind.i64.wrap (r.v + 1)) (by omega)) rfl (by simp) ⟨rfl, rfl, rfl, rfl⟩ ?_
 rintro u v' ⟨x0, a1, rfl, rfl, k1, hx0, hv0⟩
 refine AX (hK' _ _ ?_)
 clear hK' K'
 iterate 2 refine S0 ?_
 refine T2 (hK _ _ _ ?_)
 clear hK K
 refine R0 ?_
 refine hw_seq fun K hK => ?_
 refine R0 ?_
 refine hw_block ?_
 refine hw_close [] ?_
 refine hw_loop (α := {y : Nat × Rt // y.1 ≤ r.x.length ∧ rSz y.2 ∧ y.2.x.length ≤ y.1}) (fun y => (fin [(1, .ptr 0 0), (2, .ptr 1 0), (4, .ptr 5 0), (6, .ptr 33 0), (7, .c (.int .i64 y.1.1))], fob [(0, .box 39 (.c (tp L a1))), (1, .box 26 (.c r.cv)), (5, .box 26 (.c (Rt.cv ⟨0, 0, [], [], []⟩))), (33, .box 26 (.c y.1.2.cv))])) 100 (fun y => r.x.length - y.1.1) ⟨(0, ⟨x0.v, x0.e, x0.q, x0.k, []⟩), by simp, ⟨hx0.1.1, hx0.1.2.1, by simp⟩, by simp⟩ (fits_fin (by omega) (by simp [FinOk, clF_at, fin_at, finA_at, upd_at, fob_at, HV.close, HV.closeL, CV.denil, CV.denilL, denilL_str, denilL_Rv, denilL_Qt, denilL_Ky, HV.men, HV.menL, HV.norm, HV.toC, HV.toCL]) (by simp [FobOk, clO_at, fob_at, upd_at, none0_at, gone, HO.close, HV.close, HV.closeL, HO.men, HV.men, HV.menL, HV.norm, HV.toC, HV.toCL, Rt.denil, zR, Rt.cv, CV.denil, CV.denilL, denilL_int, denilL_str, denilL_Rv, denilL_Qt, denilL_Ky])) ?_
 rintro ⟨⟨i, z⟩, hi, hz, hzl⟩
 simp only at hi hz hzl ⊢
 refine hw_seq fun K hK => ?_
 refine hw_seq fun K hK => Rg ?_
 iterate 5 refine S0 ?_
 refine T2 (hK _ _ _ ?_)
 clear hK K
 refine hw_cond (b := decide ((i : Int) < r.x.length)) rfl (fun hb => ?_) (fun hb => ?_)
 ·
  have hlt : i < r.x.length := by simpa using hb
  clear hb
  refine hw_skip ?_
  refine T0 (hK _ _ _ ?_)
  clear hK K
  refine hw_seq fun K hK => ?_
  refine hw_block ?_
  refine hw_draw2 mixed [(0, [], []), (1, [], []), (2, [], []), (3, [], []), (4, [], []), (5, [], []), (6, [], []), (7, [], [])] [0, 0, 2, 0, 14, 30, 63, 127] (by kernel_rfl) (by kernel_rfl) (by kernel_rfl) (by kernel_rfl) rfl (by kernel_rfl) ?_
  iterate 6 refine W0 ?_ (e := fun _ h_ => by simp only [sH, ↓sP, sA, tyS, simprocAttr, Int.natCast_nonneg, Int.ofNat_lt, hlt, nth_map hlt]; exact AX h_)
  refine hwalk2_step (g := none) rfl rfl fun K' hK' => ?_
  simp only [sH, ↓sP, sA, tyS, simprocAttr, Int.natCast_nonneg, Int.ofNat_lt, hlt, nth_map hlt]
  refine call_pure (args := [_, _]) (revoke_ok z r.x[i] hz) ⟨rfl, rfl, rfl, rfl⟩ ?_
  rintro u ⟨xs, rfl, hxs⟩
  refine AX (hK' _ _ ?_)
  clear hK' K'
  refine W0 ?_ (e := fun _ h_ => by simp only [sH, ↓sP, sA, tyS, simprocAttr, Int.natCast_nonneg, Int.ofNat_lt, hlt, nth_map hlt]; exact AX h_)
  refine T2 (hK _ _ _ ?_)
  clear hK K
  refine hw_region (by kernel_rfl) ?_
  simp only [↓sP, sA, tyS, simprocAttr, i64s i]
  refine ⟨⟨(i + 1, ⟨z.v, z.e, z.q, z.k, xs⟩), hlt, ⟨hz.1, hz.2.1, by show xs.length < _; omega⟩, by show xs.length ≤ _; omega⟩, fF, ?_⟩
  show r.x.length - (i + 1) < r.x.length - i
  omega
 clear hb
 refine hw_exit ?_
 simp only [↓sP, sA, tyS, simprocAttr]
 clear hK K
 refine AX (hK _ _ _ ?_)
 clear hK K
 refine hw_seq fun K hK => ?_
 have key : ∀ (z : Rt) (b : Nat) fr ob nx, rSz z → b ≤ a1 + 10 → Fits 1 fr ob (fin [(1, .ptr 0 0), (4, .ptr 5 0), (6, .ptr 33 0)]) (fob [(0, .box 39 (.c (tp L b))), (5, .box 26 (.c (Rt.cv ⟨0, 0, [], [], []⟩))), (33, .box 26 (.c z.cv))]) 500 → K fr ob nx := by
  intro z b fr ob nx hz hb hf
  refine hK _ _ _ (hw_fits hf ?_)
  clear hf hK K
  refine R0 ?_
  refine hw_seq fun K hK => ?_
  refine R0 ?_
  refine hw_block ?_
  refine hw_close [] ?_
  refine hw_loop (α := {y : Nat × List Dig × Nat // y.1 ≤ 6 ∧ y.2.1.length ≤ y.1 ∧ y.2.2 ≤ b + y.1}) (fun y => (fin [(1, .ptr 0 0), (4, .ptr 5 0), (6, .ptr 33 0), (8, .c (.slc (y.1.2.1.map dg))), (9, .c (.int .i64 y.1.1))], fob [(0, .box 39 (.c (tp L y.1.2.2))), (5, .box 26 (.c (Rt.cv ⟨0, 0, [], [], []⟩))), (33, .box 26 (.c z.cv))])) 600 (fun y => 6 - y.1.1) ⟨(0, [], b), by simp, by simp, by simp⟩ (fits_fin (by omega) (by simp [FinOk, clF_at, fin_at, finA_at, upd_at, fob_at, HV.close, HV.closeL, CV.denil, CV.denilL, HV.men, HV.menL, HV.norm, HV.toC, HV.toCL]) (by simp [FobOk, clO_at, fob_at, upd_at, none0_at, gone, HO.close, HV.close, HV.closeL, HO.men, HV.men, HV.menL, HV.norm, HV.toC, HV.toCL, Rt.denil, CV.denil, CV.denilL, denilL_int])) ?_
  rintro ⟨⟨i, Kl, c⟩, hi, hkl, hc⟩
  simp only at hi hkl hc ⊢
  refine hw_seq fun K hK => ?_
  refine R0 ?_
  refine hw_cond (b := decide ((i : Int) < 6)) rfl (fun hb => ?_) (fun hb => ?_)
  ·
   have hlt : i < 6 := by simp at hb; omega
   refine hw_skip ?_
   refine T0 (hK _ _ _ ?_)
   clear hK K
   refine hw_seq fun K hK => ?_
   have key : ∀ (K' : List Dig) (c' : Nat) fr ob nx, K'.length ≤ i + 1 → c' ≤ c + 1 → Fits 1 fr ob (fin [(1, .ptr 0 0), (4, .ptr 5 0), (6, .ptr 33 0), (8, .c (.slc (K'.map dg))), (9, .c (.int .i64 i))]) (fob [(0, .box 39 (.c (tp L c'))), (5, .box 26 (.c (Rt.cv ⟨0, 0, [], [], []⟩))), (33, .box 26 (.c z.cv))]) 800 → K fr ob nx := by
    intro K' c' fr ob nx w1 w2 hf
    refine hK _ _ _ (hw_fits hf ?_)
    clear hf hK K
    refine hw_region (by kernel_rfl) ?_
    simp only [↓sP, sA, tyS, simprocAttr, i64s i]
    refine ⟨⟨(i + 1, K', c'), hlt, w1, by simp only; omega⟩, fF, ?_⟩
    show 6 - (i + 1) < 6 - i
    omega
   refine hw_block ?_
   refine hw_seq fun K hK => Rg ?_
   refine S0 ?_
   refine hlex_step (g := none) rfl rfl fun K' hK' => ?_
   simp only [sH, ↓sP, sA, tyS, simprocAttr]
   refine call_box (args := [_]) (next_ok L c 4 (by omega) (by omega)) rfl (by simp) ⟨rfl, rfl, rfl, rfl⟩ ?_
   rintro u v' ⟨y2, c2, rfl, rfl, j2, j3, j4, j5⟩
   refine AX (hK' _ _ ?_)
   clear hK' K'
   refine S0 ?_
   refine T2 (hK _ _ _ ?_)
   clear hK K
   refine hw_cond (b := decide (0 < y2)) rfl (fun hb => ?_) (fun hb => ?_)
   ·
    refine hw_region (by kernel_rfl) ?_
    simp only [sR, simprocAttr]
    iterate 2 refine S0 ?_
    refine hlex_step (g := none) rfl rfl fun K' hK' => ?_
    simp only [sH, ↓sP, sA, tyS, simprocAttr]
    refine call_pure (args := [_]) (mid_ok i (by omega)) ⟨rfl, rfl, rfl, rfl⟩ ?_
    rintro u rfl
    refine AX (hK' _ _ ?_)
    clear hK' K'
    refine hlex_step (g := none) rfl rfl fun K' hK' => ?_
    simp only [sH, ↓sP, sA, tyS, simprocAttr]
    refine call_pure (args := [_, _]) (addd_ok Kl (mid i) (by omega)) ⟨rfl, rfl, rfl, rfl⟩ ?_
    rintro u ⟨K2, rfl, hK2⟩
    refine AX (hK' _ _ ?_)
    clear hK' K'
    refine S0 ?_
    simp only [sE, ↓reduceIte, simprocAttr]
    exact key K2 c2 _ _ _ (by omega) (by omega) (fF)
   refine hw_skip ?_
   simp only [↓sP, sA, tyS, simprocAttr]
   exact key Kl c2 _ _ _ (by omega) (by omega) (fF)
  refine hw_exit ?_
  simp only [↓sP, sA, tyS, simprocAttr]
  clear hK K
  refine AX (hK _ _ _ ?_)
  clear hK K
  refine hw_seq fun K hK => Rg ?_
  iterate 4 refine S0 ?_
  refine T2 (hK _ _ _ ?_)
  clear hK K
  refine hw_ret ?_
  simp only [hpost, Tryz.results14, hresL, hres1, tupOf, ↓sP, sA, tyS, simprocAttr]
  refine hret_boxl2 [] z.cv (.slc (Kl.map dg)) (tp L c) ?_ rfl ?_ (by simp) ⟨z, Kl, c, rfl, rfl, rfl, by omega, hz, by simp at hb; omega⟩
  ·
   simp [HV.close, HV.closeL, Rt.denil, CV.denil, CV.denilL, denilL_dg, HV.norm, HV.toC, HV.toCL]
  simp [HV.close, HV.closeL, tp, CV.denil, CV.denilL, denilL_int, HV.norm, HV.toC, HV.toCL]
 refine hw_seq fun K hK => Rg ?_
 refine S0 ?_
 refine hlex_step (g := none) rfl rfl fun K' hK' => ?_
 simp only [sH, ↓sP, sA, tyS, simprocAttr]
 refine call_box (args := [_]) (next_ok L a1 3 (by omega) (by omega)) rfl (by simp) ⟨rfl, rfl, rfl, rfl⟩ ?_
 rintro u v' ⟨y1, a2, rfl, rfl, k2, k3, k4, k5⟩
 refine AX (hK' _ _ ?_)
 clear hK' K'
 refine S0 ?_
 refine T2 (hK _ _ _ ?_)
 clear hK K
 refine hw_cond (b := y1 == 0) rfl (fun hb => ?_) (fun hb => ?_)
 ·
  refine hw_draw2 mixed [(0, [], []), (1, [], []), (4, [], []), (2, [], [0, 4]), (3, [], [0, 4]), (5, [], [0]), (6, [], []), (7, [], []), (8, [], [])] [0, 0, 2, 6, 0, 30, 62, 127, 255] (by kernel_rfl) (by kernel_rfl) (by kernel_rfl) (by kernel_rfl) rfl (by kernel_rfl) ?_
  iterate 3 refine W0 ?_ (e := fun _ h_ => by simp only [sH, ↓sP, sA, tyS, simprocAttr, Rv.fold]; exact AX h_)
  refine hwalk2_step (g := none) rfl rfl fun K' hK' => ?_
  simp only [sH, ↓sP, sA, tyS, simprocAttr, Rv.fold]
  refine call_box (args := [_]) (next_ok L a2 6 (by omega) (by omega)) rfl (by simp) ⟨rfl, rfl, rfl, rfl⟩ ?_
  rintro u v' ⟨y2, a3, rfl, rfl, j2, j3, j4, j5⟩
  obtain ⟨n2, rfl⟩ : ∃ n : Nat, y2 = n := ⟨y2.toNat, by omega⟩
  refine AX (hK' _ _ ?_)
  clear hK' K'
  refine hwalk2_step (g := none) rfl rfl fun K' hK' => ?_
  simp only [sH, ↓sP, sA, tyS, simprocAttr, Rv.fold]
  refine call_pure (args := [_]) (mid_ok n2 (by omega)) ⟨rfl, rfl, rfl, rfl⟩ ?_
  rintro u rfl
  refine AX (hK' _ _ ?_)
  clear hK' K'
  refine hwalk2_step (g := none) rfl rfl fun K' hK' => ?_
  simp only [sH, ↓sP, sA, tyS, simprocAttr, Rv.fold]
  refine call_box (args := [_]) (next_ok L a3 20 (by omega) (by omega)) rfl (by simp) ⟨rfl, rfl, rfl, rfl⟩ ?_
  rintro u v' ⟨y3, a4, rfl, rfl, m2, m3, m4, m5⟩
  refine AX (hK' _ _ ?_)
  clear hK' K'
  refine W0 ?_ (e := fun _ h_ => by simp only [sH, ↓sP, sA, tyS, simprocAttr, Rv.fold]; exact AX h_)
  refine hwalk2_step (g := none) rfl rfl fun K' hK' => ?_
  simp only [sH, ↓sP, sA, tyS, simprocAttr, Rv.fold]
  refine call_pure (args := [_, _]) (revoke_ok z ⟨mid n2, y3⟩ hz) ⟨rfl, rfl, rfl, rfl⟩ ?_
  rintro u ⟨xs, rfl, hxs⟩
  refine AX (hK' _ _ ?_)
  clear hK' K'
  refine W0 ?_ (e := fun _ h_ => by simp only [sH, ↓sP, sA, tyS, simprocAttr, Rv.fold]; exact AX h_)
  simp only [sE, ↓reduceIte, simprocAttr]
  exact key ⟨z.v, z.e, z.q, z.k, xs⟩ a4 _ _ _ ⟨hz.1, hz.2.1, by show xs.length < _; omega⟩ (by omega) (fF)
 refine hw_skip ?_
 simp only [↓sP, sA, tyS, simprocAttr]
 exact key z a2 _ _ _ hz (by omega) (fF)


end Go.Proofs.YtenbfeemmpjdhaaGreatDoor

namespace Go.Proofs.YtenbfeemmpjdhaaGreatDoor
open Go Go.Hl Go.Pl Go.RowKit Go.Shelf
set_option maxRecDepth 100000
set_option linter.unusedVariables false

end Go.Proofs.YtenbfeemmpjdhaaGreatDoor

namespace Go.Proofs.YtenbfeemmpjdhaaGreatDoor
open Go Go.Hl Go.Pl Go.RowKit Go.Shelf
set_option maxRecDepth 100000
set_option linter.unusedVariables false
end Go.Proofs.YtenbfeemmpjdhaaGreatDoor

namespace Go.Proofs.YtenbfeemmpjdhaaGreatDoor
open Go Go.Hl Go.Pl
set_option maxRecDepth 10000
set_option maxHeartbeats 2000000
set_option linter.unusedSimpArgs false
set_option linter.unusedVariables false


theorem hex1_ok (bs : List UInt8) (hl : bs.length < 2 ^ 40) : HPure Tryz.prog 75 [.slc (bs.map u8)] (fun v => v = .str (hexL bs)) := by
 refine hfn_walk Tryz.func75 rfl (by kernel_rfl) (locOk_nil _) (Nat.le_of_ble_eq_true rfl) ?_
 refine R0 ?_
 refine R0 ?_
 refine R0 ?_
 refine hw_seq fun K hK => ?_
 refine R0 ?_
 refine hw_block ?_
 refine hw_own 4 0 5 1 rfl rfl rfl rfl ?_
 refine hw_loop (α := {i : Nat // i ≤ bs.length}) (fun i => (fin [(0, .c (.slc (bs.map u8))), (3, .c (.str [48, 49, 50, 51, 52, 53, 54, 55, 56, 57, 97, 98, 99, 100, 101, 102])), (4, .own 16 (hexL (bs.take i.1)).length), (5, .c (.int .i64 i.1))], fob [(16, .row 5 1 ((hexL (bs.take i.1)).map u8))])) 100 (fun i => bs.length - i.1) ⟨0, by omega⟩ (fF) ?_
 rintro ⟨i, hi⟩
 have hle := hexL_len (bs.take i)
 rw [List.length_take] at hle
 refine hw_seq fun K hK => ?_
 refine hw_seq fun K hK => Rg ?_
 iterate 4 refine S0 ?_
 refine T2 (hK _ _ _ ?_)
 clear hK K
 refine hw_cond (b := decide ((i : Int) < bs.length)) rfl (fun hb => ?_) (fun hb => ?_)
 ·
  have hlt : i < bs.length := by simpa using hb
  have hs := hexL_take hlt
  have h16 : ((bs[i].toNat / 16 : Nat) : Int) < 16 := by have := bs[i].toNat_lt; omega
  have h15 : ((bs[i].toNat % 16 : Nat) : Int) < 16 := by omega
  refine hw_skip ?_
  refine T0 (hK _ _ _ ?_)
  clear hK K
  refine hw_seq fun K hK => ?_
  refine hw_block ?_
  refine hw_draw2 mixed [(0, [], []), (1, [], []), (2, [], []), (3, [], []), (4, [], []), (5, [], []), (6, [], []), (7, [], []), (8, [], []), (9, [], []), (10, [], []), (11, [], []), (12, [], []), (13, [], []), (14, [], []), (15, [], []), (16, [], []), (17, [], [])] [0, 0, 0, 0, 12, 28, 60, 126, 0, 0, 0, 1536, 3584, 7680, 16128, 32766, 65535, 131071] (by kernel_rfl) (by kernel_rfl) (by kernel_rfl) (by kernel_rfl) rfl (by kernel_rfl) ?_
  iterate 18 refine W0 ?_ (e := fun _ h_ => by simp only [sH, ↓sP, sA, tyS, simprocAttr, Int.natCast_nonneg, Int.ofNat_lt, hlt, nth_map hlt, u8, List.length_append, List.length_map, shr4, and15, h16, h15]; exact AX h_)
  refine T2 (hK _ _ _ ?_)
  clear hK K
  refine hw_region (by kernel_rfl) ?_
  simp only [↓sP, sA, tyS, simprocAttr, i64s i]
  refine ⟨⟨i + 1, hlt⟩, fits_fin (by omega) ?_ ?_, ?_⟩
  ·
   rw [hs, hexB]
   simp [FinOk, upd_at, fin_at, HV.men]
  ·
   rw [hs, hexB, List.map_append]
   exact ⟨rfl, by omega, trivial, trivial⟩
  show bs.length - (i + 1) < bs.length - i
  omega
 refine hw_exit ?_
 simp only [↓sP, sA, tyS, simprocAttr]
 clear hK K
 refine AX (hK _ _ _ ?_)
 clear hK K
 refine hw_close [16] (hw_fits (fr2 := fin [(4, .c (.slc ((hexL (bs.take i)).map u8)))]) (ob2 := fob []) (nx2 := 200) (fits_fin (by omega) (by simp [FinOk, clF_at, fin_at, finA_at, upd_at, fob_at, HV.close, HV.closeL, CV.denil, CV.denilL, denilL_u8, HV.men, HV.menL, HV.norm, HV.toC, HV.toCL]) (by simp [FobOk, clO_at, fob_at, upd_at, none0_at, gone, HO.close, HV.close, HV.closeL, HO.men, HV.men, HV.menL, HV.norm, HV.toC, HV.toCL])) ?_)
 refine R0 ?_ (e := fun _ h_ => by simp only [↓sP, sA, tyS, simprocAttr, bytesC_u8]; exact AX h_)
 refine hw_ret ?_
 simp only [hpost, Tryz.results75, hresL, hres1, tupOf, ↓sP, sA, tyS, simprocAttr]
 have hei : i = bs.length := by simp at hb; omega
 subst hei
 exact hret_pure [] (.str (hexL bs)) (by rw [List.take_length]; rfl) rfl


theorem fmth1_ok (h : Half) : HPure Tryz.prog 28 [hf h] (fun v => v = .str (fmtH h)) := by
 refine hfn_walk Tryz.func28 rfl (by kernel_rfl) (locOk_nil _) (Nat.le_of_ble_eq_true rfl) ?_
 refine R0 ?_
 refine R0 ?_
 refine hw_seq fun K hK => ?_
 refine R0 ?_
 refine hw_block ?_
 refine hw_own 3 0 5 1 rfl rfl rfl rfl ?_
 refine hw_loop (α := {i : Nat // i ≤ 16}) (fun i => (fin [(1, .ptr 0 0), (3, .own 16 (h.1.take i.1).length), (4, .c (.int .i64 i.1))], fob [(0, .box 66 (.c (hf h))), (16, .row 5 1 ((h.1.take i.1).map u8))])) 100 (fun i => 16 - i.1) ⟨0, by omega⟩ (fF) ?_
 rintro ⟨i, hi⟩
 have hhl : h.1.length = 16 := h.2
 have hti : (h.1.take i).length = i := by simp; omega
 refine hw_seq fun K hK => ?_
 refine R0 ?_
 refine hw_cond (b := decide ((i : Int) < 16)) rfl (fun hb => ?_) (fun hb => ?_)
 ·
  have hlt : i < 16 := by simp at hb; omega
  have hlt' : (i : Int) < 16 := by omega
  have hlh : i < h.1.length := by rw [h.2]; exact hlt
  refine hw_skip ?_
  refine T0 (hK _ _ _ ?_)
  clear hK K
  refine hw_seq fun K hK => ?_
  refine hw_block ?_
  refine hw_region (by kernel_rfl) ?_
  simp only [sR, simprocAttr]
  iterate 7 refine S0 ?_ (e := fun _ h_ => by simp only [sH, ↓sP, sA, tyS, simprocAttr, Int.natCast_nonneg, hlt', hf_get hlt, Nat.mul_one, u8, hti, List.length_append, List.length_map]; exact AX h_)
  refine T2 (hK _ _ _ ?_)
  clear hK K
  refine hw_region (by kernel_rfl) ?_
  simp only [↓sP, sA, tyS, simprocAttr, i64s i]
  refine ⟨⟨i + 1, hlt⟩, fits_fin (by omega) ?_ ?_, ?_⟩
  ·
   simp [FinOk, upd_at, fin_at, HV.men, hhl]
   omega
  ·
   simp only [List.take_succ_eq_append_getElem hlh, List.map_append]
   exact ⟨rfl, by omega, trivial, rfl, by omega, trivial, trivial⟩
  show 16 - (i + 1) < 16 - i
  omega
 refine hw_exit ?_
 simp only [↓sP, sA, tyS, simprocAttr]
 clear hK K
 refine AX (hK _ _ _ ?_)
 clear hK K
 have hei : i = 16 := by simp at hb; omega
 subst hei
 rw [List.take_of_length_le (by omega)]
 refine hw_close [16] (hw_fits (fr2 := fin [(3, .c (.slc (h.1.map u8)))]) (ob2 := fob []) (nx2 := 200) (fits_fin (by omega) (by simp [FinOk, clF_at, fin_at, finA_at, upd_at, fob_at, HV.close, HV.closeL, CV.denil, CV.denilL, denilL_u8, HV.men, HV.menL, HV.norm, HV.toC, HV.toCL]) (by simp [FobOk, clO_at, fob_at, upd_at, none0_at, gone, HO.close, HV.close, HV.closeL, HO.men, HV.men, HV.menL, HV.norm, HV.toC, HV.toCL])) ?_)
 refine hw_seq fun K hK => Rg ?_
 refine S0 ?_ (e := fun _ h_ => by simp only [sH, ↓sP, sA, tyS, simprocAttr, denilL_u8]; exact AX h_)
 refine hlex_step (g := none) rfl rfl fun K' hK' => ?_
 simp only [sH, ↓sP, sA, tyS, simprocAttr, denilL_u8]
 refine call_pure (args := [_]) (hex1_ok h.1 (by rw [h.2]; omega)) ⟨rfl, rfl, rfl, rfl⟩ ?_
 rintro u rfl
 refine AX (hK' _ _ ?_)
 clear hK' K'
 refine S0 ?_ (e := fun _ h_ => by simp only [sH, ↓sP, sA, tyS, simprocAttr, denilL_u8]; exact AX h_)
 refine T2 (hK _ _ _ ?_)
 clear hK K
 refine hw_ret ?_
 simp only [hpost, Tryz.results28, hresL, hres1, tupOf, ↓sP, sA, tyS, simprocAttr]
 exact hret_pure [] (.str _) rfl rfl


theorem fmtd1_ok (d : Dig) : HPure Tryz.prog 29 [dg d] (fun v => v = .str (fmtD d)) := by
 refine hfn_walk Tryz.func29 rfl (by kernel_rfl) (locOk_nil _) (Nat.le_of_ble_eq_true rfl) ?_
 refine R0 ?_
 refine R0 ?_
 refine hw_seq fun K hK => ?_
 refine R0 ?_
 refine hw_block ?_
 refine hw_own 3 0 5 1 rfl rfl rfl rfl ?_
 refine hw_loop (α := {i : Nat // i ≤ 32}) (fun i => (fin [(1, .ptr 0 0), (3, .own 16 (d.1.take i.1).length), (4, .c (.int .i64 i.1))], fob [(0, .box 49 (.c (dg d))), (16, .row 5 1 ((d.1.take i.1).map u8))])) 100 (fun i => 32 - i.1) ⟨0, by omega⟩ (fF) ?_
 rintro ⟨i, hi⟩
 have hhl : d.1.length = 32 := d.2
 have hti : (d.1.take i).length = i := by simp; omega
 refine hw_seq fun K hK => ?_
 refine R0 ?_
 refine hw_cond (b := decide ((i : Int) < 32)) rfl (fun hb => ?_) (fun hb => ?_)
 ·
  have hlt : i < 32 := by simp at hb; omega
  have hlt' : (i : Int) < 32 := by omega
  have hlh : i < d.1.length := by rw [d.2]; exact hlt
  refine hw_skip ?_
  refine T0 (hK _ _ _ ?_)
  clear hK K
  refine hw_seq fun K hK => ?_
  refine hw_block ?_
  refine hw_region (by kernel_rfl) ?_
  simp only [sR, simprocAttr]
  iterate 7 refine S0 ?_ (e := fun _ h_ => by simp only [sH, ↓sP, sA, tyS, simprocAttr, Int.natCast_nonneg, hlt', dg_get hlt, Nat.mul_one, u8, hti, List.length_append, List.length_map]; exact AX h_)
  refine T2 (hK _ _ _ ?_)
  clear hK K
  refine hw_region (by kernel_rfl) ?_
  simp only [↓sP, sA, tyS, simprocAttr, i64s i]
  refine ⟨⟨i + 1, hlt⟩, fits_fin (by omega) ?_ ?_, ?_⟩
  ·
   simp [FinOk, upd_at, fin_at, HV.men, hhl]
   omega
  ·
   simp only [List.take_succ_eq_append_getElem hlh, List.map_append]
   exact ⟨rfl, by omega, trivial, rfl, by omega, trivial, trivial⟩
  show 32 - (i + 1) < 32 - i
  omega
 refine hw_exit ?_
 simp only [↓sP, sA, tyS, simprocAttr]
 clear hK K
 refine AX (hK _ _ _ ?_)
 clear hK K
 have hei : i = 32 := by simp at hb; omega
 subst hei
 rw [List.take_of_length_le (by omega)]
 have hle : 7 + (hexL d.1).length ≤ 9223372036854775807 := by rw [hexL_len, d.2]; omega
 refine hw_close [16] (hw_fits (fr2 := fin [(3, .c (.slc (d.1.map u8)))]) (ob2 := fob []) (nx2 := 200) (fits_fin (by omega) (by simp [FinOk, clF_at, fin_at, finA_at, upd_at, fob_at, HV.close, HV.closeL, CV.denil, CV.denilL, denilL_u8, HV.men, HV.menL, HV.norm, HV.toC, HV.toCL]) (by simp [FobOk, clO_at, fob_at, upd_at, none0_at, gone, HO.close, HV.close, HV.closeL, HO.men, HV.men, HV.menL, HV.norm, HV.toC, HV.toCL])) ?_)
 refine hw_seq fun K hK => Rg ?_
 refine S0 ?_ (e := fun _ h_ => by simp only [sH, ↓sP, sA, tyS, simprocAttr, hle, denilL_u8]; exact AX h_)
 refine hlex_step (g := none) rfl rfl fun K' hK' => ?_
 simp only [sH, ↓sP, sA, tyS, simprocAttr, hle, denilL_u8]
 refine call_pure (args := [_]) (hex1_ok d.1 (by rw [d.2]; omega)) ⟨rfl, rfl, rfl, rfl⟩ ?_
 rintro u rfl
 refine AX (hK' _ _ ?_)
 clear hK' K'
 iterate 2 refine S0 ?_ (e := fun _ h_ => by simp only [sH, ↓sP, sA, tyS, simprocAttr, hle, denilL_u8]; exact AX h_)
 refine T2 (hK _ _ _ ?_)
 clear hK K
 refine hw_ret ?_
 simp only [hpost, Tryz.results29, hresL, hres1, tupOf, ↓sP, sA, tyS, simprocAttr]
 exact hret_pure [] (.str _) rfl rfl

end Go.Proofs.YtenbfeemmpjdhaaGreatDoor

namespace Go.Proofs.YtenbfeemmpjdhaaGreatDoor
open Go Go.Hl Go.Pl Go.RowKit Go.Shelf
set_option maxRecDepth 100000

end Go.Proofs.YtenbfeemmpjdhaaGreatDoor
