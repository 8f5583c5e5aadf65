/- Part of a proof: walks of functions of the program, by contracts, and the rules they use. By an AI agent. -/
import Derived.Test.YtackchmdajdlaaaGreatHwTh
import Derived.Test.YtackchmdajdlaaaGreatHwSb
import Derived.Test.YtackchmdajdlaaaGreatHwT1
import Derived.Test.YtackchmdajdlaaaGreatHwTa
import Derived.Test.YtackchmdajdlaaaGreatHwT5
set_option linter.unusedSimpArgs false
set_option linter.unusedVariables false
set_option linter.defProp false
namespace Go.Proofs.YtackchmdajdlaaaGreat
open Go Go.Hl Go.Pl
set_option maxRecDepth 10000
set_option maxHeartbeats 8000000
set_option linter.unusedSimpArgs false
set_option linter.unusedVariables false
attribute [local simp] tp

theorem root_ok (L : List Int) (a : Nat) (v : Int) (ha : a + 200 < 2 ^ 40) : HBox Tryz.prog 28 33 (tp L a) [.int .i64 v] (fun u v' => ∃ (r : Rt) (a' : Nat), u = r.cv ∧ v' = tp L a' ∧ a' ≤ a + 150 ∧ rOk r ∧ (1 ≤ v → v ≤ maxN → validR r = true)) := by
 refine hfn_walk Tryz.func28 rfl (by kernel_rfl) (locOk_box _ _ _) (Nat.le_of_ble_eq_true rfl) ?_
 refine hw_seq fun K hK => hw_region (by kernel_rfl) ?_
 simp (maxSteps := 4000000) only [↓sP, sA, tyS, simprocAttr]
 repeat refine AI ?_
 refine hK _ _ _ ?_
 clear hK K
 refine hw_seq fun K hK => hw_region (by kernel_rfl) ?_
 simp only [sR, simprocAttr]
 iterate 2
  (refine hlex_step (g := none) rfl rfl fun K' hK' => ?_; simp only [sH, ↓sP, sA, tyS, simprocAttr]; (repeat refine AI ?_); refine hK' _ _ ?_; clear hK' K')
 refine hlex_step (g := none) rfl rfl fun K' hK' => ?_
 simp (maxSteps := 4000000) only [sH, ↓sP, sA, tyS, simprocAttr]
 refine call_box (args := [_]) (next_ok L a 100 (by omega) (by omega)) rfl (by simp) ⟨rfl, rfl, rfl, rfl⟩ ?_
 rintro u v' ⟨x0, a1, rfl, rfl, h1, h2, h3, h4⟩
 repeat refine AI ?_
 refine hK' _ _ ?_
 clear hK' K'
 iterate 4
  (refine hlex_step (g := none) rfl rfl fun K' hK' => ?_; simp only [sH, ↓sP, sA, tyS, simprocAttr]; (repeat refine AI ?_); refine hK' _ _ ?_; clear hK' K')
 simp only [sE, ↓reduceIte, simprocAttr]
 repeat refine AI ?_
 refine hK _ _ _ ?_
 clear hK K
 refine hw_seq fun K hK => hw_region (by kernel_rfl) ?_
 simp only [sR, simprocAttr]
 refine hlex_step (g := none) rfl rfl fun K' hK' => ?_
 simp (maxSteps := 4000000) only [sH, ↓sP, sA, tyS, simprocAttr]
 refine call_pure (args := []) roles_ok ⟨rfl, rfl, rfl, rfl⟩ ?_
 rintro u rfl
 repeat refine AI ?_
 refine hK' _ _ ?_
 clear hK' K'
 refine hlex_step (g := none) rfl rfl fun K' hK' => ?_
 simp (maxSteps := 4000000) only [sH, ↓sP, sA, tyS, simprocAttr]
 repeat refine AI ?_
 refine hK' _ _ ?_
 clear hK' K'
 simp only [sE, ↓reduceIte, simprocAttr]
 repeat refine AI ?_
 refine hK _ _ _ ?_
 clear hK K
 refine hw_seq fun K hK => ?_
 refine hw_seq fun K hK => hw_region (by kernel_rfl) ?_
 simp (maxSteps := 4000000) only [↓sP, sA, tyS, simprocAttr]
 repeat refine AI ?_
 refine hK _ _ _ ?_
 clear hK K
 refine hw_block ?_
 obtain ⟨e0, he0⟩ : ∃ e0, e0 = IntKind.i64.wrap (20 + x0) := ⟨_, rfl⟩
 refine hw_ownb 25 2 87 2 rfl rfl rfl rfl ?_
 refine hw_loop (α := {y : Nat × Nat × List Qt // y.1 ≤ 10 ∧ y.2.1 ≤ a + 1 + 2 * y.1 ∧ y.2.2.length ≤ y.1 ∧ ∀ q ∈ y.2.2, q.r ∈ roles10}) (fun y => (fin [(0, .ptr 0 0), (1, .c (.int .i64 v)), (4, .ptr 1 0), (5, .ptr 25 0), (6, .c (.slc (roles10.map .str))), (7, .c (.int .i64 y.1.1))], fob [(0, .box 33 (.c (tp L y.1.2.1))), (1, .box 26 (.c zR)), (25, .box 26 (.agg [.c (.int .i64 v), .c (.int .i64 e0), .own 45 y.1.2.2.length, .c .nils, .c .nils])), (45, .row 87 2 (y.1.2.2.map Qt.cv))])) 100 (fun y => 10 - y.1.1) ⟨(0, a1, []), by simp, by simp only; omega, by simp, by simp⟩ (fits_fin (by omega) (by simp [FinOk, fin_at, finA_at, upd_at, HV.men, HV.menL, HV.norm, HV.toC, HV.toCL]) (by simp [FobOk, fob_at, upd_at, none0_at, gone, HO.men, HV.men, HV.menL, HV.norm, HV.toC, HV.toCL, zR, he0])) ?_
 clear he0 h1 h2 h3 h4
 rintro ⟨⟨i, b, qs⟩, hi, hb0, hql, hqm⟩
 simp only at hi hb0 hql hqm ⊢
 have hrl : (roles10.map CV.str).length = 10 := rfl
 refine hw_seq fun K hK => ?_
 refine hw_seq fun K hK => hw_region (by kernel_rfl) ?_
 simp only [sR, simprocAttr]
 iterate 4
  (refine hlex_step (g := none) rfl rfl fun K' hK' => ?_; simp only [sH, ↓sP, sA, tyS, simprocAttr, hrl]; (repeat refine AI ?_); refine hK' _ _ ?_; clear hK' K')
 simp only [sE, ↓reduceIte, simprocAttr]
 repeat refine AI ?_
 refine hK _ _ _ ?_
 clear hK K
 refine hw_cond (b := decide ((i : Int) < 10)) rfl (fun hb => ?_) (fun hb => ?_)
 ·
  have hlt : i < 10 := by simp at hb; omega
  have hlt' : (i : Int) < 10 := by omega
  have hlr : i < roles10.length := hlt
  refine hw_skip ?_
  simp (maxSteps := 4000000) only [↓sP, sA, tyS, simprocAttr]
  repeat refine AI ?_
  refine hK _ _ _ ?_
  clear hK K
  refine hw_seq fun K hK => ?_
  have key : ∀ (b' : Nat) (qs' : List Qt) fr ob nx, b' ≤ a + 1 + 2 * (i + 1) → qs'.length ≤ i + 1 → (∀ q ∈ qs', q.r ∈ roles10) → Fits 1 fr ob (fin [(0, .ptr 0 0), (1, .c (.int .i64 v)), (4, .ptr 1 0), (5, .ptr 25 0), (6, .c (.slc (roles10.map .str))), (7, .c (.int .i64 i))]) (fob [(0, .box 33 (.c (tp L b'))), (1, .box 26 (.c zR)), (25, .box 26 (.agg [.c (.int .i64 v), .c (.int .i64 e0), .own 45 qs'.length, .c .nils, .c .nils])), (45, .row 87 2 (qs'.map Qt.cv))]) 400 → K fr ob nx := by
   intro b' qs' fr ob nx w1 w2 w3 hf
   refine hK _ _ _ (hw_fits hf ?_)
   clear hf hK K
   refine hw_region (by kernel_rfl) ?_
   simp (maxSteps := 4000000) only [↓sP, sA, tyS, simprocAttr, IntWalk.i64_in _ (show -9223372036854775808 ≤ (i : Int) + 1 ∧ (i : Int) + 1 ≤ 9223372036854775807 by omega)]
   refine ⟨⟨(i + 1, b', qs'), hlt, w1, w2, w3⟩, fits_fin (by omega) (by simp [FinOk, fin_at, finA_at, upd_at, HV.men, HV.menL, HV.norm, HV.toC, HV.toCL]) (by simp [FobOk, fob_at, upd_at, none0_at, gone, HO.men, HV.men, HV.menL, HV.norm, HV.toC, HV.toCL]), ?_⟩
   show 10 - (i + 1) < 10 - i
   omega
  refine hw_block ?_
  refine hw_seq fun K hK => hw_region (by kernel_rfl) ?_
  simp only [sR, simprocAttr]
  refine hlex_step (g := none) rfl rfl fun K' hK' => ?_
  simp (maxSteps := 4000000) only [sH, ↓sP, sA, tyS, simprocAttr, Int.natCast_nonneg, hrl, hlt', hlr, nth_map hlr]
  repeat refine AI ?_
  refine hK' _ _ ?_
  clear hK' K'
  refine hlex_step (g := none) rfl rfl fun K' hK' => ?_
  simp (maxSteps := 4000000) only [sH, ↓sP, sA, tyS, simprocAttr, Int.natCast_nonneg, hrl, hlt', hlr, nth_map hlr]
  refine call_box (args := [_]) (next_ok L b 8 (by omega) (by omega)) rfl (by simp) ⟨rfl, rfl, rfl, rfl⟩ ?_
  rintro u v' ⟨x1, b1, rfl, rfl, g1, g2, g3, g4⟩
  repeat refine AI ?_
  refine hK' _ _ ?_
  clear hK' K'
  iterate 2
   (refine hlex_step (g := none) rfl rfl fun K' hK' => ?_; simp only [sH, ↓sP, sA, tyS, simprocAttr, Int.natCast_nonneg, hrl, hlt', hlr, nth_map hlr]; (repeat refine AI ?_); refine hK' _ _ ?_; clear hK' K')
  refine hlex_cases 25 rfl (fun h6_25 => ?_) (fun h6_25 => ?_)
  ·
   iterate 5
    (refine hlex_step (g := some (26, false)) rfl rfl fun K' hK' => ?_; simp only [sH, ↓sP, sA, tyS, simprocAttr, Int.natCast_nonneg, hrl, hlt', hlr, nth_map hlr, h6_25]; (repeat refine AI ?_); refine hK' _ _ ?_; clear hK' K')
   refine hlex_step (g := none) rfl rfl fun K' hK' => ?_
   simp (maxSteps := 4000000) only [sH, ↓sP, sA, tyS, simprocAttr, Int.natCast_nonneg, hrl, hlt', hlr, nth_map hlr, h6_25]
   repeat refine AI ?_
   refine hK' _ _ ?_
   clear hK' K'
   simp only [sE, ↓reduceIte, simprocAttr]
   repeat refine AI ?_
   refine hK _ _ _ ?_
   clear hK K
   refine hw_cond (b := true) rfl (fun hb => ?_) (fun hb => ?_)
   ·
    refine hw_draw2 mixed [(0, [], []), (1, [], []), (2, [], []), (3, [], []), (4, [], []), (5, [], []), (6, [], []), (7, [], [0, 1, 2, 3, 4, 5]), (8, [], []), (9, [], []), (10, [], []), (11, [], []), (12, [], []), (13, [], []), (14, [], [])] [0, 1, 0, 0, 12, 28, 0, 64, 192, 448, 1020, 2044, 4095, 8191, 16383] (by kernel_rfl) (by kernel_rfl) (by kernel_rfl) (by kernel_rfl) rfl (by kernel_rfl) ?_
    iterate 7
     (refine hwalk2_step (g := none) rfl rfl fun K' hK' => ?_; simp only [sH, ↓sP, sA, tyS, simprocAttr, Int.natCast_nonneg, hrl, hlt', hlr, nth_map hlr, List.length_append, h6_25]; (repeat refine AI ?_); refine hK' _ _ ?_; clear hK' K')
    refine hwalk2_step (g := none) rfl rfl fun K' hK' => ?_
    simp (maxSteps := 4000000) only [sH, ↓sP, sA, tyS, simprocAttr, Int.natCast_nonneg, hrl, hlt', hlr, nth_map hlr, List.length_append, h6_25]
    refine call_box (args := [_]) (next_ok L b1 5 (by omega) (by omega)) rfl (by simp) ⟨rfl, rfl, rfl, rfl⟩ ?_
    rintro u v' ⟨x2, b2, rfl, rfl, k1, k2, k3, k4⟩
    repeat refine AI ?_
    refine hK' _ _ ?_
    clear hK' K'
    iterate 2
     (refine hwalk2_step (g := none) rfl rfl fun K' hK' => ?_; simp only [sH, ↓sP, sA, tyS, simprocAttr, Int.natCast_nonneg, hrl, hlt', hlr, nth_map hlr, List.length_append, h6_25]; (repeat refine AI ?_); refine hK' _ _ ?_; clear hK' K')
    refine hwalk2_step (g := none) rfl rfl fun K' hK' => ?_
    simp (maxSteps := 4000000) only [sH, ↓sP, sA, tyS, simprocAttr, Int.natCast_nonneg, hrl, hlt', hlr, nth_map hlr, List.length_append, h6_25]
    rw [hbuild_qt _ _ rfl rfl]
    repeat refine AI ?_
    refine hK' _ _ ?_
    clear hK' K'
    iterate 4
     (refine hwalk2_step (g := none) rfl rfl fun K' hK' => ?_; simp only [sH, ↓sP, sA, tyS, simprocAttr, Int.natCast_nonneg, hrl, hlt', hlr, nth_map hlr, List.length_append, h6_25]; (repeat refine AI ?_); refine hK' _ _ ?_; clear hK' K')
    simp only [sE, ↓reduceIte, simprocAttr]
    exact key b2 (qs ++ [⟨roles10[i], IntKind.i64.wrap (1 + IntKind.i64.wrap (x2.tdiv 3))⟩]) _ _ _ (by omega) (by simp; omega) (fun q hq => by
     rcases List.mem_append.1 hq with hq | hq
     ·
      exact hqm q hq
     ·
      rw [List.mem_singleton] at hq; rw [hq]; exact List.getElem_mem _) (fits_fin (by omega) (by simp [FinOk, fin_at, finA_at, upd_at, HV.men, HV.menL, HV.norm, HV.toC, HV.toCL]) (by simp [FobOk, fob_at, upd_at, none0_at, gone, HO.men, HV.men, HV.menL, HV.norm, HV.toC, HV.toCL]))
   ·
    cases hb
  ·
   iterate 5
    (refine hlex_step (g := some (26, false)) rfl rfl fun K' hK' => ?_; simp only [sH, ↓sP, sA, tyS, simprocAttr, Int.natCast_nonneg, hrl, hlt', hlr, nth_map hlr, h6_25]; (repeat refine AI ?_); refine hK' _ _ ?_; clear hK' K')
   refine hlex_step (g := none) rfl rfl fun K' hK' => ?_
   simp (maxSteps := 4000000) only [sH, ↓sP, sA, tyS, simprocAttr, Int.natCast_nonneg, hrl, hlt', hlr, nth_map hlr, h6_25]
   repeat refine AI ?_
   refine hK' _ _ ?_
   clear hK' K'
   refine hlex_cases 31 rfl (fun h6_31 => ?_) (fun h6_31 => ?_)
   ·
    simp only [h6_31]
    simp only [sE, ↓reduceIte, simprocAttr]
    repeat refine AI ?_
    refine hK _ _ _ ?_
    clear hK K
    refine hw_cond (b := true) rfl (fun hb => ?_) (fun hb => ?_)
    ·
     refine hw_draw2 mixed [(0, [], []), (1, [], []), (2, [], []), (3, [], []), (4, [], []), (5, [], []), (6, [], []), (7, [], [0, 1, 2, 3, 4, 5]), (8, [], []), (9, [], []), (10, [], []), (11, [], []), (12, [], []), (13, [], []), (14, [], [])] [0, 1, 0, 0, 12, 28, 0, 64, 192, 448, 1020, 2044, 4095, 8191, 16383] (by kernel_rfl) (by kernel_rfl) (by kernel_rfl) (by kernel_rfl) rfl (by kernel_rfl) ?_
     iterate 7
      (refine hwalk2_step (g := none) rfl rfl fun K' hK' => ?_; simp only [sH, ↓sP, sA, tyS, simprocAttr, Int.natCast_nonneg, hrl, hlt', hlr, nth_map hlr, List.length_append, h6_25, h6_31]; (repeat refine AI ?_); refine hK' _ _ ?_; clear hK' K')
     refine hwalk2_step (g := none) rfl rfl fun K' hK' => ?_
     simp (maxSteps := 4000000) only [sH, ↓sP, sA, tyS, simprocAttr, Int.natCast_nonneg, hrl, hlt', hlr, nth_map hlr, List.length_append, h6_25, h6_31]
     refine call_box (args := [_]) (next_ok L b1 5 (by omega) (by omega)) rfl (by simp) ⟨rfl, rfl, rfl, rfl⟩ ?_
     rintro u v' ⟨x2, b2, rfl, rfl, k1, k2, k3, k4⟩
     repeat refine AI ?_
     refine hK' _ _ ?_
     clear hK' K'
     iterate 2
      (refine hwalk2_step (g := none) rfl rfl fun K' hK' => ?_; simp only [sH, ↓sP, sA, tyS, simprocAttr, Int.natCast_nonneg, hrl, hlt', hlr, nth_map hlr, List.length_append, h6_25, h6_31]; (repeat refine AI ?_); refine hK' _ _ ?_; clear hK' K')
     refine hwalk2_step (g := none) rfl rfl fun K' hK' => ?_
     simp (maxSteps := 4000000) only [sH, ↓sP, sA, tyS, simprocAttr, Int.natCast_nonneg, hrl, hlt', hlr, nth_map hlr, List.length_append, h6_25, h6_31]
     rw [hbuild_qt _ _ rfl rfl]
     repeat refine AI ?_
     refine hK' _ _ ?_
     clear hK' K'
     iterate 4
      (refine hwalk2_step (g := none) rfl rfl fun K' hK' => ?_; simp only [sH, ↓sP, sA, tyS, simprocAttr, Int.natCast_nonneg, hrl, hlt', hlr, nth_map hlr, List.length_append, h6_25, h6_31]; (repeat refine AI ?_); refine hK' _ _ ?_; clear hK' K')
     simp only [sE, ↓reduceIte, simprocAttr]
     exact key b2 (qs ++ [⟨roles10[i], IntKind.i64.wrap (1 + IntKind.i64.wrap (x2.tdiv 3))⟩]) _ _ _ (by omega) (by simp; omega) (fun q hq => by
      rcases List.mem_append.1 hq with hq | hq
      ·
       exact hqm q hq
      ·
       rw [List.mem_singleton] at hq; rw [hq]; exact List.getElem_mem _) (fits_fin (by omega) (by simp [FinOk, fin_at, finA_at, upd_at, HV.men, HV.menL, HV.norm, HV.toC, HV.toCL]) (by simp [FobOk, fob_at, upd_at, none0_at, gone, HO.men, HV.men, HV.menL, HV.norm, HV.toC, HV.toCL]))
    ·
     cases hb
   ·
    simp only [h6_31]
    simp only [sE, ↓reduceIte, simprocAttr]
    repeat refine AI ?_
    refine hK _ _ _ ?_
    clear hK K
    refine hw_cond (b := false) rfl (fun hb => ?_) (fun hb => ?_)
    ·
     cases hb
    ·
     refine hw_skip ?_
     simp (maxSteps := 4000000) only [↓sP, sA, tyS, simprocAttr]
     exact key b1 qs _ _ _ (by omega) (by omega) hqm (fits_fin (by omega) (by simp [FinOk, fin_at, finA_at, upd_at, HV.men, HV.menL, HV.norm, HV.toC, HV.toCL]) (by simp [FobOk, fob_at, upd_at, none0_at, gone, HO.men, HV.men, HV.menL, HV.norm, HV.toC, HV.toCL]))
 ·
  refine hw_exit ?_
  simp (maxSteps := 4000000) only [↓sP, sA, tyS, simprocAttr]
  clear hK K
  repeat refine AI ?_
  refine hK _ _ _ ?_
  clear hK K
  refine hw_seq fun K hK => ?_
  clear hb
  refine hw_close [45] (hw_fits (fr2 := fin [(0, .ptr 0 0), (1, .c (.int .i64 v)), (4, .ptr 1 0), (5, .ptr 25 0)]) (ob2 := fob [(0, .box 33 (.c (tp L b))), (1, .box 26 (.c (Rt.cv ⟨0, 0, [], [], []⟩))), (25, .box 26 (.c (Rt.cv ⟨v, e0, qs, [], []⟩)))]) (nx2 := 200) (fits_fin (by omega) (by simp [FinOk, clF_at, fin_at, finA_at, upd_at, fob_at, HV.close, HV.closeL, CV.denil, CV.denilL, denilL_str, denilL_Rv, denilL_Qt, denilL_Ky, HV.men, HV.menL, HV.norm, HV.toC, HV.toCL]) (by simp [FobOk, clO_at, fob_at, upd_at, none0_at, gone, HO.close, HV.close, HV.closeL, HO.men, HV.men, HV.menL, HV.norm, HV.toC, HV.toCL, Rt.denil, zR, Rt.cv, CV.denil, CV.denilL, denilL_str, denilL_Rv, denilL_Qt, denilL_Ky, denilL_int])) ?_)
  refine hw_seq fun K hK => hw_region (by kernel_rfl) ?_
  simp (maxSteps := 4000000) only [↓sP, sA, tyS, simprocAttr]
  repeat refine AI ?_
  refine hK _ _ _ ?_
  clear hK K
  refine hw_block ?_
  refine hw_loop (α := {y : Nat × Nat × List Ky // y.1 ≤ 6 ∧ y.2.1 ≤ a + 21 + 14 * y.1 ∧ y.2.2.length ≤ y.1 ∧ ∀ k ∈ y.2.2, kOk k}) (fun y => (fin [(0, .ptr 0 0), (1, .c (.int .i64 v)), (4, .ptr 1 0), (5, .ptr 25 0), (8, .c (.int .i64 y.1.1))], fob [(0, .box 33 (.c (tp L y.1.2.1))), (1, .box 26 (.c (Rt.cv ⟨0, 0, [], [], []⟩))), (25, .box 26 (.c (Rt.cv ⟨v, e0, qs, y.1.2.2, []⟩)))])) 300 (fun y => 6 - y.1.1) ⟨(0, b, []), by simp, by simp only; omega, by simp, by simp⟩ (fits_fin (by omega) (by simp [FinOk, fin_at, finA_at, upd_at, HV.men, HV.menL, HV.norm, HV.toC, HV.toCL]) (by simp [FobOk, fob_at, upd_at, none0_at, gone, HO.men, HV.men, HV.menL, HV.norm, HV.toC, HV.toCL])) ?_
  clear hb0
  rintro ⟨⟨j, b, ks⟩, hj, hb0, hkl, hkm⟩
  simp only at hj hb0 hkl hkm ⊢
  refine hw_seq fun K hK => ?_
  refine hw_seq fun K hK => hw_region (by kernel_rfl) ?_
  simp (maxSteps := 4000000) only [↓sP, sA, tyS, simprocAttr]
  repeat refine AI ?_
  refine hK _ _ _ ?_
  clear hK K
  refine hw_cond (b := decide ((j : Int) < 6)) rfl (fun hb => ?_) (fun hb => ?_)
  ·
   have hlt : j < 6 := by simp at hb; omega
   refine hw_skip ?_
   simp (maxSteps := 4000000) only [↓sP, sA, tyS, simprocAttr]
   repeat refine AI ?_
   refine hK _ _ _ ?_
   clear hK K
   refine hw_seq fun K hK => ?_
   have key : ∀ (b' : Nat) (ks' : List Ky) fr ob nx, b' ≤ a + 21 + 14 * (j + 1) → ks'.length ≤ j + 1 → (∀ k ∈ ks', kOk k) → Fits 1 fr ob (fin [(0, .ptr 0 0), (1, .c (.int .i64 v)), (4, .ptr 1 0), (5, .ptr 25 0), (8, .c (.int .i64 j))]) (fob [(0, .box 33 (.c (tp L b'))), (1, .box 26 (.c (Rt.cv ⟨0, 0, [], [], []⟩))), (25, .box 26 (.c (Rt.cv ⟨v, e0, qs, ks', []⟩)))]) 500 → K fr ob nx := by
    intro b' ks' fr ob nx w1 w2 w3 hf
    refine hK _ _ _ (hw_fits hf ?_)
    clear hf hK K
    refine hw_region (by kernel_rfl) ?_
    simp (maxSteps := 4000000) only [↓sP, sA, tyS, simprocAttr, IntWalk.i64_in _ (show -9223372036854775808 ≤ (j : Int) + 1 ∧ (j : Int) + 1 ≤ 9223372036854775807 by omega)]
    refine ⟨⟨(j + 1, b', ks'), hlt, w1, w2, w3⟩, fits_fin (by omega) (by simp [FinOk, fin_at, finA_at, upd_at, HV.men, HV.menL, HV.norm, HV.toC, HV.toCL]) (by simp [FobOk, fob_at, upd_at, none0_at, gone, HO.men, HV.men, HV.menL, HV.norm, HV.toC, HV.toCL]), ?_⟩
    show 6 - (j + 1) < 6 - j
    omega
   refine hw_block ?_
   refine hw_seq fun K hK => ?_
   refine hw_seq fun K hK => hw_region (by kernel_rfl) ?_
   simp only [sR, simprocAttr]
   refine hlex_step (g := none) rfl rfl fun K' hK' => ?_
   simp (maxSteps := 4000000) only [sH, ↓sP, sA, tyS, simprocAttr]
   repeat refine AI ?_
   refine hK' _ _ ?_
   clear hK' K'
   refine hlex_step (g := none) rfl rfl fun K' hK' => ?_
   simp (maxSteps := 4000000) only [sH, ↓sP, sA, tyS, simprocAttr]
   refine call_box (args := [_]) (next_ok L b 6 (by omega) (by omega)) rfl (by simp) ⟨rfl, rfl, rfl, rfl⟩ ?_
   rintro u v' ⟨x1, b1, rfl, rfl, g1, g2, g3, g4⟩
   repeat refine AI ?_
   refine hK' _ _ ?_
   clear hK' K'
   refine hlex_step (g := none) rfl rfl fun K' hK' => ?_
   simp (maxSteps := 4000000) only [sH, ↓sP, sA, tyS, simprocAttr]
   repeat refine AI ?_
   refine hK' _ _ ?_
   clear hK' K'
   simp only [sE, ↓reduceIte, simprocAttr]
   repeat refine AI ?_
   refine hK _ _ _ ?_
   clear hK K
   refine hw_cond (b := x1 == 0) rfl (fun hb => ?_) (fun hb => ?_)
   ·
    refine hw_exit ?_
    simp (maxSteps := 4000000) only [↓sP, sA, tyS, simprocAttr]
    clear hK K
    exact key b1 ks _ _ _ (by omega) (by omega) hkm (fits_fin (by omega) (by simp [FinOk, fin_at, finA_at, upd_at, HV.men, HV.menL, HV.norm, HV.toC, HV.toCL]) (by simp [FobOk, fob_at, upd_at, none0_at, gone, HO.men, HV.men, HV.menL, HV.norm, HV.toC, HV.toCL]))
   ·
    refine hw_skip ?_
    simp (maxSteps := 4000000) only [↓sP, sA, tyS, simprocAttr]
    repeat refine AI ?_
    refine hK _ _ _ ?_
    clear hK K
    refine hw_seq fun K hK => hw_region (by kernel_rfl) ?_
    simp only [sR, simprocAttr]
    refine hlex_step (g := none) rfl rfl fun K' hK' => ?_
    simp (maxSteps := 4000000) only [sH, ↓sP, sA, tyS, simprocAttr]
    repeat refine AI ?_
    refine hK' _ _ ?_
    clear hK' K'
    refine hlex_step (g := none) rfl rfl fun K' hK' => ?_
    simp (maxSteps := 4000000) only [sH, ↓sP, sA, tyS, simprocAttr]
    refine call_box (args := [_]) (next_ok L b1 6 (by omega) (by omega)) rfl (by simp) ⟨rfl, rfl, rfl, rfl⟩ ?_
    rintro u v' ⟨x2, b2, rfl, rfl, k1, k2, k3, k4⟩
    repeat refine AI ?_
    refine hK' _ _ ?_
    clear hK' K'
    refine hlex_step (g := none) rfl rfl fun K' hK' => ?_
    simp (maxSteps := 4000000) only [sH, ↓sP, sA, tyS, simprocAttr]
    repeat refine AI ?_
    refine hK' _ _ ?_
    clear hK' K'
    simp only [sE, ↓reduceIte, simprocAttr]
    repeat refine AI ?_
    refine hK _ _ _ ?_
    clear hK K
    refine hw_draw2 mixed [(0, [], []), (1, [], []), (2, [], []), (4, [], []), (6, [], []), (8, [], []), (9, [], []), (10, [], []), (11, [], []), (3, [], [0, 1, 4, 6, 8, 9, 10, 11]), (5, [], [0, 1, 6, 8, 9, 10, 11]), (7, [], [0, 1, 8, 9, 10, 11]), (12, [], [0, 1, 8, 9, 10]), (13, [], []), (14, [], []), (15, [], []), (16, [], []), (17, [], [])] [0, 1, 0, 4, 0, 28, 0, 124, 0, 0, 512, 0, 2300, 7932, 16380, 32767, 65535, 131071] (by kernel_rfl) (by kernel_rfl) (by kernel_rfl) (by kernel_rfl) rfl (by kernel_rfl) ?_
    iterate 9
     (refine hwalk2_step (g := none) rfl rfl fun K' hK' => ?_; simp only [sH, ↓sP, sA, tyS, simprocAttr, denilL_Ky, denilL_str, Rt.fold]; (repeat refine AI ?_); refine hK' _ _ ?_; clear hK' K')
    refine hwalk2_step (g := none) rfl rfl fun K' hK' => ?_
    simp (maxSteps := 4000000) only [sH, ↓sP, sA, tyS, simprocAttr, denilL_Ky, denilL_str, Rt.fold]
    refine call_pure (args := [_]) (public_ok j (by omega)) ⟨rfl, rfl, rfl, rfl⟩ ?_
    rintro u rfl
    repeat refine AI ?_
    refine hK' _ _ ?_
    clear hK' K'
    refine hwalk2_step (g := none) rfl rfl fun K' hK' => ?_
    simp (maxSteps := 4000000) only [sH, ↓sP, sA, tyS, simprocAttr, denilL_Ky, denilL_str, Rt.fold]
    refine call_pure (args := [_]) (owner_ok j (by omega)) ⟨rfl, rfl, rfl, rfl⟩ ?_
    rintro u rfl
    repeat refine AI ?_
    refine hK' _ _ ?_
    clear hK' K'
    refine hwalk2_step (g := none) rfl rfl fun K' hK' => ?_
    simp (maxSteps := 4000000) only [sH, ↓sP, sA, tyS, simprocAttr, denilL_Ky, denilL_str, Rt.fold]
    refine call_box (args := []) (some_ok L b2 (by omega)) rfl (by simp) ⟨rfl, rfl, rfl, rfl⟩ ?_
    rintro u v' ⟨ws, b3, rfl, rfl, n1, n2, n3⟩
    repeat refine AI ?_
    refine hK' _ _ ?_
    clear hK' K'
    refine hwalk2_step (g := none) rfl rfl fun K' hK' => ?_
    simp (maxSteps := 4000000) only [sH, ↓sP, sA, tyS, simprocAttr, denilL_Ky, denilL_str, Rt.fold]
    refine call_box (args := [_]) (next_ok L b3 60 (by omega) (by omega)) rfl (by simp) ⟨rfl, rfl, rfl, rfl⟩ ?_
    rintro u v' ⟨x3, b4, rfl, rfl, o1, o2, o3, o4⟩
    obtain ⟨un, hun⟩ : ∃ un, un = IntKind.i64.wrap (IntKind.i64.wrap (x2 + 1) + x3) := ⟨_, rfl⟩
    repeat refine AI ?_
    refine hK' _ _ ?_
    clear hK' K'
    iterate 2
     (refine hwalk2_step (g := none) rfl rfl fun K' hK' => ?_; simp only [sH, ↓sP, sA, tyS, simprocAttr, denilL_Ky, denilL_str, Rt.fold]; (repeat refine AI ?_); refine hK' _ _ ?_; clear hK' K')
    refine hwalk2_step (g := none) rfl rfl fun K' hK' => ?_
    simp (maxSteps := 4000000) only [sH, ↓sP, sA, tyS, simprocAttr, denilL_Ky, denilL_str, Rt.fold]
    refine call_pure (args := [_, _]) (insert_ok ks ⟨mPub j, mOwner j, ws, x2, IntKind.i64.wrap (IntKind.i64.wrap (x2 + 1) + x3)⟩ (by omega)) ⟨rfl, rfl, rfl, rfl⟩ ?_
    rintro u rfl
    repeat refine AI ?_
    refine hK' _ _ ?_
    clear hK' K'
    iterate 2
     (refine hwalk2_step (g := none) rfl rfl fun K' hK' => ?_; simp only [sH, ↓sP, sA, tyS, simprocAttr, denilL_Ky, denilL_str, Rt.fold]; (repeat refine AI ?_); refine hK' _ _ ?_; clear hK' K')
    simp only [sE, ↓reduceIte, simprocAttr]
    exact key b4 (insK ks ⟨mPub j, mOwner j, ws, x2, IntKind.i64.wrap (IntKind.i64.wrap (x2 + 1) + x3)⟩) _ _ _ (by omega) (by rw [insK_len]; omega) (fun k hk => by
     rcases insK_mem hk with hk | rfl
     ·
      exact hkm k hk
     ·
      exact mKey_ok j ws _ _ n2 n3) (fits_fin (by omega) (by simp [FinOk, fin_at, finA_at, upd_at, HV.men, HV.menL, HV.norm, HV.toC, HV.toCL]) (by simp [FobOk, fob_at, upd_at, none0_at, gone, HO.men, HV.men, HV.menL, HV.norm, HV.toC, HV.toCL]; rfl))
  ·
   clear hb
   refine hw_exit ?_
   simp (maxSteps := 4000000) only [↓sP, sA, tyS, simprocAttr]
   clear hK K
   repeat refine AI ?_
   refine hK _ _ _ ?_
   clear hK K
   refine hw_seq fun K hK => ?_
   have key : ∀ (b' : Nat) (r : Rt) fr ob nx, b' ≤ a + 150 → rOk r → Fits 1 fr ob (fin [(0, .ptr 0 0), (1, .c (.int .i64 v)), (4, .ptr 1 0), (5, .ptr 25 0)]) (fob [(0, .box 33 (.c (tp L b'))), (1, .box 26 (.c (Rt.cv ⟨0, 0, [], [], []⟩))), (25, .box 26 (.c r.cv))]) 600 → K fr ob nx := by
    intro b' r fr ob nx w1 w2 hf
    refine hK _ _ _ (hw_fits hf ?_)
    clear hf hK K
    refine hw_seq fun K hK => ?_
    refine hw_seq fun K hK => hw_region (by kernel_rfl) ?_
    simp only [sR, simprocAttr]
    refine hlex_step (g := none) rfl rfl fun K' hK' => ?_
    simp (maxSteps := 4000000) only [sH, ↓sP, sA, tyS, simprocAttr]
    repeat refine AI ?_
    refine hK' _ _ ?_
    clear hK' K'
    refine hlex_step (g := none) rfl rfl fun K' hK' => ?_
    simp (maxSteps := 4000000) only [sH, ↓sP, sA, tyS, simprocAttr]
    refine call_pure (args := [_]) (rvalid_ok r w2.1) ⟨rfl, rfl, rfl, rfl⟩ ?_
    rintro u rfl
    repeat refine AI ?_
    refine hK' _ _ ?_
    clear hK' K'
    refine hlex_step (g := none) rfl rfl fun K' hK' => ?_
    simp (maxSteps := 4000000) only [sH, ↓sP, sA, tyS, simprocAttr]
    repeat refine AI ?_
    refine hK' _ _ ?_
    clear hK' K'
    simp only [sE, ↓reduceIte, simprocAttr]
    repeat refine AI ?_
    refine hK _ _ _ ?_
    clear hK K
    refine hw_cond (b := !validR r) rfl (fun hb => ?_) (fun hb => ?_)
    ·
     refine hw_seq fun K hK => hw_region (by kernel_rfl) ?_
     simp only [sR, simprocAttr]
     refine hlex_step (g := none) rfl rfl fun K' hK' => ?_
     simp (maxSteps := 4000000) only [sH, ↓sP, sA, tyS, simprocAttr]
     refine call_pure (args := []) mfull_ok ⟨rfl, rfl, rfl, rfl⟩ ?_
     rintro u rfl
     repeat refine AI ?_
     refine hK' _ _ ?_
     clear hK' K'
     iterate 2
      (refine hlex_step (g := none) rfl rfl fun K' hK' => ?_; simp only [sH, ↓sP, sA, tyS, simprocAttr]; (repeat refine AI ?_); refine hK' _ _ ?_; clear hK' K')
     simp only [sE, ↓reduceIte, simprocAttr]
     repeat refine AI ?_
     refine hK _ _ _ ?_
     clear hK K
     refine hw_seq fun K hK => hw_region (by kernel_rfl) ?_
     simp (maxSteps := 4000000) only [↓sP, sA, tyS, simprocAttr, Rt.fold]
     repeat refine AI ?_
     refine hK _ _ _ ?_
     clear hK K
     refine hw_seq fun K hK => hw_region (by kernel_rfl) ?_
     simp (maxSteps := 4000000) only [↓sP, sA, tyS, simprocAttr]
     repeat refine AI ?_
     refine hK _ _ _ ?_
     clear hK K
     refine hw_ret ?_
     simp (maxSteps := 4000000) only [hpost, Tryz.results28, hresL, hres1, tupOf, ↓sP, sA, tyS, simprocAttr]
     refine hret_box [] (Rt.cv ⟨v, full.e, full.q, full.k, full.x⟩) (tp L b') (close_c (Rt.denil _)) rfl ?_ (by simp) ⟨_, b', rfl, rfl, w1, full_ok v, full_valid_v⟩
     simp [HV.close, HV.closeL, tp, CV.denil, CV.denilL, denilL_int, HV.norm, HV.toC, HV.toCL]
    ·
     refine hw_skip ?_
     simp (maxSteps := 4000000) only [↓sP, sA, tyS, simprocAttr]
     repeat refine AI ?_
     refine hK _ _ _ ?_
     clear hK K
     refine hw_seq fun K hK => hw_region (by kernel_rfl) ?_
     simp (maxSteps := 4000000) only [↓sP, sA, tyS, simprocAttr]
     repeat refine AI ?_
     refine hK _ _ _ ?_
     clear hK K
     refine hw_ret ?_
     simp (maxSteps := 4000000) only [hpost, Tryz.results28, hresL, hres1, tupOf, ↓sP, sA, tyS, simprocAttr]
     refine hret_box [] r.cv (tp L b') (close_c (Rt.denil _)) rfl ?_ (by simp) ⟨r, b', rfl, rfl, w1, w2, fun _ _ => by simpa using hb⟩
     simp [HV.close, HV.closeL, tp, CV.denil, CV.denilL, denilL_int, HV.norm, HV.toC, HV.toCL]
   refine hw_seq fun K hK => hw_region (by kernel_rfl) ?_
   simp only [sR, simprocAttr]
   refine hlex_step (g := none) rfl rfl fun K' hK' => ?_
   simp (maxSteps := 4000000) only [sH, ↓sP, sA, tyS, simprocAttr]
   repeat refine AI ?_
   refine hK' _ _ ?_
   clear hK' K'
   refine hlex_step (g := none) rfl rfl fun K' hK' => ?_
   simp (maxSteps := 4000000) only [sH, ↓sP, sA, tyS, simprocAttr]
   refine call_box (args := [_]) (next_ok L b 4 (by omega) (by omega)) rfl (by simp) ⟨rfl, rfl, rfl, rfl⟩ ?_
   rintro u v' ⟨x1, b1, rfl, rfl, g1, g2, g3, g4⟩
   repeat refine AI ?_
   refine hK' _ _ ?_
   clear hK' K'
   refine hlex_step (g := none) rfl rfl fun K' hK' => ?_
   simp (maxSteps := 4000000) only [sH, ↓sP, sA, tyS, simprocAttr]
   repeat refine AI ?_
   refine hK' _ _ ?_
   clear hK' K'
   simp only [sE, ↓reduceIte, simprocAttr]
   repeat refine AI ?_
   refine hK _ _ _ ?_
   clear hK K
   refine hw_cond (b := x1 == 0) rfl (fun hb => ?_) (fun hb => ?_)
   ·
    refine hw_draw2 mixed [(0, [], []), (1, [], []), (4, [], []), (2, [], [0, 4]), (3, [], [0, 4]), (5, [], [0]), (6, [], []), (7, [], []), (8, [], [])] [0, 0, 2, 6, 0, 30, 62, 127, 255] (by kernel_rfl) (by kernel_rfl) (by kernel_rfl) (by kernel_rfl) rfl (by kernel_rfl) ?_
    iterate 3
     (refine hwalk2_step (g := none) rfl rfl fun K' hK' => ?_; simp only [sH, ↓sP, sA, tyS, simprocAttr, Rv.fold]; (repeat refine AI ?_); refine hK' _ _ ?_; clear hK' K')
    refine hwalk2_step (g := none) rfl rfl fun K' hK' => ?_
    simp (maxSteps := 4000000) only [sH, ↓sP, sA, tyS, simprocAttr, Rv.fold]
    refine call_box (args := [_]) (next_ok L b1 7 (by omega) (by omega)) rfl (by simp) ⟨rfl, rfl, rfl, rfl⟩ ?_
    rintro u v' ⟨x2, b2, rfl, rfl, k1, k2, k3, k4⟩
    obtain ⟨m, rfl⟩ : ∃ m : Nat, x2 = m := ⟨x2.toNat, by omega⟩
    repeat refine AI ?_
    refine hK' _ _ ?_
    clear hK' K'
    refine hwalk2_step (g := none) rfl rfl fun K' hK' => ?_
    simp (maxSteps := 4000000) only [sH, ↓sP, sA, tyS, simprocAttr, Rv.fold]
    refine call_pure (args := [_]) (mid_ok m (by omega)) ⟨rfl, rfl, rfl, rfl⟩ ?_
    rintro u rfl
    repeat refine AI ?_
    refine hK' _ _ ?_
    clear hK' K'
    refine hwalk2_step (g := none) rfl rfl fun K' hK' => ?_
    simp (maxSteps := 4000000) only [sH, ↓sP, sA, tyS, simprocAttr, Rv.fold]
    refine call_box (args := [_]) (next_ok L b2 30 (by omega) (by omega)) rfl (by simp) ⟨rfl, rfl, rfl, rfl⟩ ?_
    rintro u v' ⟨x3, b3, rfl, rfl, o1, o2, o3, o4⟩
    repeat refine AI ?_
    refine hK' _ _ ?_
    clear hK' K'
    refine hwalk2_step (g := none) rfl rfl fun K' hK' => ?_
    simp (maxSteps := 4000000) only [sH, ↓sP, sA, tyS, simprocAttr, Rv.fold]
    repeat refine AI ?_
    refine hK' _ _ ?_
    clear hK' K'
    refine hwalk2_step (g := none) rfl rfl fun K' hK' => ?_
    simp (maxSteps := 4000000) only [sH, ↓sP, sA, tyS, simprocAttr, Rv.fold]
    refine call_pure (args := [_, _]) (revoke_ok ⟨v, e0, qs, ks, []⟩ ⟨mid m, x3⟩ (rOk_of (by omega) hqm (by omega) hkm (by simp)).1) ⟨rfl, rfl, rfl, rfl⟩ ?_
    rintro u ⟨xs, rfl, hxs⟩
    repeat refine AI ?_
    refine hK' _ _ ?_
    clear hK' K'
    refine hwalk2_step (g := none) rfl rfl fun K' hK' => ?_
    simp (maxSteps := 4000000) only [sH, ↓sP, sA, tyS, simprocAttr, Rv.fold]
    repeat refine AI ?_
    refine hK' _ _ ?_
    clear hK' K'
    simp only [sE, ↓reduceIte, simprocAttr]
    exact key b3 ⟨v, e0, qs, ks, xs⟩ _ _ _ (by omega) (rOk_of (by omega) hqm (by omega) hkm (by simpa using hxs)) (fits_fin (by omega) (by simp [FinOk, fin_at, finA_at, upd_at, HV.men, HV.menL, HV.norm, HV.toC, HV.toCL]) (by simp [FobOk, fob_at, upd_at, none0_at, gone, HO.men, HV.men, HV.menL, HV.norm, HV.toC, HV.toCL]))
   ·
    refine hw_skip ?_
    simp (maxSteps := 4000000) only [↓sP, sA, tyS, simprocAttr]
    exact key b1 ⟨v, e0, qs, ks, []⟩ _ _ _ (by omega) (rOk_of (by omega) hqm (by omega) hkm (by simp)) (fits_fin (by omega) (by simp [FinOk, fin_at, finA_at, upd_at, HV.men, HV.menL, HV.norm, HV.toC, HV.toCL]) (by simp [FobOk, fob_at, upd_at, none0_at, gone, HO.men, HV.men, HV.menL, HV.norm, HV.toC, HV.toCL]))


theorem awake_ok : HPure Tryz.prog 22 [] (fun v => v = .bool true) := by
 refine hfn_walk Tryz.func22 rfl (by kernel_rfl) (locOk_nil _) (Nat.le_of_ble_eq_true rfl) ?_
 refine hw_seq fun K hK => hw_region (by kernel_rfl) ?_
 simp (maxSteps := 4000000) only [↓sP, sA, tyS, simprocAttr]
 repeat refine AI ?_
 refine hK _ _ _ ?_
 clear hK K
 refine hw_seq fun K hK => hw_region (by kernel_rfl) ?_
 simp only [sR, simprocAttr]
 refine hlex_step (g := none) rfl rfl fun K' hK' => ?_
 simp (maxSteps := 4000000) only [sH, ↓sP, sA, tyS, simprocAttr]
 refine call_pure (args := []) mfull_ok ⟨rfl, rfl, rfl, rfl⟩ ?_
 rintro u rfl
 repeat refine AI ?_
 refine hK' _ _ ?_
 clear hK' K'
 iterate 2
  (refine hlex_step (g := none) rfl rfl fun K' hK' => ?_; simp only [sH, ↓sP, sA, tyS, simprocAttr]; (repeat refine AI ?_); refine hK' _ _ ?_; clear hK' K')
 simp only [sE, ↓reduceIte, simprocAttr]
 repeat refine AI ?_
 refine hK _ _ _ ?_
 clear hK K
 refine hw_seq fun K hK => hw_draw2 mixed [(0, [], []), (1, [], []), (2, [], []), (3, [], []), (4, [], []), (5, [], []), (6, [], []), (7, [], []), (8, [], []), (9, [], [8]), (10, [], []), (11, [], []), (12, [], []), (13, [], [])] [0, 1, 3, 7, 15, 31, 63, 127, 255, 255, 767, 2047, 4095, 8191] (by kernel_rfl) (by kernel_rfl) (by kernel_rfl) (by kernel_rfl) rfl (by kernel_rfl) ?_
 refine hwalk2_step (g := none) rfl rfl fun K' hK' => ?_
 simp (maxSteps := 4000000) only [sH, ↓sP, sA, tyS, simprocAttr, full_valid, full_need, full_enough, gone_at]
 repeat refine AI ?_
 refine hK' _ _ ?_
 clear hK' K'
 refine hwalk2_step (g := none) rfl rfl fun K' hK' => ?_
 simp (maxSteps := 4000000) only [sH, ↓sP, sA, tyS, simprocAttr, full_valid, full_need, full_enough, gone_at]
 refine call_pure (args := [_]) (valid_ok full (full_ok 1).1) ⟨rfl, rfl, rfl, rfl⟩ ?_
 rintro u rfl
 repeat refine AI ?_
 refine hK' _ _ ?_
 clear hK' K'
 refine hwalk2_step (g := none) rfl rfl fun K' hK' => ?_
 simp (maxSteps := 4000000) only [sH, ↓sP, sA, tyS, simprocAttr, full_valid, full_need, full_enough, gone_at]
 repeat refine AI ?_
 refine hK' _ _ ?_
 clear hK' K'
 refine hwalk2_step (g := some (5, true)) rfl rfl fun K' hK' => ?_
 simp (maxSteps := 4000000) only [sH, ↓sP, sA, tyS, simprocAttr, full_valid, full_need, full_enough, gone_at]
 repeat refine AI ?_
 refine hK' _ _ ?_
 clear hK' K'
 refine hwalk2_step (g := some (5, true)) rfl rfl fun K' hK' => ?_
 simp (maxSteps := 4000000) only [sH, ↓sP, sA, tyS, simprocAttr, full_valid, full_need, full_enough, gone_at]
 refine call_pure (args := [_, _]) (tneed_ok full wStep (full_ok 1).1) ⟨rfl, rfl, rfl, rfl⟩ ?_
 rintro u rfl
 rw [full_need]
 repeat refine AI ?_
 refine hK' _ _ ?_
 clear hK' K'
 refine hwalk2_step (g := some (5, true)) rfl rfl fun K' hK' => ?_
 simp (maxSteps := 4000000) only [sH, ↓sP, sA, tyS, simprocAttr, full_valid, full_need, full_enough, gone_at]
 repeat refine AI ?_
 refine hK' _ _ ?_
 clear hK' K'
 iterate 2
  (refine hwalk2_step (g := none) rfl rfl fun K' hK' => ?_; simp only [sH, ↓sP, sA, tyS, simprocAttr, full_valid, full_need, full_enough, gone_at]; (repeat refine AI ?_); refine hK' _ _ ?_; clear hK' K')
 refine hwalk2_step (g := some (10, true)) rfl rfl fun K' hK' => ?_
 simp (maxSteps := 4000000) only [sH, ↓sP, sA, tyS, simprocAttr, full_valid, full_need, full_enough, gone_at]
 repeat refine AI ?_
 refine hK' _ _ ?_
 clear hK' K'
 refine hwalk2_step (g := some (10, true)) rfl rfl fun K' hK' => ?_
 simp (maxSteps := 4000000) only [sH, ↓sP, sA, tyS, simprocAttr, full_valid, full_need, full_enough, gone_at]
 refine call_pure (args := [_]) (mid_ok 0 (by omega)) ⟨rfl, rfl, rfl, rfl⟩ ?_
 rintro u rfl
 repeat refine AI ?_
 refine hK' _ _ ?_
 clear hK' K'
 refine hwalk2_step (g := some (10, true)) rfl rfl fun K' hK' => ?_
 simp (maxSteps := 4000000) only [sH, ↓sP, sA, tyS, simprocAttr, full_valid, full_need, full_enough, gone_at]
 repeat refine AI ?_
 refine hK' _ _ ?_
 clear hK' K'
 refine hwalk2_step (g := some (10, true)) rfl rfl fun K' hK' => ?_
 simp (maxSteps := 4000000) only [sH, ↓sP, sA, tyS, simprocAttr, full_valid, full_need, full_enough, gone_at]
 refine call_close (e := 55) (sz := 32) (l := [mid 0].map dg) [full.cv, .str wStep] [.int .i64 5] (enough_ok full wStep [mid 0] 5 (full_ok 1).1 (by simp)) rfl rfl (by simp) ⟨rfl, rfl, rfl, rfl⟩ ?_
 rintro u rfl
 repeat refine AI ?_
 refine hK' _ _ ?_
 clear hK' K'
 iterate 2
  (refine hwalk2_step (g := none) rfl rfl fun K' hK' => ?_; simp only [sH, ↓sP, sA, tyS, simprocAttr, full_valid, full_need, full_enough, gone_at]; (repeat refine AI ?_); refine hK' _ _ ?_; clear hK' K')
 simp only [sE, ↓reduceIte, simprocAttr]
 repeat refine AI ?_
 refine hK _ _ _ ?_
 clear hK K
 refine hw_ret ?_
 simp (maxSteps := 4000000) only [hpost, Tryz.results22, hresL, hres1, tupOf, ↓sP, sA, tyS, simprocAttr]
 exact hret_pure [] (.bool true) rfl rfl

end Go.Proofs.YtackchmdajdlaaaGreat

namespace Go.Hl
open Go

def HBoxL (P : Program) (f : FuncId) (T : TypeId) (v : CV) (args : List CV) (R : CV → CV → Prop) : Prop :=
  HFn P f (args.map .c ++ [.ptr 0 0]) 1 (fob [(0, .box T (.c v))]) (fun r ob' => ∃ u v', r = .c u ∧ ob' = fob [(0, .box T (.c v'))] ∧ R u v')
theorem call_boxl {P : Program} {av : List Nat} {f : FuncId} {ob : Ob} {nid id : Nat} {K : HV → Ob → Prop} {T : TypeId} {v : CV} {args : List CV} {R : CV → CV → Prop} (h : HBoxL P f T v args R) (hid : ob id = some (.box T (.c v))) (hav : id ∉ av)
    (hfree : ob nid = none ∧ ob (nid + 1) = none ∧ ob (nid + 2) = none ∧ ob (nid + 3) = none) (hK : ∀ u v', R u v' → K (.c u) (upd ob id (some (.box T (.c v'))))) :
    HCall P av f (args.map .c ++ [.ptr id 0]) ob nid K := by
  refine ⟨[id], args.map HV.c ++ [HV.ptr 0 0], _, _, h, locOk_clo T v args, ⟨by simp, by simpa using hav⟩, ?_, fun j o hj => ?_, fun r lob' hR _ => ?_⟩
  · simp only [renL_append, renL_c', HV.renL, HV.ren]
    rfl
  · by_cases e : j = 0
    · subst e
      simp only [fob_at, if_true, Option.some.injEq] at hj
      subst hj
      simpa [HO.ren, HV.ren] using hid
    · simp [fob_at, fob_nil, e] at hj
  · obtain ⟨u, v', rfl, rfl, hR⟩ := hR
    have e : obAfter ob [id] nid (fob [(0, .box T (.c v'))]) = upd ob id (some (.box T (.c v'))) := by
      funext i
      by_cases e : i = id
      · subst e
        simp only [obAfter, upd_same, List.findIdx?_cons, beq_self_eq_true, if_true, fob_at, Option.map_some]
        rfl
      · have e' : (id == i) = false := by simp; exact fun h => e h.symm
        simp only [obAfter, List.findIdx?_cons, e', List.findIdx?_nil, Option.map_none, upd_ne _ _ e]
        simp only [Bool.false_eq_true, if_false]
        split
        · rename_i hr
          have h1 : [id].length + (i - nid) ≠ 0 := by simp
          rw [fob_at, if_neg h1, fob_nil]
          have : i = nid ∨ i = nid + 1 ∨ i = nid + 2 ∨ i = nid + 3 := by omega
          rcases this with rfl | rfl | rfl | rfl
          · exact hfree.1.symm
          · exact hfree.2.1.symm
          · exact hfree.2.2.1.symm
          · exact hfree.2.2.2.symm
        · rfl
    rw [e]
    exact hK u v' hR
end Go.Hl

namespace Go.Proofs.YtackchmdajdlaaaGreat
open Go Go.Hl Go.Pl
set_option maxRecDepth 10000
set_option maxHeartbeats 8000000
set_option linter.unusedSimpArgs false
set_option linter.unusedVariables false
attribute [local simp] tp

theorem odd_ok (hmid : ∀ i : Nat, i < 2 ^ 40 → HPure Tryz.prog 27 [.int .i64 i] (fun v => v = dg (mid i))) (r : Rt) (L : List Int) (a : Nat) (ha : a + 100 < 2 ^ 40) (hr : rMid r) (hk0 : 0 < r.k.length) (hq0 : 0 < r.q.length) (hx0 : r.x.length ≤ 64) : HBoxL Tryz.prog 29 33 (tp L a) [r.cv] (fun u v' => ∃ (r' : Rt) (a' : Nat), u = r'.cv ∧ v' = tp L a' ∧ a' ≤ a + 4 ∧ rMid r') := by
 refine hfn_walk (args := [.c r.cv, .ptr 0 0]) Tryz.func29 rfl (by kernel_rfl) (locOk_clo _ _ [r.cv]) (Nat.le_of_ble_eq_true rfl) ?_
 have hkl : r.k.length ≤ 32 := hr.2.1.1
 have hql : r.q.length ≤ 12 := hr.1.1
 have hk1 : ¬ r.k = [] := fun h => by rw [h] at hk0; exact absurd hk0 (by decide)
 have hq1 : ¬ r.q = [] := fun h => by rw [h] at hq0; exact absurd hq0 (by decide)
 refine hw_seq fun K hK => hw_region (by kernel_rfl) ?_
 simp (maxSteps := 4000000) only [↓sP, sA, tyS, simprocAttr]
 repeat refine AI ?_
 refine hK _ _ _ ?_
 clear hK K
 refine hw_seq fun K hK => hw_region (by kernel_rfl) ?_
 simp only [sR, simprocAttr]
 iterate 6
  (refine hlex_step (g := none) rfl rfl fun K' hK' => ?_; simp only [sH, ↓sP, sA, tyS, simprocAttr, cells_ky]; (repeat refine AI ?_); refine hK' _ _ ?_; clear hK' K')
 simp only [sE, ↓reduceIte, simprocAttr]
 repeat refine AI ?_
 refine hK _ _ _ ?_
 clear hK K
 refine hw_seq fun K hK => hw_region (by kernel_rfl) ?_
 simp only [sR, simprocAttr]
 iterate 6
  (refine hlex_step (g := none) rfl rfl fun K' hK' => ?_; simp only [sH, ↓sP, sA, tyS, simprocAttr, cells_qt]; (repeat refine AI ?_); refine hK' _ _ ?_; clear hK' K')
 simp only [sE, ↓reduceIte, simprocAttr]
 repeat refine AI ?_
 refine hK _ _ _ ?_
 clear hK K
 refine hw_fits (fr2 := fin [(1, .ptr 0 0), (2, .ptr 1 0), (4, .ptr 5 0)]) (ob2 := fob [(0, .box 33 (.c (tp L a))), (1, .box 26 (.agg [.c (.int .i64 r.v), .c (.int .i64 r.e), .own 33 r.q.length, .own 9 r.k.length, .c (.slc (r.x.map Rv.cv))])), (5, .box 26 (.c zR)), (9, .row 51 21 (r.k.map Ky.cv)), (33, .row 87 2 (r.q.map Qt.cv))]) (nx2 := 100) (fits_fin (by omega) (by simp [FinOk, fin_at, finA_at, upd_at, HV.men, HV.menL, HV.norm, HV.toC, HV.toCL]) (by simp [FobOk, fob_at, upd_at, none0_at, gone, HO.men, HV.men, HV.menL, HV.norm, HV.toC, HV.toCL]; rfl)) ?_
 refine hw_seq fun K hK => hw_region (by kernel_rfl) ?_
 simp only [sR, simprocAttr]
 iterate 4
  (refine hlex_step (g := none) rfl rfl fun K' hK' => ?_; simp only [sH, ↓sP, sA, tyS, simprocAttr]; (repeat refine AI ?_); refine hK' _ _ ?_; clear hK' K')
 refine hlex_step (g := none) rfl rfl fun K' hK' => ?_
 simp (maxSteps := 4000000) only [sH, ↓sP, sA, tyS, simprocAttr]
 refine call_box (args := [_]) (next_ok L a r.k.length (by omega) (by omega)) rfl (by simp) ⟨rfl, rfl, rfl, rfl⟩ ?_
 rintro u v' ⟨x1, a1, rfl, rfl, g1, g2, g3, g4⟩
 repeat refine AI ?_
 refine hK' _ _ ?_
 clear hK' K'
 refine hlex_step (g := none) rfl rfl fun K' hK' => ?_
 simp (maxSteps := 4000000) only [sH, ↓sP, sA, tyS, simprocAttr]
 repeat refine AI ?_
 refine hK' _ _ ?_
 clear hK' K'
 simp only [sE, ↓reduceIte, simprocAttr]
 repeat refine AI ?_
 refine hK _ _ _ ?_
 clear hK K
 refine hw_seq fun K hK => ?_
 have key : ∀ (cl : List Nat) (r' : Rt) (b' : Nat) fr ob nx, b' ≤ a + 4 → rMid r' → Fits 1 (clF ob cl fr) (clO ob cl) (fin [(2, .ptr 1 0), (4, .ptr 5 0)]) (fob [(0, .box 33 (.c (tp L b'))), (1, .box 26 (.c r'.cv)), (5, .box 26 (.c (Rt.cv ⟨0, 0, [], [], []⟩)))]) 900 → K fr ob nx := by
  intro cl r' b' fr ob nx w1 w2 hf
  refine hK _ _ _ (hw_close cl (hw_fits hf ?_))
  clear hf hK K
  refine hw_seq fun K hK => hw_region (by kernel_rfl) ?_
  simp (maxSteps := 4000000) only [↓sP, sA, tyS, simprocAttr]
  repeat refine AI ?_
  refine hK _ _ _ ?_
  clear hK K
  refine hw_ret ?_
  simp (maxSteps := 4000000) only [hpost, Tryz.results29, hresL, hres1, tupOf, ↓sP, sA, tyS, simprocAttr]
  refine hret_box [] r'.cv (tp L b') (close_c (Rt.denil _)) rfl ?_ (by simp) ⟨r', b', rfl, rfl, w1, w2⟩
  simp [HV.close, HV.closeL, tp, CV.denil, CV.denilL, denilL_int, HV.norm, HV.toC, HV.toCL]
 obtain ⟨i, rfl⟩ : ∃ i : Nat, x1 = i := ⟨x1.toNat, by omega⟩
 have hil : i < r.k.length := by omega
 have hkk := hr.2.1.2 _ (List.getElem_mem hil)
 refine hw_seq fun K hK => hw_region (by kernel_rfl) ?_
 simp only [sR, simprocAttr]
 refine hlex_step (g := none) rfl rfl fun K' hK' => ?_
 simp (maxSteps := 4000000) only [sH, ↓sP, sA, tyS, simprocAttr]
 repeat refine AI ?_
 refine hK' _ _ ?_
 clear hK' K'
 refine hlex_step (g := none) rfl rfl fun K' hK' => ?_
 simp (maxSteps := 4000000) only [sH, ↓sP, sA, tyS, simprocAttr]
 refine call_box (args := [_]) (next_ok L a1 9 (by omega) (by omega)) rfl (by simp) ⟨rfl, rfl, rfl, rfl⟩ ?_
 rintro u v' ⟨y, a2, rfl, rfl, k1, k2, k3, k4⟩
 repeat refine AI ?_
 refine hK' _ _ ?_
 clear hK' K'
 simp only [sE, ↓reduceIte, simprocAttr]
 repeat refine AI ?_
 refine hK _ _ _ ?_
 clear hK K
 refine hw_block ?_
 refine hw_seq fun K hK => hw_region (by kernel_rfl) ?_
 simp (maxSteps := 4000000) only [↓sP, sA, tyS, simprocAttr]
 repeat refine AI ?_
 refine hK _ _ _ ?_
 clear hK K
 refine hw_cond (b := y == 0) rfl (fun hb => ?_) (fun hb => ?_)
 ·
  refine hw_region (by kernel_rfl) ?_
  simp only [sR, simprocAttr]
  refine hlex_step (g := none) rfl rfl fun K' hK' => ?_
  simp (maxSteps := 4000000) only [sH, ↓sP, sA, tyS, simprocAttr]
  repeat refine AI ?_
  refine hK' _ _ ?_
  clear hK' K'
  refine hlex_step (g := none) rfl rfl fun K' hK' => ?_
  simp (maxSteps := 4000000) only [sH, ↓sP, sA, tyS, simprocAttr]
  refine call_box (args := [_]) (next_ok L a2 3 (by omega) (by omega)) rfl (by simp) ⟨rfl, rfl, rfl, rfl⟩ ?_
  rintro u v' ⟨x2, a3, rfl, rfl, j1, j2, j3, j4⟩
  repeat refine AI ?_
  refine hK' _ _ ?_
  clear hK' K'
  iterate 3
   (refine hlex_step (g := none) rfl rfl fun K' hK' => ?_; simp only [sH, ↓sP, sA, tyS, simprocAttr]; (repeat refine AI ?_); refine hK' _ _ ?_; clear hK' K')
  simp only [sE, ↓reduceIte, simprocAttr]
  exact key [9, 33] ⟨IntKind.i64.wrap (x2 - 1), r.e, r.q, r.k, r.x⟩ a3 _ _ _ (by omega) (hr) (fits_fin (by omega) (by simp [FinOk, clF_at, fin_at, finA_at, upd_at, fob_at, HV.close, HV.closeL, CV.denil, CV.denilL, denilL_str, denilL_Rv, denilL_Qt, denilL_Ky, HV.men, HV.menL, HV.norm, HV.toC, HV.toCL]) (by simp [FobOk, clO_at, fob_at, upd_at, none0_at, gone, HO.close, HV.close, HV.closeL, HO.men, HV.men, HV.menL, HV.norm, HV.toC, HV.toCL, Rt.denil, zR, Rt.cv, CV.denil, CV.denilL, denilL_str, denilL_Rv, denilL_Qt, denilL_Ky, denilL_int, tp]))
 ·
  refine hw_seq fun K hK => hw_region (by kernel_rfl) ?_
  simp (maxSteps := 4000000) only [↓sP, sA, tyS, simprocAttr]
  repeat refine AI ?_
  refine hK _ _ _ ?_
  clear hK K
  refine hw_cond (b := y == 1) rfl (fun hb => ?_) (fun hb => ?_)
  ·
   refine hw_draw2 mixed [(0, [], []), (1, [], []), (2, [], []), (3, [], []), (4, [], []), (5, [], []), (6, [], []), (7, [], []), (8, [], []), (9, [], []), (10, [], []), (11, [], [])] [0, 1, 0, 0, 8, 0, 56, 120, 248, 511, 1023, 2047] (by kernel_rfl) (by kernel_rfl) (by kernel_rfl) (by kernel_rfl) rfl (by kernel_rfl) ?_
   iterate 12
    (refine hwalk2_step (g := none) rfl rfl fun K' hK' => ?_; simp only [sH, ↓sP, sA, tyS, simprocAttr, hil, hk0, hq0, List.map_eq_nil_iff, hk1, hq1, nth_map hil, nth_map hk0, nth_map hq0, Int.natCast_nonneg, Int.ofNat_lt, Ky.fold, Qt.fold, Pk.fold, ← List.map_set, List.length_set]; (repeat refine AI ?_); refine hK' _ _ ?_; clear hK' K')
   simp only [sE, ↓reduceIte, simprocAttr]
   exact key [9, 33] ⟨r.v, r.e, r.q, r.k.set i ⟨r.k[i].p, r.k[i].o, r.k[i].rs, r.k[i].un, r.k[i].un⟩, r.x⟩ a2 _ _ _ (by omega) (hr.setK i _ hkk.1 hkk.2.1 hkk.2.2) (fits_fin (by omega) (by simp [FinOk, clF_at, fin_at, finA_at, upd_at, fob_at, HV.close, HV.closeL, CV.denil, CV.denilL, denilL_str, denilL_Rv, denilL_Qt, denilL_Ky, HV.men, HV.menL, HV.norm, HV.toC, HV.toCL]) (by simp [FobOk, clO_at, fob_at, upd_at, none0_at, gone, HO.close, HV.close, HV.closeL, HO.men, HV.men, HV.menL, HV.norm, HV.toC, HV.toCL, Rt.denil, zR, Rt.cv, CV.denil, CV.denilL, denilL_str, denilL_Rv, denilL_Qt, denilL_Ky, denilL_int, tp]))
  ·
   refine hw_seq fun K hK => hw_region (by kernel_rfl) ?_
   simp (maxSteps := 4000000) only [↓sP, sA, tyS, simprocAttr]
   repeat refine AI ?_
   refine hK _ _ _ ?_
   clear hK K
   refine hw_cond (b := y == 2) rfl (fun hb => ?_) (fun hb => ?_)
   ·
    refine hw_regionG (by kernel_rfl) ?_
    simp only [sR, simprocAttr]
    iterate 3
     (refine hlexG_step (g := none) rfl rfl fun K' hK' => ?_; simp only [sH, ↓sP, sA, tyS, simprocAttr, hil, hk0, hq0, List.map_eq_nil_iff, hk1, hq1, nth_map hil, nth_map hk0, nth_map hq0, Int.natCast_nonneg, Int.ofNat_lt, Ky.fold, Qt.fold, Pk.fold, ← List.map_set, List.length_set, show CV.slc [CV.str [98], CV.str [97]] = CV.slc (([[98], [97]] : List Word).map CV.str) from rfl]; (repeat refine AI ?_); refine hK' _ _ ?_; clear hK' K')
    refine hlexG_stepC (g := none) 168 rfl rfl fun K' hK' => ?_
    simp (maxSteps := 4000000) only [hop1C, mkId, sH, ↓sP, sA, tyS, simprocAttr, hil, hk0, hq0, List.map_eq_nil_iff, hk1, hq1, nth_map hil, nth_map hk0, nth_map hq0, Int.natCast_nonneg, Int.ofNat_lt, Ky.fold, Qt.fold, Pk.fold, ← List.map_set, List.length_set, show CV.slc [CV.str [98], CV.str [97]] = CV.slc (([[98], [97]] : List Word).map CV.str) from rfl]
    repeat refine AI ?_
    refine closeK_mk (by first | rfl | simp) ?_
    simp (maxSteps := 4000000) only [sH, ↓sP, sA, tyS, simprocAttr, hil, hk0, hq0, List.map_eq_nil_iff, hk1, hq1, nth_map hil, nth_map hk0, nth_map hq0, Int.natCast_nonneg, Int.ofNat_lt, Ky.fold, Qt.fold, Pk.fold, ← List.map_set, List.length_set, show CV.slc [CV.str [98], CV.str [97]] = CV.slc (([[98], [97]] : List Word).map CV.str) from rfl]
    repeat refine AI ?_
    refine hK' _ _ ?_
    clear hK' K'
    iterate 3
     (refine hlexG_step (g := none) rfl rfl fun K' hK' => ?_; simp only [sH, ↓sP, sA, tyS, simprocAttr, hil, hk0, hq0, List.map_eq_nil_iff, hk1, hq1, nth_map hil, nth_map hk0, nth_map hq0, Int.natCast_nonneg, Int.ofNat_lt, Ky.fold, Qt.fold, Pk.fold, ← List.map_set, List.length_set, show CV.slc [CV.str [98], CV.str [97]] = CV.slc (([[98], [97]] : List Word).map CV.str) from rfl]; (repeat refine AI ?_); refine hK' _ _ ?_; clear hK' K')
    simp only [sE, ↓reduceIte, simprocAttr]
    exact key [9, 33] ⟨r.v, r.e, r.q, r.k.set i ⟨r.k[i].p, r.k[i].o, [[98], [97]], r.k[i].fr, r.k[i].un⟩, r.x⟩ a2 _ _ _ (by omega) (hr.setK i _ hkk.1 (by simp) (by simp)) (fits_fin (by omega) (by simp [FinOk, clF_at, fin_at, finA_at, upd_at, fob_at, HV.close, HV.closeL, CV.denil, CV.denilL, denilL_str, denilL_Rv, denilL_Qt, denilL_Ky, HV.men, HV.menL, HV.norm, HV.toC, HV.toCL]) (by simp [FobOk, clO_at, fob_at, upd_at, none0_at, gone, HO.close, HV.close, HV.closeL, HO.men, HV.men, HV.menL, HV.norm, HV.toC, HV.toCL, Rt.denil, zR, Rt.cv, CV.denil, CV.denilL, denilL_str, denilL_Rv, denilL_Qt, denilL_Ky, denilL_int, tp]))
   ·
    refine hw_seq fun K hK => hw_region (by kernel_rfl) ?_
    simp (maxSteps := 4000000) only [↓sP, sA, tyS, simprocAttr]
    repeat refine AI ?_
    refine hK _ _ _ ?_
    clear hK K
    refine hw_cond (b := y == 3) rfl (fun hb => ?_) (fun hb => ?_)
    ·
     refine hw_region (by kernel_rfl) ?_
     simp only [sR, simprocAttr]
     iterate 6
      (refine hlex_step (g := none) rfl rfl fun K' hK' => ?_; simp only [sH, ↓sP, sA, tyS, simprocAttr, hil, hk0, hq0, List.map_eq_nil_iff, hk1, hq1, nth_map hil, nth_map hk0, nth_map hq0, Int.natCast_nonneg, Int.ofNat_lt, Ky.fold, Qt.fold, Pk.fold, ← List.map_set, List.length_set]; (repeat refine AI ?_); refine hK' _ _ ?_; clear hK' K')
     simp only [sE, ↓reduceIte, simprocAttr]
     exact key [9, 33] ⟨r.v, r.e, r.q, r.k.set i ⟨r.k[i].p, [65, 110, 110], r.k[i].rs, r.k[i].fr, r.k[i].un⟩, r.x⟩ a2 _ _ _ (by omega) (hr.setK i _ (by simp) hkk.2.1 hkk.2.2) (fits_fin (by omega) (by simp [FinOk, clF_at, fin_at, finA_at, upd_at, fob_at, HV.close, HV.closeL, CV.denil, CV.denilL, denilL_str, denilL_Rv, denilL_Qt, denilL_Ky, HV.men, HV.menL, HV.norm, HV.toC, HV.toCL]) (by simp [FobOk, clO_at, fob_at, upd_at, none0_at, gone, HO.close, HV.close, HV.closeL, HO.men, HV.men, HV.menL, HV.norm, HV.toC, HV.toCL, Rt.denil, zR, Rt.cv, CV.denil, CV.denilL, denilL_str, denilL_Rv, denilL_Qt, denilL_Ky, denilL_int, tp]))
    ·
     refine hw_seq fun K hK => hw_region (by kernel_rfl) ?_
     simp (maxSteps := 4000000) only [↓sP, sA, tyS, simprocAttr]
     repeat refine AI ?_
     refine hK _ _ _ ?_
     clear hK K
     refine hw_cond (b := y == 4) rfl (fun hb => ?_) (fun hb => ?_)
     ·
      have hil2 : i < (r.k.set 0 r.k[i]).length := by rw [List.length_set]; exact hil
      refine hw_draw2 mixed [(0, [], []), (1, [], []), (2, [], []), (3, [], []), (4, [], []), (5, [], []), (6, [], []), (7, [], []), (8, [], []), (9, [], []), (10, [], []), (11, [], []), (12, [], []), (13, [], []), (14, [], []), (15, [], [2, 3, 4]), (16, [], []), (17, [], [])] [0, 1, 0, 4, 0, 0, 32, 0, 224, 480, 0, 1024, 3072, 7168, 16355, 32739, 65535, 131071] (by kernel_rfl) (by kernel_rfl) (by kernel_rfl) (by kernel_rfl) rfl (by kernel_rfl) ?_
      iterate 18
       (refine hwalk2_step (g := none) rfl rfl fun K' hK' => ?_; simp only [sH, ↓sP, sA, tyS, simprocAttr, hil, hk0, hq0, List.map_eq_nil_iff, hk1, hq1, nth_map hil, nth_map hk0, nth_map hq0, Int.natCast_nonneg, Int.ofNat_lt, Ky.fold, Qt.fold, Pk.fold, ← List.map_set, List.length_set, nth_map hil2]; (repeat refine AI ?_); refine hK' _ _ ?_; clear hK' K')
      simp only [sE, ↓reduceIte, simprocAttr]
      have hk00 := hr.2.1.2 _ (List.getElem_mem hk0)
      exact key [9, 33] ⟨r.v, r.e, r.q, (r.k.set 0 r.k[i]).set i r.k[0], r.x⟩ a2 _ _ _ (by omega) ((hr.setK 0 r.k[i] hkk.1 hkk.2.1 hkk.2.2).setK i r.k[0] hk00.1 hk00.2.1 hk00.2.2) (fits_fin (by omega) (by simp [FinOk, clF_at, fin_at, finA_at, upd_at, fob_at, HV.close, HV.closeL, CV.denil, CV.denilL, denilL_str, denilL_Rv, denilL_Qt, denilL_Ky, HV.men, HV.menL, HV.norm, HV.toC, HV.toCL]) (by simp [FobOk, clO_at, fob_at, upd_at, none0_at, gone, HO.close, HV.close, HV.closeL, HO.men, HV.men, HV.menL, HV.norm, HV.toC, HV.toCL, Rt.denil, zR, Rt.cv, CV.denil, CV.denilL, denilL_str, denilL_Rv, denilL_Qt, denilL_Ky, denilL_int, tp]))
     ·
      refine hw_seq fun K hK => hw_region (by kernel_rfl) ?_
      simp (maxSteps := 4000000) only [↓sP, sA, tyS, simprocAttr]
      repeat refine AI ?_
      refine hK _ _ _ ?_
      clear hK K
      refine hw_cond (b := y == 5) rfl (fun hb => ?_) (fun hb => ?_)
      ·
       refine hw_draw2 mixed [(0, [], []), (1, [], []), (2, [], []), (3, [], [0, 1]), (4, [], []), (5, [], []), (6, [], []), (7, [], [])] [0, 1, 0, 4, 12, 31, 63, 127] (by kernel_rfl) (by kernel_rfl) (by kernel_rfl) (by kernel_rfl) rfl (by kernel_rfl) ?_
       iterate 3
        (refine hwalk2_step (g := none) rfl rfl fun K' hK' => ?_; simp only [sH, ↓sP, sA, tyS, simprocAttr, hil, hk0, hq0, List.map_eq_nil_iff, hk1, hq1, nth_map hil, nth_map hk0, nth_map hq0, Int.natCast_nonneg, Int.ofNat_lt, Ky.fold, Qt.fold, Pk.fold, ← List.map_set, List.length_set]; (repeat refine AI ?_); refine hK' _ _ ?_; clear hK' K')
       refine hwalk2_step (g := none) rfl rfl fun K' hK' => ?_
       simp (maxSteps := 4000000) only [sH, ↓sP, sA, tyS, simprocAttr, hil, hk0, hq0, List.map_eq_nil_iff, hk1, hq1, nth_map hil, nth_map hk0, nth_map hq0, Int.natCast_nonneg, Int.ofNat_lt, Ky.fold, Qt.fold, Pk.fold, ← List.map_set, List.length_set]
       refine call_box (args := [_]) (next_ok L a2 40 (by omega) (by omega)) rfl (by simp) ⟨rfl, rfl, rfl, rfl⟩ ?_
       rintro u v' ⟨x2, a3, rfl, rfl, j1, j2, j3, j4⟩
       repeat refine AI ?_
       refine hK' _ _ ?_
       clear hK' K'
       iterate 4
        (refine hwalk2_step (g := none) rfl rfl fun K' hK' => ?_; simp only [sH, ↓sP, sA, tyS, simprocAttr, hil, hk0, hq0, List.map_eq_nil_iff, hk1, hq1, nth_map hil, nth_map hk0, nth_map hq0, Int.natCast_nonneg, Int.ofNat_lt, Ky.fold, Qt.fold, Pk.fold, ← List.map_set, List.length_set]; (repeat refine AI ?_); refine hK' _ _ ?_; clear hK' K')
       simp only [sE, ↓reduceIte, simprocAttr]
       exact key [9, 33] ⟨r.v, r.e, r.q.set 0 ⟨r.q[0].r, IntKind.i64.wrap (x2 - 2)⟩, r.k, r.x⟩ a3 _ _ _ (by omega) (hr.setQ 0 _ (hr.1.2 r.q[0] (List.getElem_mem hq0))) (fits_fin (by omega) (by simp [FinOk, clF_at, fin_at, finA_at, upd_at, fob_at, HV.close, HV.closeL, CV.denil, CV.denilL, denilL_str, denilL_Rv, denilL_Qt, denilL_Ky, HV.men, HV.menL, HV.norm, HV.toC, HV.toCL]) (by simp [FobOk, clO_at, fob_at, upd_at, none0_at, gone, HO.close, HV.close, HV.closeL, HO.men, HV.men, HV.menL, HV.norm, HV.toC, HV.toCL, Rt.denil, zR, Rt.cv, CV.denil, CV.denilL, denilL_str, denilL_Rv, denilL_Qt, denilL_Ky, denilL_int, tp]))
      ·
       refine hw_seq fun K hK => hw_region (by kernel_rfl) ?_
       simp (maxSteps := 4000000) only [↓sP, sA, tyS, simprocAttr]
       repeat refine AI ?_
       refine hK _ _ _ ?_
       clear hK K
       refine hw_cond (b := y == 6) rfl (fun hb => ?_) (fun hb => ?_)
       ·
        refine hw_region (by kernel_rfl) ?_
        simp only [sR, simprocAttr]
        iterate 5
         (refine hlex_step (g := none) rfl rfl fun K' hK' => ?_; simp only [sH, ↓sP, sA, tyS, simprocAttr, cells_rv, Rv.fold, List.length_append]; (repeat refine AI ?_); refine hK' _ _ ?_; clear hK' K')
        refine hlex_step (g := none) rfl rfl fun K' hK' => ?_
        simp (maxSteps := 4000000) only [sH, ↓sP, sA, tyS, simprocAttr, cells_rv, Rv.fold, List.length_append]
        refine call_box (args := [_]) (next_ok L a2 6 (by omega) (by omega)) rfl (by simp) ⟨rfl, rfl, rfl, rfl⟩ ?_
        rintro u v' ⟨x2, a3, rfl, rfl, j1, j2, j3, j4⟩
        obtain ⟨m, rfl⟩ : ∃ m : Nat, x2 = m := ⟨x2.toNat, by omega⟩
        repeat refine AI ?_
        refine hK' _ _ ?_
        clear hK' K'
        refine hlex_step (g := none) rfl rfl fun K' hK' => ?_
        simp (maxSteps := 4000000) only [sH, ↓sP, sA, tyS, simprocAttr, cells_rv, Rv.fold, List.length_append]
        refine call_pure (args := [_]) (hmid m (by omega)) ⟨rfl, rfl, rfl, rfl⟩ ?_
        rintro u rfl
        repeat refine AI ?_
        refine hK' _ _ ?_
        clear hK' K'
        refine hlex_step (g := none) rfl rfl fun K' hK' => ?_
        simp (maxSteps := 4000000) only [sH, ↓sP, sA, tyS, simprocAttr, cells_rv, Rv.fold, List.length_append]
        repeat refine AI ?_
        refine hK' _ _ ?_
        clear hK' K'
        refine hlex_step (g := none) rfl rfl fun K' hK' => ?_
        simp (maxSteps := 4000000) only [sH, ↓sP, sA, tyS, simprocAttr, cells_rv, Rv.fold, List.length_append]
        refine call_box (args := [_]) (next_ok L a3 9 (by omega) (by omega)) rfl (by simp) ⟨rfl, rfl, rfl, rfl⟩ ?_
        rintro u v' ⟨x3, a4, rfl, rfl, l1, l2, l3, l4⟩
        repeat refine AI ?_
        refine hK' _ _ ?_
        clear hK' K'
        iterate 6
         (refine hlex_step (g := none) rfl rfl fun K' hK' => ?_; simp only [sH, ↓sP, sA, tyS, simprocAttr, cells_rv, Rv.fold, List.length_append]; (repeat refine AI ?_); refine hK' _ _ ?_; clear hK' K')
        simp only [sE, ↓reduceIte, simprocAttr]
        exact key [9, 33, 188] ⟨r.v, r.e, r.q, r.k, r.x ++ [⟨mid m, IntKind.i64.wrap (x3 - 1)⟩]⟩ a4 _ _ _ (by omega) (⟨hr.1, hr.2.1, by simp; omega⟩) (fits_fin (by omega) (by simp [FinOk, clF_at, fin_at, finA_at, upd_at, fob_at, HV.close, HV.closeL, CV.denil, CV.denilL, denilL_str, denilL_Rv, denilL_Qt, denilL_Ky, HV.men, HV.menL, HV.norm, HV.toC, HV.toCL]) (by simp [FobOk, clO_at, fob_at, upd_at, none0_at, gone, HO.close, HV.close, HV.closeL, HO.men, HV.men, HV.menL, HV.norm, HV.toC, HV.toCL, Rt.denil, zR, Rt.cv, CV.denil, CV.denilL, denilL_str, denilL_Rv, denilL_Qt, denilL_Ky, denilL_int, tp]))
       ·
        refine hw_seq fun K hK => hw_region (by kernel_rfl) ?_
        simp (maxSteps := 4000000) only [↓sP, sA, tyS, simprocAttr]
        repeat refine AI ?_
        refine hK _ _ _ ?_
        clear hK K
        refine hw_cond (b := y == 7) rfl (fun hb => ?_) (fun hb => ?_)
        ·
         refine hw_draw2 mixed [(0, [], []), (1, [], []), (2, [], []), (3, [], []), (4, [], [0, 1, 2]), (5, [], []), (6, [], []), (7, [], []), (8, [], []), (9, [], [])] [0, 1, 0, 0, 8, 24, 63, 127, 255, 511] (by kernel_rfl) (by kernel_rfl) (by kernel_rfl) (by kernel_rfl) rfl (by kernel_rfl) ?_
         iterate 4
          (refine hwalk2_step (g := none) rfl rfl fun K' hK' => ?_; simp only [sH, ↓sP, sA, tyS, simprocAttr, hil, hk0, hq0, List.map_eq_nil_iff, hk1, hq1, nth_map hil, nth_map hk0, nth_map hq0, Int.natCast_nonneg, Int.ofNat_lt, Ky.fold, Qt.fold, Pk.fold, ← List.map_set, List.length_set, Ky.set_ph]; (repeat refine AI ?_); refine hK' _ _ ?_; clear hK' K')
         refine hwalk2_step (g := none) rfl rfl fun K' hK' => ?_
         simp (maxSteps := 4000000) only [sH, ↓sP, sA, tyS, simprocAttr, hil, hk0, hq0, List.map_eq_nil_iff, hk1, hq1, nth_map hil, nth_map hk0, nth_map hq0, Int.natCast_nonneg, Int.ofNat_lt, Ky.fold, Qt.fold, Pk.fold, ← List.map_set, List.length_set, Ky.set_ph]
         refine call_box (args := [_]) (next_ok L a2 9 (by omega) (by omega)) rfl (by simp) ⟨rfl, rfl, rfl, rfl⟩ ?_
         rintro u v' ⟨x2, a3, rfl, rfl, j1, j2, j3, j4⟩
         repeat refine AI ?_
         refine hK' _ _ ?_
         clear hK' K'
         iterate 5
          (refine hwalk2_step (g := none) rfl rfl fun K' hK' => ?_; simp only [sH, ↓sP, sA, tyS, simprocAttr, hil, hk0, hq0, List.map_eq_nil_iff, hk1, hq1, nth_map hil, nth_map hk0, nth_map hq0, Int.natCast_nonneg, Int.ofNat_lt, Ky.fold, Qt.fold, Pk.fold, ← List.map_set, List.length_set, Ky.set_ph]; (repeat refine AI ?_); refine hK' _ _ ?_; clear hK' K')
         simp only [sE, ↓reduceIte, simprocAttr]
         exact key [9, 33] ⟨r.v, r.e, r.q, r.k.set i ⟨⟨IntKind.i64.wrap (x2 - 1), r.k[i].p.r⟩, r.k[i].o, r.k[i].rs, r.k[i].fr, r.k[i].un⟩, r.x⟩ a3 _ _ _ (by omega) (hr.setK i _ hkk.1 hkk.2.1 hkk.2.2) (fits_fin (by omega) (by simp [FinOk, clF_at, fin_at, finA_at, upd_at, fob_at, HV.close, HV.closeL, CV.denil, CV.denilL, denilL_str, denilL_Rv, denilL_Qt, denilL_Ky, HV.men, HV.menL, HV.norm, HV.toC, HV.toCL]) (by simp [FobOk, clO_at, fob_at, upd_at, none0_at, gone, HO.close, HV.close, HV.closeL, HO.men, HV.men, HV.menL, HV.norm, HV.toC, HV.toCL, Rt.denil, zR, Rt.cv, CV.denil, CV.denilL, denilL_str, denilL_Rv, denilL_Qt, denilL_Ky, denilL_int, tp]))
        ·
         refine hw_draw2 mixed [(0, [], []), (1, [], []), (2, [], []), (3, [], []), (4, [], []), (5, [], []), (6, [], [0, 1]), (7, [], []), (8, [], []), (9, [], [])] [0, 1, 0, 0, 8, 24, 60, 127, 255, 511] (by kernel_rfl) (by kernel_rfl) (by kernel_rfl) (by kernel_rfl) rfl (by kernel_rfl) ?_
         iterate 6
          (refine hwalk2_step (g := none) rfl rfl fun K' hK' => ?_; simp only [sH, ↓sP, sA, tyS, simprocAttr, List.length_map]; (repeat refine AI ?_); refine hK' _ _ ?_; clear hK' K')
         refine hwalk2_step (g := none) rfl rfl fun K' hK' => ?_
         simp (maxSteps := 4000000) only [sH, ↓sP, sA, tyS, simprocAttr, List.length_map]
         refine call_box (args := [_]) (next_ok L a2 r.q.length (by omega) (by omega)) rfl (by simp) ⟨rfl, rfl, rfl, rfl⟩ ?_
         rintro u v' ⟨x2, a3, rfl, rfl, j1, j2, j3, j4⟩
         obtain ⟨m, rfl⟩ : ∃ m : Nat, x2 = m := ⟨x2.toNat, by omega⟩
         have hml : m < r.q.length := by omega
         repeat refine AI ?_
         refine hK' _ _ ?_
         clear hK' K'
         iterate 3
          (refine hwalk2_step (g := none) rfl rfl fun K' hK' => ?_; simp only [sH, ↓sP, sA, tyS, simprocAttr, List.length_map]; (repeat refine AI ?_); refine hK' _ _ ?_; clear hK' K')
         simp only [sE, ↓reduceIte, simprocAttr]
         exact key [9, 33] ⟨r.v, r.e, r.q.take m, r.k, r.x⟩ a3 _ _ _ (by omega) (⟨⟨by show (r.q.take m).length ≤ 12; rw [List.length_take]; omega, fun q hq => hr.1.2 q (List.mem_of_mem_take hq)⟩, hr.2.1, hr.2.2⟩) (fits_fin (by omega) (by simp [FinOk, clF_at, fin_at, finA_at, upd_at, fob_at, HV.close, HV.closeL, CV.denil, CV.denilL, denilL_str, denilL_Rv, denilL_Qt, denilL_Ky, HV.men, HV.menL, HV.norm, HV.toC, HV.toCL]) (by simp [FobOk, clO_at, fob_at, upd_at, none0_at, gone, HO.close, HV.close, HV.closeL, HO.men, HV.men, HV.menL, HV.norm, HV.toC, HV.toCL, Rt.denil, zR, Rt.cv, CV.denil, CV.denilL, denilL_str, denilL_Rv, denilL_Qt, denilL_Ky, denilL_int, tp, hq0, Nat.le_of_lt hml, ← List.map_take]))

end Go.Proofs.YtackchmdajdlaaaGreat
