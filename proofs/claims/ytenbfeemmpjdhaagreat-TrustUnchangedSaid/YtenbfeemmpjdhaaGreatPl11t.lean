/- Plain Lean: what two root documents differ in; what a change leaves as it is. By an AI agent. -/
import Derived.Test.YtenbfeemmpjdhaaGreatPl11z
import Derived.Test.YtenbfeemmpjdhaaGreatHxSb
set_option linter.unusedSimpArgs false
set_option linter.unusedVariables false
set_option linter.defProp false
namespace Go.Proofs.YtenbfeemmpjdhaaGreat
open Go Go.Hl Go.Pl
set_option maxRecDepth 10000
set_option maxHeartbeats 8000000
set_option linter.unusedSimpArgs false
set_option linter.unusedVariables false
attribute [local simp] tp

theorem root_ok (L : List Int) (a : Nat) (v : Int) (ha : a + 200 < 2 ^ 40) : HBox Tryz.prog 4 25 (tp L a) [.int .i64 v] (fun u v' => ∃ (r : Rt) (a' : Nat), u = r.cv ∧ v' = tp L a' ∧ a' ≤ a + 150 ∧ rOk r ∧ (1 ≤ v → v ≤ maxN → validR r = true)) := by
 refine hfn_walk Tryz.func4 rfl (by kernel_rfl) (locOk_box _ _ _) (Nat.le_of_ble_eq_true rfl) ?_
 refine hw_seq fun K hK => hw_region (by kernel_rfl) ?_
 simp (maxSteps := 4000000) only [↓sP, sA, tyS, simprocAttr]
 repeat refine AI ?_
 refine hK _ _ _ ?_
 clear hK K
 refine hw_seq fun K hK => hw_region (by kernel_rfl) ?_
 simp only [sR, simprocAttr]
 iterate 2
  (refine hlex_step (g := none) rfl rfl fun K' hK' => ?_; simp only [sH, ↓sP, sA, tyS, simprocAttr]; (repeat refine AI ?_); refine hK' _ _ ?_; clear hK' K')
 refine hlex_step (g := none) rfl rfl fun K' hK' => ?_
 simp (maxSteps := 4000000) only [sH, ↓sP, sA, tyS, simprocAttr]
 refine call_box (args := [_]) (next_ok L a 100 (by omega) (by omega)) rfl (by simp) ⟨rfl, rfl, rfl, rfl⟩ ?_
 rintro u v' ⟨x0, a1, rfl, rfl, h1, h2, h3, h4⟩
 repeat refine AI ?_
 refine hK' _ _ ?_
 clear hK' K'
 iterate 4
  (refine hlex_step (g := none) rfl rfl fun K' hK' => ?_; simp only [sH, ↓sP, sA, tyS, simprocAttr]; (repeat refine AI ?_); refine hK' _ _ ?_; clear hK' K')
 simp only [sE, ↓reduceIte, simprocAttr]
 repeat refine AI ?_
 refine hK _ _ _ ?_
 clear hK K
 refine hw_seq fun K hK => hw_region (by kernel_rfl) ?_
 simp only [sR, simprocAttr]
 refine hlex_step (g := none) rfl rfl fun K' hK' => ?_
 simp (maxSteps := 4000000) only [sH, ↓sP, sA, tyS, simprocAttr]
 refine call_pure (args := []) roles_ok ⟨rfl, rfl, rfl, rfl⟩ ?_
 rintro u rfl
 repeat refine AI ?_
 refine hK' _ _ ?_
 clear hK' K'
 refine hlex_step (g := none) rfl rfl fun K' hK' => ?_
 simp (maxSteps := 4000000) only [sH, ↓sP, sA, tyS, simprocAttr]
 repeat refine AI ?_
 refine hK' _ _ ?_
 clear hK' K'
 simp only [sE, ↓reduceIte, simprocAttr]
 repeat refine AI ?_
 refine hK _ _ _ ?_
 clear hK K
 refine hw_seq fun K hK => ?_
 refine hw_seq fun K hK => hw_region (by kernel_rfl) ?_
 simp (maxSteps := 4000000) only [↓sP, sA, tyS, simprocAttr]
 repeat refine AI ?_
 refine hK _ _ _ ?_
 clear hK K
 refine hw_block ?_
 obtain ⟨e0, he0⟩ : ∃ e0, e0 = IntKind.i64.wrap (20 + x0) := ⟨_, rfl⟩
 refine hw_ownb 25 2 57 2 rfl rfl rfl rfl ?_
 refine hw_loop (α := {y : Nat × Nat × List Qt // y.1 ≤ 10 ∧ y.2.1 ≤ a + 1 + 2 * y.1 ∧ y.2.2.length ≤ y.1 ∧ ∀ q ∈ y.2.2, q.r ∈ roles10}) (fun y => (fin [(0, .ptr 0 0), (1, .c (.int .i64 v)), (4, .ptr 1 0), (5, .ptr 25 0), (6, .c (.slc (roles10.map .str))), (7, .c (.int .i64 y.1.1))], fob [(0, .box 25 (.c (tp L y.1.2.1))), (1, .box 30 (.c zR)), (25, .box 30 (.agg [.c (.int .i64 v), .c (.int .i64 e0), .own 45 y.1.2.2.length, .c .nils, .c .nils])), (45, .row 57 2 (y.1.2.2.map Qt.cv))])) 100 (fun y => 10 - y.1.1) ⟨(0, a1, []), by simp, by simp only; omega, by simp, by simp⟩ (fits_fin (by omega) (by simp [FinOk, fin_at, finA_at, upd_at, HV.men, HV.menL, HV.norm, HV.toC, HV.toCL]) (by simp [FobOk, fob_at, upd_at, none0_at, gone, HO.men, HV.men, HV.menL, HV.norm, HV.toC, HV.toCL, zR, he0])) ?_
 clear he0 h1 h2 h3 h4
 rintro ⟨⟨i, b, qs⟩, hi, hb0, hql, hqm⟩
 simp only at hi hb0 hql hqm ⊢
 have hrl : (roles10.map CV.str).length = 10 := rfl
 refine hw_seq fun K hK => ?_
 refine hw_seq fun K hK => hw_region (by kernel_rfl) ?_
 simp only [sR, simprocAttr]
 iterate 4
  (refine hlex_step (g := none) rfl rfl fun K' hK' => ?_; simp only [sH, ↓sP, sA, tyS, simprocAttr, hrl]; (repeat refine AI ?_); refine hK' _ _ ?_; clear hK' K')
 simp only [sE, ↓reduceIte, simprocAttr]
 repeat refine AI ?_
 refine hK _ _ _ ?_
 clear hK K
 refine hw_cond (b := decide ((i : Int) < 10)) rfl (fun hb => ?_) (fun hb => ?_)
 ·
  have hlt : i < 10 := by simp at hb; omega
  have hlt' : (i : Int) < 10 := by omega
  have hlr : i < roles10.length := hlt
  refine hw_skip ?_
  simp (maxSteps := 4000000) only [↓sP, sA, tyS, simprocAttr]
  repeat refine AI ?_
  refine hK _ _ _ ?_
  clear hK K
  refine hw_seq fun K hK => ?_
  have key : ∀ (b' : Nat) (qs' : List Qt) fr ob nx, b' ≤ a + 1 + 2 * (i + 1) → qs'.length ≤ i + 1 → (∀ q ∈ qs', q.r ∈ roles10) → Fits 1 fr ob (fin [(0, .ptr 0 0), (1, .c (.int .i64 v)), (4, .ptr 1 0), (5, .ptr 25 0), (6, .c (.slc (roles10.map .str))), (7, .c (.int .i64 i))]) (fob [(0, .box 25 (.c (tp L b'))), (1, .box 30 (.c zR)), (25, .box 30 (.agg [.c (.int .i64 v), .c (.int .i64 e0), .own 45 qs'.length, .c .nils, .c .nils])), (45, .row 57 2 (qs'.map Qt.cv))]) 400 → K fr ob nx := by
   intro b' qs' fr ob nx w1 w2 w3 hf
   refine hK _ _ _ (hw_fits hf ?_)
   clear hf hK K
   refine hw_region (by kernel_rfl) ?_
   simp (maxSteps := 4000000) only [↓sP, sA, tyS, simprocAttr, IntWalk.i64_in _ (show -9223372036854775808 ≤ (i : Int) + 1 ∧ (i : Int) + 1 ≤ 9223372036854775807 by omega)]
   refine ⟨⟨(i + 1, b', qs'), hlt, w1, w2, w3⟩, fits_fin (by omega) (by simp [FinOk, fin_at, finA_at, upd_at, HV.men, HV.menL, HV.norm, HV.toC, HV.toCL]) (by simp [FobOk, fob_at, upd_at, none0_at, gone, HO.men, HV.men, HV.menL, HV.norm, HV.toC, HV.toCL]), ?_⟩
   show 10 - (i + 1) < 10 - i
   omega
  refine hw_block ?_
  refine hw_seq fun K hK => hw_region (by kernel_rfl) ?_
  simp only [sR, simprocAttr]
  refine hlex_step (g := none) rfl rfl fun K' hK' => ?_
  simp (maxSteps := 4000000) only [sH, ↓sP, sA, tyS, simprocAttr, Int.natCast_nonneg, hrl, hlt', hlr, nth_map hlr]
  repeat refine AI ?_
  refine hK' _ _ ?_
  clear hK' K'
  refine hlex_step (g := none) rfl rfl fun K' hK' => ?_
  simp (maxSteps := 4000000) only [sH, ↓sP, sA, tyS, simprocAttr, Int.natCast_nonneg, hrl, hlt', hlr, nth_map hlr]
  refine call_box (args := [_]) (next_ok L b 8 (by omega) (by omega)) rfl (by simp) ⟨rfl, rfl, rfl, rfl⟩ ?_
  rintro u v' ⟨x1, b1, rfl, rfl, g1, g2, g3, g4⟩
  repeat refine AI ?_
  refine hK' _ _ ?_
  clear hK' K'
  iterate 2
   (refine hlex_step (g := none) rfl rfl fun K' hK' => ?_; simp only [sH, ↓sP, sA, tyS, simprocAttr, Int.natCast_nonneg, hrl, hlt', hlr, nth_map hlr]; (repeat refine AI ?_); refine hK' _ _ ?_; clear hK' K')
  refine hlex_cases 25 rfl (fun h6_25 => ?_) (fun h6_25 => ?_)
  ·
   iterate 5
    (refine hlex_step (g := some (26, false)) rfl rfl fun K' hK' => ?_; simp only [sH, ↓sP, sA, tyS, simprocAttr, Int.natCast_nonneg, hrl, hlt', hlr, nth_map hlr, h6_25]; (repeat refine AI ?_); refine hK' _ _ ?_; clear hK' K')
   refine hlex_step (g := none) rfl rfl fun K' hK' => ?_
   simp (maxSteps := 4000000) only [sH, ↓sP, sA, tyS, simprocAttr, Int.natCast_nonneg, hrl, hlt', hlr, nth_map hlr, h6_25]
   repeat refine AI ?_
   refine hK' _ _ ?_
   clear hK' K'
   simp only [sE, ↓reduceIte, simprocAttr]
   repeat refine AI ?_
   refine hK _ _ _ ?_
   clear hK K
   refine hw_cond (b := true) rfl (fun hb => ?_) (fun hb => ?_)
   ·
    refine hw_draw2 mixed [(0, [], []), (1, [], []), (2, [], []), (3, [], []), (4, [], []), (5, [], []), (6, [], []), (7, [], [0, 1, 2, 3, 4, 5]), (8, [], []), (9, [], []), (10, [], []), (11, [], []), (12, [], []), (13, [], []), (14, [], [])] [0, 1, 0, 0, 12, 28, 0, 64, 192, 448, 1020, 2044, 4095, 8191, 16383] (by kernel_rfl) (by kernel_rfl) (by kernel_rfl) (by kernel_rfl) rfl (by kernel_rfl) ?_
    iterate 7
     (refine hwalk2_step (g := none) rfl rfl fun K' hK' => ?_; simp only [sH, ↓sP, sA, tyS, simprocAttr, Int.natCast_nonneg, hrl, hlt', hlr, nth_map hlr, List.length_append, h6_25]; (repeat refine AI ?_); refine hK' _ _ ?_; clear hK' K')
    refine hwalk2_step (g := none) rfl rfl fun K' hK' => ?_
    simp (maxSteps := 4000000) only [sH, ↓sP, sA, tyS, simprocAttr, Int.natCast_nonneg, hrl, hlt', hlr, nth_map hlr, List.length_append, h6_25]
    refine call_box (args := [_]) (next_ok L b1 5 (by omega) (by omega)) rfl (by simp) ⟨rfl, rfl, rfl, rfl⟩ ?_
    rintro u v' ⟨x2, b2, rfl, rfl, k1, k2, k3, k4⟩
    repeat refine AI ?_
    refine hK' _ _ ?_
    clear hK' K'
    iterate 2
     (refine hwalk2_step (g := none) rfl rfl fun K' hK' => ?_; simp only [sH, ↓sP, sA, tyS, simprocAttr, Int.natCast_nonneg, hrl, hlt', hlr, nth_map hlr, List.length_append, h6_25]; (repeat refine AI ?_); refine hK' _ _ ?_; clear hK' K')
    refine hwalk2_step (g := none) rfl rfl fun K' hK' => ?_
    simp (maxSteps := 4000000) only [sH, ↓sP, sA, tyS, simprocAttr, Int.natCast_nonneg, hrl, hlt', hlr, nth_map hlr, List.length_append, h6_25]
    rw [hbuild_qt _ _ rfl rfl]
    repeat refine AI ?_
    refine hK' _ _ ?_
    clear hK' K'
    iterate 4
     (refine hwalk2_step (g := none) rfl rfl fun K' hK' => ?_; simp only [sH, ↓sP, sA, tyS, simprocAttr, Int.natCast_nonneg, hrl, hlt', hlr, nth_map hlr, List.length_append, h6_25]; (repeat refine AI ?_); refine hK' _ _ ?_; clear hK' K')
    simp only [sE, ↓reduceIte, simprocAttr]
    exact key b2 (qs ++ [⟨roles10[i], IntKind.i64.wrap (1 + IntKind.i64.wrap (x2.tdiv 3))⟩]) _ _ _ (by omega) (by simp; omega) (fun q hq => by
     rcases List.mem_append.1 hq with hq | hq
     ·
      exact hqm q hq
     rw [List.mem_singleton] at hq; rw [hq]; exact List.getElem_mem _) (fits_fin (by omega) (by simp [FinOk, fin_at, finA_at, upd_at, HV.men, HV.menL, HV.norm, HV.toC, HV.toCL]) (by simp [FobOk, fob_at, upd_at, none0_at, gone, HO.men, HV.men, HV.menL, HV.norm, HV.toC, HV.toCL]))
   cases hb
  iterate 5
   (refine hlex_step (g := some (26, false)) rfl rfl fun K' hK' => ?_; simp only [sH, ↓sP, sA, tyS, simprocAttr, Int.natCast_nonneg, hrl, hlt', hlr, nth_map hlr, h6_25]; (repeat refine AI ?_); refine hK' _ _ ?_; clear hK' K')
  refine hlex_step (g := none) rfl rfl fun K' hK' => ?_
  simp (maxSteps := 4000000) only [sH, ↓sP, sA, tyS, simprocAttr, Int.natCast_nonneg, hrl, hlt', hlr, nth_map hlr, h6_25]
  repeat refine AI ?_
  refine hK' _ _ ?_
  clear hK' K'
  refine hlex_cases 31 rfl (fun h6_31 => ?_) (fun h6_31 => ?_)
  ·
   simp only [h6_31]
   simp only [sE, ↓reduceIte, simprocAttr]
   repeat refine AI ?_
   refine hK _ _ _ ?_
   clear hK K
   refine hw_cond (b := true) rfl (fun hb => ?_) (fun hb => ?_)
   ·
    refine hw_draw2 mixed [(0, [], []), (1, [], []), (2, [], []), (3, [], []), (4, [], []), (5, [], []), (6, [], []), (7, [], [0, 1, 2, 3, 4, 5]), (8, [], []), (9, [], []), (10, [], []), (11, [], []), (12, [], []), (13, [], []), (14, [], [])] [0, 1, 0, 0, 12, 28, 0, 64, 192, 448, 1020, 2044, 4095, 8191, 16383] (by kernel_rfl) (by kernel_rfl) (by kernel_rfl) (by kernel_rfl) rfl (by kernel_rfl) ?_
    iterate 7
     (refine hwalk2_step (g := none) rfl rfl fun K' hK' => ?_; simp only [sH, ↓sP, sA, tyS, simprocAttr, Int.natCast_nonneg, hrl, hlt', hlr, nth_map hlr, List.length_append, h6_25, h6_31]; (repeat refine AI ?_); refine hK' _ _ ?_; clear hK' K')
    refine hwalk2_step (g := none) rfl rfl fun K' hK' => ?_
    simp (maxSteps := 4000000) only [sH, ↓sP, sA, tyS, simprocAttr, Int.natCast_nonneg, hrl, hlt', hlr, nth_map hlr, List.length_append, h6_25, h6_31]
    refine call_box (args := [_]) (next_ok L b1 5 (by omega) (by omega)) rfl (by simp) ⟨rfl, rfl, rfl, rfl⟩ ?_
    rintro u v' ⟨x2, b2, rfl, rfl, k1, k2, k3, k4⟩
    repeat refine AI ?_
    refine hK' _ _ ?_
    clear hK' K'
    iterate 2
     (refine hwalk2_step (g := none) rfl rfl fun K' hK' => ?_; simp only [sH, ↓sP, sA, tyS, simprocAttr, Int.natCast_nonneg, hrl, hlt', hlr, nth_map hlr, List.length_append, h6_25, h6_31]; (repeat refine AI ?_); refine hK' _ _ ?_; clear hK' K')
    refine hwalk2_step (g := none) rfl rfl fun K' hK' => ?_
    simp (maxSteps := 4000000) only [sH, ↓sP, sA, tyS, simprocAttr, Int.natCast_nonneg, hrl, hlt', hlr, nth_map hlr, List.length_append, h6_25, h6_31]
    rw [hbuild_qt _ _ rfl rfl]
    repeat refine AI ?_
    refine hK' _ _ ?_
    clear hK' K'
    iterate 4
     (refine hwalk2_step (g := none) rfl rfl fun K' hK' => ?_; simp only [sH, ↓sP, sA, tyS, simprocAttr, Int.natCast_nonneg, hrl, hlt', hlr, nth_map hlr, List.length_append, h6_25, h6_31]; (repeat refine AI ?_); refine hK' _ _ ?_; clear hK' K')
    simp only [sE, ↓reduceIte, simprocAttr]
    exact key b2 (qs ++ [⟨roles10[i], IntKind.i64.wrap (1 + IntKind.i64.wrap (x2.tdiv 3))⟩]) _ _ _ (by omega) (by simp; omega) (fun q hq => by
     rcases List.mem_append.1 hq with hq | hq
     ·
      exact hqm q hq
     rw [List.mem_singleton] at hq; rw [hq]; exact List.getElem_mem _) (fits_fin (by omega) (by simp [FinOk, fin_at, finA_at, upd_at, HV.men, HV.menL, HV.norm, HV.toC, HV.toCL]) (by simp [FobOk, fob_at, upd_at, none0_at, gone, HO.men, HV.men, HV.menL, HV.norm, HV.toC, HV.toCL]))
   cases hb
  simp only [h6_31]
  simp only [sE, ↓reduceIte, simprocAttr]
  repeat refine AI ?_
  refine hK _ _ _ ?_
  clear hK K
  refine hw_cond (b := false) rfl (fun hb => ?_) (fun hb => ?_)
  ·
   cases hb
  refine hw_skip ?_
  simp (maxSteps := 4000000) only [↓sP, sA, tyS, simprocAttr]
  exact key b1 qs _ _ _ (by omega) (by omega) hqm (fits_fin (by omega) (by simp [FinOk, fin_at, finA_at, upd_at, HV.men, HV.menL, HV.norm, HV.toC, HV.toCL]) (by simp [FobOk, fob_at, upd_at, none0_at, gone, HO.men, HV.men, HV.menL, HV.norm, HV.toC, HV.toCL]))
 refine hw_exit ?_
 simp (maxSteps := 4000000) only [↓sP, sA, tyS, simprocAttr]
 clear hK K
 repeat refine AI ?_
 refine hK _ _ _ ?_
 clear hK K
 refine hw_seq fun K hK => ?_
 clear hb
 refine hw_close [45] (hw_fits (fr2 := fin [(0, .ptr 0 0), (1, .c (.int .i64 v)), (4, .ptr 1 0), (5, .ptr 25 0)]) (ob2 := fob [(0, .box 25 (.c (tp L b))), (1, .box 30 (.c (Rt.cv ⟨0, 0, [], [], []⟩))), (25, .box 30 (.c (Rt.cv ⟨v, e0, qs, [], []⟩)))]) (nx2 := 200) (fits_fin (by omega) (by simp [FinOk, clF_at, fin_at, finA_at, upd_at, fob_at, HV.close, HV.closeL, CV.denil, CV.denilL, denilL_str, denilL_Rv, denilL_Qt, denilL_Ky, HV.men, HV.menL, HV.norm, HV.toC, HV.toCL]) (by simp [FobOk, clO_at, fob_at, upd_at, none0_at, gone, HO.close, HV.close, HV.closeL, HO.men, HV.men, HV.menL, HV.norm, HV.toC, HV.toCL, Rt.denil, zR, Rt.cv, CV.denil, CV.denilL, denilL_str, denilL_Rv, denilL_Qt, denilL_Ky, denilL_int])) ?_)
 refine hw_seq fun K hK => hw_region (by kernel_rfl) ?_
 simp (maxSteps := 4000000) only [↓sP, sA, tyS, simprocAttr]
 repeat refine AI ?_
 refine hK _ _ _ ?_
 clear hK K
 refine hw_block ?_
 refine hw_loop (α := {y : Nat × Nat × List Ky // y.1 ≤ 6 ∧ y.2.1 ≤ a + 21 + 14 * y.1 ∧ y.2.2.length ≤ y.1 ∧ ∀ k ∈ y.2.2, kOk k}) (fun y => (fin [(0, .ptr 0 0), (1, .c (.int .i64 v)), (4, .ptr 1 0), (5, .ptr 25 0), (8, .c (.int .i64 y.1.1))], fob [(0, .box 25 (.c (tp L y.1.2.1))), (1, .box 30 (.c (Rt.cv ⟨0, 0, [], [], []⟩))), (25, .box 30 (.c (Rt.cv ⟨v, e0, qs, y.1.2.2, []⟩)))])) 300 (fun y => 6 - y.1.1) ⟨(0, b, []), by simp, by simp only; omega, by simp, by simp⟩ (fits_fin (by omega) (by simp [FinOk, fin_at, finA_at, upd_at, HV.men, HV.menL, HV.norm, HV.toC, HV.toCL]) (by simp [FobOk, fob_at, upd_at, none0_at, gone, HO.men, HV.men, HV.menL, HV.norm, HV.toC, HV.toCL])) ?_
 clear hb0
 rintro ⟨⟨j, b, ks⟩, hj, hb0, hkl, hkm⟩
 simp only at hj hb0 hkl hkm ⊢
 refine hw_seq fun K hK => ?_
 refine hw_seq fun K hK => hw_region (by kernel_rfl) ?_
 simp (maxSteps := 4000000) only [↓sP, sA, tyS, simprocAttr]
 repeat refine AI ?_
 refine hK _ _ _ ?_
 clear hK K
 refine hw_cond (b := decide ((j : Int) < 6)) rfl (fun hb => ?_) (fun hb => ?_)
 ·
  have hlt : j < 6 := by simp at hb; omega
  refine hw_skip ?_
  simp (maxSteps := 4000000) only [↓sP, sA, tyS, simprocAttr]
  repeat refine AI ?_
  refine hK _ _ _ ?_
  clear hK K
  refine hw_seq fun K hK => ?_
  have key : ∀ (b' : Nat) (ks' : List Ky) fr ob nx, b' ≤ a + 21 + 14 * (j + 1) → ks'.length ≤ j + 1 → (∀ k ∈ ks', kOk k) → Fits 1 fr ob (fin [(0, .ptr 0 0), (1, .c (.int .i64 v)), (4, .ptr 1 0), (5, .ptr 25 0), (8, .c (.int .i64 j))]) (fob [(0, .box 25 (.c (tp L b'))), (1, .box 30 (.c (Rt.cv ⟨0, 0, [], [], []⟩))), (25, .box 30 (.c (Rt.cv ⟨v, e0, qs, ks', []⟩)))]) 500 → K fr ob nx := by
   intro b' ks' fr ob nx w1 w2 w3 hf
   refine hK _ _ _ (hw_fits hf ?_)
   clear hf hK K
   refine hw_region (by kernel_rfl) ?_
   simp (maxSteps := 4000000) only [↓sP, sA, tyS, simprocAttr, IntWalk.i64_in _ (show -9223372036854775808 ≤ (j : Int) + 1 ∧ (j : Int) + 1 ≤ 9223372036854775807 by omega)]
   refine ⟨⟨(j + 1, b', ks'), hlt, w1, w2, w3⟩, fits_fin (by omega) (by simp [FinOk, fin_at, finA_at, upd_at, HV.men, HV.menL, HV.norm, HV.toC, HV.toCL]) (by simp [FobOk, fob_at, upd_at, none0_at, gone, HO.men, HV.men, HV.menL, HV.norm, HV.toC, HV.toCL]), ?_⟩
   show 6 - (j + 1) < 6 - j
   omega
  refine hw_block ?_
  refine hw_seq fun K hK => ?_
  refine hw_seq fun K hK => hw_region (by kernel_rfl) ?_
  simp only [sR, simprocAttr]
  refine hlex_step (g := none) rfl rfl fun K' hK' => ?_
  simp (maxSteps := 4000000) only [sH, ↓sP, sA, tyS, simprocAttr]
  repeat refine AI ?_
  refine hK' _ _ ?_
  clear hK' K'
  refine hlex_step (g := none) rfl rfl fun K' hK' => ?_
  simp (maxSteps := 4000000) only [sH, ↓sP, sA, tyS, simprocAttr]
  refine call_box (args := [_]) (next_ok L b 6 (by omega) (by omega)) rfl (by simp) ⟨rfl, rfl, rfl, rfl⟩ ?_
  rintro u v' ⟨x1, b1, rfl, rfl, g1, g2, g3, g4⟩
  repeat refine AI ?_
  refine hK' _ _ ?_
  clear hK' K'
  refine hlex_step (g := none) rfl rfl fun K' hK' => ?_
  simp (maxSteps := 4000000) only [sH, ↓sP, sA, tyS, simprocAttr]
  repeat refine AI ?_
  refine hK' _ _ ?_
  clear hK' K'
  simp only [sE, ↓reduceIte, simprocAttr]
  repeat refine AI ?_
  refine hK _ _ _ ?_
  clear hK K
  refine hw_cond (b := x1 == 0) rfl (fun hb => ?_) (fun hb => ?_)
  ·
   refine hw_exit ?_
   simp (maxSteps := 4000000) only [↓sP, sA, tyS, simprocAttr]
   clear hK K
   exact key b1 ks _ _ _ (by omega) (by omega) hkm (fits_fin (by omega) (by simp [FinOk, fin_at, finA_at, upd_at, HV.men, HV.menL, HV.norm, HV.toC, HV.toCL]) (by simp [FobOk, fob_at, upd_at, none0_at, gone, HO.men, HV.men, HV.menL, HV.norm, HV.toC, HV.toCL]))
  refine hw_skip ?_
  simp (maxSteps := 4000000) only [↓sP, sA, tyS, simprocAttr]
  repeat refine AI ?_
  refine hK _ _ _ ?_
  clear hK K
  refine hw_seq fun K hK => hw_region (by kernel_rfl) ?_
  simp only [sR, simprocAttr]
  refine hlex_step (g := none) rfl rfl fun K' hK' => ?_
  simp (maxSteps := 4000000) only [sH, ↓sP, sA, tyS, simprocAttr]
  repeat refine AI ?_
  refine hK' _ _ ?_
  clear hK' K'
  refine hlex_step (g := none) rfl rfl fun K' hK' => ?_
  simp (maxSteps := 4000000) only [sH, ↓sP, sA, tyS, simprocAttr]
  refine call_box (args := [_]) (next_ok L b1 6 (by omega) (by omega)) rfl (by simp) ⟨rfl, rfl, rfl, rfl⟩ ?_
  rintro u v' ⟨x2, b2, rfl, rfl, k1, k2, k3, k4⟩
  repeat refine AI ?_
  refine hK' _ _ ?_
  clear hK' K'
  refine hlex_step (g := none) rfl rfl fun K' hK' => ?_
  simp (maxSteps := 4000000) only [sH, ↓sP, sA, tyS, simprocAttr]
  repeat refine AI ?_
  refine hK' _ _ ?_
  clear hK' K'
  simp only [sE, ↓reduceIte, simprocAttr]
  repeat refine AI ?_
  refine hK _ _ _ ?_
  clear hK K
  refine hw_draw2 mixed [(0, [], []), (1, [], []), (2, [], []), (4, [], []), (6, [], []), (8, [], []), (9, [], []), (10, [], []), (11, [], []), (3, [], [0, 1, 4, 6, 8, 9, 10, 11]), (5, [], [0, 1, 6, 8, 9, 10, 11]), (7, [], [0, 1, 8, 9, 10, 11]), (12, [], [0, 1, 8, 9, 10]), (13, [], []), (14, [], []), (15, [], []), (16, [], []), (17, [], [])] [0, 1, 0, 4, 0, 28, 0, 124, 0, 0, 512, 0, 2300, 7932, 16380, 32767, 65535, 131071] (by kernel_rfl) (by kernel_rfl) (by kernel_rfl) (by kernel_rfl) rfl (by kernel_rfl) ?_
  iterate 9
   (refine hwalk2_step (g := none) rfl rfl fun K' hK' => ?_; simp only [sH, ↓sP, sA, tyS, simprocAttr, denilL_Ky, denilL_str, Rt.fold]; (repeat refine AI ?_); refine hK' _ _ ?_; clear hK' K')
  refine hwalk2_step (g := none) rfl rfl fun K' hK' => ?_
  simp (maxSteps := 4000000) only [sH, ↓sP, sA, tyS, simprocAttr, denilL_Ky, denilL_str, Rt.fold]
  refine call_pure (args := [_]) (public_ok j (by omega)) ⟨rfl, rfl, rfl, rfl⟩ ?_
  rintro u rfl
  repeat refine AI ?_
  refine hK' _ _ ?_
  clear hK' K'
  refine hwalk2_step (g := none) rfl rfl fun K' hK' => ?_
  simp (maxSteps := 4000000) only [sH, ↓sP, sA, tyS, simprocAttr, denilL_Ky, denilL_str, Rt.fold]
  refine call_pure (args := [_]) (owner_ok j (by omega)) ⟨rfl, rfl, rfl, rfl⟩ ?_
  rintro u rfl
  repeat refine AI ?_
  refine hK' _ _ ?_
  clear hK' K'
  refine hwalk2_step (g := none) rfl rfl fun K' hK' => ?_
  simp (maxSteps := 4000000) only [sH, ↓sP, sA, tyS, simprocAttr, denilL_Ky, denilL_str, Rt.fold]
  refine call_box (args := []) (some_ok L b2 (by omega)) rfl (by simp) ⟨rfl, rfl, rfl, rfl⟩ ?_
  rintro u v' ⟨ws, b3, rfl, rfl, n1, n2, n3⟩
  repeat refine AI ?_
  refine hK' _ _ ?_
  clear hK' K'
  refine hwalk2_step (g := none) rfl rfl fun K' hK' => ?_
  simp (maxSteps := 4000000) only [sH, ↓sP, sA, tyS, simprocAttr, denilL_Ky, denilL_str, Rt.fold]
  refine call_box (args := [_]) (next_ok L b3 60 (by omega) (by omega)) rfl (by simp) ⟨rfl, rfl, rfl, rfl⟩ ?_
  rintro u v' ⟨x3, b4, rfl, rfl, o1, o2, o3, o4⟩
  obtain ⟨un, hun⟩ : ∃ un, un = IntKind.i64.wrap (IntKind.i64.wrap (x2 + 1) + x3) := ⟨_, rfl⟩
  repeat refine AI ?_
  refine hK' _ _ ?_
  clear hK' K'
  iterate 2
   (refine hwalk2_step (g := none) rfl rfl fun K' hK' => ?_; simp only [sH, ↓sP, sA, tyS, simprocAttr, denilL_Ky, denilL_str, Rt.fold]; (repeat refine AI ?_); refine hK' _ _ ?_; clear hK' K')
  refine hwalk2_step (g := none) rfl rfl fun K' hK' => ?_
  simp (maxSteps := 4000000) only [sH, ↓sP, sA, tyS, simprocAttr, denilL_Ky, denilL_str, Rt.fold]
  refine call_pure (args := [_, _]) (insert_ok ks ⟨mPub j, mOwner j, ws, x2, IntKind.i64.wrap (IntKind.i64.wrap (x2 + 1) + x3)⟩ (by omega)) ⟨rfl, rfl, rfl, rfl⟩ ?_
  rintro u rfl
  repeat refine AI ?_
  refine hK' _ _ ?_
  clear hK' K'
  iterate 2
   (refine hwalk2_step (g := none) rfl rfl fun K' hK' => ?_; simp only [sH, ↓sP, sA, tyS, simprocAttr, denilL_Ky, denilL_str, Rt.fold]; (repeat refine AI ?_); refine hK' _ _ ?_; clear hK' K')
  simp only [sE, ↓reduceIte, simprocAttr]
  exact key b4 (insK ks ⟨mPub j, mOwner j, ws, x2, IntKind.i64.wrap (IntKind.i64.wrap (x2 + 1) + x3)⟩) _ _ _ (by omega) (by rw [insK_len]; omega) (fun k hk => by
   rcases insK_mem hk with hk | rfl
   ·
    exact hkm k hk
   exact mKey_ok j ws _ _ n2 n3) (fits_fin (by omega) (by simp [FinOk, fin_at, finA_at, upd_at, HV.men, HV.menL, HV.norm, HV.toC, HV.toCL]) (by simp [FobOk, fob_at, upd_at, none0_at, gone, HO.men, HV.men, HV.menL, HV.norm, HV.toC, HV.toCL]; rfl))
 clear hb
 refine hw_exit ?_
 simp (maxSteps := 4000000) only [↓sP, sA, tyS, simprocAttr]
 clear hK K
 repeat refine AI ?_
 refine hK _ _ _ ?_
 clear hK K
 refine hw_seq fun K hK => ?_
 have key : ∀ (b' : Nat) (r : Rt) fr ob nx, b' ≤ a + 150 → rOk r → Fits 1 fr ob (fin [(0, .ptr 0 0), (1, .c (.int .i64 v)), (4, .ptr 1 0), (5, .ptr 25 0)]) (fob [(0, .box 25 (.c (tp L b'))), (1, .box 30 (.c (Rt.cv ⟨0, 0, [], [], []⟩))), (25, .box 30 (.c r.cv))]) 600 → K fr ob nx := by
  intro b' r fr ob nx w1 w2 hf
  refine hK _ _ _ (hw_fits hf ?_)
  clear hf hK K
  refine hw_seq fun K hK => ?_
  refine hw_seq fun K hK => hw_region (by kernel_rfl) ?_
  simp only [sR, simprocAttr]
  refine hlex_step (g := none) rfl rfl fun K' hK' => ?_
  simp (maxSteps := 4000000) only [sH, ↓sP, sA, tyS, simprocAttr]
  repeat refine AI ?_
  refine hK' _ _ ?_
  clear hK' K'
  refine hlex_step (g := none) rfl rfl fun K' hK' => ?_
  simp (maxSteps := 4000000) only [sH, ↓sP, sA, tyS, simprocAttr]
  refine call_pure (args := [_]) (rvalid_ok r w2.1) ⟨rfl, rfl, rfl, rfl⟩ ?_
  rintro u rfl
  repeat refine AI ?_
  refine hK' _ _ ?_
  clear hK' K'
  refine hlex_step (g := none) rfl rfl fun K' hK' => ?_
  simp (maxSteps := 4000000) only [sH, ↓sP, sA, tyS, simprocAttr]
  repeat refine AI ?_
  refine hK' _ _ ?_
  clear hK' K'
  simp only [sE, ↓reduceIte, simprocAttr]
  repeat refine AI ?_
  refine hK _ _ _ ?_
  clear hK K
  refine hw_cond (b := !validR r) rfl (fun hb => ?_) (fun hb => ?_)
  ·
   refine hw_seq fun K hK => hw_region (by kernel_rfl) ?_
   simp only [sR, simprocAttr]
   refine hlex_step (g := none) rfl rfl fun K' hK' => ?_
   simp (maxSteps := 4000000) only [sH, ↓sP, sA, tyS, simprocAttr]
   refine call_pure (args := []) mfull_ok ⟨rfl, rfl, rfl, rfl⟩ ?_
   rintro u rfl
   repeat refine AI ?_
   refine hK' _ _ ?_
   clear hK' K'
   iterate 2
    (refine hlex_step (g := none) rfl rfl fun K' hK' => ?_; simp only [sH, ↓sP, sA, tyS, simprocAttr]; (repeat refine AI ?_); refine hK' _ _ ?_; clear hK' K')
   simp only [sE, ↓reduceIte, simprocAttr]
   repeat refine AI ?_
   refine hK _ _ _ ?_
   clear hK K
   refine hw_seq fun K hK => hw_region (by kernel_rfl) ?_
   simp (maxSteps := 4000000) only [↓sP, sA, tyS, simprocAttr, Rt.fold]
   repeat refine AI ?_
   refine hK _ _ _ ?_
   clear hK K
   refine hw_seq fun K hK => hw_region (by kernel_rfl) ?_
   simp (maxSteps := 4000000) only [↓sP, sA, tyS, simprocAttr]
   repeat refine AI ?_
   refine hK _ _ _ ?_
   clear hK K
   refine hw_ret ?_
   simp (maxSteps := 4000000) only [hpost, Tryz.results4, hresL, hres1, tupOf, ↓sP, sA, tyS, simprocAttr]
   refine hret_box [] (Rt.cv ⟨v, full.e, full.q, full.k, full.x⟩) (tp L b') (close_c (Rt.denil _)) rfl ?_ (by simp) ⟨_, b', rfl, rfl, w1, full_ok v, full_valid_v⟩
   simp [HV.close, HV.closeL, tp, CV.denil, CV.denilL, denilL_int, HV.norm, HV.toC, HV.toCL]
  refine hw_skip ?_
  simp (maxSteps := 4000000) only [↓sP, sA, tyS, simprocAttr]
  repeat refine AI ?_
  refine hK _ _ _ ?_
  clear hK K
  refine hw_seq fun K hK => hw_region (by kernel_rfl) ?_
  simp (maxSteps := 4000000) only [↓sP, sA, tyS, simprocAttr]
  repeat refine AI ?_
  refine hK _ _ _ ?_
  clear hK K
  refine hw_ret ?_
  simp (maxSteps := 4000000) only [hpost, Tryz.results4, hresL, hres1, tupOf, ↓sP, sA, tyS, simprocAttr]
  refine hret_box [] r.cv (tp L b') (close_c (Rt.denil _)) rfl ?_ (by simp) ⟨r, b', rfl, rfl, w1, w2, fun _ _ => by simpa using hb⟩
  simp [HV.close, HV.closeL, tp, CV.denil, CV.denilL, denilL_int, HV.norm, HV.toC, HV.toCL]
 refine hw_seq fun K hK => hw_region (by kernel_rfl) ?_
 simp only [sR, simprocAttr]
 refine hlex_step (g := none) rfl rfl fun K' hK' => ?_
 simp (maxSteps := 4000000) only [sH, ↓sP, sA, tyS, simprocAttr]
 repeat refine AI ?_
 refine hK' _ _ ?_
 clear hK' K'
 refine hlex_step (g := none) rfl rfl fun K' hK' => ?_
 simp (maxSteps := 4000000) only [sH, ↓sP, sA, tyS, simprocAttr]
 refine call_box (args := [_]) (next_ok L b 4 (by omega) (by omega)) rfl (by simp) ⟨rfl, rfl, rfl, rfl⟩ ?_
 rintro u v' ⟨x1, b1, rfl, rfl, g1, g2, g3, g4⟩
 repeat refine AI ?_
 refine hK' _ _ ?_
 clear hK' K'
 refine hlex_step (g := none) rfl rfl fun K' hK' => ?_
 simp (maxSteps := 4000000) only [sH, ↓sP, sA, tyS, simprocAttr]
 repeat refine AI ?_
 refine hK' _ _ ?_
 clear hK' K'
 simp only [sE, ↓reduceIte, simprocAttr]
 repeat refine AI ?_
 refine hK _ _ _ ?_
 clear hK K
 refine hw_cond (b := x1 == 0) rfl (fun hb => ?_) (fun hb => ?_)
 ·
  refine hw_draw2 mixed [(0, [], []), (1, [], []), (4, [], []), (2, [], [0, 4]), (3, [], [0, 4]), (5, [], [0]), (6, [], []), (7, [], []), (8, [], [])] [0, 0, 2, 6, 0, 30, 62, 127, 255] (by kernel_rfl) (by kernel_rfl) (by kernel_rfl) (by kernel_rfl) rfl (by kernel_rfl) ?_
  iterate 3
   (refine hwalk2_step (g := none) rfl rfl fun K' hK' => ?_; simp only [sH, ↓sP, sA, tyS, simprocAttr, Rv.fold]; (repeat refine AI ?_); refine hK' _ _ ?_; clear hK' K')
  refine hwalk2_step (g := none) rfl rfl fun K' hK' => ?_
  simp (maxSteps := 4000000) only [sH, ↓sP, sA, tyS, simprocAttr, Rv.fold]
  refine call_box (args := [_]) (next_ok L b1 7 (by omega) (by omega)) rfl (by simp) ⟨rfl, rfl, rfl, rfl⟩ ?_
  rintro u v' ⟨x2, b2, rfl, rfl, k1, k2, k3, k4⟩
  obtain ⟨m, rfl⟩ : ∃ m : Nat, x2 = m := ⟨x2.toNat, by omega⟩
  repeat refine AI ?_
  refine hK' _ _ ?_
  clear hK' K'
  refine hwalk2_step (g := none) rfl rfl fun K' hK' => ?_
  simp (maxSteps := 4000000) only [sH, ↓sP, sA, tyS, simprocAttr, Rv.fold]
  refine call_pure (args := [_]) (mid_ok m (by omega)) ⟨rfl, rfl, rfl, rfl⟩ ?_
  rintro u rfl
  repeat refine AI ?_
  refine hK' _ _ ?_
  clear hK' K'
  refine hwalk2_step (g := none) rfl rfl fun K' hK' => ?_
  simp (maxSteps := 4000000) only [sH, ↓sP, sA, tyS, simprocAttr, Rv.fold]
  refine call_box (args := [_]) (next_ok L b2 30 (by omega) (by omega)) rfl (by simp) ⟨rfl, rfl, rfl, rfl⟩ ?_
  rintro u v' ⟨x3, b3, rfl, rfl, o1, o2, o3, o4⟩
  repeat refine AI ?_
  refine hK' _ _ ?_
  clear hK' K'
  refine hwalk2_step (g := none) rfl rfl fun K' hK' => ?_
  simp (maxSteps := 4000000) only [sH, ↓sP, sA, tyS, simprocAttr, Rv.fold]
  repeat refine AI ?_
  refine hK' _ _ ?_
  clear hK' K'
  refine hwalk2_step (g := none) rfl rfl fun K' hK' => ?_
  simp (maxSteps := 4000000) only [sH, ↓sP, sA, tyS, simprocAttr, Rv.fold]
  refine call_pure (args := [_, _]) (revoke_ok ⟨v, e0, qs, ks, []⟩ ⟨mid m, x3⟩ (rOk_of (by omega) hqm (by omega) hkm (by simp)).1) ⟨rfl, rfl, rfl, rfl⟩ ?_
  rintro u ⟨xs, rfl, hxs⟩
  repeat refine AI ?_
  refine hK' _ _ ?_
  clear hK' K'
  refine hwalk2_step (g := none) rfl rfl fun K' hK' => ?_
  simp (maxSteps := 4000000) only [sH, ↓sP, sA, tyS, simprocAttr, Rv.fold]
  repeat refine AI ?_
  refine hK' _ _ ?_
  clear hK' K'
  simp only [sE, ↓reduceIte, simprocAttr]
  exact key b3 ⟨v, e0, qs, ks, xs⟩ _ _ _ (by omega) (rOk_of (by omega) hqm (by omega) hkm (by simpa using hxs)) (fits_fin (by omega) (by simp [FinOk, fin_at, finA_at, upd_at, HV.men, HV.menL, HV.norm, HV.toC, HV.toCL]) (by simp [FobOk, fob_at, upd_at, none0_at, gone, HO.men, HV.men, HV.menL, HV.norm, HV.toC, HV.toCL]))
 refine hw_skip ?_
 simp (maxSteps := 4000000) only [↓sP, sA, tyS, simprocAttr]
 exact key b1 ⟨v, e0, qs, ks, []⟩ _ _ _ (by omega) (rOk_of (by omega) hqm (by omega) hkm (by simp)) (fits_fin (by omega) (by simp [FinOk, fin_at, finA_at, upd_at, HV.men, HV.menL, HV.norm, HV.toC, HV.toCL]) (by simp [FobOk, fob_at, upd_at, none0_at, gone, HO.men, HV.men, HV.menL, HV.norm, HV.toC, HV.toCL]))


theorem awake_ok : HPure Tryz.prog 12 [] (fun v => v = .bool true) := by
 refine hfn_walk Tryz.func12 rfl (by kernel_rfl) (locOk_nil _) (Nat.le_of_ble_eq_true rfl) ?_
 refine hw_seq fun K hK => hw_region (by kernel_rfl) ?_
 simp (maxSteps := 4000000) only [↓sP, sA, tyS, simprocAttr]
 repeat refine AI ?_
 refine hK _ _ _ ?_
 clear hK K
 refine hw_seq fun K hK => hw_region (by kernel_rfl) ?_
 simp only [sR, simprocAttr]
 refine hlex_step (g := none) rfl rfl fun K' hK' => ?_
 simp (maxSteps := 4000000) only [sH, ↓sP, sA, tyS, simprocAttr]
 refine call_pure (args := []) mfull_ok ⟨rfl, rfl, rfl, rfl⟩ ?_
 rintro u rfl
 repeat refine AI ?_
 refine hK' _ _ ?_
 clear hK' K'
 iterate 2
  (refine hlex_step (g := none) rfl rfl fun K' hK' => ?_; simp only [sH, ↓sP, sA, tyS, simprocAttr]; (repeat refine AI ?_); refine hK' _ _ ?_; clear hK' K')
 simp only [sE, ↓reduceIte, simprocAttr]
 repeat refine AI ?_
 refine hK _ _ _ ?_
 clear hK K
 refine hw_seq fun K hK => hw_draw2 mixed [(0, [], []), (1, [], []), (2, [], []), (3, [], []), (4, [], []), (5, [], []), (6, [], []), (7, [], []), (8, [], []), (9, [], [8]), (10, [], []), (11, [], []), (12, [], []), (13, [], [])] [0, 1, 3, 7, 15, 31, 63, 127, 255, 255, 767, 2047, 4095, 8191] (by kernel_rfl) (by kernel_rfl) (by kernel_rfl) (by kernel_rfl) rfl (by kernel_rfl) ?_
 refine hwalk2_step (g := none) rfl rfl fun K' hK' => ?_
 simp (maxSteps := 4000000) only [sH, ↓sP, sA, tyS, simprocAttr, full_valid, full_need, full_enough, gone_at]
 repeat refine AI ?_
 refine hK' _ _ ?_
 clear hK' K'
 refine hwalk2_step (g := none) rfl rfl fun K' hK' => ?_
 simp (maxSteps := 4000000) only [sH, ↓sP, sA, tyS, simprocAttr, full_valid, full_need, full_enough, gone_at]
 refine call_pure (args := [_]) (valid_ok full (full_ok 1).1) ⟨rfl, rfl, rfl, rfl⟩ ?_
 rintro u rfl
 repeat refine AI ?_
 refine hK' _ _ ?_
 clear hK' K'
 refine hwalk2_step (g := none) rfl rfl fun K' hK' => ?_
 simp (maxSteps := 4000000) only [sH, ↓sP, sA, tyS, simprocAttr, full_valid, full_need, full_enough, gone_at]
 repeat refine AI ?_
 refine hK' _ _ ?_
 clear hK' K'
 refine hwalk2_step (g := some (5, true)) rfl rfl fun K' hK' => ?_
 simp (maxSteps := 4000000) only [sH, ↓sP, sA, tyS, simprocAttr, full_valid, full_need, full_enough, gone_at]
 repeat refine AI ?_
 refine hK' _ _ ?_
 clear hK' K'
 refine hwalk2_step (g := some (5, true)) rfl rfl fun K' hK' => ?_
 simp (maxSteps := 4000000) only [sH, ↓sP, sA, tyS, simprocAttr, full_valid, full_need, full_enough, gone_at]
 refine call_pure (args := [_, _]) (tneed_ok full wStep (full_ok 1).1) ⟨rfl, rfl, rfl, rfl⟩ ?_
 rintro u rfl
 rw [full_need]
 repeat refine AI ?_
 refine hK' _ _ ?_
 clear hK' K'
 refine hwalk2_step (g := some (5, true)) rfl rfl fun K' hK' => ?_
 simp (maxSteps := 4000000) only [sH, ↓sP, sA, tyS, simprocAttr, full_valid, full_need, full_enough, gone_at]
 repeat refine AI ?_
 refine hK' _ _ ?_
 clear hK' K'
 iterate 2
  (refine hwalk2_step (g := none) rfl rfl fun K' hK' => ?_; simp only [sH, ↓sP, sA, tyS, simprocAttr, full_valid, full_need, full_enough, gone_at]; (repeat refine AI ?_); refine hK' _ _ ?_; clear hK' K')
 refine hwalk2_step (g := some (10, true)) rfl rfl fun K' hK' => ?_
 simp (maxSteps := 4000000) only [sH, ↓sP, sA, tyS, simprocAttr, full_valid, full_need, full_enough, gone_at]
 repeat refine AI ?_
 refine hK' _ _ ?_
 clear hK' K'
 refine hwalk2_step (g := some (10, true)) rfl rfl fun K' hK' => ?_
 simp (maxSteps := 4000000) only [sH, ↓sP, sA, tyS, simprocAttr, full_valid, full_need, full_enough, gone_at]
 refine call_pure (args := [_]) (mid_ok 0 (by omega)) ⟨rfl, rfl, rfl, rfl⟩ ?_
 rintro u rfl
 repeat refine AI ?_
 refine hK' _ _ ?_
 clear hK' K'
 refine hwalk2_step (g := some (10, true)) rfl rfl fun K' hK' => ?_
 simp (maxSteps := 4000000) only [sH, ↓sP, sA, tyS, simprocAttr, full_valid, full_need, full_enough, gone_at]
 repeat refine AI ?_
 refine hK' _ _ ?_
 clear hK' K'
 refine hwalk2_step (g := some (10, true)) rfl rfl fun K' hK' => ?_
 simp (maxSteps := 4000000) only [sH, ↓sP, sA, tyS, simprocAttr, full_valid, full_need, full_enough, gone_at]
 refine call_close (e := 44) (sz := 32) (l := [mid 0].map dg) [full.cv, .str wStep] [.int .i64 5] (enough_ok full wStep [mid 0] 5 (full_ok 1).1 (by simp)) rfl rfl (by simp) ⟨rfl, rfl, rfl, rfl⟩ ?_
 rintro u rfl
 repeat refine AI ?_
 refine hK' _ _ ?_
 clear hK' K'
 iterate 2
  (refine hwalk2_step (g := none) rfl rfl fun K' hK' => ?_; simp only [sH, ↓sP, sA, tyS, simprocAttr, full_valid, full_need, full_enough, gone_at]; (repeat refine AI ?_); refine hK' _ _ ?_; clear hK' K')
 simp only [sE, ↓reduceIte, simprocAttr]
 repeat refine AI ?_
 refine hK _ _ _ ?_
 clear hK K
 refine hw_ret ?_
 simp (maxSteps := 4000000) only [hpost, Tryz.results12, hresL, hres1, tupOf, ↓sP, sA, tyS, simprocAttr]
 exact hret_pure [] (.bool true) rfl rfl

end Go.Proofs.YtenbfeemmpjdhaaGreat

namespace Go.Pl
open Go Go.Hl

def rMid (r : Rt) : Prop := (r.q.length ≤ 12 ∧ ∀ q ∈ r.q, q.r.length ≤ 300) ∧ (r.k.length ≤ 32 ∧ ∀ k ∈ r.k, k.o.length ≤ 300 ∧ k.rs.length ≤ 30 ∧ ∀ w ∈ k.rs, w.length ≤ 300) ∧ r.x.length ≤ 65
theorem rMid.sz {r : Rt} (h : rMid r) : rSz r := by
  obtain ⟨⟨h1, h2⟩, ⟨h3, h4⟩, h5⟩ := h
  refine ⟨⟨by omega, fun q hq => by have := h2 q hq; omega⟩, ⟨by omega, fun k hk => ?_⟩, by omega⟩
  obtain ⟨k1, k2, k3⟩ := h4 k hk
  exact ⟨by omega, by omega, fun w hw => by have := k3 w hw; omega⟩
end Go.Pl

namespace Go.Pl
open Go Go.Hl

theorem nameB_short {w : Word} (h : nameB w = true) : w.length ≤ 64 := by
  cases w with
  | nil => simp
  | cons c s =>
    unfold nameB at h
    simp only [Bool.and_eq_true, decide_eq_true_eq] at h
    exact h.1
theorem rMid_of_valid {r : Rt} (h : validR r = true) : rMid r ∧ 0 < r.k.length ∧ 0 < r.q.length ∧ r.x.length ≤ 64 := by
  unfold validR quotasB keysB revsB at h
  simp only [Bool.and_eq_true, decide_eq_true_eq, List.all_eq_true] at h
  obtain ⟨-, -, ⟨hq1, -, hq2⟩, ⟨hk1, -, hk2⟩, ⟨-, -, hx⟩, hn1, hn2⟩ := h
  refine ⟨⟨⟨hq2, fun q hq => ?_⟩, ⟨hk2, fun k hk => ?_⟩, by omega⟩, ?_, ?_, hx⟩
  · have := hq1 q hq
    unfold quotaB at this
    simp only [Bool.and_eq_true] at this
    have := nameB_short this.1
    omega
  · have := hk1 k hk
    unfold keyB namesB at this
    simp only [Bool.and_eq_true, decide_eq_true_eq, List.all_eq_true] at this
    obtain ⟨-, h1, ⟨-, h2⟩, ⟨h3, -⟩, -⟩ := this
    have := nameB_short h1
    exact ⟨by omega, by omega, fun w hw => by have := nameB_short (h3 w hw); omega⟩
  · rcases Nat.eq_zero_or_pos r.k.length with e | e
    · have e2 : r.k = [] := List.length_eq_zero_iff.1 e
      rw [e2] at hn2
      simp [ownB, ownF, setW] at hn2
      omega
    · exact e
  · rcases Nat.eq_zero_or_pos r.q.length with e | e
    · have e2 : r.q = [] := List.length_eq_zero_iff.1 e
      rw [e2] at hn1
      simp [need] at hn1
    · exact e

def fK (r : Rt) (d : Dig) : Ky := (findK r.k d).getD k0
def rlive (r : Rt) (d : Dig) (t : Int) : Bool := match findK r.k d with | some k => liveB r k t | none => false
theorem findK_kid {l : List Ky} {d : Dig} {k : Ky} (h : findK l d = some k) : kid k = d ∧ k ∈ l := by
  unfold findK at h
  have h1 := List.find?_some (p := fun k => kid k == d) h
  exact ⟨eq_of_beq h1, List.mem_of_find?_eq_some h⟩
theorem rlive_code (r : Rt) (d : Dig) (t : Int) : rlive r d t = ((findK r.k d).isSome && (decide (((findK r.k d).getD k0).fr ≤ t) && (decide (t < ((findK r.k d).getD k0).un) && (decide (t < r.e) && !(revS r.x d && decide (revZ r.x d ≤ t)))))) := by
  unfold rlive
  cases h : findK r.k d with
  | none => rfl
  | some k =>
    obtain ⟨rfl, -⟩ := findK_kid h
    simp only [Option.getD_some, Option.isSome_some, Bool.true_and, live_code]
    rfl
theorem fK_sz {r : Rt} (hr : rSz r) (d : Dig) : ((findK r.k d).getD k0).rs.length < 2 ^ 40 := by
  cases h : findK r.k d with
  | none => simp [k0]
  | some k => exact (hr.2.1.2 k (findK_kid h).2).2.1
def rvStep (r : Rt) (role : Word) (t : Int) (a : List Word) (d : Dig) : List Word := if (fK r d).rs.contains role && rlive r d t then addW a (fK r d).o else a
def rvL (r : Rt) (role : Word) (t : Int) (l : List Dig) : List Word := l.foldl (rvStep r role t) []
theorem rvL_spec (r : Rt) (role : Word) (t : Int) : ∀ (l : List Dig) (a : List Word), Asc a → Asc (l.foldl (rvStep r role t) a) ∧ ∀ w, w ∈ l.foldl (rvStep r role t) a ↔ w ∈ a ∨ ∃ d ∈ l, ((fK r d).rs.contains role && rlive r d t) = true ∧ (fK r d).o = w
  | [], a, h => ⟨h, fun w => by simp⟩
  | d :: l, a, h => by
    have h1 : Asc (rvStep r role t a d) := by
      unfold rvStep
      split
      · exact asc_addW h _
      · exact h
    have h2 : ∀ w, w ∈ rvStep r role t a d ↔ w ∈ a ∨ (((fK r d).rs.contains role && rlive r d t) = true ∧ (fK r d).o = w) := by
      intro w
      unfold rvStep
      split
      · rename_i hc
        rw [mem_addW]
        simp only [hc, true_and]
        constructor
        · rintro (h | h)
          · exact .inl h
          · exact .inr h.symm
        · rintro (h | h)
          · exact .inl h
          · exact .inr h.symm
      · rename_i hc
        constructor
        · exact .inl
        · rintro (h | h)
          · exact h
          · exact absurd h.1 hc
    obtain ⟨h3, h4⟩ := rvL_spec r role t l _ h1
    refine ⟨h3, fun w => ?_⟩
    rw [List.foldl_cons, h4, h2]
    simp only [List.mem_cons, exists_eq_or_imp, or_assoc]
theorem rvL_len (r : Rt) (role : Word) (t : Int) : ∀ (l : List Dig), (rvL r role t l).length ≤ l.length := by
  have key : ∀ (l : List Dig) (a : List Word), (l.foldl (rvStep r role t) a).length ≤ a.length + l.length := by
    intro l
    induction l with
    | nil => intro a; simp
    | cons d l ih =>
      intro a
      rw [List.foldl_cons]
      have h1 := ih (rvStep r role t a d)
      have h2 : (rvStep r role t a d).length ≤ a.length + 1 := by
        unfold rvStep
        split
        · exact addW_len _ _
        · omega
      rw [List.length_cons]
      omega
  intro l
  have := key l []
  simpa [rvL] using this
theorem rvL_eq {r : Rt} {role : Word} {t : Int} {l : List Dig} (hv : validR r = true) : rvL r role t l = vouched r role l t := by
  have hk : keysB r.k = true := by
    unfold validR at hv
    simp only [Bool.and_eq_true] at hv
    exact hv.2.2.2.1
  refine asc_ext (rvL_spec r role t l [] List.Pairwise.nil).1 asc_vouched fun w => ?_
  have h1 := (rvL_spec r role t l [] List.Pairwise.nil).2 w
  unfold rvL
  rw [h1, mem_vouched]
  simp only [List.not_mem_nil, false_or, hv, true_and, Bool.and_eq_true]
  constructor
  · rintro ⟨d, hd, ⟨h2, h3⟩, rfl⟩
    unfold rlive at h3
    cases hf : findK r.k d with
    | none => rw [hf] at h3; cases h3
    | some k =>
      obtain ⟨rfl, hm⟩ := findK_kid hf
      rw [hf] at h3
      have e : fK r (kid k) = k := by unfold fK; rw [hf]; rfl
      rw [e] at h2 ⊢
      exact ⟨k, hm, ⟨h2, by simpa using hd, h3⟩, rfl⟩
  · rintro ⟨k, hm, ⟨h2, h3, h4⟩, rfl⟩
    obtain ⟨i, hi, rfl⟩ := List.mem_iff_getElem.1 hm
    have hf := findK_self hk hi
    have e : fK r (kid r.k[i]) = r.k[i] := by unfold fK; rw [hf]; rfl
    refine ⟨kid r.k[i], by simpa using h3, ⟨by rw [e]; exact h2, by unfold rlive; rw [hf]; exact h4⟩, by rw [e]⟩
end Go.Pl

namespace Go.Pl
open Go Go.Hl

def stE (a b : Rt) (d : Dig) : Bool := (fK a d).o == (fK b d).o && ((fK a d).fr == (fK b d).fr && ((fK a d).un == (fK b d).un && ((findK a.k d).isSome == (findK b.k d).isSome && (revS a.x d == revS b.x d && revZ a.x d == revZ b.x d))))
def sameD (a b : Rt) (d : Dig) : Bool := stE a b d && (fK a d).rs == (fK b d).rs
def idsR (r : Rt) : List Dig := r.k.map kid ++ r.x.map (·.k)
def rolesR (r : Rt) : List Word := r.q.map (·.r)
def chgOk (a b : Rt) (K : List Dig) (R : List Word) (z : Bool) : Prop :=
  z = false → validR a = true ∧ validR b = true ∧ a.e = b.e ∧ (∀ d ∈ idsR a ++ idsR b, sameD a b d = false → d ∈ K) ∧ ∀ w ∈ rolesR a ++ rolesR b, (need a.q w == need b.q w) = false → w ∈ R

theorem findK_none {r : Rt} {d : Dig} (h : d ∉ idsR r) : findK r.k d = none := by
  unfold findK
  rw [List.find?_eq_none]
  intro k hk he
  have he' : kid k = d := eq_of_beq he
  exact h (List.mem_append_left _ (List.mem_map.2 ⟨k, hk, he'⟩))
theorem need_none {r : Rt} {w : Word} (h : w ∉ rolesR r) : need r.q w = 0 := by
  unfold need
  have : r.q.find? (fun x => x.r == w) = none := by
    rw [List.find?_eq_none]
    intro q hq he
    have he' : q.r = w := eq_of_beq he
    exact h (List.mem_map.2 ⟨q, hq, he'⟩)
  rw [this]
theorem rlive_none {r : Rt} {d : Dig} {t : Int} (h : findK r.k d = none) : rlive r d t = false := by unfold rlive; rw [h]
theorem sameD_step {a b : Rt} {d : Dig} (h : sameD a b d = true) (he : a.e = b.e) (role : Word) (t : Int) (acc : List Word) : rvStep a role t acc d = rvStep b role t acc d := by
  simp only [sameD, stE, Bool.and_eq_true, beq_iff_eq] at h
  obtain ⟨⟨h1, h2, h3, h4, h5, h6⟩, h7⟩ := h
  have hl : rlive a d t = rlive b d t := by
    unfold fK at h2 h3
    rw [rlive_code, rlive_code, h2, h3, h4, h5, h6, he]
  unfold rvStep
  rw [h7, hl, h1]
theorem step_none {r : Rt} {d : Dig} (h : findK r.k d = none) (role : Word) (t : Int) (acc : List Word) : rvStep r role t acc d = acc := by
  unfold rvStep
  rw [rlive_none h, Bool.and_false]
  rfl
theorem unchanged_vouched {a b : Rt} {K : List Dig} {R : List Word} (h : chgOk a b K R false) {doc : List Dig} (hd : ∀ d ∈ doc, d ∉ K) (role : Word) (t : Int) : vouched a role doc t = vouched b role doc t := by
  obtain ⟨h1, h2, h3, h4, -⟩ := h rfl
  rw [← rvL_eq h1, ← rvL_eq h2]
  have key : ∀ (l : List Dig) (acc : List Word), (∀ d ∈ l, d ∉ K) → l.foldl (rvStep a role t) acc = l.foldl (rvStep b role t) acc := by
    intro l
    induction l with
    | nil => intro acc _; rfl
    | cons d l ih =>
      intro acc hl
      rw [List.foldl_cons, List.foldl_cons]
      have hs : rvStep a role t acc d = rvStep b role t acc d := by
        by_cases hm : d ∈ idsR a ++ idsR b
        · have : sameD a b d = true := by
            cases hs : sameD a b d with
            | true => rfl
            | false => exact absurd (h4 d hm hs) (hl d (by simp))
          exact sameD_step this h3 role t acc
        · rw [List.mem_append, not_or] at hm
          rw [step_none (findK_none hm.1), step_none (findK_none hm.2)]
      rw [hs]
      exact ih _ (fun d hd => hl d (by simp [hd]))
  exact key doc [] hd
theorem unchanged_need {a b : Rt} {K : List Dig} {R : List Word} (h : chgOk a b K R false) {role : Word} (hr : role ∉ R) : needV a role = needV b role := by
  obtain ⟨h1, h2, -, -, h5⟩ := h rfl
  unfold needV
  rw [if_pos h1, if_pos h2]
  by_cases hm : role ∈ rolesR a ++ rolesR b
  · cases he : need a.q role == need b.q role with
    | true => exact eq_of_beq he
    | false => exact absurd (h5 role hm he) hr
  · rw [List.mem_append, not_or] at hm
    rw [need_none hm.1, need_none hm.2]
theorem unchanged_enough {a b : Rt} {K : List Dig} {R : List Word} (h : chgOk a b K R false) {doc : List Dig} (hd : ∀ d ∈ doc, d ∉ K) {role : Word} (hr : role ∉ R) (t : Int) : enough a role doc t = enough b role doc t := by
  unfold enough
  rw [unchanged_need h hr, unchanged_vouched h hd]

theorem st_ofTy {P : Program} {n : Nat} {t ts ti tb : TypeId} {a0 b0 a1 b1 a2 b2 a3 b3 : Nat} {z0 z1 z2 z3 : CV} (ht : tyOf P t = some ⟨a0, b0, .struct [(0, ts), (1, ti), (2, ti), (3, tb), (4, tb), (5, ti)], z0⟩)
    (hs : tyOf P ts = some ⟨a1, b1, .string, z1⟩) (hi : tyOf P ti = some ⟨a2, b2, .int .i64, z2⟩) (hb : tyOf P tb = some ⟨a3, b3, .bool, z3⟩) (cs : P.cellsOf ts = 1) (ci : P.cellsOf ti = 1) (cb : P.cellsOf tb = 1) (o : Word) (f u : Int) (h g : Bool) (z : Int) :
    CV.ofTy P (n + 2) t (.agg [.str o, .int .i64 f, .int .i64 u, .bool h, .bool g, .int .i64 z]) = true := by
  have h1 : ∀ w, CV.ofTy P (n + 1) ts (.str w) = true := fun w => by unfold CV.ofTy; rw [hs]
  have h2 : ∀ x, CV.ofTy P (n + 1) ti (.int .i64 x) = true := fun x => by unfold CV.ofTy; rw [hi]; rfl
  have h3 : ∀ x, CV.ofTy P (n + 1) tb (.bool x) = true := fun x => by unfold CV.ofTy; rw [hb]
  unfold CV.ofTy; rw [ht]
  simp only [CV.ofTyF, h1, h2, h3, cs, ci, cb, CV.cells, beq_self_eq_true, Bool.and_self]
theorem hbin_st {P : Program} {t ts ti tb : TypeId} {a0 b0 a1 b1 a2 b2 a3 b3 : Nat} {z0 z1 z2 z3 : CV} (ha : aggEq P t = true) (ht : tyOf P t = some ⟨a0, b0, .struct [(0, ts), (1, ti), (2, ti), (3, tb), (4, tb), (5, ti)], z0⟩)
    (hs : tyOf P ts = some ⟨a1, b1, .string, z1⟩) (hi : tyOf P ti = some ⟨a2, b2, .int .i64, z2⟩) (hb : tyOf P tb = some ⟨a3, b3, .bool, z3⟩) (cs : P.cellsOf ts = 1) (ci : P.cellsOf ti = 1) (cb : P.cellsOf tb = 1) (o o' : Word) (f u f' u' : Int) (h g h' g' : Bool) (z z' : Int) (K : CV → Prop) :
    hbin P .eql t (.c (.agg [.str o, .int .i64 f, .int .i64 u, .bool h, .bool g, .int .i64 z])) (.c (.agg [.str o', .int .i64 f', .int .i64 u', .bool h', .bool g', .int .i64 z'])) K = K (.bool (o == o' && (f == f' && (u == u' && (h == h' && (g == g' && z == z')))))) := by
  have h1 := st_ofTy (n := 6) ht hs hi hb cs ci cb o f u h g z
  have h2 := st_ofTy (n := 6) ht hs hi hb cs ci cb o' f' u' h' g' z'
  have h3 : CV.eqv (.agg [.str o, .int .i64 f, .int .i64 u, .bool h, .bool g, .int .i64 z]) (.agg [.str o', .int .i64 f', .int .i64 u', .bool h', .bool g', .int .i64 z']) = (o == o' && (f == f' && (u == u' && (h == h' && (g == g' && z == z'))))) := by
    simp only [CV.eqv, CV.eqvL, Bool.and_true]
  simp only [hbin, ha, h1, h2, h3, and_self, true_and]
theorem cmp_skip {l : List Dig} {j : Nat} (hj : j < l.length) (h1 : 1 ≤ j) (h : (l[j] == l[j - 1]) = true) {S : List Dig} (g : ∀ y ∈ l.take j, y ∈ S) : ∀ y ∈ l.take (j + 1), y ∈ S := fun y hy => by
  rw [List.take_succ_eq_append_getElem hj, List.mem_append, List.mem_singleton] at hy
  rcases hy with hy | rfl
  · exact g y hy
  · have e : l[j] = l[j - 1] := eq_of_beq h
    rw [e]
    exact g _ (List.mem_take_iff_getElem.2 ⟨j - 1, by omega, rfl⟩)
theorem cmp_put {l r : List Dig} {i j : Nat} (hj : j < l.length) (hi : i < r.length) (g : ∀ y ∈ l.take j, y ∈ r.take i) : ∀ y ∈ l.take (j + 1), y ∈ (r.set i l[j]).take (i + 1) := fun y hy => by
  rw [List.take_succ_eq_append_getElem (by simpa using hi), List.take_set_of_le (by omega)]
  rw [List.take_succ_eq_append_getElem hj, List.mem_append, List.mem_singleton] at hy
  rcases hy with hy | rfl
  · exact List.mem_append_left _ (g y hy)
  · simp
section
variable {α : Type} {p : α → Bool} {l r : List α} {i j : Nat}
theorem del_first (hj : j < l.length) (h : p l[j] = true) : ∀ y ∈ l.take (j + 1), p y = false → y ∈ l.take j := fun y hy hp => by
  rw [List.take_succ_eq_append_getElem hj, List.mem_append, List.mem_singleton] at hy
  rcases hy with hy | rfl
  · exact hy
  · rw [h] at hp; cases hp
theorem del_skip (hj : j < l.length) (h : p l[j] = true) {S : List α} (g : ∀ y ∈ l.take j, p y = false → y ∈ S) : ∀ y ∈ l.take (j + 1), p y = false → y ∈ S := fun y hy hp => by
  rw [List.take_succ_eq_append_getElem hj, List.mem_append, List.mem_singleton] at hy
  rcases hy with hy | rfl
  · exact g y hy hp
  · rw [h] at hp; cases hp
theorem del_put (hj : j < l.length) (hi : i < r.length) (g : ∀ y ∈ l.take j, p y = false → y ∈ r.take i) : ∀ y ∈ l.take (j + 1), p y = false → y ∈ (r.set i l[j]).take (i + 1) := fun y hy hp => by
  rw [List.take_succ_eq_append_getElem (by simpa using hi), List.take_set_of_le (by omega)]
  rw [List.take_succ_eq_append_getElem hj, List.mem_append, List.mem_singleton] at hy
  rcases hy with hy | rfl
  · exact List.mem_append_left _ (g y hy hp)
  · simp
end
theorem dedup_len : ∀ (l : List Word), (dedup l).length ≤ l.length
  | [] => by simp [dedup]
  | [a] => by simp [dedup]
  | a :: b :: l => by
    have := dedup_len (b :: l)
    simp only [dedup]
    split
    · simp only [List.length_cons] at this ⊢; omega
    · simp only [List.length_cons] at this ⊢; omega
def cmpZ (x y : Int) : Int := if x < y then -1 else if y < x then 1 else 0
theorem cmpZ_zero (x y : Int) : (cmpZ x y == 0) = (x == y) := by
  unfold cmpZ
  rw [Bool.eq_iff_iff, beq_iff_eq, beq_iff_eq]
  split
  · constructor <;> intro <;> omega
  · split
    · constructor <;> intro <;> omega
    · constructor <;> intro <;> omega
end Go.Pl
