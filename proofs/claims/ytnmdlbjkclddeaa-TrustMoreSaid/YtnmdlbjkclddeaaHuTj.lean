/- Part of a proof: walks of functions of the program, by contracts, and the rules they use. By an AI agent. -/
import Derived.Test.YtnmdlbjkclddeaaHuTh
import Derived.Test.YtnmdlbjkclddeaaHuT2
set_option linter.unusedSimpArgs false
set_option linter.unusedVariables false
set_option linter.defProp false
namespace Go.Proofs.Ytnmdlbjkclddeaa
open Go Go.Hl Go.Pl
set_option maxRecDepth 10000
set_option maxHeartbeats 8000000
set_option linter.unusedSimpArgs false
set_option linter.unusedVariables false
attribute [local simp] tp

theorem root_ok (L : List Int) (a : Nat) (v : Int) (ha : a + 200 < 2 ^ 40) : HBox Try.prog 4 25 (tp L a) [.int .i64 v] (fun u v' => ∃ (r : Rt) (a' : Nat), u = r.cv ∧ v' = tp L a' ∧ a' ≤ a + 150 ∧ rOk r) := by
  refine hfn_walk Try.func4 rfl (by kernel_rfl) (locOk_box _ _ _) (Nat.le_of_ble_eq_true rfl) ?_
  refine hw_seq fun K hK => hw_region (by kernel_rfl) ?_
  simp (maxSteps := 4000000) only [↓sP, sA, tyS, simprocAttr]
  repeat refine AI ?_
  refine hK _ _ _ ?_
  clear hK K
  refine hw_seq fun K hK => hw_region (by kernel_rfl) ?_
  simp only [sR, simprocAttr]
  iterate 2
    (refine hlex_step (g := none) rfl rfl fun K' hK' => ?_; simp only [sH, ↓sP, sA, tyS, simprocAttr]; (repeat refine AI ?_); refine hK' _ _ ?_; clear hK' K')
  refine hlex_step (g := none) rfl rfl fun K' hK' => ?_
  simp (maxSteps := 4000000) only [sH, ↓sP, sA, tyS, simprocAttr]
  refine call_box (args := [_]) (next_ok L a 100 (by omega) (by omega)) rfl (by simp) ⟨rfl, rfl, rfl, rfl⟩ ?_
  rintro u v' ⟨x0, a1, rfl, rfl, h1, h2, h3, h4⟩
  repeat refine AI ?_
  refine hK' _ _ ?_
  clear hK' K'
  iterate 4
    (refine hlex_step (g := none) rfl rfl fun K' hK' => ?_; simp only [sH, ↓sP, sA, tyS, simprocAttr]; (repeat refine AI ?_); refine hK' _ _ ?_; clear hK' K')
  simp only [sE, ↓reduceIte, simprocAttr]
  repeat refine AI ?_
  refine hK _ _ _ ?_
  clear hK K
  refine hw_seq fun K hK => hw_region (by kernel_rfl) ?_
  simp only [sR, simprocAttr]
  refine hlex_step (g := none) rfl rfl fun K' hK' => ?_
  simp (maxSteps := 4000000) only [sH, ↓sP, sA, tyS, simprocAttr]
  refine call_pure (args := []) roles_ok ⟨rfl, rfl, rfl, rfl⟩ ?_
  rintro u rfl
  repeat refine AI ?_
  refine hK' _ _ ?_
  clear hK' K'
  refine hlex_step (g := none) rfl rfl fun K' hK' => ?_
  simp (maxSteps := 4000000) only [sH, ↓sP, sA, tyS, simprocAttr]
  repeat refine AI ?_
  refine hK' _ _ ?_
  clear hK' K'
  simp only [sE, ↓reduceIte, simprocAttr]
  repeat refine AI ?_
  refine hK _ _ _ ?_
  clear hK K
  refine hw_seq fun K hK => ?_
  refine hw_seq fun K hK => hw_region (by kernel_rfl) ?_
  simp (maxSteps := 4000000) only [↓sP, sA, tyS, simprocAttr]
  repeat refine AI ?_
  refine hK _ _ _ ?_
  clear hK K
  refine hw_block ?_
  obtain ⟨e0, he0⟩ : ∃ e0, e0 = IntKind.i64.wrap (20 + x0) := ⟨_, rfl⟩
  refine hw_ownb 25 2 46 2 rfl rfl rfl rfl ?_
  refine hw_loop (α := {y : Nat × Nat × List Qt // y.1 ≤ 10 ∧ y.2.1 ≤ a + 1 + 2 * y.1 ∧ y.2.2.length ≤ y.1 ∧ ∀ q ∈ y.2.2, q.r ∈ roles10}) (fun y => (fin [(0, .ptr 0 0), (1, .c (.int .i64 v)), (4, .ptr 1 0), (5, .ptr 25 0), (6, .c (.slc (roles10.map .str))), (7, .c (.int .i64 y.1.1))], fob [(0, .box 25 (.c (tp L y.1.2.1))), (1, .box 30 (.c zR)), (25, .box 30 (.agg [.c (.int .i64 v), .c (.int .i64 e0), .own 45 y.1.2.2.length, .c .nils, .c .nils])), (45, .row 46 2 (y.1.2.2.map Qt.cv))])) 100 (fun y => 10 - y.1.1) ⟨(0, a1, []), by simp, by simp only; omega, by simp, by simp⟩ (fits_fin (by omega) (by simp [FinOk, fin_at, finA_at, upd_at, HV.men, HV.menL, HV.norm, HV.toC, HV.toCL]) (by simp [FobOk, fob_at, upd_at, none0_at, gone, HO.men, HV.men, HV.menL, HV.norm, HV.toC, HV.toCL, zR, he0])) ?_
  clear he0 h1 h2 h3 h4
  rintro ⟨⟨i, b, qs⟩, hi, hb0, hql, hqm⟩
  simp only at hi hb0 hql hqm ⊢
  have hrl : (roles10.map CV.str).length = 10 := rfl
  refine hw_seq fun K hK => ?_
  refine hw_seq fun K hK => hw_region (by kernel_rfl) ?_
  simp only [sR, simprocAttr]
  iterate 4
    (refine hlex_step (g := none) rfl rfl fun K' hK' => ?_; simp only [sH, ↓sP, sA, tyS, simprocAttr, hrl]; (repeat refine AI ?_); refine hK' _ _ ?_; clear hK' K')
  simp only [sE, ↓reduceIte, simprocAttr]
  repeat refine AI ?_
  refine hK _ _ _ ?_
  clear hK K
  refine hw_cond (b := decide ((i : Int) < 10)) rfl (fun hb => ?_) (fun hb => ?_)
  · have hlt : i < 10 := by simp at hb; omega
    have hlt' : (i : Int) < 10 := by omega
    have hlr : i < roles10.length := hlt
    refine hw_skip ?_
    simp (maxSteps := 4000000) only [↓sP, sA, tyS, simprocAttr]
    repeat refine AI ?_
    refine hK _ _ _ ?_
    clear hK K
    refine hw_seq fun K hK => ?_
    have key : ∀ (b' : Nat) (qs' : List Qt) fr ob nx, b' ≤ a + 1 + 2 * (i + 1) → qs'.length ≤ i + 1 → (∀ q ∈ qs', q.r ∈ roles10) → Fits 1 fr ob (fin [(0, .ptr 0 0), (1, .c (.int .i64 v)), (4, .ptr 1 0), (5, .ptr 25 0), (6, .c (.slc (roles10.map .str))), (7, .c (.int .i64 i))]) (fob [(0, .box 25 (.c (tp L b'))), (1, .box 30 (.c zR)), (25, .box 30 (.agg [.c (.int .i64 v), .c (.int .i64 e0), .own 45 qs'.length, .c .nils, .c .nils])), (45, .row 46 2 (qs'.map Qt.cv))]) 400 → K fr ob nx := by
      intro b' qs' fr ob nx w1 w2 w3 hf
      refine hK _ _ _ (hw_fits hf ?_)
      clear hf hK K
      refine hw_region (by kernel_rfl) ?_
      simp (maxSteps := 4000000) only [↓sP, sA, tyS, simprocAttr, IntWalk.i64_in _ (show -9223372036854775808 ≤ (i : Int) + 1 ∧ (i : Int) + 1 ≤ 9223372036854775807 by omega)]
      refine ⟨⟨(i + 1, b', qs'), hlt, w1, w2, w3⟩, fits_fin (by omega) (by simp [FinOk, fin_at, finA_at, upd_at, HV.men, HV.menL, HV.norm, HV.toC, HV.toCL]) (by simp [FobOk, fob_at, upd_at, none0_at, gone, HO.men, HV.men, HV.menL, HV.norm, HV.toC, HV.toCL]), ?_⟩
      show 10 - (i + 1) < 10 - i
      omega
    refine hw_block ?_
    refine hw_seq fun K hK => hw_region (by kernel_rfl) ?_
    simp only [sR, simprocAttr]
    refine hlex_step (g := none) rfl rfl fun K' hK' => ?_
    simp (maxSteps := 4000000) only [sH, ↓sP, sA, tyS, simprocAttr, Int.natCast_nonneg, hrl, hlt', hlr, nth_map hlr]
    repeat refine AI ?_
    refine hK' _ _ ?_
    clear hK' K'
    refine hlex_step (g := none) rfl rfl fun K' hK' => ?_
    simp (maxSteps := 4000000) only [sH, ↓sP, sA, tyS, simprocAttr, Int.natCast_nonneg, hrl, hlt', hlr, nth_map hlr]
    refine call_box (args := [_]) (next_ok L b 8 (by omega) (by omega)) rfl (by simp) ⟨rfl, rfl, rfl, rfl⟩ ?_
    rintro u v' ⟨x1, b1, rfl, rfl, g1, g2, g3, g4⟩
    repeat refine AI ?_
    refine hK' _ _ ?_
    clear hK' K'
    iterate 2
      (refine hlex_step (g := none) rfl rfl fun K' hK' => ?_; simp only [sH, ↓sP, sA, tyS, simprocAttr, Int.natCast_nonneg, hrl, hlt', hlr, nth_map hlr]; (repeat refine AI ?_); refine hK' _ _ ?_; clear hK' K')
    refine hlex_cases 25 rfl (fun h6_25 => ?_) (fun h6_25 => ?_)
    · iterate 5
        (refine hlex_step (g := some (26, false)) rfl rfl fun K' hK' => ?_; simp only [sH, ↓sP, sA, tyS, simprocAttr, Int.natCast_nonneg, hrl, hlt', hlr, nth_map hlr, h6_25]; (repeat refine AI ?_); refine hK' _ _ ?_; clear hK' K')
      refine hlex_step (g := none) rfl rfl fun K' hK' => ?_
      simp (maxSteps := 4000000) only [sH, ↓sP, sA, tyS, simprocAttr, Int.natCast_nonneg, hrl, hlt', hlr, nth_map hlr, h6_25]
      repeat refine AI ?_
      refine hK' _ _ ?_
      clear hK' K'
      simp only [sE, ↓reduceIte, simprocAttr]
      repeat refine AI ?_
      refine hK _ _ _ ?_
      clear hK K
      refine hw_cond (b := true) rfl (fun hb => ?_) (fun hb => ?_)
      · refine hw_draw2 mixed [(0, [], []), (1, [], []), (2, [], []), (3, [], []), (4, [], []), (5, [], []), (6, [], []), (7, [], [0, 1, 2, 3, 4, 5]), (8, [], []), (9, [], []), (10, [], []), (11, [], []), (12, [], []), (13, [], []), (14, [], [])] [0, 1, 0, 0, 12, 28, 0, 64, 192, 448, 1020, 2044, 4095, 8191, 16383] (by kernel_rfl) (by kernel_rfl) (by kernel_rfl) (by kernel_rfl) rfl (by kernel_rfl) ?_
        iterate 7
          (refine hwalk2_step (g := none) rfl rfl fun K' hK' => ?_; simp only [sH, ↓sP, sA, tyS, simprocAttr, Int.natCast_nonneg, hrl, hlt', hlr, nth_map hlr, List.length_append, h6_25]; (repeat refine AI ?_); refine hK' _ _ ?_; clear hK' K')
        refine hwalk2_step (g := none) rfl rfl fun K' hK' => ?_
        simp (maxSteps := 4000000) only [sH, ↓sP, sA, tyS, simprocAttr, Int.natCast_nonneg, hrl, hlt', hlr, nth_map hlr, List.length_append, h6_25]
        refine call_box (args := [_]) (next_ok L b1 5 (by omega) (by omega)) rfl (by simp) ⟨rfl, rfl, rfl, rfl⟩ ?_
        rintro u v' ⟨x2, b2, rfl, rfl, k1, k2, k3, k4⟩
        repeat refine AI ?_
        refine hK' _ _ ?_
        clear hK' K'
        iterate 2
          (refine hwalk2_step (g := none) rfl rfl fun K' hK' => ?_; simp only [sH, ↓sP, sA, tyS, simprocAttr, Int.natCast_nonneg, hrl, hlt', hlr, nth_map hlr, List.length_append, h6_25]; (repeat refine AI ?_); refine hK' _ _ ?_; clear hK' K')
        refine hwalk2_step (g := none) rfl rfl fun K' hK' => ?_
        simp (maxSteps := 4000000) only [sH, ↓sP, sA, tyS, simprocAttr, Int.natCast_nonneg, hrl, hlt', hlr, nth_map hlr, List.length_append, h6_25]
        rw [hbuild_qt _ _ rfl rfl]
        repeat refine AI ?_
        refine hK' _ _ ?_
        clear hK' K'
        iterate 4
          (refine hwalk2_step (g := none) rfl rfl fun K' hK' => ?_; simp only [sH, ↓sP, sA, tyS, simprocAttr, Int.natCast_nonneg, hrl, hlt', hlr, nth_map hlr, List.length_append, h6_25]; (repeat refine AI ?_); refine hK' _ _ ?_; clear hK' K')
        simp only [sE, ↓reduceIte, simprocAttr]
        exact key b2 (qs ++ [⟨roles10[i], IntKind.i64.wrap (1 + IntKind.i64.wrap (x2.tdiv 3))⟩]) _ _ _ (by omega) (by simp; omega) (fun q hq => by
          rcases List.mem_append.1 hq with hq | hq
          · exact hqm q hq
          · rw [List.mem_singleton] at hq; rw [hq]; exact List.getElem_mem _) (fits_fin (by omega) (by simp [FinOk, fin_at, finA_at, upd_at, HV.men, HV.menL, HV.norm, HV.toC, HV.toCL]) (by simp [FobOk, fob_at, upd_at, none0_at, gone, HO.men, HV.men, HV.menL, HV.norm, HV.toC, HV.toCL]))
      · cases hb
    · iterate 5
        (refine hlex_step (g := some (26, false)) rfl rfl fun K' hK' => ?_; simp only [sH, ↓sP, sA, tyS, simprocAttr, Int.natCast_nonneg, hrl, hlt', hlr, nth_map hlr, h6_25]; (repeat refine AI ?_); refine hK' _ _ ?_; clear hK' K')
      refine hlex_step (g := none) rfl rfl fun K' hK' => ?_
      simp (maxSteps := 4000000) only [sH, ↓sP, sA, tyS, simprocAttr, Int.natCast_nonneg, hrl, hlt', hlr, nth_map hlr, h6_25]
      repeat refine AI ?_
      refine hK' _ _ ?_
      clear hK' K'
      refine hlex_cases 31 rfl (fun h6_31 => ?_) (fun h6_31 => ?_)
      · simp only [h6_31]
        simp only [sE, ↓reduceIte, simprocAttr]
        repeat refine AI ?_
        refine hK _ _ _ ?_
        clear hK K
        refine hw_cond (b := true) rfl (fun hb => ?_) (fun hb => ?_)
        · refine hw_draw2 mixed [(0, [], []), (1, [], []), (2, [], []), (3, [], []), (4, [], []), (5, [], []), (6, [], []), (7, [], [0, 1, 2, 3, 4, 5]), (8, [], []), (9, [], []), (10, [], []), (11, [], []), (12, [], []), (13, [], []), (14, [], [])] [0, 1, 0, 0, 12, 28, 0, 64, 192, 448, 1020, 2044, 4095, 8191, 16383] (by kernel_rfl) (by kernel_rfl) (by kernel_rfl) (by kernel_rfl) rfl (by kernel_rfl) ?_
          iterate 7
            (refine hwalk2_step (g := none) rfl rfl fun K' hK' => ?_; simp only [sH, ↓sP, sA, tyS, simprocAttr, Int.natCast_nonneg, hrl, hlt', hlr, nth_map hlr, List.length_append, h6_25, h6_31]; (repeat refine AI ?_); refine hK' _ _ ?_; clear hK' K')
          refine hwalk2_step (g := none) rfl rfl fun K' hK' => ?_
          simp (maxSteps := 4000000) only [sH, ↓sP, sA, tyS, simprocAttr, Int.natCast_nonneg, hrl, hlt', hlr, nth_map hlr, List.length_append, h6_25, h6_31]
          refine call_box (args := [_]) (next_ok L b1 5 (by omega) (by omega)) rfl (by simp) ⟨rfl, rfl, rfl, rfl⟩ ?_
          rintro u v' ⟨x2, b2, rfl, rfl, k1, k2, k3, k4⟩
          repeat refine AI ?_
          refine hK' _ _ ?_
          clear hK' K'
          iterate 2
            (refine hwalk2_step (g := none) rfl rfl fun K' hK' => ?_; simp only [sH, ↓sP, sA, tyS, simprocAttr, Int.natCast_nonneg, hrl, hlt', hlr, nth_map hlr, List.length_append, h6_25, h6_31]; (repeat refine AI ?_); refine hK' _ _ ?_; clear hK' K')
          refine hwalk2_step (g := none) rfl rfl fun K' hK' => ?_
          simp (maxSteps := 4000000) only [sH, ↓sP, sA, tyS, simprocAttr, Int.natCast_nonneg, hrl, hlt', hlr, nth_map hlr, List.length_append, h6_25, h6_31]
          rw [hbuild_qt _ _ rfl rfl]
          repeat refine AI ?_
          refine hK' _ _ ?_
          clear hK' K'
          iterate 4
            (refine hwalk2_step (g := none) rfl rfl fun K' hK' => ?_; simp only [sH, ↓sP, sA, tyS, simprocAttr, Int.natCast_nonneg, hrl, hlt', hlr, nth_map hlr, List.length_append, h6_25, h6_31]; (repeat refine AI ?_); refine hK' _ _ ?_; clear hK' K')
          simp only [sE, ↓reduceIte, simprocAttr]
          exact key b2 (qs ++ [⟨roles10[i], IntKind.i64.wrap (1 + IntKind.i64.wrap (x2.tdiv 3))⟩]) _ _ _ (by omega) (by simp; omega) (fun q hq => by
            rcases List.mem_append.1 hq with hq | hq
            · exact hqm q hq
            · rw [List.mem_singleton] at hq; rw [hq]; exact List.getElem_mem _) (fits_fin (by omega) (by simp [FinOk, fin_at, finA_at, upd_at, HV.men, HV.menL, HV.norm, HV.toC, HV.toCL]) (by simp [FobOk, fob_at, upd_at, none0_at, gone, HO.men, HV.men, HV.menL, HV.norm, HV.toC, HV.toCL]))
        · cases hb
      · simp only [h6_31]
        simp only [sE, ↓reduceIte, simprocAttr]
        repeat refine AI ?_
        refine hK _ _ _ ?_
        clear hK K
        refine hw_cond (b := false) rfl (fun hb => ?_) (fun hb => ?_)
        · cases hb
        · refine hw_skip ?_
          simp (maxSteps := 4000000) only [↓sP, sA, tyS, simprocAttr]
          exact key b1 qs _ _ _ (by omega) (by omega) hqm (fits_fin (by omega) (by simp [FinOk, fin_at, finA_at, upd_at, HV.men, HV.menL, HV.norm, HV.toC, HV.toCL]) (by simp [FobOk, fob_at, upd_at, none0_at, gone, HO.men, HV.men, HV.menL, HV.norm, HV.toC, HV.toCL]))
  · refine hw_exit ?_
    simp (maxSteps := 4000000) only [↓sP, sA, tyS, simprocAttr]
    clear hK K
    repeat refine AI ?_
    refine hK _ _ _ ?_
    clear hK K
    refine hw_seq fun K hK => ?_
    clear hb
    refine hw_close [45] (hw_fits (fr2 := fin [(0, .ptr 0 0), (1, .c (.int .i64 v)), (4, .ptr 1 0), (5, .ptr 25 0)]) (ob2 := fob [(0, .box 25 (.c (tp L b))), (1, .box 30 (.c (Rt.cv ⟨0, 0, [], [], []⟩))), (25, .box 30 (.c (Rt.cv ⟨v, e0, qs, [], []⟩)))]) (nx2 := 200) (fits_fin (by omega) (by simp [FinOk, clF_at, fin_at, finA_at, upd_at, fob_at, HV.close, HV.closeL, CV.denil, CV.denilL, denilL_str, denilL_Rv, denilL_Qt, denilL_Ky, HV.men, HV.menL, HV.norm, HV.toC, HV.toCL]) (by simp [FobOk, clO_at, fob_at, upd_at, none0_at, gone, HO.close, HV.close, HV.closeL, HO.men, HV.men, HV.menL, HV.norm, HV.toC, HV.toCL, Rt.denil, zR, Rt.cv, CV.denil, CV.denilL, denilL_str, denilL_Rv, denilL_Qt, denilL_Ky, denilL_int])) ?_)
    refine hw_seq fun K hK => hw_region (by kernel_rfl) ?_
    simp (maxSteps := 4000000) only [↓sP, sA, tyS, simprocAttr]
    repeat refine AI ?_
    refine hK _ _ _ ?_
    clear hK K
    refine hw_block ?_
    refine hw_loop (α := {y : Nat × Nat × List Ky // y.1 ≤ 6 ∧ y.2.1 ≤ a + 21 + 14 * y.1 ∧ y.2.2.length ≤ y.1 ∧ ∀ k ∈ y.2.2, kOk k}) (fun y => (fin [(0, .ptr 0 0), (1, .c (.int .i64 v)), (4, .ptr 1 0), (5, .ptr 25 0), (8, .c (.int .i64 y.1.1))], fob [(0, .box 25 (.c (tp L y.1.2.1))), (1, .box 30 (.c (Rt.cv ⟨0, 0, [], [], []⟩))), (25, .box 30 (.c (Rt.cv ⟨v, e0, qs, y.1.2.2, []⟩)))])) 300 (fun y => 6 - y.1.1) ⟨(0, b, []), by simp, by simp only; omega, by simp, by simp⟩ (fits_fin (by omega) (by simp [FinOk, fin_at, finA_at, upd_at, HV.men, HV.menL, HV.norm, HV.toC, HV.toCL]) (by simp [FobOk, fob_at, upd_at, none0_at, gone, HO.men, HV.men, HV.menL, HV.norm, HV.toC, HV.toCL])) ?_
    clear hb0
    rintro ⟨⟨j, b, ks⟩, hj, hb0, hkl, hkm⟩
    simp only at hj hb0 hkl hkm ⊢
    refine hw_seq fun K hK => ?_
    refine hw_seq fun K hK => hw_region (by kernel_rfl) ?_
    simp (maxSteps := 4000000) only [↓sP, sA, tyS, simprocAttr]
    repeat refine AI ?_
    refine hK _ _ _ ?_
    clear hK K
    refine hw_cond (b := decide ((j : Int) < 6)) rfl (fun hb => ?_) (fun hb => ?_)
    · have hlt : j < 6 := by simp at hb; omega
      refine hw_skip ?_
      simp (maxSteps := 4000000) only [↓sP, sA, tyS, simprocAttr]
      repeat refine AI ?_
      refine hK _ _ _ ?_
      clear hK K
      refine hw_seq fun K hK => ?_
      have key : ∀ (b' : Nat) (ks' : List Ky) fr ob nx, b' ≤ a + 21 + 14 * (j + 1) → ks'.length ≤ j + 1 → (∀ k ∈ ks', kOk k) → Fits 1 fr ob (fin [(0, .ptr 0 0), (1, .c (.int .i64 v)), (4, .ptr 1 0), (5, .ptr 25 0), (8, .c (.int .i64 j))]) (fob [(0, .box 25 (.c (tp L b'))), (1, .box 30 (.c (Rt.cv ⟨0, 0, [], [], []⟩))), (25, .box 30 (.c (Rt.cv ⟨v, e0, qs, ks', []⟩)))]) 500 → K fr ob nx := by
        intro b' ks' fr ob nx w1 w2 w3 hf
        refine hK _ _ _ (hw_fits hf ?_)
        clear hf hK K
        refine hw_region (by kernel_rfl) ?_
        simp (maxSteps := 4000000) only [↓sP, sA, tyS, simprocAttr, IntWalk.i64_in _ (show -9223372036854775808 ≤ (j : Int) + 1 ∧ (j : Int) + 1 ≤ 9223372036854775807 by omega)]
        refine ⟨⟨(j + 1, b', ks'), hlt, w1, w2, w3⟩, fits_fin (by omega) (by simp [FinOk, fin_at, finA_at, upd_at, HV.men, HV.menL, HV.norm, HV.toC, HV.toCL]) (by simp [FobOk, fob_at, upd_at, none0_at, gone, HO.men, HV.men, HV.menL, HV.norm, HV.toC, HV.toCL]), ?_⟩
        show 6 - (j + 1) < 6 - j
        omega
      refine hw_block ?_
      refine hw_seq fun K hK => ?_
      refine hw_seq fun K hK => hw_region (by kernel_rfl) ?_
      simp only [sR, simprocAttr]
      refine hlex_step (g := none) rfl rfl fun K' hK' => ?_
      simp (maxSteps := 4000000) only [sH, ↓sP, sA, tyS, simprocAttr]
      repeat refine AI ?_
      refine hK' _ _ ?_
      clear hK' K'
      refine hlex_step (g := none) rfl rfl fun K' hK' => ?_
      simp (maxSteps := 4000000) only [sH, ↓sP, sA, tyS, simprocAttr]
      refine call_box (args := [_]) (next_ok L b 6 (by omega) (by omega)) rfl (by simp) ⟨rfl, rfl, rfl, rfl⟩ ?_
      rintro u v' ⟨x1, b1, rfl, rfl, g1, g2, g3, g4⟩
      repeat refine AI ?_
      refine hK' _ _ ?_
      clear hK' K'
      refine hlex_step (g := none) rfl rfl fun K' hK' => ?_
      simp (maxSteps := 4000000) only [sH, ↓sP, sA, tyS, simprocAttr]
      repeat refine AI ?_
      refine hK' _ _ ?_
      clear hK' K'
      simp only [sE, ↓reduceIte, simprocAttr]
      repeat refine AI ?_
      refine hK _ _ _ ?_
      clear hK K
      refine hw_cond (b := x1 == 0) rfl (fun hb => ?_) (fun hb => ?_)
      · refine hw_exit ?_
        simp (maxSteps := 4000000) only [↓sP, sA, tyS, simprocAttr]
        clear hK K
        exact key b1 ks _ _ _ (by omega) (by omega) hkm (fits_fin (by omega) (by simp [FinOk, fin_at, finA_at, upd_at, HV.men, HV.menL, HV.norm, HV.toC, HV.toCL]) (by simp [FobOk, fob_at, upd_at, none0_at, gone, HO.men, HV.men, HV.menL, HV.norm, HV.toC, HV.toCL]))
      · refine hw_skip ?_
        simp (maxSteps := 4000000) only [↓sP, sA, tyS, simprocAttr]
        repeat refine AI ?_
        refine hK _ _ _ ?_
        clear hK K
        refine hw_seq fun K hK => hw_region (by kernel_rfl) ?_
        simp only [sR, simprocAttr]
        refine hlex_step (g := none) rfl rfl fun K' hK' => ?_
        simp (maxSteps := 4000000) only [sH, ↓sP, sA, tyS, simprocAttr]
        repeat refine AI ?_
        refine hK' _ _ ?_
        clear hK' K'
        refine hlex_step (g := none) rfl rfl fun K' hK' => ?_
        simp (maxSteps := 4000000) only [sH, ↓sP, sA, tyS, simprocAttr]
        refine call_box (args := [_]) (next_ok L b1 6 (by omega) (by omega)) rfl (by simp) ⟨rfl, rfl, rfl, rfl⟩ ?_
        rintro u v' ⟨x2, b2, rfl, rfl, k1, k2, k3, k4⟩
        repeat refine AI ?_
        refine hK' _ _ ?_
        clear hK' K'
        refine hlex_step (g := none) rfl rfl fun K' hK' => ?_
        simp (maxSteps := 4000000) only [sH, ↓sP, sA, tyS, simprocAttr]
        repeat refine AI ?_
        refine hK' _ _ ?_
        clear hK' K'
        simp only [sE, ↓reduceIte, simprocAttr]
        repeat refine AI ?_
        refine hK _ _ _ ?_
        clear hK K
        refine hw_draw2 mixed [(0, [], []), (1, [], []), (2, [], []), (4, [], []), (6, [], []), (8, [], []), (9, [], []), (10, [], []), (11, [], []), (3, [], [0, 1, 4, 6, 8, 9, 10, 11]), (5, [], [0, 1, 6, 8, 9, 10, 11]), (7, [], [0, 1, 8, 9, 10, 11]), (12, [], [0, 1, 8, 9, 10]), (13, [], []), (14, [], []), (15, [], []), (16, [], []), (17, [], [])] [0, 1, 0, 4, 0, 28, 0, 124, 0, 0, 512, 0, 2300, 7932, 16380, 32767, 65535, 131071] (by kernel_rfl) (by kernel_rfl) (by kernel_rfl) (by kernel_rfl) rfl (by kernel_rfl) ?_
        iterate 9
          (refine hwalk2_step (g := none) rfl rfl fun K' hK' => ?_; simp only [sH, ↓sP, sA, tyS, simprocAttr, denilL_Ky, denilL_str, Rt.fold]; (repeat refine AI ?_); refine hK' _ _ ?_; clear hK' K')
        refine hwalk2_step (g := none) rfl rfl fun K' hK' => ?_
        simp (maxSteps := 4000000) only [sH, ↓sP, sA, tyS, simprocAttr, denilL_Ky, denilL_str, Rt.fold]
        refine call_pure (args := [_]) (public_ok j (by omega)) ⟨rfl, rfl, rfl, rfl⟩ ?_
        rintro u rfl
        repeat refine AI ?_
        refine hK' _ _ ?_
        clear hK' K'
        refine hwalk2_step (g := none) rfl rfl fun K' hK' => ?_
        simp (maxSteps := 4000000) only [sH, ↓sP, sA, tyS, simprocAttr, denilL_Ky, denilL_str, Rt.fold]
        refine call_pure (args := [_]) (owner_ok j (by omega)) ⟨rfl, rfl, rfl, rfl⟩ ?_
        rintro u rfl
        repeat refine AI ?_
        refine hK' _ _ ?_
        clear hK' K'
        refine hwalk2_step (g := none) rfl rfl fun K' hK' => ?_
        simp (maxSteps := 4000000) only [sH, ↓sP, sA, tyS, simprocAttr, denilL_Ky, denilL_str, Rt.fold]
        refine call_box (args := []) (some_ok L b2 (by omega)) rfl (by simp) ⟨rfl, rfl, rfl, rfl⟩ ?_
        rintro u v' ⟨ws, b3, rfl, rfl, n1, n2, n3⟩
        repeat refine AI ?_
        refine hK' _ _ ?_
        clear hK' K'
        refine hwalk2_step (g := none) rfl rfl fun K' hK' => ?_
        simp (maxSteps := 4000000) only [sH, ↓sP, sA, tyS, simprocAttr, denilL_Ky, denilL_str, Rt.fold]
        refine call_box (args := [_]) (next_ok L b3 60 (by omega) (by omega)) rfl (by simp) ⟨rfl, rfl, rfl, rfl⟩ ?_
        rintro u v' ⟨x3, b4, rfl, rfl, o1, o2, o3, o4⟩
        obtain ⟨un, hun⟩ : ∃ un, un = IntKind.i64.wrap (IntKind.i64.wrap (x2 + 1) + x3) := ⟨_, rfl⟩
        repeat refine AI ?_
        refine hK' _ _ ?_
        clear hK' K'
        iterate 2
          (refine hwalk2_step (g := none) rfl rfl fun K' hK' => ?_; simp only [sH, ↓sP, sA, tyS, simprocAttr, denilL_Ky, denilL_str, Rt.fold]; (repeat refine AI ?_); refine hK' _ _ ?_; clear hK' K')
        refine hwalk2_step (g := none) rfl rfl fun K' hK' => ?_
        simp (maxSteps := 4000000) only [sH, ↓sP, sA, tyS, simprocAttr, denilL_Ky, denilL_str, Rt.fold]
        refine call_pure (args := [_, _]) (insert_ok ks ⟨mPub j, mOwner j, ws, x2, IntKind.i64.wrap (IntKind.i64.wrap (x2 + 1) + x3)⟩ (by omega)) ⟨rfl, rfl, rfl, rfl⟩ ?_
        rintro u rfl
        repeat refine AI ?_
        refine hK' _ _ ?_
        clear hK' K'
        iterate 2
          (refine hwalk2_step (g := none) rfl rfl fun K' hK' => ?_; simp only [sH, ↓sP, sA, tyS, simprocAttr, denilL_Ky, denilL_str, Rt.fold]; (repeat refine AI ?_); refine hK' _ _ ?_; clear hK' K')
        simp only [sE, ↓reduceIte, simprocAttr]
        exact key b4 (insK ks ⟨mPub j, mOwner j, ws, x2, IntKind.i64.wrap (IntKind.i64.wrap (x2 + 1) + x3)⟩) _ _ _ (by omega) (by rw [insK_len]; omega) (fun k hk => by
          rcases insK_mem hk with hk | rfl
          · exact hkm k hk
          · exact mKey_ok j ws _ _ n2 n3) (fits_fin (by omega) (by simp [FinOk, fin_at, finA_at, upd_at, HV.men, HV.menL, HV.norm, HV.toC, HV.toCL]) (by simp [FobOk, fob_at, upd_at, none0_at, gone, HO.men, HV.men, HV.menL, HV.norm, HV.toC, HV.toCL]; rfl))
    · clear hb
      refine hw_exit ?_
      simp (maxSteps := 4000000) only [↓sP, sA, tyS, simprocAttr]
      clear hK K
      repeat refine AI ?_
      refine hK _ _ _ ?_
      clear hK K
      refine hw_seq fun K hK => ?_
      have key : ∀ (b' : Nat) (r : Rt) fr ob nx, b' ≤ a + 150 → rOk r → Fits 1 fr ob (fin [(0, .ptr 0 0), (1, .c (.int .i64 v)), (4, .ptr 1 0), (5, .ptr 25 0)]) (fob [(0, .box 25 (.c (tp L b'))), (1, .box 30 (.c (Rt.cv ⟨0, 0, [], [], []⟩))), (25, .box 30 (.c r.cv))]) 600 → K fr ob nx := by
        intro b' r fr ob nx w1 w2 hf
        refine hK _ _ _ (hw_fits hf ?_)
        clear hf hK K
        refine hw_seq fun K hK => ?_
        refine hw_seq fun K hK => hw_region (by kernel_rfl) ?_
        simp only [sR, simprocAttr]
        refine hlex_step (g := none) rfl rfl fun K' hK' => ?_
        simp (maxSteps := 4000000) only [sH, ↓sP, sA, tyS, simprocAttr]
        repeat refine AI ?_
        refine hK' _ _ ?_
        clear hK' K'
        refine hlex_step (g := none) rfl rfl fun K' hK' => ?_
        simp (maxSteps := 4000000) only [sH, ↓sP, sA, tyS, simprocAttr]
        refine call_pure (args := [_]) (rvalid_ok r w2.1) ⟨rfl, rfl, rfl, rfl⟩ ?_
        rintro u rfl
        repeat refine AI ?_
        refine hK' _ _ ?_
        clear hK' K'
        refine hlex_step (g := none) rfl rfl fun K' hK' => ?_
        simp (maxSteps := 4000000) only [sH, ↓sP, sA, tyS, simprocAttr]
        repeat refine AI ?_
        refine hK' _ _ ?_
        clear hK' K'
        simp only [sE, ↓reduceIte, simprocAttr]
        repeat refine AI ?_
        refine hK _ _ _ ?_
        clear hK K
        refine hw_cond (b := !validR r) rfl (fun hb => ?_) (fun hb => ?_)
        · refine hw_seq fun K hK => hw_region (by kernel_rfl) ?_
          simp only [sR, simprocAttr]
          refine hlex_step (g := none) rfl rfl fun K' hK' => ?_
          simp (maxSteps := 4000000) only [sH, ↓sP, sA, tyS, simprocAttr]
          refine call_pure (args := []) mfull_ok ⟨rfl, rfl, rfl, rfl⟩ ?_
          rintro u rfl
          repeat refine AI ?_
          refine hK' _ _ ?_
          clear hK' K'
          iterate 2
            (refine hlex_step (g := none) rfl rfl fun K' hK' => ?_; simp only [sH, ↓sP, sA, tyS, simprocAttr]; (repeat refine AI ?_); refine hK' _ _ ?_; clear hK' K')
          simp only [sE, ↓reduceIte, simprocAttr]
          repeat refine AI ?_
          refine hK _ _ _ ?_
          clear hK K
          refine hw_seq fun K hK => hw_region (by kernel_rfl) ?_
          simp (maxSteps := 4000000) only [↓sP, sA, tyS, simprocAttr, Rt.fold]
          repeat refine AI ?_
          refine hK _ _ _ ?_
          clear hK K
          refine hw_seq fun K hK => hw_region (by kernel_rfl) ?_
          simp (maxSteps := 4000000) only [↓sP, sA, tyS, simprocAttr]
          repeat refine AI ?_
          refine hK _ _ _ ?_
          clear hK K
          refine hw_ret ?_
          simp (maxSteps := 4000000) only [hpost, Try.results4, hresL, hres1, tupOf, ↓sP, sA, tyS, simprocAttr]
          refine hret_box [] (Rt.cv ⟨v, full.e, full.q, full.k, full.x⟩) (tp L b') (close_c (Rt.denil _)) rfl ?_ (by simp) ⟨_, b', rfl, rfl, w1, full_ok v⟩
          simp [HV.close, HV.closeL, tp, CV.denil, CV.denilL, denilL_int, HV.norm, HV.toC, HV.toCL]
        · refine hw_skip ?_
          simp (maxSteps := 4000000) only [↓sP, sA, tyS, simprocAttr]
          repeat refine AI ?_
          refine hK _ _ _ ?_
          clear hK K
          refine hw_seq fun K hK => hw_region (by kernel_rfl) ?_
          simp (maxSteps := 4000000) only [↓sP, sA, tyS, simprocAttr]
          repeat refine AI ?_
          refine hK _ _ _ ?_
          clear hK K
          refine hw_ret ?_
          simp (maxSteps := 4000000) only [hpost, Try.results4, hresL, hres1, tupOf, ↓sP, sA, tyS, simprocAttr]
          refine hret_box [] r.cv (tp L b') (close_c (Rt.denil _)) rfl ?_ (by simp) ⟨r, b', rfl, rfl, w1, w2⟩
          simp [HV.close, HV.closeL, tp, CV.denil, CV.denilL, denilL_int, HV.norm, HV.toC, HV.toCL]
      refine hw_seq fun K hK => hw_region (by kernel_rfl) ?_
      simp only [sR, simprocAttr]
      refine hlex_step (g := none) rfl rfl fun K' hK' => ?_
      simp (maxSteps := 4000000) only [sH, ↓sP, sA, tyS, simprocAttr]
      repeat refine AI ?_
      refine hK' _ _ ?_
      clear hK' K'
      refine hlex_step (g := none) rfl rfl fun K' hK' => ?_
      simp (maxSteps := 4000000) only [sH, ↓sP, sA, tyS, simprocAttr]
      refine call_box (args := [_]) (next_ok L b 4 (by omega) (by omega)) rfl (by simp) ⟨rfl, rfl, rfl, rfl⟩ ?_
      rintro u v' ⟨x1, b1, rfl, rfl, g1, g2, g3, g4⟩
      repeat refine AI ?_
      refine hK' _ _ ?_
      clear hK' K'
      refine hlex_step (g := none) rfl rfl fun K' hK' => ?_
      simp (maxSteps := 4000000) only [sH, ↓sP, sA, tyS, simprocAttr]
      repeat refine AI ?_
      refine hK' _ _ ?_
      clear hK' K'
      simp only [sE, ↓reduceIte, simprocAttr]
      repeat refine AI ?_
      refine hK _ _ _ ?_
      clear hK K
      refine hw_cond (b := x1 == 0) rfl (fun hb => ?_) (fun hb => ?_)
      · refine hw_draw2 mixed [(0, [], []), (1, [], []), (4, [], []), (2, [], [0, 4]), (3, [], [0, 4]), (5, [], [0]), (6, [], []), (7, [], []), (8, [], [])] [0, 0, 2, 6, 0, 30, 62, 127, 255] (by kernel_rfl) (by kernel_rfl) (by kernel_rfl) (by kernel_rfl) rfl (by kernel_rfl) ?_
        iterate 3
          (refine hwalk2_step (g := none) rfl rfl fun K' hK' => ?_; simp only [sH, ↓sP, sA, tyS, simprocAttr, Rv.fold]; (repeat refine AI ?_); refine hK' _ _ ?_; clear hK' K')
        refine hwalk2_step (g := none) rfl rfl fun K' hK' => ?_
        simp (maxSteps := 4000000) only [sH, ↓sP, sA, tyS, simprocAttr, Rv.fold]
        refine call_box (args := [_]) (next_ok L b1 7 (by omega) (by omega)) rfl (by simp) ⟨rfl, rfl, rfl, rfl⟩ ?_
        rintro u v' ⟨x2, b2, rfl, rfl, k1, k2, k3, k4⟩
        obtain ⟨m, rfl⟩ : ∃ m : Nat, x2 = m := ⟨x2.toNat, by omega⟩
        repeat refine AI ?_
        refine hK' _ _ ?_
        clear hK' K'
        refine hwalk2_step (g := none) rfl rfl fun K' hK' => ?_
        simp (maxSteps := 4000000) only [sH, ↓sP, sA, tyS, simprocAttr, Rv.fold]
        refine call_pure (args := [_]) (mid_ok m (by omega)) ⟨rfl, rfl, rfl, rfl⟩ ?_
        rintro u rfl
        repeat refine AI ?_
        refine hK' _ _ ?_
        clear hK' K'
        refine hwalk2_step (g := none) rfl rfl fun K' hK' => ?_
        simp (maxSteps := 4000000) only [sH, ↓sP, sA, tyS, simprocAttr, Rv.fold]
        refine call_box (args := [_]) (next_ok L b2 30 (by omega) (by omega)) rfl (by simp) ⟨rfl, rfl, rfl, rfl⟩ ?_
        rintro u v' ⟨x3, b3, rfl, rfl, o1, o2, o3, o4⟩
        repeat refine AI ?_
        refine hK' _ _ ?_
        clear hK' K'
        refine hwalk2_step (g := none) rfl rfl fun K' hK' => ?_
        simp (maxSteps := 4000000) only [sH, ↓sP, sA, tyS, simprocAttr, Rv.fold]
        repeat refine AI ?_
        refine hK' _ _ ?_
        clear hK' K'
        refine hwalk2_step (g := none) rfl rfl fun K' hK' => ?_
        simp (maxSteps := 4000000) only [sH, ↓sP, sA, tyS, simprocAttr, Rv.fold]
        refine call_pure (args := [_, _]) (revoke_ok ⟨v, e0, qs, ks, []⟩ ⟨mid m, x3⟩ (rOk_of (by omega) hqm (by omega) hkm (by simp)).1) ⟨rfl, rfl, rfl, rfl⟩ ?_
        rintro u ⟨xs, rfl, hxs⟩
        repeat refine AI ?_
        refine hK' _ _ ?_
        clear hK' K'
        refine hwalk2_step (g := none) rfl rfl fun K' hK' => ?_
        simp (maxSteps := 4000000) only [sH, ↓sP, sA, tyS, simprocAttr, Rv.fold]
        repeat refine AI ?_
        refine hK' _ _ ?_
        clear hK' K'
        simp only [sE, ↓reduceIte, simprocAttr]
        exact key b3 ⟨v, e0, qs, ks, xs⟩ _ _ _ (by omega) (rOk_of (by omega) hqm (by omega) hkm (by simpa using hxs)) (fits_fin (by omega) (by simp [FinOk, fin_at, finA_at, upd_at, HV.men, HV.menL, HV.norm, HV.toC, HV.toCL]) (by simp [FobOk, fob_at, upd_at, none0_at, gone, HO.men, HV.men, HV.menL, HV.norm, HV.toC, HV.toCL]))
      · refine hw_skip ?_
        simp (maxSteps := 4000000) only [↓sP, sA, tyS, simprocAttr]
        exact key b1 ⟨v, e0, qs, ks, []⟩ _ _ _ (by omega) (rOk_of (by omega) hqm (by omega) hkm (by simp)) (fits_fin (by omega) (by simp [FinOk, fin_at, finA_at, upd_at, HV.men, HV.menL, HV.norm, HV.toC, HV.toCL]) (by simp [FobOk, fob_at, upd_at, none0_at, gone, HO.men, HV.men, HV.menL, HV.norm, HV.toC, HV.toCL]))


theorem awake_ok : HPure Try.prog 11 [] (fun v => v = .bool true) := by
  refine hfn_walk Try.func11 rfl (by kernel_rfl) (locOk_nil _) (Nat.le_of_ble_eq_true rfl) ?_
  refine hw_seq fun K hK => hw_region (by kernel_rfl) ?_
  simp (maxSteps := 4000000) only [↓sP, sA, tyS, simprocAttr]
  repeat refine AI ?_
  refine hK _ _ _ ?_
  clear hK K
  refine hw_seq fun K hK => hw_region (by kernel_rfl) ?_
  simp only [sR, simprocAttr]
  refine hlex_step (g := none) rfl rfl fun K' hK' => ?_
  simp (maxSteps := 4000000) only [sH, ↓sP, sA, tyS, simprocAttr]
  refine call_pure (args := []) mfull_ok ⟨rfl, rfl, rfl, rfl⟩ ?_
  rintro u rfl
  repeat refine AI ?_
  refine hK' _ _ ?_
  clear hK' K'
  iterate 2
    (refine hlex_step (g := none) rfl rfl fun K' hK' => ?_; simp only [sH, ↓sP, sA, tyS, simprocAttr]; (repeat refine AI ?_); refine hK' _ _ ?_; clear hK' K')
  simp only [sE, ↓reduceIte, simprocAttr]
  repeat refine AI ?_
  refine hK _ _ _ ?_
  clear hK K
  refine hw_seq fun K hK => hw_draw2 mixed [(0, [], []), (1, [], []), (2, [], []), (3, [], []), (4, [], []), (5, [], []), (6, [], []), (7, [], []), (8, [], []), (9, [], [8]), (10, [], []), (11, [], []), (12, [], []), (13, [], [])] [0, 1, 3, 7, 15, 31, 63, 127, 255, 255, 767, 2047, 4095, 8191] (by kernel_rfl) (by kernel_rfl) (by kernel_rfl) (by kernel_rfl) rfl (by kernel_rfl) ?_
  refine hwalk2_step (g := none) rfl rfl fun K' hK' => ?_
  simp (maxSteps := 4000000) only [sH, ↓sP, sA, tyS, simprocAttr, full_valid, full_need, full_enough, gone_at]
  repeat refine AI ?_
  refine hK' _ _ ?_
  clear hK' K'
  refine hwalk2_step (g := none) rfl rfl fun K' hK' => ?_
  simp (maxSteps := 4000000) only [sH, ↓sP, sA, tyS, simprocAttr, full_valid, full_need, full_enough, gone_at]
  refine call_pure (args := [_]) (valid_ok full (full_ok 1).1) ⟨rfl, rfl, rfl, rfl⟩ ?_
  rintro u rfl
  repeat refine AI ?_
  refine hK' _ _ ?_
  clear hK' K'
  refine hwalk2_step (g := none) rfl rfl fun K' hK' => ?_
  simp (maxSteps := 4000000) only [sH, ↓sP, sA, tyS, simprocAttr, full_valid, full_need, full_enough, gone_at]
  repeat refine AI ?_
  refine hK' _ _ ?_
  clear hK' K'
  refine hwalk2_step (g := some (5, true)) rfl rfl fun K' hK' => ?_
  simp (maxSteps := 4000000) only [sH, ↓sP, sA, tyS, simprocAttr, full_valid, full_need, full_enough, gone_at]
  repeat refine AI ?_
  refine hK' _ _ ?_
  clear hK' K'
  refine hwalk2_step (g := some (5, true)) rfl rfl fun K' hK' => ?_
  simp (maxSteps := 4000000) only [sH, ↓sP, sA, tyS, simprocAttr, full_valid, full_need, full_enough, gone_at]
  refine call_pure (args := [_, _]) (tneed_ok full wStep (full_ok 1).1) ⟨rfl, rfl, rfl, rfl⟩ ?_
  rintro u rfl
  rw [full_need]
  repeat refine AI ?_
  refine hK' _ _ ?_
  clear hK' K'
  refine hwalk2_step (g := some (5, true)) rfl rfl fun K' hK' => ?_
  simp (maxSteps := 4000000) only [sH, ↓sP, sA, tyS, simprocAttr, full_valid, full_need, full_enough, gone_at]
  repeat refine AI ?_
  refine hK' _ _ ?_
  clear hK' K'
  iterate 2
    (refine hwalk2_step (g := none) rfl rfl fun K' hK' => ?_; simp only [sH, ↓sP, sA, tyS, simprocAttr, full_valid, full_need, full_enough, gone_at]; (repeat refine AI ?_); refine hK' _ _ ?_; clear hK' K')
  refine hwalk2_step (g := some (10, true)) rfl rfl fun K' hK' => ?_
  simp (maxSteps := 4000000) only [sH, ↓sP, sA, tyS, simprocAttr, full_valid, full_need, full_enough, gone_at]
  repeat refine AI ?_
  refine hK' _ _ ?_
  clear hK' K'
  refine hwalk2_step (g := some (10, true)) rfl rfl fun K' hK' => ?_
  simp (maxSteps := 4000000) only [sH, ↓sP, sA, tyS, simprocAttr, full_valid, full_need, full_enough, gone_at]
  refine call_pure (args := [_]) (mid_ok 0 (by omega)) ⟨rfl, rfl, rfl, rfl⟩ ?_
  rintro u rfl
  repeat refine AI ?_
  refine hK' _ _ ?_
  clear hK' K'
  refine hwalk2_step (g := some (10, true)) rfl rfl fun K' hK' => ?_
  simp (maxSteps := 4000000) only [sH, ↓sP, sA, tyS, simprocAttr, full_valid, full_need, full_enough, gone_at]
  repeat refine AI ?_
  refine hK' _ _ ?_
  clear hK' K'
  refine hwalk2_step (g := some (10, true)) rfl rfl fun K' hK' => ?_
  simp (maxSteps := 4000000) only [sH, ↓sP, sA, tyS, simprocAttr, full_valid, full_need, full_enough, gone_at]
  refine call_close (e := 58) (sz := 32) (l := [mid 0].map dg) [full.cv, .str wStep] [.int .i64 5] (enough_ok full wStep [mid 0] 5 (full_ok 1).1 (by simp)) rfl rfl (by simp) ⟨rfl, rfl, rfl, rfl⟩ ?_
  rintro u rfl
  repeat refine AI ?_
  refine hK' _ _ ?_
  clear hK' K'
  iterate 2
    (refine hwalk2_step (g := none) rfl rfl fun K' hK' => ?_; simp only [sH, ↓sP, sA, tyS, simprocAttr, full_valid, full_need, full_enough, gone_at]; (repeat refine AI ?_); refine hK' _ _ ?_; clear hK' K')
  simp only [sE, ↓reduceIte, simprocAttr]
  repeat refine AI ?_
  refine hK _ _ _ ?_
  clear hK K
  refine hw_ret ?_
  simp (maxSteps := 4000000) only [hpost, Try.results11, hresL, hres1, tupOf, ↓sP, sA, tyS, simprocAttr]
  exact hret_pure [] (.bool true) rfl rfl

end Go.Proofs.Ytnmdlbjkclddeaa

namespace Go.Proofs.Ytnmdlbjkclddeaa
open Go Go.Hl Go.Pl
set_option maxRecDepth 10000
set_option maxHeartbeats 8000000
set_option linter.unusedSimpArgs false
set_option linter.unusedVariables false
attribute [local simp] tp

theorem more_law (L : List Int) : HPure Try.prog 3 [.slc (L.map (.int .i64))] (fun v => v = .bool true) := by
  refine hfn_walk Try.func3 rfl (by kernel_rfl) (locOk_nil _) (Nat.le_of_ble_eq_true rfl) ?_
  refine hw_seq fun K hK => hw_region (by kernel_rfl) ?_
  simp (maxSteps := 4000000) only [↓sP, sA, tyS, simprocAttr]
  repeat refine AI ?_
  refine hK _ _ _ ?_
  clear hK K
  refine hw_seq fun K hK => hw_region (by kernel_rfl) ?_
  simp only [sR, simprocAttr]
  iterate 4
    (refine hlex_step (g := none) rfl rfl fun K' hK' => ?_; simp only [sH, ↓sP, sA, tyS, simprocAttr, denilL_int]; (repeat refine AI ?_); refine hK' _ _ ?_; clear hK' K')
  simp only [sE, ↓reduceIte, simprocAttr]
  repeat refine AI ?_
  refine hK _ _ _ ?_
  clear hK K
  refine hw_seq fun K hK => hw_region (by kernel_rfl) ?_
  simp only [sR, simprocAttr]
  refine hlex_step (g := none) rfl rfl fun K' hK' => ?_
  simp (maxSteps := 4000000) only [sH, ↓sP, sA, tyS, simprocAttr]
  repeat refine AI ?_
  refine hK' _ _ ?_
  clear hK' K'
  refine hlex_step (g := none) rfl rfl fun K' hK' => ?_
  simp (maxSteps := 4000000) only [sH, ↓sP, sA, tyS, simprocAttr]
  refine call_box (args := [_]) (root_ok L 0 1 (by omega)) rfl (by simp) ⟨rfl, rfl, rfl, rfl⟩ ?_
  rintro u v' ⟨r, a1, rfl, rfl, k1, hr⟩
  repeat refine AI ?_
  refine hK' _ _ ?_
  clear hK' K'
  refine hlex_step (g := none) rfl rfl fun K' hK' => ?_
  simp (maxSteps := 4000000) only [sH, ↓sP, sA, tyS, simprocAttr]
  repeat refine AI ?_
  refine hK' _ _ ?_
  clear hK' K'
  refine hlex_step (g := none) rfl rfl fun K' hK' => ?_
  simp (maxSteps := 4000000) only [sH, ↓sP, sA, tyS, simprocAttr]
  refine call_pure (args := []) roles_ok ⟨rfl, rfl, rfl, rfl⟩ ?_
  rintro u rfl
  repeat refine AI ?_
  refine hK' _ _ ?_
  clear hK' K'
  refine hlex_step (g := none) rfl rfl fun K' hK' => ?_
  simp (maxSteps := 4000000) only [sH, ↓sP, sA, tyS, simprocAttr]
  refine call_box (args := [_]) (pick_ok L a1 roles10 (by omega) ⟨by decide, by decide⟩) rfl (by simp) ⟨rfl, rfl, rfl, rfl⟩ ?_
  rintro u v' ⟨role, a2, rfl, hrole, rfl, k2⟩
  repeat refine AI ?_
  refine hK' _ _ ?_
  clear hK' K'
  refine hlex_step (g := none) rfl rfl fun K' hK' => ?_
  simp (maxSteps := 4000000) only [sH, ↓sP, sA, tyS, simprocAttr]
  repeat refine AI ?_
  refine hK' _ _ ?_
  clear hK' K'
  refine hlex_step (g := none) rfl rfl fun K' hK' => ?_
  simp (maxSteps := 4000000) only [sH, ↓sP, sA, tyS, simprocAttr]
  refine call_box (args := []) (mkeys_ok L a2 (by omega)) rfl (by simp) ⟨rfl, rfl, rfl, rfl⟩ ?_
  rintro u v' ⟨A, a3, rfl, rfl, k3, hA⟩
  repeat refine AI ?_
  refine hK' _ _ ?_
  clear hK' K'
  refine hlex_step (g := none) rfl rfl fun K' hK' => ?_
  simp (maxSteps := 4000000) only [sH, ↓sP, sA, tyS, simprocAttr]
  repeat refine AI ?_
  refine hK' _ _ ?_
  clear hK' K'
  refine hlex_step (g := none) rfl rfl fun K' hK' => ?_
  simp (maxSteps := 4000000) only [sH, ↓sP, sA, tyS, simprocAttr]
  refine call_box (args := []) (mkeys_ok L a3 (by omega)) rfl (by simp) ⟨rfl, rfl, rfl, rfl⟩ ?_
  rintro u v' ⟨B, a4, rfl, rfl, k4, hB⟩
  repeat refine AI ?_
  refine hK' _ _ ?_
  clear hK' K'
  refine hlex_step (g := none) rfl rfl fun K' hK' => ?_
  simp (maxSteps := 4000000) only [sH, ↓sP, sA, tyS, simprocAttr]
  repeat refine AI ?_
  refine hK' _ _ ?_
  clear hK' K'
  refine hlex_step (g := none) rfl rfl fun K' hK' => ?_
  simp (maxSteps := 4000000) only [sH, ↓sP, sA, tyS, simprocAttr]
  refine call_box (args := [_]) (next_ok L a4 40 (by omega) (by omega)) rfl (by simp) ⟨rfl, rfl, rfl, rfl⟩ ?_
  rintro u v' ⟨t, a5, rfl, rfl, k5, k6, k7, k8⟩
  repeat refine AI ?_
  refine hK' _ _ ?_
  clear hK' K'
  iterate 6
    (refine hlex_step (g := none) rfl rfl fun K' hK' => ?_; simp only [sH, ↓sP, sA, tyS, simprocAttr]; (repeat refine AI ?_); refine hK' _ _ ?_; clear hK' K')
  simp only [sE, ↓reduceIte, simprocAttr]
  repeat refine AI ?_
  refine hK _ _ _ ?_
  clear hK K
  refine hw_seq fun K hK => hw_region (by kernel_rfl) ?_
  simp only [sR, simprocAttr]
  iterate 4
    (refine hlex_step (g := none) rfl rfl fun K' hK' => ?_; simp only [sH, ↓sP, sA, tyS, simprocAttr, denilL_dg]; (repeat refine AI ?_); refine hK' _ _ ?_; clear hK' K')
  refine hlex_step (g := none) rfl rfl fun K' hK' => ?_
  simp (maxSteps := 4000000) only [sH, ↓sP, sA, tyS, simprocAttr, denilL_dg]
  refine call_pure (args := [_, _, _, _]) (vouched_ok r role A t hr.1 (by omega)) ⟨rfl, rfl, rfl, rfl⟩ ?_
  rintro u rfl
  repeat refine AI ?_
  refine hK' _ _ ?_
  clear hK' K'
  refine hlex_step (g := none) rfl rfl fun K' hK' => ?_
  simp (maxSteps := 4000000) only [sH, ↓sP, sA, tyS, simprocAttr, denilL_dg]
  repeat refine AI ?_
  refine hK' _ _ ?_
  clear hK' K'
  simp only [sE, ↓reduceIte, simprocAttr]
  repeat refine AI ?_
  refine hK _ _ _ ?_
  clear hK K
  refine hw_seq fun K hK => hw_draw2 mixed [(0, [], []), (1, [], []), (2, [], []), (3, [2], []), (5, [2], []), (7, [2], []), (4, [], [0, 1, 5, 7]), (6, [], [0, 1, 7]), (8, [], []), (9, [], [])] [0, 0, 0, 0, 12, 0, 60, 0, 255, 511] (by kernel_rfl) (by kernel_rfl) (by kernel_rfl) (by kernel_rfl) rfl (by kernel_rfl) ?_
  iterate 8
    (refine hwalk2_step (g := none) rfl rfl fun K' hK' => ?_; simp only [sH, ↓sP, sA, tyS, simprocAttr, denilL_dg, cells_dg]; (repeat refine AI ?_); refine hK' _ _ ?_; clear hK' K')
  refine hwalk2_step (g := none) rfl rfl fun K' hK' => ?_
  simp (maxSteps := 4000000) only [sH, ↓sP, sA, tyS, simprocAttr, denilL_dg, cells_dg]
  refine call_close (e := 58) (sz := 32) (l := (B ++ A).map dg) [r.cv, .str role] [.int .i64 t] (vouched_ok r role (B ++ A) t hr.1 (by simp; omega)) (by simp [upd_at]) (by simp) (by simp) ⟨rfl, rfl, rfl, rfl⟩ ?_
  rintro u rfl
  repeat refine AI ?_
  refine hK' _ _ ?_
  clear hK' K'
  refine hwalk2_step (g := none) rfl rfl fun K' hK' => ?_
  simp (maxSteps := 4000000) only [sH, ↓sP, sA, tyS, simprocAttr, denilL_dg, cells_dg]
  repeat refine AI ?_
  refine hK' _ _ ?_
  clear hK' K'
  simp only [sE, ↓reduceIte, simprocAttr]
  repeat refine AI ?_
  refine hK _ _ _ ?_
  clear hK K
  refine hw_seq fun K hK => hw_draw2 mixed [(0, [], []), (1, [], []), (2, [], []), (3, [2], []), (5, [2], []), (7, [2], []), (4, [], [0, 1, 5, 7]), (6, [], [0, 1, 7]), (8, [], []), (9, [], [])] [0, 0, 0, 0, 12, 0, 60, 0, 255, 511] (by kernel_rfl) (by kernel_rfl) (by kernel_rfl) (by kernel_rfl) rfl (by kernel_rfl) ?_
  iterate 8
    (refine hwalk2_step (g := none) rfl rfl fun K' hK' => ?_; simp only [sH, ↓sP, sA, tyS, simprocAttr, denilL_dg, cells_dg, gone_at]; (repeat refine AI ?_); refine hK' _ _ ?_; clear hK' K')
  refine hwalk2_step (g := none) rfl rfl fun K' hK' => ?_
  simp (maxSteps := 4000000) only [sH, ↓sP, sA, tyS, simprocAttr, denilL_dg, cells_dg, gone_at]
  refine call_close (e := 58) (sz := 32) (l := (A ++ B).map dg) [r.cv, .str role] [.int .i64 t] (vouched_ok r role (A ++ B) t hr.1 (by simp; omega)) (by simp [upd_at]) (by simp) (by simp) ⟨rfl, rfl, rfl, rfl⟩ ?_
  rintro u rfl
  repeat refine AI ?_
  refine hK' _ _ ?_
  clear hK' K'
  refine hwalk2_step (g := none) rfl rfl fun K' hK' => ?_
  simp (maxSteps := 4000000) only [sH, ↓sP, sA, tyS, simprocAttr, denilL_dg, cells_dg, gone_at]
  repeat refine AI ?_
  refine hK' _ _ ?_
  clear hK' K'
  simp only [sE, ↓reduceIte, simprocAttr]
  repeat refine AI ?_
  refine hK _ _ _ ?_
  clear hK K
  refine hw_seq fun K hK => ?_
  refine hw_seq fun K hK => hw_region (by kernel_rfl) ?_
  simp (maxSteps := 4000000) only [↓sP, sA, tyS, simprocAttr]
  repeat refine AI ?_
  refine hK _ _ _ ?_
  clear hK K
  refine hw_block ?_
  have hAB : ∀ d ∈ A, d ∈ B ++ A := fun d h => by simp [h]
  have hsame : vouched r role (B ++ A) t = vouched r role (A ++ B) t := vouched_ext fun d => by simp [or_comm]
  have hfew : (vouched r role (B ++ A) t).length ≤ 4 := vouched_few (ws := owners4) hr.2
  have hlenA : (vouched r role A t).length ≤ 4 := vouched_few (ws := owners4) hr.2
  have hmono : ∀ w ∈ vouched r role A t, w ∈ vouched r role (B ++ A) t := fun w hw => vouched_mono hAB hw
  have hasc : ascB (vouched r role (B ++ A) t) = true := asc_ascB asc_vouched
  rw [← hsame]
  refine hw_loop (α := {i : Nat // i ≤ (vouched r role A t).length}) (fun i => (fin [(4, .ptr 64 0), (5, .c (.str role)), (6, .c (.slc (A.map dg))), (7, .c (.slc (B.map dg))), (8, .c (.int .i64 t)), (9, .c (.slc ((vouched r role A t).map .str))), (10, .c (.slc ((vouched r role (B ++ A) t).map .str))), (11, .c (.slc ((vouched r role (B ++ A) t).map .str))), (12, .c (.int .i64 i.1))], fob [(64, .box 30 (.c r.cv))])) 400 (fun i => (vouched r role A t).length - i.1) ⟨0, by omega⟩ (fits_fin (by omega) (by simp [FinOk, fin_at, finA_at, upd_at, HV.men, HV.menL, HV.norm, HV.toC, HV.toCL]) (by simp [FobOk, fob_at, upd_at, none0_at, gone, HO.men, HV.men, HV.menL, HV.norm, HV.toC, HV.toCL])) ?_
  rintro ⟨i, hi⟩
  refine hw_seq fun K hK => ?_
  refine hw_seq fun K hK => hw_region (by kernel_rfl) ?_
  simp only [sR, simprocAttr]
  iterate 4
    (refine hlex_step (g := none) rfl rfl fun K' hK' => ?_; simp only [sH, ↓sP, sA, tyS, simprocAttr]; (repeat refine AI ?_); refine hK' _ _ ?_; clear hK' K')
  simp only [sE, ↓reduceIte, simprocAttr]
  repeat refine AI ?_
  refine hK _ _ _ ?_
  clear hK K
  refine hw_cond (b := decide ((i : Int) < (vouched r role A t).length)) rfl (fun hb => ?_) (fun hb => ?_)
  · have hlt : i < (vouched r role A t).length := by simpa using hb
    refine hw_skip ?_
    simp (maxSteps := 4000000) only [↓sP, sA, tyS, simprocAttr]
    repeat refine AI ?_
    refine hK _ _ _ ?_
    clear hK K
    refine hw_seq fun K hK => ?_
    refine hw_block ?_
    refine hw_seq fun K hK => hw_region (by kernel_rfl) ?_
    simp only [sR, simprocAttr]
    iterate 5
      (refine hlex_step (g := none) rfl rfl fun K' hK' => ?_; simp only [sH, ↓sP, sA, tyS, simprocAttr, Int.natCast_nonneg, Int.ofNat_lt, hlt, nth_map hlt]; (repeat refine AI ?_); refine hK' _ _ ?_; clear hK' K')
    refine hlex_step (g := none) rfl rfl fun K' hK' => ?_
    simp (maxSteps := 4000000) only [sH, ↓sP, sA, tyS, simprocAttr, Int.natCast_nonneg, Int.ofNat_lt, hlt, nth_map hlt]
    refine call_pure (args := [_, _]) (has_ok (vouched r role (B ++ A) t) (vouched r role A t)[i] (by omega)) ⟨rfl, rfl, rfl, rfl⟩ ?_
    rintro u rfl
    repeat refine AI ?_
    refine hK' _ _ ?_
    clear hK' K'
    refine hlex_step (g := none) rfl rfl fun K' hK' => ?_
    simp (maxSteps := 4000000) only [sH, ↓sP, sA, tyS, simprocAttr, Int.natCast_nonneg, Int.ofNat_lt, hlt, nth_map hlt]
    repeat refine AI ?_
    refine hK' _ _ ?_
    clear hK' K'
    simp only [sE, ↓reduceIte, simprocAttr]
    repeat refine AI ?_
    refine hK _ _ _ ?_
    clear hK K
    refine hw_cond (b := !(vouched r role (B ++ A) t).contains (vouched r role A t)[i]) rfl (fun hb => ?_) (fun hb => ?_)
    · have := hmono _ (List.getElem_mem hlt)
      simp [this] at hb
    · refine hw_skip ?_
      simp (maxSteps := 4000000) only [↓sP, sA, tyS, simprocAttr]
      repeat refine AI ?_
      refine hK _ _ _ ?_
      clear hK K
      refine hw_region (by kernel_rfl) ?_
      simp (maxSteps := 4000000) only [↓sP, sA, tyS, simprocAttr, IntWalk.i64_in _ (show -9223372036854775808 ≤ (i : Int) + 1 ∧ (i : Int) + 1 ≤ 9223372036854775807 by omega)]
      refine ⟨⟨i + 1, hlt⟩, fits_fin (by omega) (by simp [FinOk, fin_at, finA_at, upd_at, HV.men, HV.menL, HV.norm, HV.toC, HV.toCL]) (by simp [FobOk, fob_at, upd_at, none0_at, gone, HO.men, HV.men, HV.menL, HV.norm, HV.toC, HV.toCL]), ?_⟩
      show (vouched r role A t).length - (i + 1) < (vouched r role A t).length - i
      omega
  · refine hw_exit ?_
    simp (maxSteps := 4000000) only [↓sP, sA, tyS, simprocAttr]
    clear hK K
    repeat refine AI ?_
    refine hK _ _ _ ?_
    clear hK K
    cases he : enough r role A t
    · clear hb
      have hE : enough r role A t = true → enough r role (B ++ A) t = true := fun h => enough_mono hAB h
      have h4 : ((vouched r role (B ++ A) t).length : Int) ≤ 4 := by omega
      refine hw_seq fun K hK => hw_draw2 mixed [(0, [], []), (1, [], []), (2, [], []), (3, [], []), (4, [], []), (5, [], []), (6, [], []), (7, [], []), (8, [], []), (9, [], []), (10, [], []), (11, [], []), (12, [], []), (13, [], []), (14, [], []), (15, [], []), (16, [], []), (17, [], []), (18, [], []), (19, [], []), (20, [], []), (21, [], []), (22, [], []), (23, [], []), (24, [], []), (25, [], []), (26, [25], []), (28, [25], []), (30, [25], []), (27, [], [23, 24, 28, 30]), (29, [], [23, 24, 30]), (31, [], []), (32, [], []), (33, [], []), (34, [], [])] [0, 1, 3, 7, 15, 31, 63, 63, 255, 511, 1023, 2047, 4095, 8191, 16383, 32767, 65535, 65535, 65535, 65535, 1048575, 2097151, 4194303, 8388607, 8388607, 8388607, 8388607, 109051903, 8388607, 511705087, 8388607, 2147483647, 4294967295, 8589934591, 17179869183] (by kernel_rfl) (by kernel_rfl) (by kernel_rfl) (by kernel_rfl) rfl (by kernel_rfl) ?_
      refine hwalk2_step (g := none) rfl rfl fun K' hK' => ?_
      simp (maxSteps := 4000000) only [sH, ↓sP, sA, tyS, simprocAttr, hasc, he, h4, beq_self_eq_true, denilL_dg, denilL_str]
      refine call_pure (args := []) awake_ok ⟨rfl, rfl, rfl, rfl⟩ ?_
      rintro u rfl
      repeat refine AI ?_
      refine hK' _ _ ?_
      clear hK' K'
      refine hwalk2_step (g := none) rfl rfl fun K' hK' => ?_
      simp (maxSteps := 4000000) only [sH, ↓sP, sA, tyS, simprocAttr, hasc, he, h4, beq_self_eq_true, denilL_dg, denilL_str]
      repeat refine AI ?_
      refine hK' _ _ ?_
      clear hK' K'
      refine hwalk2_step (g := some (64, true)) rfl rfl fun K' hK' => ?_
      simp (maxSteps := 4000000) only [sH, ↓sP, sA, tyS, simprocAttr, hasc, he, h4, beq_self_eq_true, denilL_dg, denilL_str]
      repeat refine AI ?_
      refine hK' _ _ ?_
      clear hK' K'
      refine hwalk2_step (g := some (64, true)) rfl rfl fun K' hK' => ?_
      simp (maxSteps := 4000000) only [sH, ↓sP, sA, tyS, simprocAttr, hasc, he, h4, beq_self_eq_true, denilL_dg, denilL_str]
      refine call_pure (args := [_]) (ascending_ok (vouched r role (B ++ A) t) (by omega)) ⟨rfl, rfl, rfl, rfl⟩ ?_
      rintro u rfl
      repeat refine AI ?_
      refine hK' _ _ ?_
      clear hK' K'
      iterate 2
        (refine hwalk2_step (g := none) rfl rfl fun K' hK' => ?_; simp only [sH, ↓sP, sA, tyS, simprocAttr, hasc, he, h4, beq_self_eq_true, denilL_dg, denilL_str]; (repeat refine AI ?_); refine hK' _ _ ?_; clear hK' K')
      iterate 2
        (refine hwalk2_step (g := some (68, true)) rfl rfl fun K' hK' => ?_; simp only [sH, ↓sP, sA, tyS, simprocAttr, hasc, he, h4, beq_self_eq_true, denilL_dg, denilL_str]; (repeat refine AI ?_); refine hK' _ _ ?_; clear hK' K')
      refine hwalk2_step (g := some (68, true)) rfl rfl fun K' hK' => ?_
      simp (maxSteps := 4000000) only [sH, ↓sP, sA, tyS, simprocAttr, hasc, he, h4, beq_self_eq_true, denilL_dg, denilL_str]
      refine call_pure (args := [_, _]) (same_ok (vouched r role (B ++ A) t) (vouched r role (B ++ A) t) (by omega)) ⟨rfl, rfl, rfl, rfl⟩ ?_
      rintro u rfl
      repeat refine AI ?_
      refine hK' _ _ ?_
      clear hK' K'
      iterate 2
        (refine hwalk2_step (g := none) rfl rfl fun K' hK' => ?_; simp only [sH, ↓sP, sA, tyS, simprocAttr, hasc, he, h4, beq_self_eq_true, denilL_dg, denilL_str]; (repeat refine AI ?_); refine hK' _ _ ?_; clear hK' K')
      iterate 3
        (refine hwalk2_step (g := some (73, true)) rfl rfl fun K' hK' => ?_; simp only [sH, ↓sP, sA, tyS, simprocAttr, hasc, he, h4, beq_self_eq_true, denilL_dg, denilL_str]; (repeat refine AI ?_); refine hK' _ _ ?_; clear hK' K')
      iterate 2
        (refine hwalk2_step (g := none) rfl rfl fun K' hK' => ?_; simp only [sH, ↓sP, sA, tyS, simprocAttr, hasc, he, h4, beq_self_eq_true, denilL_dg, denilL_str]; (repeat refine AI ?_); refine hK' _ _ ?_; clear hK' K')
      iterate 4
        (refine hwalk2_step (g := some (78, true)) rfl rfl fun K' hK' => ?_; simp only [sH, ↓sP, sA, tyS, simprocAttr, hasc, he, h4, beq_self_eq_true, denilL_dg, denilL_str]; (repeat refine AI ?_); refine hK' _ _ ?_; clear hK' K')
      refine hwalk2_step (g := some (78, true)) rfl rfl fun K' hK' => ?_
      simp (maxSteps := 4000000) only [sH, ↓sP, sA, tyS, simprocAttr, hasc, he, h4, beq_self_eq_true, denilL_dg, denilL_str]
      refine call_pure (args := [_, _, _, _]) (enough_ok r role A t hr.1 (by omega)) ⟨rfl, rfl, rfl, rfl⟩ ?_
      rintro u rfl
      repeat refine AI ?_
      refine hK' _ _ ?_
      clear hK' K'
      iterate 2
        (refine hwalk2_step (g := some (78, true)) rfl rfl fun K' hK' => ?_; simp only [sH, ↓sP, sA, tyS, simprocAttr, hasc, he, h4, beq_self_eq_true, denilL_dg, denilL_str]; (repeat refine AI ?_); refine hK' _ _ ?_; clear hK' K')
      iterate 9
        (refine hwalk2_step (g := some (85, false)) rfl rfl fun K' hK' => ?_; simp only [sH, ↓sP, sA, tyS, simprocAttr, hasc, he, h4, beq_self_eq_true, denilL_dg, denilL_str]; (repeat refine AI ?_); refine hK' _ _ ?_; clear hK' K')
      refine hwalk2_step (g := some (78, true)) rfl rfl fun K' hK' => ?_
      simp (maxSteps := 4000000) only [sH, ↓sP, sA, tyS, simprocAttr, hasc, he, h4, beq_self_eq_true, denilL_dg, denilL_str]
      repeat refine AI ?_
      refine hK' _ _ ?_
      clear hK' K'
      iterate 2
        (refine hwalk2_step (g := none) rfl rfl fun K' hK' => ?_; simp only [sH, ↓sP, sA, tyS, simprocAttr, hasc, he, h4, beq_self_eq_true, denilL_dg, denilL_str]; (repeat refine AI ?_); refine hK' _ _ ?_; clear hK' K')
      simp only [sE, ↓reduceIte, simprocAttr]
      repeat refine AI ?_
      refine hK _ _ _ ?_
      clear hK K
      refine hw_ret ?_
      simp (maxSteps := 4000000) only [hpost, Try.results3, hresL, hres1, tupOf, ↓sP, sA, tyS, simprocAttr]
      exact hret_pure [] (.bool true) rfl rfl
    · clear hb
      have hE : enough r role A t = true → enough r role (B ++ A) t = true := fun h => enough_mono hAB h
      have h4 : ((vouched r role (B ++ A) t).length : Int) ≤ 4 := by omega
      refine hw_seq fun K hK => hw_draw2 mixed [(0, [], []), (1, [], []), (2, [], []), (3, [], []), (4, [], []), (5, [], []), (6, [], []), (7, [], []), (8, [], []), (9, [], []), (10, [], []), (11, [], []), (12, [], []), (13, [], []), (14, [], []), (15, [], []), (16, [], []), (17, [], []), (18, [], []), (19, [], []), (20, [], []), (21, [], []), (22, [], []), (23, [], []), (24, [], []), (25, [], []), (26, [25], []), (28, [25], []), (30, [25], []), (27, [], [23, 24, 28, 30]), (29, [], [23, 24, 30]), (31, [], []), (32, [], []), (33, [], []), (34, [], [])] [0, 1, 3, 7, 15, 31, 63, 63, 255, 511, 1023, 2047, 4095, 8191, 16383, 32767, 65535, 65535, 65535, 65535, 1048575, 2097151, 4194303, 8388607, 8388607, 8388607, 8388607, 109051903, 8388607, 511705087, 8388607, 2147483647, 4294967295, 8589934591, 17179869183] (by kernel_rfl) (by kernel_rfl) (by kernel_rfl) (by kernel_rfl) rfl (by kernel_rfl) ?_
      refine hwalk2_step (g := none) rfl rfl fun K' hK' => ?_
      simp (maxSteps := 4000000) only [sH, ↓sP, sA, tyS, simprocAttr, hasc, he, h4, beq_self_eq_true, denilL_dg, denilL_str, cells_dg, hE, gone_at]
      refine call_pure (args := []) awake_ok ⟨rfl, rfl, rfl, rfl⟩ ?_
      rintro u rfl
      repeat refine AI ?_
      refine hK' _ _ ?_
      clear hK' K'
      refine hwalk2_step (g := none) rfl rfl fun K' hK' => ?_
      simp (maxSteps := 4000000) only [sH, ↓sP, sA, tyS, simprocAttr, hasc, he, h4, beq_self_eq_true, denilL_dg, denilL_str, cells_dg, hE, gone_at]
      repeat refine AI ?_
      refine hK' _ _ ?_
      clear hK' K'
      refine hwalk2_step (g := some (64, true)) rfl rfl fun K' hK' => ?_
      simp (maxSteps := 4000000) only [sH, ↓sP, sA, tyS, simprocAttr, hasc, he, h4, beq_self_eq_true, denilL_dg, denilL_str, cells_dg, hE, gone_at]
      repeat refine AI ?_
      refine hK' _ _ ?_
      clear hK' K'
      refine hwalk2_step (g := some (64, true)) rfl rfl fun K' hK' => ?_
      simp (maxSteps := 4000000) only [sH, ↓sP, sA, tyS, simprocAttr, hasc, he, h4, beq_self_eq_true, denilL_dg, denilL_str, cells_dg, hE, gone_at]
      refine call_pure (args := [_]) (ascending_ok (vouched r role (B ++ A) t) (by omega)) ⟨rfl, rfl, rfl, rfl⟩ ?_
      rintro u rfl
      repeat refine AI ?_
      refine hK' _ _ ?_
      clear hK' K'
      iterate 2
        (refine hwalk2_step (g := none) rfl rfl fun K' hK' => ?_; simp only [sH, ↓sP, sA, tyS, simprocAttr, hasc, he, h4, beq_self_eq_true, denilL_dg, denilL_str, cells_dg, hE, gone_at]; (repeat refine AI ?_); refine hK' _ _ ?_; clear hK' K')
      iterate 2
        (refine hwalk2_step (g := some (68, true)) rfl rfl fun K' hK' => ?_; simp only [sH, ↓sP, sA, tyS, simprocAttr, hasc, he, h4, beq_self_eq_true, denilL_dg, denilL_str, cells_dg, hE, gone_at]; (repeat refine AI ?_); refine hK' _ _ ?_; clear hK' K')
      refine hwalk2_step (g := some (68, true)) rfl rfl fun K' hK' => ?_
      simp (maxSteps := 4000000) only [sH, ↓sP, sA, tyS, simprocAttr, hasc, he, h4, beq_self_eq_true, denilL_dg, denilL_str, cells_dg, hE, gone_at]
      refine call_pure (args := [_, _]) (same_ok (vouched r role (B ++ A) t) (vouched r role (B ++ A) t) (by omega)) ⟨rfl, rfl, rfl, rfl⟩ ?_
      rintro u rfl
      repeat refine AI ?_
      refine hK' _ _ ?_
      clear hK' K'
      iterate 2
        (refine hwalk2_step (g := none) rfl rfl fun K' hK' => ?_; simp only [sH, ↓sP, sA, tyS, simprocAttr, hasc, he, h4, beq_self_eq_true, denilL_dg, denilL_str, cells_dg, hE, gone_at]; (repeat refine AI ?_); refine hK' _ _ ?_; clear hK' K')
      iterate 3
        (refine hwalk2_step (g := some (73, true)) rfl rfl fun K' hK' => ?_; simp only [sH, ↓sP, sA, tyS, simprocAttr, hasc, he, h4, beq_self_eq_true, denilL_dg, denilL_str, cells_dg, hE, gone_at]; (repeat refine AI ?_); refine hK' _ _ ?_; clear hK' K')
      iterate 2
        (refine hwalk2_step (g := none) rfl rfl fun K' hK' => ?_; simp only [sH, ↓sP, sA, tyS, simprocAttr, hasc, he, h4, beq_self_eq_true, denilL_dg, denilL_str, cells_dg, hE, gone_at]; (repeat refine AI ?_); refine hK' _ _ ?_; clear hK' K')
      iterate 4
        (refine hwalk2_step (g := some (78, true)) rfl rfl fun K' hK' => ?_; simp only [sH, ↓sP, sA, tyS, simprocAttr, hasc, he, h4, beq_self_eq_true, denilL_dg, denilL_str, cells_dg, hE, gone_at]; (repeat refine AI ?_); refine hK' _ _ ?_; clear hK' K')
      refine hwalk2_step (g := some (78, true)) rfl rfl fun K' hK' => ?_
      simp (maxSteps := 4000000) only [sH, ↓sP, sA, tyS, simprocAttr, hasc, he, h4, beq_self_eq_true, denilL_dg, denilL_str, cells_dg, hE, gone_at]
      refine call_pure (args := [_, _, _, _]) (enough_ok r role A t hr.1 (by omega)) ⟨rfl, rfl, rfl, rfl⟩ ?_
      rintro u rfl
      repeat refine AI ?_
      refine hK' _ _ ?_
      clear hK' K'
      iterate 2
        (refine hwalk2_step (g := some (78, true)) rfl rfl fun K' hK' => ?_; simp only [sH, ↓sP, sA, tyS, simprocAttr, hasc, he, h4, beq_self_eq_true, denilL_dg, denilL_str, cells_dg, hE, gone_at]; (repeat refine AI ?_); refine hK' _ _ ?_; clear hK' K')
      iterate 8
        (refine hwalk2_step (g := some (85, false)) rfl rfl fun K' hK' => ?_; simp only [sH, ↓sP, sA, tyS, simprocAttr, hasc, he, h4, beq_self_eq_true, denilL_dg, denilL_str, cells_dg, hE, gone_at]; (repeat refine AI ?_); refine hK' _ _ ?_; clear hK' K')
      refine hwalk2_step (g := some (85, false)) rfl rfl fun K' hK' => ?_
      simp (maxSteps := 4000000) only [sH, ↓sP, sA, tyS, simprocAttr, hasc, he, h4, beq_self_eq_true, denilL_dg, denilL_str, cells_dg, hE, gone_at]
      refine call_close (e := 58) (sz := 32) (l := (B ++ A).map dg) [r.cv, .str role] [.int .i64 t] (enough_ok r role (B ++ A) t hr.1 (by simp; omega)) (by simp [upd_at]) (by simp) (by simp) ⟨rfl, rfl, rfl, rfl⟩ ?_
      rintro u rfl
      repeat refine AI ?_
      refine hK' _ _ ?_
      clear hK' K'
      refine hwalk2_step (g := some (78, true)) rfl rfl fun K' hK' => ?_
      simp (maxSteps := 4000000) only [sH, ↓sP, sA, tyS, simprocAttr, hasc, he, h4, beq_self_eq_true, denilL_dg, denilL_str, cells_dg, hE, gone_at]
      repeat refine AI ?_
      refine hK' _ _ ?_
      clear hK' K'
      iterate 2
        (refine hwalk2_step (g := none) rfl rfl fun K' hK' => ?_; simp only [sH, ↓sP, sA, tyS, simprocAttr, hasc, he, h4, beq_self_eq_true, denilL_dg, denilL_str, cells_dg, hE, gone_at]; (repeat refine AI ?_); refine hK' _ _ ?_; clear hK' K')
      simp only [sE, ↓reduceIte, simprocAttr]
      repeat refine AI ?_
      refine hK _ _ _ ?_
      clear hK K
      refine hw_ret ?_
      simp (maxSteps := 4000000) only [hpost, Try.results3, hresL, hres1, tupOf, ↓sP, sA, tyS, simprocAttr]
      exact hret_pure [] (.bool true) rfl rfl

end Go.Proofs.Ytnmdlbjkclddeaa
