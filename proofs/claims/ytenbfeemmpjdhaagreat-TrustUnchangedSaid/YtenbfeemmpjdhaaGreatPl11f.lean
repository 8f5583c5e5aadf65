/- Plain Lean: lists that are good element by element, and in order from neighbour to neighbour. By an AI agent. -/
import Derived.Test.YtenbfeemmpjdhaaGreatHlZb
import Derived.Test.YtenbfeemmpjdhaaGreatHxSb
set_option linter.unusedSimpArgs false
set_option linter.unusedVariables false
set_option linter.defProp false
namespace Go.Proofs.YtenbfeemmpjdhaaGreat
open Go Go.Hl Go.Pl
set_option maxRecDepth 10000
set_option maxHeartbeats 2000000
set_option linter.unusedSimpArgs false
set_option linter.unusedVariables false

theorem within_ok (lo n : Int) : HPure Tryz.prog 54 [.int .i64 lo, .int .i64 n] (fun v => v = .bool (decide (lo ≤ n) && decide (n ≤ maxN))) := by
  refine hfn_walk Tryz.func54 rfl (by kernel_rfl) (locOk_nil _) (Nat.le_of_ble_eq_true rfl) ?_
  refine hw_seq fun K hK => hw_region (by kernel_rfl) ?_
  simp (maxSteps := 4000000) only [↓sP, sA, tyS, simprocAttr]
  repeat refine AI ?_
  refine hK _ _ _ ?_
  clear hK K
  refine hw_seq fun K hK => hw_region (by kernel_rfl) ?_
  simp only [sR, simprocAttr]
  iterate 4
    (refine hlex_step (g := none) rfl rfl fun K' hK' => ?_; simp only [sH, ↓sP, sA, tyS, simprocAttr]; (repeat refine AI ?_); refine hK' _ _ ?_; clear hK' K')
  refine hlex_cases 7 rfl (fun h1_7 => ?_) (fun h1_7 => ?_)
  · iterate 2
      (refine hlex_step (g := some (8, true)) rfl rfl fun K' hK' => ?_; simp only [sH, ↓sP, sA, tyS, simprocAttr, h1_7]; (repeat refine AI ?_); refine hK' _ _ ?_; clear hK' K')
    iterate 2
      (refine hlex_step (g := none) rfl rfl fun K' hK' => ?_; simp only [sH, ↓sP, sA, tyS, simprocAttr, h1_7]; (repeat refine AI ?_); refine hK' _ _ ?_; clear hK' K')
    simp only [sE, ↓reduceIte, simprocAttr]
    repeat refine AI ?_
    refine hK _ _ _ ?_
    clear hK K
    refine hw_ret ?_
    simp (maxSteps := 4000000) only [hpost, Tryz.results54, hresL, hres1, tupOf, ↓sP, sA, tyS, simprocAttr]
    refine hret_pure [] (.bool _) rfl ?_
    simp [h1_7, maxN]
    all_goals first | rfl | simp_all
  · iterate 2
      (refine hlex_step (g := some (8, true)) rfl rfl fun K' hK' => ?_; simp only [sH, ↓sP, sA, tyS, simprocAttr, h1_7]; (repeat refine AI ?_); refine hK' _ _ ?_; clear hK' K')
    iterate 2
      (refine hlex_step (g := none) rfl rfl fun K' hK' => ?_; simp only [sH, ↓sP, sA, tyS, simprocAttr, h1_7]; (repeat refine AI ?_); refine hK' _ _ ?_; clear hK' K')
    simp only [sE, ↓reduceIte, simprocAttr]
    repeat refine AI ?_
    refine hK _ _ _ ?_
    clear hK K
    refine hw_ret ?_
    simp (maxSteps := 4000000) only [hpost, Tryz.results54, hresL, hres1, tupOf, ↓sP, sA, tyS, simprocAttr]
    refine hret_pure [] (.bool _) rfl ?_
    simp [h1_7, maxN]
    all_goals first | rfl | simp_all


theorem instant_ok (n : Int) : HPure Tryz.prog 49 [.int .i64 n] (fun v => v = .bool (inN n)) := by
  refine hfn_walk Tryz.func49 rfl (by kernel_rfl) (locOk_nil _) (Nat.le_of_ble_eq_true rfl) ?_
  refine hw_seq fun K hK => hw_region (by kernel_rfl) ?_
  simp (maxSteps := 4000000) only [↓sP, sA, tyS, simprocAttr]
  repeat refine AI ?_
  refine hK _ _ _ ?_
  clear hK K
  refine hw_seq fun K hK => hw_region (by kernel_rfl) ?_
  simp only [sR, simprocAttr]
  iterate 3
    (refine hlex_step (g := none) rfl rfl fun K' hK' => ?_; simp only [sH, ↓sP, sA, tyS, simprocAttr]; (repeat refine AI ?_); refine hK' _ _ ?_; clear hK' K')
  refine hlex_cases 4 rfl (fun h1_4 => ?_) (fun h1_4 => ?_)
  · iterate 2
      (refine hlex_step (g := some (5, true)) rfl rfl fun K' hK' => ?_; simp only [sH, ↓sP, sA, tyS, simprocAttr, h1_4]; (repeat refine AI ?_); refine hK' _ _ ?_; clear hK' K')
    iterate 2
      (refine hlex_step (g := none) rfl rfl fun K' hK' => ?_; simp only [sH, ↓sP, sA, tyS, simprocAttr, h1_4]; (repeat refine AI ?_); refine hK' _ _ ?_; clear hK' K')
    simp only [sE, ↓reduceIte, simprocAttr]
    repeat refine AI ?_
    refine hK _ _ _ ?_
    clear hK K
    refine hw_ret ?_
    simp (maxSteps := 4000000) only [hpost, Tryz.results49, hresL, hres1, tupOf, ↓sP, sA, tyS, simprocAttr]
    refine hret_pure [] (.bool _) rfl ?_
    simp [h1_4, inN, maxN]
    all_goals first | rfl | simp_all
  · iterate 2
      (refine hlex_step (g := some (5, true)) rfl rfl fun K' hK' => ?_; simp only [sH, ↓sP, sA, tyS, simprocAttr, h1_4]; (repeat refine AI ?_); refine hK' _ _ ?_; clear hK' K')
    iterate 2
      (refine hlex_step (g := none) rfl rfl fun K' hK' => ?_; simp only [sH, ↓sP, sA, tyS, simprocAttr, h1_4]; (repeat refine AI ?_); refine hK' _ _ ?_; clear hK' K')
    simp only [sE, ↓reduceIte, simprocAttr]
    repeat refine AI ?_
    refine hK _ _ _ ?_
    clear hK K
    refine hw_ret ?_
    simp (maxSteps := 4000000) only [hpost, Tryz.results49, hresL, hres1, tupOf, ↓sP, sA, tyS, simprocAttr]
    refine hret_pure [] (.bool _) rfl ?_
    simp [h1_4, inN, maxN]
    all_goals first | rfl | simp_all


theorem height_ok (n : Int) : HPure Tryz.prog 104 [.int .i64 n] (fun v => v = .bool (decide (0 ≤ n) && decide (n ≤ 6))) := by
  refine hfn_walk Tryz.func104 rfl (by kernel_rfl) (locOk_nil _) (Nat.le_of_ble_eq_true rfl) ?_
  refine hw_seq fun K hK => hw_region (by kernel_rfl) ?_
  simp (maxSteps := 4000000) only [↓sP, sA, tyS, simprocAttr]
  repeat refine AI ?_
  refine hK _ _ _ ?_
  clear hK K
  refine hw_seq fun K hK => hw_region (by kernel_rfl) ?_
  simp only [sR, simprocAttr]
  iterate 3
    (refine hlex_step (g := none) rfl rfl fun K' hK' => ?_; simp only [sH, ↓sP, sA, tyS, simprocAttr]; (repeat refine AI ?_); refine hK' _ _ ?_; clear hK' K')
  refine hlex_cases 4 rfl (fun h1_4 => ?_) (fun h1_4 => ?_)
  · iterate 2
      (refine hlex_step (g := some (5, true)) rfl rfl fun K' hK' => ?_; simp only [sH, ↓sP, sA, tyS, simprocAttr, h1_4]; (repeat refine AI ?_); refine hK' _ _ ?_; clear hK' K')
    iterate 2
      (refine hlex_step (g := none) rfl rfl fun K' hK' => ?_; simp only [sH, ↓sP, sA, tyS, simprocAttr, h1_4]; (repeat refine AI ?_); refine hK' _ _ ?_; clear hK' K')
    simp only [sE, ↓reduceIte, simprocAttr]
    repeat refine AI ?_
    refine hK _ _ _ ?_
    clear hK K
    refine hw_ret ?_
    simp (maxSteps := 4000000) only [hpost, Tryz.results104, hresL, hres1, tupOf, ↓sP, sA, tyS, simprocAttr]
    refine hret_pure [] (.bool _) rfl ?_
    simp [h1_4]
    all_goals first | rfl | simp_all
  · iterate 2
      (refine hlex_step (g := some (5, true)) rfl rfl fun K' hK' => ?_; simp only [sH, ↓sP, sA, tyS, simprocAttr, h1_4]; (repeat refine AI ?_); refine hK' _ _ ?_; clear hK' K')
    iterate 2
      (refine hlex_step (g := none) rfl rfl fun K' hK' => ?_; simp only [sH, ↓sP, sA, tyS, simprocAttr, h1_4]; (repeat refine AI ?_); refine hK' _ _ ?_; clear hK' K')
    simp only [sE, ↓reduceIte, simprocAttr]
    repeat refine AI ?_
    refine hK _ _ _ ?_
    clear hK K
    refine hw_ret ?_
    simp (maxSteps := 4000000) only [hpost, Tryz.results104, hresL, hres1, tupOf, ↓sP, sA, tyS, simprocAttr]
    refine hret_pure [] (.bool _) rfl ?_
    simp [h1_4]
    all_goals first | rfl | simp_all


theorem pvalid_ok (p : Pk) : HPure Tryz.prog 76 [p.cv] (fun v => v = .bool (decide (0 ≤ p.h) && decide (p.h ≤ 6))) := by
  refine hfn_walk Tryz.func76 rfl (by kernel_rfl) (locOk_nil _) (Nat.le_of_ble_eq_true rfl) ?_
  refine hw_seq fun K hK => hw_region (by kernel_rfl) ?_
  simp (maxSteps := 4000000) only [↓sP, sA, tyS, simprocAttr]
  repeat refine AI ?_
  refine hK _ _ _ ?_
  clear hK K
  refine hw_seq fun K hK => hw_region (by kernel_rfl) ?_
  simp only [sR, simprocAttr]
  iterate 2
    (refine hlex_step (g := none) rfl rfl fun K' hK' => ?_; simp only [sH, ↓sP, sA, tyS, simprocAttr]; (repeat refine AI ?_); refine hK' _ _ ?_; clear hK' K')
  refine hlex_step (g := none) rfl rfl fun K' hK' => ?_
  simp (maxSteps := 4000000) only [sH, ↓sP, sA, tyS, simprocAttr]
  refine call_pure (args := [_]) (height_ok p.h) ⟨rfl, rfl, rfl, rfl⟩ ?_
  rintro u rfl
  repeat refine AI ?_
  refine hK' _ _ ?_
  clear hK' K'
  refine hlex_step (g := none) rfl rfl fun K' hK' => ?_
  simp (maxSteps := 4000000) only [sH, ↓sP, sA, tyS, simprocAttr]
  repeat refine AI ?_
  refine hK' _ _ ?_
  clear hK' K'
  simp only [sE, ↓reduceIte, simprocAttr]
  repeat refine AI ?_
  refine hK _ _ _ ?_
  clear hK K
  refine hw_ret ?_
  simp (maxSteps := 4000000) only [hpost, Tryz.results76, hresL, hres1, tupOf, ↓sP, sA, tyS, simprocAttr]
  exact hret_pure [] (.bool _) rfl rfl


theorem pvalid9_ok (p : Pk) : HPure Tryz.prog 17 [p.cv] (fun v => v = .bool (decide (0 ≤ p.h) && decide (p.h ≤ 6))) := by
  refine hfn_walk Tryz.func17 rfl (by kernel_rfl) (locOk_nil _) (Nat.le_of_ble_eq_true rfl) ?_
  refine hw_seq fun K hK => hw_region (by kernel_rfl) ?_
  simp (maxSteps := 4000000) only [↓sP, sA, tyS, simprocAttr]
  repeat refine AI ?_
  refine hK _ _ _ ?_
  clear hK K
  refine hw_seq fun K hK => hw_region (by kernel_rfl) ?_
  simp only [sR, simprocAttr]
  iterate 4
    (refine hlex_step (g := none) rfl rfl fun K' hK' => ?_; simp only [sH, ↓sP, sA, tyS, simprocAttr]; (repeat refine AI ?_); refine hK' _ _ ?_; clear hK' K')
  refine hlex_cases 5 rfl (fun h1_5 => ?_) (fun h1_5 => ?_)
  · iterate 3
      (refine hlex_step (g := some (6, true)) rfl rfl fun K' hK' => ?_; simp only [sH, ↓sP, sA, tyS, simprocAttr, h1_5]; (repeat refine AI ?_); refine hK' _ _ ?_; clear hK' K')
    iterate 2
      (refine hlex_step (g := none) rfl rfl fun K' hK' => ?_; simp only [sH, ↓sP, sA, tyS, simprocAttr, h1_5]; (repeat refine AI ?_); refine hK' _ _ ?_; clear hK' K')
    simp only [sE, ↓reduceIte, simprocAttr]
    repeat refine AI ?_
    refine hK _ _ _ ?_
    clear hK K
    refine hw_ret ?_
    simp (maxSteps := 4000000) only [hpost, Tryz.results17, hresL, hres1, tupOf, ↓sP, sA, tyS, simprocAttr]
    refine hret_pure [] (.bool _) rfl ?_
    simp [h1_5]
    all_goals first | rfl | simp_all
  · iterate 3
      (refine hlex_step (g := some (6, true)) rfl rfl fun K' hK' => ?_; simp only [sH, ↓sP, sA, tyS, simprocAttr, h1_5]; (repeat refine AI ?_); refine hK' _ _ ?_; clear hK' K')
    iterate 2
      (refine hlex_step (g := none) rfl rfl fun K' hK' => ?_; simp only [sH, ↓sP, sA, tyS, simprocAttr, h1_5]; (repeat refine AI ?_); refine hK' _ _ ?_; clear hK' K')
    simp only [sE, ↓reduceIte, simprocAttr]
    repeat refine AI ?_
    refine hK _ _ _ ?_
    clear hK K
    refine hw_ret ?_
    simp (maxSteps := 4000000) only [hpost, Tryz.results17, hresL, hres1, tupOf, ↓sP, sA, tyS, simprocAttr]
    refine hret_pure [] (.bool _) rfl ?_
    simp [h1_5]
    all_goals first | rfl | simp_all


theorem need_ok (r : Rt) (w : Word) (hl : r.q.length < 2 ^ 40) : HPure Tryz.prog 40 [r.cv, .str w] (fun v => v = .int .i64 (need r.q w)) := by
  refine hfn_walk Tryz.func40 rfl (by kernel_rfl) (locOk_nil _) (Nat.le_of_ble_eq_true rfl) ?_
  refine hw_seq fun K hK => hw_region (by kernel_rfl) ?_
  simp (maxSteps := 4000000) only [↓sP, sA, tyS, simprocAttr]
  repeat refine AI ?_
  refine hK _ _ _ ?_
  clear hK K
  refine hw_seq fun K hK => ?_
  refine hw_seq fun K hK => hw_region (by kernel_rfl) ?_
  simp only [sR, simprocAttr]
  iterate 4
    (refine hlex_step (g := none) rfl rfl fun K' hK' => ?_; simp only [sH, ↓sP, sA, tyS, simprocAttr]; (repeat refine AI ?_); refine hK' _ _ ?_; clear hK' K')
  simp only [sE, ↓reduceIte, simprocAttr]
  repeat refine AI ?_
  refine hK _ _ _ ?_
  clear hK K
  refine hw_block ?_
  refine hw_loop (α := {i : Nat // i ≤ r.q.length ∧ ∀ x ∈ r.q.take i, (x.r == w) = false}) (fun i => (fin [(1, .c (.str w)), (8, .c (.slc (r.q.map Qt.cv))), (9, .c (.int .i64 r.q.length)), (10, .c (.int .i64 i.1))], fob [])) 100 (fun i => r.q.length - i.1) ⟨0, by omega, by simp⟩ (fits_fin (by omega) (by simp [FinOk, fin_at, finA_at, upd_at, HV.men, HV.menL, HV.norm, HV.toC, HV.toCL]) (by simp [FobOk, fob_at, upd_at, none0_at, gone, HO.men, HV.men, HV.menL, HV.norm, HV.toC, HV.toCL])) ?_
  rintro ⟨i, hi, h0⟩
  refine hw_seq fun K hK => hw_region (by kernel_rfl) ?_
  simp (maxSteps := 4000000) only [↓sP, sA, tyS, simprocAttr]
  repeat refine AI ?_
  refine hK _ _ _ ?_
  clear hK K
  refine hw_seq fun K hK => ?_
  refine hw_cond (b := decide ((i : Int) < r.q.length)) rfl (fun hb => ?_) (fun hb => ?_)
  · have hlt : i < r.q.length := by simpa using hb
    refine hw_skip ?_
    simp (maxSteps := 4000000) only [↓sP, sA, tyS, simprocAttr]
    repeat refine AI ?_
    refine hK _ _ _ ?_
    clear hK K
    refine hw_seq fun K hK => ?_
    refine hw_block ?_
    refine hw_seq fun K hK => hw_region (by kernel_rfl) ?_
    simp only [sR, simprocAttr]
    iterate 4
      (refine hlex_step (g := none) rfl rfl fun K' hK' => ?_; simp only [sH, ↓sP, sA, tyS, simprocAttr, Int.natCast_nonneg, Int.ofNat_lt, hlt, nth_map hlt]; (repeat refine AI ?_); refine hK' _ _ ?_; clear hK' K')
    simp only [sE, ↓reduceIte, simprocAttr]
    repeat refine AI ?_
    refine hK _ _ _ ?_
    clear hK K
    refine hw_seq fun K hK => hw_region (by kernel_rfl) ?_
    simp only [sR, simprocAttr]
    iterate 4
      (refine hlex_step (g := none) rfl rfl fun K' hK' => ?_; simp only [sH, ↓sP, sA, tyS, simprocAttr]; (repeat refine AI ?_); refine hK' _ _ ?_; clear hK' K')
    simp only [sE, ↓reduceIte, simprocAttr]
    repeat refine AI ?_
    refine hK _ _ _ ?_
    clear hK K
    refine hw_cond (b := r.q[i].r == w) rfl (fun hb => ?_) (fun hb => ?_)
    · refine hw_seq fun K hK => hw_region (by kernel_rfl) ?_
      simp (maxSteps := 4000000) only [↓sP, sA, tyS, simprocAttr]
      repeat refine AI ?_
      refine hK _ _ _ ?_
      clear hK K
      refine hw_ret ?_
      simp (maxSteps := 4000000) only [hpost, Tryz.results40, hresL, hres1, tupOf, ↓sP, sA, tyS, simprocAttr]
      exact hret_pure [] (.int .i64 r.q[i].n) rfl (by rw [need_hit hlt hb h0])
    · refine hw_skip ?_
      simp (maxSteps := 4000000) only [↓sP, sA, tyS, simprocAttr]
      repeat refine AI ?_
      refine hK _ _ _ ?_
      clear hK K
      refine hw_region (by kernel_rfl) ?_
      simp (maxSteps := 4000000) only [↓sP, sA, tyS, simprocAttr, IntWalk.i64_in _ (show -9223372036854775808 ≤ (i : Int) + 1 ∧ (i : Int) + 1 ≤ 9223372036854775807 by omega)]
      refine ⟨⟨i + 1, hlt, take_miss (p := fun x => x.r == w) hlt hb h0⟩, fits_fin (by omega) (by simp [FinOk, fin_at, finA_at, upd_at, HV.men, HV.menL, HV.norm, HV.toC, HV.toCL]) (by simp [FobOk, fob_at, upd_at, none0_at, gone, HO.men, HV.men, HV.menL, HV.norm, HV.toC, HV.toCL]), ?_⟩
      show r.q.length - (i + 1) < r.q.length - i
      omega
  · refine hw_exit ?_
    simp (maxSteps := 4000000) only [↓sP, sA, tyS, simprocAttr]
    clear hK K
    repeat refine AI ?_
    refine hK _ _ _ ?_
    clear hK K
    refine hw_seq fun K hK => hw_region (by kernel_rfl) ?_
    simp (maxSteps := 4000000) only [↓sP, sA, tyS, simprocAttr]
    repeat refine AI ?_
    refine hK _ _ _ ?_
    clear hK K
    refine hw_ret ?_
    simp (maxSteps := 4000000) only [hpost, Tryz.results40, hresL, hres1, tupOf, ↓sP, sA, tyS, simprocAttr]
    have hei : i = r.q.length := by simp at hb; omega
    subst hei
    exact hret_pure [] (.int .i64 0) rfl (by rw [need_miss (by simpa using h0)])


theorem quota_ok (r : Rt) (w : Word) (hl : r.q.length < 2 ^ 40) : HPure Tryz.prog 52 [r.cv, .str w] (fun v => v = .int .i64 (need r.q w)) := by
  refine hfn_walk Tryz.func52 rfl (by kernel_rfl) (locOk_nil _) (Nat.le_of_ble_eq_true rfl) ?_
  refine hw_seq fun K hK => hw_region (by kernel_rfl) ?_
  simp (maxSteps := 4000000) only [↓sP, sA, tyS, simprocAttr]
  repeat refine AI ?_
  refine hK _ _ _ ?_
  clear hK K
  refine hw_seq fun K hK => ?_
  refine hw_seq fun K hK => hw_region (by kernel_rfl) ?_
  simp (maxSteps := 4000000) only [↓sP, sA, tyS, simprocAttr]
  repeat refine AI ?_
  refine hK _ _ _ ?_
  clear hK K
  refine hw_block ?_
  refine hw_loop (α := {i : Nat // i ≤ r.q.length ∧ ∀ x ∈ r.q.take i, (x.r == w) = false}) (fun i => (fin [(1, .c (.str w)), (2, .ptr 0 0), (5, .c (.int .i64 i.1))], fob [(0, .box 30 (.c r.cv))])) 100 (fun i => r.q.length - i.1) ⟨0, by omega, by simp⟩ (fits_fin (by omega) (by simp [FinOk, fin_at, finA_at, upd_at, HV.men, HV.menL, HV.norm, HV.toC, HV.toCL]) (by simp [FobOk, fob_at, upd_at, none0_at, gone, HO.men, HV.men, HV.menL, HV.norm, HV.toC, HV.toCL])) ?_
  rintro ⟨i, hi, h0⟩
  refine hw_seq fun K hK => ?_
  refine hw_seq fun K hK => hw_region (by kernel_rfl) ?_
  simp only [sR, simprocAttr]
  iterate 5
    (refine hlex_step (g := none) rfl rfl fun K' hK' => ?_; simp only [sH, ↓sP, sA, tyS, simprocAttr]; (repeat refine AI ?_); refine hK' _ _ ?_; clear hK' K')
  simp only [sE, ↓reduceIte, simprocAttr]
  repeat refine AI ?_
  refine hK _ _ _ ?_
  clear hK K
  refine hw_cond (b := decide ((i : Int) < r.q.length)) rfl (fun hb => ?_) (fun hb => ?_)
  · have hlt : i < r.q.length := by simpa using hb
    refine hw_skip ?_
    simp (maxSteps := 4000000) only [↓sP, sA, tyS, simprocAttr]
    repeat refine AI ?_
    refine hK _ _ _ ?_
    clear hK K
    refine hw_seq fun K hK => ?_
    refine hw_block ?_
    refine hw_seq fun K hK => hw_region (by kernel_rfl) ?_
    simp only [sR, simprocAttr]
    iterate 8
      (refine hlex_step (g := none) rfl rfl fun K' hK' => ?_; simp only [sH, ↓sP, sA, tyS, simprocAttr, Int.natCast_nonneg, Int.ofNat_lt, hlt, nth_map hlt]; (repeat refine AI ?_); refine hK' _ _ ?_; clear hK' K')
    simp only [sE, ↓reduceIte, simprocAttr]
    repeat refine AI ?_
    refine hK _ _ _ ?_
    clear hK K
    refine hw_cond (b := r.q[i].r == w) rfl (fun hb => ?_) (fun hb => ?_)
    · refine hw_seq fun K hK => hw_region (by kernel_rfl) ?_
      simp only [sR, simprocAttr]
      iterate 7
        (refine hlex_step (g := none) rfl rfl fun K' hK' => ?_; simp only [sH, ↓sP, sA, tyS, simprocAttr, Int.natCast_nonneg, Int.ofNat_lt, hlt, nth_map hlt]; (repeat refine AI ?_); refine hK' _ _ ?_; clear hK' K')
      simp only [sE, ↓reduceIte, simprocAttr]
      repeat refine AI ?_
      refine hK _ _ _ ?_
      clear hK K
      refine hw_ret ?_
      simp (maxSteps := 4000000) only [hpost, Tryz.results52, hresL, hres1, tupOf, ↓sP, sA, tyS, simprocAttr]
      exact hret_pure [] (.int .i64 r.q[i].n) rfl (by rw [need_hit hlt hb h0])
    · refine hw_skip ?_
      simp (maxSteps := 4000000) only [↓sP, sA, tyS, simprocAttr]
      repeat refine AI ?_
      refine hK _ _ _ ?_
      clear hK K
      refine hw_region (by kernel_rfl) ?_
      simp (maxSteps := 4000000) only [↓sP, sA, tyS, simprocAttr, IntWalk.i64_in _ (show -9223372036854775808 ≤ (i : Int) + 1 ∧ (i : Int) + 1 ≤ 9223372036854775807 by omega)]
      refine ⟨⟨i + 1, hlt, take_miss (p := fun x => x.r == w) hlt hb h0⟩, fits_fin (by omega) (by simp [FinOk, fin_at, finA_at, upd_at, HV.men, HV.menL, HV.norm, HV.toC, HV.toCL]) (by simp [FobOk, fob_at, upd_at, none0_at, gone, HO.men, HV.men, HV.menL, HV.norm, HV.toC, HV.toCL]), ?_⟩
      show r.q.length - (i + 1) < r.q.length - i
      omega
  · refine hw_exit ?_
    simp (maxSteps := 4000000) only [↓sP, sA, tyS, simprocAttr]
    clear hK K
    repeat refine AI ?_
    refine hK _ _ _ ?_
    clear hK K
    refine hw_seq fun K hK => hw_region (by kernel_rfl) ?_
    simp (maxSteps := 4000000) only [↓sP, sA, tyS, simprocAttr]
    repeat refine AI ?_
    refine hK _ _ _ ?_
    clear hK K
    refine hw_ret ?_
    simp (maxSteps := 4000000) only [hpost, Tryz.results52, hresL, hres1, tupOf, ↓sP, sA, tyS, simprocAttr]
    have hei : i = r.q.length := by simp at hb; omega
    subst hei
    exact hret_pure [] (.int .i64 0) rfl (by rw [need_miss (by simpa using h0)])


theorem revoked_ok (r : Rt) (d : Dig) (hl : r.x.length < 2 ^ 40) : HPure2 Tryz.prog 66 [r.cv, dg d] (fun u v => u = .int .i64 (revZ r.x d) ∧ v = .bool (revS r.x d)) := by
  refine hfn_walk Tryz.func66 rfl (by kernel_rfl) (locOk_nil _) (Nat.le_of_ble_eq_true rfl) ?_
  refine hw_seq fun K hK => hw_region (by kernel_rfl) ?_
  simp only [sR, simprocAttr]
  iterate 4
    (refine hlex_step (g := none) rfl rfl fun K' hK' => ?_; simp only [sH, ↓sP, sA, tyS, simprocAttr]; (repeat refine AI ?_); refine hK' _ _ ?_; clear hK' K')
  simp only [sE, ↓reduceIte, simprocAttr]
  repeat refine AI ?_
  refine hK _ _ _ ?_
  clear hK K
  refine hw_seq fun K hK => ?_
  refine hw_seq fun K hK => hw_region (by kernel_rfl) ?_
  simp only [sR, simprocAttr]
  iterate 4
    (refine hlex_step (g := none) rfl rfl fun K' hK' => ?_; simp only [sH, ↓sP, sA, tyS, simprocAttr]; (repeat refine AI ?_); refine hK' _ _ ?_; clear hK' K')
  simp only [sE, ↓reduceIte, simprocAttr]
  repeat refine AI ?_
  refine hK _ _ _ ?_
  clear hK K
  refine hw_block ?_
  refine hw_loop (α := {i : Nat // i ≤ r.x.length ∧ ∀ x ∈ r.x.take i, (x.k == d) = false}) (fun i => (fin [(3, .ptr 4 0), (9, .c (.slc (r.x.map Rv.cv))), (10, .c (.int .i64 r.x.length)), (11, .c (.int .i64 i.1))], fob [(4, .box 44 (.c (dg d)))])) 100 (fun i => r.x.length - i.1) ⟨0, by omega, by simp⟩ (fits_fin (by omega) (by simp [FinOk, fin_at, finA_at, upd_at, HV.men, HV.menL, HV.norm, HV.toC, HV.toCL]) (by simp [FobOk, fob_at, upd_at, none0_at, gone, HO.men, HV.men, HV.menL, HV.norm, HV.toC, HV.toCL])) ?_
  rintro ⟨i, hi, h0⟩
  refine hw_seq fun K hK => hw_region (by kernel_rfl) ?_
  simp (maxSteps := 4000000) only [↓sP, sA, tyS, simprocAttr]
  repeat refine AI ?_
  refine hK _ _ _ ?_
  clear hK K
  refine hw_seq fun K hK => ?_
  refine hw_cond (b := decide ((i : Int) < r.x.length)) rfl (fun hb => ?_) (fun hb => ?_)
  · have hlt : i < r.x.length := by simpa using hb
    refine hw_skip ?_
    simp (maxSteps := 4000000) only [↓sP, sA, tyS, simprocAttr]
    repeat refine AI ?_
    refine hK _ _ _ ?_
    clear hK K
    refine hw_seq fun K hK => ?_
    refine hw_block ?_
    refine hw_seq fun K hK => hw_region (by kernel_rfl) ?_
    simp only [sR, simprocAttr]
    iterate 4
      (refine hlex_step (g := none) rfl rfl fun K' hK' => ?_; simp only [sH, ↓sP, sA, tyS, simprocAttr, Int.natCast_nonneg, Int.ofNat_lt, hlt, nth_map hlt]; (repeat refine AI ?_); refine hK' _ _ ?_; clear hK' K')
    simp only [sE, ↓reduceIte, simprocAttr]
    repeat refine AI ?_
    refine hK _ _ _ ?_
    clear hK K
    refine hw_seq fun K hK => hw_region (by kernel_rfl) ?_
    simp only [sR, simprocAttr]
    iterate 4
      (refine hlex_step (g := none) rfl rfl fun K' hK' => ?_; simp only [sH, ↓sP, sA, tyS, simprocAttr]; (repeat refine AI ?_); refine hK' _ _ ?_; clear hK' K')
    simp only [sE, ↓reduceIte, simprocAttr]
    repeat refine AI ?_
    refine hK _ _ _ ?_
    clear hK K
    refine hw_cond (b := r.x[i].k == d) rfl (fun hb => ?_) (fun hb => ?_)
    · refine hw_seq fun K hK => hw_region (by kernel_rfl) ?_
      simp only [sR, simprocAttr]
      iterate 4
        (refine hlex_step (g := none) rfl rfl fun K' hK' => ?_; simp only [sH, ↓sP, sA, tyS, simprocAttr]; (repeat refine AI ?_); refine hK' _ _ ?_; clear hK' K')
      simp only [sE, ↓reduceIte, simprocAttr]
      repeat refine AI ?_
      refine hK _ _ _ ?_
      clear hK K
      refine hw_ret ?_
      simp (maxSteps := 4000000) only [hpost, Tryz.results66, hresL, hres1, tupOf, ↓sP, sA, tyS, simprocAttr]
      exact hret_pure2 [] (.int .i64 r.x[i].t) (.bool true) rfl ⟨by unfold revZ; rw [rev_hit hlt hb h0]; rfl, by unfold revS; rw [rev_hit hlt hb h0]; rfl⟩
    · refine hw_skip ?_
      simp (maxSteps := 4000000) only [↓sP, sA, tyS, simprocAttr]
      repeat refine AI ?_
      refine hK _ _ _ ?_
      clear hK K
      refine hw_region (by kernel_rfl) ?_
      simp (maxSteps := 4000000) only [↓sP, sA, tyS, simprocAttr, IntWalk.i64_in _ (show -9223372036854775808 ≤ (i : Int) + 1 ∧ (i : Int) + 1 ≤ 9223372036854775807 by omega)]
      refine ⟨⟨i + 1, hlt, take_miss (p := fun x => x.k == d) hlt hb h0⟩, fits_fin (by omega) (by simp [FinOk, fin_at, finA_at, upd_at, HV.men, HV.menL, HV.norm, HV.toC, HV.toCL]) (by simp [FobOk, fob_at, upd_at, none0_at, gone, HO.men, HV.men, HV.menL, HV.norm, HV.toC, HV.toCL]), ?_⟩
      show r.x.length - (i + 1) < r.x.length - i
      omega
  · refine hw_exit ?_
    simp (maxSteps := 4000000) only [↓sP, sA, tyS, simprocAttr]
    clear hK K
    repeat refine AI ?_
    refine hK _ _ _ ?_
    clear hK K
    refine hw_seq fun K hK => hw_region (by kernel_rfl) ?_
    simp (maxSteps := 4000000) only [↓sP, sA, tyS, simprocAttr]
    repeat refine AI ?_
    refine hK _ _ _ ?_
    clear hK K
    refine hw_ret ?_
    simp (maxSteps := 4000000) only [hpost, Tryz.results66, hresL, hres1, tupOf, ↓sP, sA, tyS, simprocAttr]
    have hei : i = r.x.length := by simp at hb; omega
    subst hei
    have hm := rev_miss (l := r.x) (d := d) (by simpa using h0)
    exact hret_pure2 [] (.int .i64 0) (.bool false) rfl ⟨by unfold revZ; rw [hm]; rfl, by unfold revS; rw [hm]; rfl⟩


theorem hasd_ok (l : List Dig) (d : Dig) (hl : l.length < 2 ^ 40) : HPure Tryz.prog 11 [.slc (l.map dg), dg d] (fun v => v = .bool (l.contains d)) := by
  refine hfn_walk Tryz.func11 rfl (by kernel_rfl) (locOk_nil _) (Nat.le_of_ble_eq_true rfl) ?_
  refine hw_seq fun K hK => hw_region (by kernel_rfl) ?_
  simp (maxSteps := 4000000) only [↓sP, sA, tyS, simprocAttr]
  repeat refine AI ?_
  refine hK _ _ _ ?_
  clear hK K
  refine hw_seq fun K hK => ?_
  refine hw_seq fun K hK => hw_region (by kernel_rfl) ?_
  simp (maxSteps := 4000000) only [↓sP, sA, tyS, simprocAttr]
  repeat refine AI ?_
  refine hK _ _ _ ?_
  clear hK K
  refine hw_block ?_
  refine hw_loop (α := {i : Nat // i ≤ l.length ∧ ∀ x ∈ l.take i, (x == d) = false}) (fun i => (fin [(0, .c (.slc (l.map dg))), (3, .ptr 0 0), (5, .c (.int .i64 i.1))], fob [(0, .box 44 (.c (dg d)))])) 100 (fun i => l.length - i.1) ⟨0, by omega, by simp⟩ (fits_fin (by omega) (by simp [FinOk, fin_at, finA_at, upd_at, HV.men, HV.menL, HV.norm, HV.toC, HV.toCL]) (by simp [FobOk, fob_at, upd_at, none0_at, gone, HO.men, HV.men, HV.menL, HV.norm, HV.toC, HV.toCL])) ?_
  rintro ⟨i, hi, h0⟩
  refine hw_seq fun K hK => ?_
  refine hw_seq fun K hK => hw_region (by kernel_rfl) ?_
  simp only [sR, simprocAttr]
  iterate 4
    (refine hlex_step (g := none) rfl rfl fun K' hK' => ?_; simp only [sH, ↓sP, sA, tyS, simprocAttr]; (repeat refine AI ?_); refine hK' _ _ ?_; clear hK' K')
  simp only [sE, ↓reduceIte, simprocAttr]
  repeat refine AI ?_
  refine hK _ _ _ ?_
  clear hK K
  refine hw_cond (b := decide ((i : Int) < l.length)) rfl (fun hb => ?_) (fun hb => ?_)
  · have hlt : i < l.length := by simpa using hb
    refine hw_skip ?_
    simp (maxSteps := 4000000) only [↓sP, sA, tyS, simprocAttr]
    repeat refine AI ?_
    refine hK _ _ _ ?_
    clear hK K
    refine hw_seq fun K hK => ?_
    refine hw_block ?_
    refine hw_seq fun K hK => hw_quiet mixed (by kernel_rfl) (by kernel_rfl) (by kernel_rfl) ?_
    simp only [sR, simprocAttr]
    iterate 6
      (refine hlex_step (g := none) rfl rfl fun K' hK' => ?_; simp only [sH, ↓sP, sA, tyS, simprocAttr, Int.natCast_nonneg, Int.ofNat_lt, hlt, nth_map hlt]; (repeat refine AI ?_); refine hK' _ _ ?_; clear hK' K')
    simp only [sE, ↓reduceIte, simprocAttr]
    repeat refine AI ?_
    refine hK _ _ _ ?_
    clear hK K
    refine hw_cond (b := l[i] == d) rfl (fun hb => ?_) (fun hb => ?_)
    · refine hw_seq fun K hK => hw_region (by kernel_rfl) ?_
      simp (maxSteps := 4000000) only [↓sP, sA, tyS, simprocAttr]
      repeat refine AI ?_
      refine hK _ _ _ ?_
      clear hK K
      refine hw_ret ?_
      simp (maxSteps := 4000000) only [hpost, Tryz.results11, hresL, hres1, tupOf, ↓sP, sA, tyS, simprocAttr]
      exact hret_pure [] (.bool true) rfl (by have := List.getElem_mem hlt; have e : l[i] = d := eq_of_beq hb
                                              rw [e] at this; simp [this])
    · refine hw_skip ?_
      simp (maxSteps := 4000000) only [↓sP, sA, tyS, simprocAttr]
      repeat refine AI ?_
      refine hK _ _ _ ?_
      clear hK K
      refine hw_region (by kernel_rfl) ?_
      simp (maxSteps := 4000000) only [↓sP, sA, tyS, simprocAttr, IntWalk.i64_in _ (show -9223372036854775808 ≤ (i : Int) + 1 ∧ (i : Int) + 1 ≤ 9223372036854775807 by omega)]
      refine ⟨⟨i + 1, hlt, take_miss (p := fun x => x == d) hlt hb h0⟩, fits_fin (by omega) (by simp [FinOk, fin_at, finA_at, upd_at, HV.men, HV.menL, HV.norm, HV.toC, HV.toCL]) (by simp [FobOk, fob_at, upd_at, none0_at, gone, HO.men, HV.men, HV.menL, HV.norm, HV.toC, HV.toCL]), ?_⟩
      show l.length - (i + 1) < l.length - i
      omega
  · refine hw_exit ?_
    simp (maxSteps := 4000000) only [↓sP, sA, tyS, simprocAttr]
    clear hK K
    repeat refine AI ?_
    refine hK _ _ _ ?_
    clear hK K
    refine hw_seq fun K hK => hw_region (by kernel_rfl) ?_
    simp (maxSteps := 4000000) only [↓sP, sA, tyS, simprocAttr]
    repeat refine AI ?_
    refine hK _ _ _ ?_
    clear hK K
    refine hw_ret ?_
    simp (maxSteps := 4000000) only [hpost, Tryz.results11, hresL, hres1, tupOf, ↓sP, sA, tyS, simprocAttr]
    have hei : i = l.length := by simp at hb; omega
    subst hei
    exact hret_pure [] (.bool false) rfl (by rw [List.take_length] at h0; have : d ∉ l := fun hm => by have := h0 d hm; simp at this
                                             simp [this])


theorem less_ok (a b : Dig) : HPure Tryz.prog 46 [dg a, dg b] (fun v => v = .bool (dlt a b)) := by
  refine hfn_walk Tryz.func46 rfl (by kernel_rfl) (locOk_nil _) (Nat.le_of_ble_eq_true rfl) ?_
  refine hw_seq fun K hK => hw_region (by kernel_rfl) ?_
  simp (maxSteps := 4000000) only [↓sP, sA, tyS, simprocAttr]
  repeat refine AI ?_
  refine hK _ _ _ ?_
  clear hK K
  refine hw_seq fun K hK => ?_
  refine hw_seq fun K hK => hw_region (by kernel_rfl) ?_
  simp (maxSteps := 4000000) only [↓sP, sA, tyS, simprocAttr]
  repeat refine AI ?_
  refine hK _ _ _ ?_
  clear hK K
  refine hw_block ?_
  refine hw_loop (α := {i : Nat // i ≤ 32 ∧ a.1.take i = b.1.take i}) (fun i => (fin [(2, .ptr 0 0), (3, .ptr 4 0), (5, .c (.int .i64 i.1))], fob [(0, .box 44 (.c (dg a))), (4, .box 44 (.c (dg b)))])) 100 (fun i => 32 - i.1) ⟨0, by omega, by simp⟩ (fits_fin (by omega) (by simp [FinOk, fin_at, finA_at, upd_at, HV.men, HV.menL, HV.norm, HV.toC, HV.toCL]) (by simp [FobOk, fob_at, upd_at, none0_at, gone, HO.men, HV.men, HV.menL, HV.norm, HV.toC, HV.toCL])) ?_
  rintro ⟨i, hi, h0⟩
  refine hw_seq fun K hK => ?_
  refine hw_seq fun K hK => hw_region (by kernel_rfl) ?_
  simp (maxSteps := 4000000) only [↓sP, sA, tyS, simprocAttr]
  repeat refine AI ?_
  refine hK _ _ _ ?_
  clear hK K
  refine hw_cond (b := decide ((i : Int) < 32)) rfl (fun hb => ?_) (fun hb => ?_)
  · have hlt : i < 32 := by simp at hb; omega
    have hlt' : (i : Int) < 32 := by omega
    have ha : i < a.1.length := by rw [a.2]; exact hlt
    have hb' : i < b.1.length := by rw [b.2]; exact hlt
    refine hw_skip ?_
    simp (maxSteps := 4000000) only [↓sP, sA, tyS, simprocAttr]
    repeat refine AI ?_
    refine hK _ _ _ ?_
    clear hK K
    refine hw_seq fun K hK => ?_
    refine hw_block ?_
    refine hw_seq fun K hK => hw_quiet mixed (by kernel_rfl) (by kernel_rfl) (by kernel_rfl) ?_
    simp only [sR, simprocAttr]
    iterate 7
      (refine hlex_step (g := none) rfl rfl fun K' hK' => ?_; simp only [sH, ↓sP, sA, tyS, simprocAttr, Int.natCast_nonneg, hlt', dg_get hlt, Nat.mul_one, u8]; (repeat refine AI ?_); refine hK' _ _ ?_; clear hK' K')
    simp only [sE, ↓reduceIte, simprocAttr]
    repeat refine AI ?_
    refine hK _ _ _ ?_
    clear hK K
    refine hw_cond (b := (((a.1[i]).toNat : Int) != ((b.1[i]).toNat : Int))) rfl (fun hb => ?_) (fun hb => ?_)
    · refine hw_seq fun K hK => hw_quiet mixed (by kernel_rfl) (by kernel_rfl) (by kernel_rfl) ?_
      simp only [sR, simprocAttr]
      iterate 8
        (refine hlex_step (g := none) rfl rfl fun K' hK' => ?_; simp only [sH, ↓sP, sA, tyS, simprocAttr, Int.natCast_nonneg, hlt', dg_get hlt, Nat.mul_one, u8]; (repeat refine AI ?_); refine hK' _ _ ?_; clear hK' K')
      simp only [sE, ↓reduceIte, simprocAttr]
      repeat refine AI ?_
      refine hK _ _ _ ?_
      clear hK K
      refine hw_ret ?_
      simp (maxSteps := 4000000) only [hpost, Tryz.results46, hresL, hres1, tupOf, ↓sP, sA, tyS, simprocAttr]
      rw [u8_ne] at hb
      exact hret_pure [] (.bool _) rfl (by rw [u8_lt, dlt_at hlt h0 (by simpa using hb)])
    · refine hw_skip ?_
      simp (maxSteps := 4000000) only [↓sP, sA, tyS, simprocAttr]
      repeat refine AI ?_
      refine hK _ _ _ ?_
      clear hK K
      refine hw_region (by kernel_rfl) ?_
      simp (maxSteps := 4000000) only [↓sP, sA, tyS, simprocAttr, IntWalk.i64_in _ (show -9223372036854775808 ≤ (i : Int) + 1 ∧ (i : Int) + 1 ≤ 9223372036854775807 by omega)]
      rw [u8_ne] at hb
      refine ⟨⟨i + 1, hlt, ?_⟩, fits_fin (by omega) (by simp [FinOk, fin_at, finA_at, upd_at, HV.men, HV.menL, HV.norm, HV.toC, HV.toCL]) (by simp [FobOk, fob_at, upd_at, none0_at, gone, HO.men, HV.men, HV.menL, HV.norm, HV.toC, HV.toCL]), ?_⟩
      · rw [List.take_succ_eq_append_getElem ha, List.take_succ_eq_append_getElem hb', h0]
        have : a.1[i] = b.1[i] := by simpa using hb
        rw [this]
      · show 32 - (i + 1) < 32 - i
        omega
  · refine hw_exit ?_
    simp (maxSteps := 4000000) only [↓sP, sA, tyS, simprocAttr]
    clear hK K
    repeat refine AI ?_
    refine hK _ _ _ ?_
    clear hK K
    refine hw_seq fun K hK => hw_region (by kernel_rfl) ?_
    simp (maxSteps := 4000000) only [↓sP, sA, tyS, simprocAttr]
    repeat refine AI ?_
    refine hK _ _ _ ?_
    clear hK K
    refine hw_ret ?_
    simp (maxSteps := 4000000) only [hpost, Tryz.results46, hresL, hres1, tupOf, ↓sP, sA, tyS, simprocAttr]
    have hei : i = 32 := by simp at hb; omega
    subst hei
    exact hret_pure [] (.bool false) rfl (by rw [dlt_same h0])

end Go.Proofs.YtenbfeemmpjdhaaGreat

namespace Go.Pl
open Go Go.Hl

def alZ (c : UInt8) : Bool := (decide (97 ≤ (c.toNat : Int)) && decide ((c.toNat : Int) ≤ 122)) || (decide (48 ≤ (c.toNat : Int)) && decide ((c.toNat : Int) ≤ 57))
def puZ (c : UInt8) : Bool := ((c.toNat : Int) == 46) || (((c.toNat : Int) == 95) || ((c.toNat : Int) == 45))
def okc (i : Nat) (c : UInt8) : Bool := alZ c || (decide (0 < (i : Int)) && puZ c)
theorem al_Z (c : UInt8) : al c = alZ c := by
  have h1 : decide ((97 : UInt8) ≤ c) = decide (97 ≤ (c.toNat : Int)) := by rw [Bool.eq_iff_iff]; simp only [decide_eq_true_eq, UInt8.le_iff_toNat_le]; show 97 ≤ c.toNat ↔ _; omega
  have h2 : decide (c ≤ (122 : UInt8)) = decide ((c.toNat : Int) ≤ 122) := by rw [Bool.eq_iff_iff]; simp only [decide_eq_true_eq, UInt8.le_iff_toNat_le]; show c.toNat ≤ 122 ↔ _; omega
  have h3 : decide ((48 : UInt8) ≤ c) = decide (48 ≤ (c.toNat : Int)) := by rw [Bool.eq_iff_iff]; simp only [decide_eq_true_eq, UInt8.le_iff_toNat_le]; show 48 ≤ c.toNat ↔ _; omega
  have h4 : decide (c ≤ (57 : UInt8)) = decide ((c.toNat : Int) ≤ 57) := by rw [Bool.eq_iff_iff]; simp only [decide_eq_true_eq, UInt8.le_iff_toNat_le]; show c.toNat ≤ 57 ↔ _; omega
  unfold al alZ
  rw [h1, h2, h3, h4]
theorem eq_Z (c d : UInt8) : (c == d) = ((c.toNat : Int) == (d.toNat : Int)) := by
  rw [Bool.eq_iff_iff]
  simp only [beq_iff_eq]
  constructor
  · rintro rfl; rfl
  · intro h; exact UInt8.toNat_inj.1 (by omega)
theorem nc_Z (c : UInt8) : nc c = (alZ c || puZ c) := by
  unfold nc puZ
  rw [al_Z, eq_Z, eq_Z, eq_Z]
  rfl
theorem nameB_iff {s : Word} : nameB s = true ↔ (1 ≤ s.length ∧ s.length ≤ 64) ∧ ∀ i (h : i < s.length), okc i s[i] = true := by
  cases s with
  | nil => simp [nameB]
  | cons c r =>
    simp only [nameB, Bool.and_eq_true, decide_eq_true_eq, List.all_eq_true, al_Z, nc_Z]
    constructor
    · rintro ⟨h1, h2, h3⟩
      refine ⟨⟨by simp, h1⟩, fun i hi => ?_⟩
      cases i with
      | zero => simp [okc, h2]
      | succ i =>
        have := h3 _ (List.getElem_mem (by simpa using hi : i < r.length))
        simp only [List.getElem_cons_succ]
        unfold okc
        have h0 : decide (0 < ((i + 1 : Nat) : Int)) = true := by simp only [decide_eq_true_eq]; omega
        rw [h0, Bool.true_and]; exact this
    · rintro ⟨⟨_, h1⟩, h3⟩
      refine ⟨h1, ?_, fun x hx => ?_⟩
      · have := h3 0 (by simp)
        simpa [okc] using this
      · obtain ⟨i, hi, rfl⟩ := List.mem_iff_getElem.1 hx
        have := h3 (i + 1) (by simpa using hi)
        simp only [List.getElem_cons_succ] at this
        unfold okc at this
        have h0 : decide (0 < ((i + 1 : Nat) : Int)) = true := by simp only [decide_eq_true_eq]; omega
        rw [h0, Bool.true_and] at this; exact this
theorem nameB_len {s : Word} (h : ¬ (1 ≤ s.length ∧ s.length ≤ 64)) : nameB s = false := by
  cases hn : nameB s
  · rfl
  · exact absurd (nameB_iff.1 hn).1 h
theorem nameB_bad {s : Word} {i : Nat} (hi : i < s.length) (h : okc i s[i] = false) : nameB s = false := by
  cases hn : nameB s
  · rfl
  · rw [(nameB_iff.1 hn).2 i hi] at h; cases h
theorem name_step {s : Word} {i : Nat} (hi : i < s.length) (h : okc i s[i] = true) (h0 : ∀ j (_ : j < i) (h : j < s.length), okc j s[j] = true) : ∀ j (_ : j < i + 1) (h : j < s.length), okc j s[j] = true := fun j hj h' => by
  rcases Nat.lt_or_ge j i with h1 | h1
  · exact h0 j h1 h'
  · have : j = i := by omega
    subst this; exact h
def badHead (s : Word) : Bool := (s == []) || (decide (64 < (s.length : Int)) || (((gb s 0).toNat : Int) == 46 || (((gb s 0).toNat : Int) == 95 || ((gb s 0).toNat : Int) == 45)))
theorem nameB_head {s : Word} (h : badHead s = true) : nameB s = false := by
  cases s with
  | nil => rfl
  | cons c r =>
    cases hn : nameB (c :: r)
    · rfl
    · obtain ⟨⟨h1, h2⟩, h3⟩ := nameB_iff.1 hn
      have h4 := h3 0 (by simp)
      simp only [badHead, gb, List.getD_cons_zero, Bool.or_eq_true, decide_eq_true_eq, beq_iff_eq] at h
      simp [okc, alZ] at h4
      simp only [List.length_cons] at h1 h2 h
      rcases h with h | h | h | h | h
      · cases h
      · omega
      all_goals omega
theorem nameB_ref {s : Word} (h : badHead s = false) (hall : ∀ j (h : j < s.length), (alZ s[j] || puZ s[j]) = true) : nameB s = true := by
  cases s with
  | nil => simp [badHead] at h
  | cons c r =>
    simp only [badHead, gb, List.getD_cons_zero, Bool.or_eq_false_iff, decide_eq_false_iff_not] at h
    obtain ⟨_, h1, h2, h3, h4⟩ := h
    refine nameB_iff.2 ⟨⟨by simp, by simp only [List.length_cons] at h1 ⊢; omega⟩, fun i hi => ?_⟩
    have := hall i hi
    cases i with
    | zero =>
      simp only [List.getElem_cons_zero] at this ⊢
      have hp : puZ c = false := by simp [puZ, h2, h3, h4]
      rw [hp, Bool.or_false] at this
      simp [okc, this]
    | succ i =>
      have h0 : decide (0 < ((i + 1 : Nat) : Int)) = true := by simp only [decide_eq_true_eq]; omega
      unfold okc; rw [h0, Bool.true_and]; exact this
theorem nameB_char {s : Word} {j : Nat} (hj : j < s.length) (h : (alZ s[j] || puZ s[j]) = false) : nameB s = false :=
  nameB_bad hj (by
    have h' : alZ s[j] = false ∧ puZ s[j] = false := by simpa using h
    unfold okc; rw [h'.1, h'.2]; simp)
end Go.Pl

namespace Go.Pl
open Go Go.Hl

section
variable {α β : Type}
def adjB (r : α → α → Bool) : List α → Bool
  | a :: b :: l => r a b && adjB r (b :: l)
  | _ => true
theorem adjB_map (r : β → β → Bool) (f : α → β) : ∀ l : List α, adjB r (l.map f) = adjB (fun a b => r (f a) (f b)) l
  | [] => rfl
  | [_] => rfl
  | a :: b :: l => by
    have := adjB_map r f (b :: l)
    simp only [List.map_cons, adjB] at this ⊢
    rw [this]
theorem ascB_adj : ∀ l : List Word, ascB l = adjB slt l
  | [] => rfl
  | [_] => rfl
  | a :: b :: l => by simp only [ascB, adjB, ascB_adj (b :: l)]
theorem ascD_adj : ∀ l : List Dig, ascD l = adjB dlt l
  | [] => rfl
  | [_] => rfl
  | a :: b :: l => by simp only [ascD, adjB, ascD_adj (b :: l)]
theorem adjB_iff {r : α → α → Bool} : ∀ {l : List α}, adjB r l = true ↔ ∀ i (h : i + 1 < l.length), r l[i] l[i + 1] = true
  | [] => by simp [adjB]
  | [a] => by simp [adjB]
  | a :: b :: l => by
    have ih := adjB_iff (r := r) (l := b :: l)
    simp only [adjB, Bool.and_eq_true, ih]
    constructor
    · rintro ⟨h1, h2⟩ i hi
      cases i with
      | zero => exact h1
      | succ i => exact h2 i (by simpa using hi)
    · intro h
      exact ⟨h 0 (by simp), fun i hi => h (i + 1) (by simpa using hi)⟩
def GoodTo (p : α → Bool) (r : α → α → Bool) (l : List α) (i : Nat) : Prop := (∀ j (h : j < l.length), j < i → p l[j] = true) ∧ ∀ j (h : j + 1 < l.length), j + 1 < i → r l[j] l[j + 1] = true
variable {p : α → Bool} {r : α → α → Bool} {l : List α}
theorem GoodTo.zero : GoodTo p r l 0 := ⟨fun j _ h => by omega, fun j _ h => by omega⟩
theorem GoodTo.one (hi : 0 < l.length) (h : p l[0] = true) : GoodTo p r l 1 := by
  refine ⟨fun j h' hj => ?_, fun j _ h => by omega⟩
  have : j = 0 := by omega
  subst this; exact h
theorem GoodTo.succ {i : Nat} (hi : i + 1 < l.length) (h : p l[i + 1] = true) (hr : r l[i] l[i + 1] = true) (h0 : GoodTo p r l (i + 1)) : GoodTo p r l (i + 1 + 1) := by
  refine ⟨fun j h' hj => ?_, fun j h' hj => ?_⟩
  · rcases Nat.lt_or_ge j (i + 1) with h1 | h1
    · exact h0.1 j h' h1
    · have : j = i + 1 := by omega
      subst this; exact h
  · rcases Nat.lt_or_ge (j + 1) (i + 1) with h1 | h1
    · exact h0.2 j h' h1
    · have : j = i := by omega
      subst this; exact hr
theorem GoodTo.all (h : GoodTo p r l l.length) : (l.all p && adjB r l) = true := by
  rw [Bool.and_eq_true, List.all_eq_true, adjB_iff]
  refine ⟨fun x hx => ?_, fun i hi => h.2 i hi hi⟩
  obtain ⟨i, hi, rfl⟩ := List.mem_iff_getElem.1 hx
  exact h.1 i hi hi
theorem bad_one {i : Nat} (hi : i < l.length) (h : p l[i] = false) : (l.all p && adjB r l) = false := by
  cases hn : l.all p && adjB r l
  · rfl
  · rw [Bool.and_eq_true, List.all_eq_true] at hn
    rw [hn.1 _ (List.getElem_mem hi)] at h; cases h
theorem bad_two {i : Nat} (hi : i + 1 < l.length) (h : r l[i] l[i + 1] = false) : (l.all p && adjB r l) = false := by
  cases hn : l.all p && adjB r l
  · rfl
  · rw [Bool.and_eq_true, adjB_iff] at hn
    rw [hn.2 i hi] at h; cases h
end
theorem namesB_eq (l : List Word) : namesB l = (l.all nameB && adjB slt l) := by unfold namesB; rw [ascB_adj]
theorem quotasB_eq (l : List Qt) : quotasB l = ((l.all quotaB && adjB (fun a b => slt a.r b.r) l) && decide (l.length ≤ 12)) := by unfold quotasB; rw [ascB_adj, adjB_map, Bool.and_assoc]
theorem keysB_eq (l : List Ky) : keysB l = ((l.all keyB && adjB (fun a b => dlt (kid a) (kid b)) l) && decide (l.length ≤ 32)) := by unfold keysB; rw [ascD_adj, adjB_map, Bool.and_assoc]
theorem revsB_eq (l : List Rv) : revsB l = ((l.all (fun x => inN x.t) && adjB (fun a b => dlt a.k b.k) l) && decide (l.length ≤ 64)) := by unfold revsB; rw [ascD_adj, adjB_map, Bool.and_assoc]
theorem idx_contains {α : Type} [BEq α] [LawfulBEq α] (l : List α) (a : α) : decide (0 ≤ idxP (fun x => a == x) l) = l.contains a := by
  rw [Bool.eq_iff_iff, decide_eq_true_eq, idxP_ge, List.contains_iff_mem, List.any_eq_true]
  constructor
  · rintro ⟨x, hx, h⟩; rw [eq_of_beq h]; exact hx
  · intro h; exact ⟨a, h, by simp⟩
theorem u8_ofInt (n : Int) : IntKind.u8.wrap n = ((UInt8.ofNat (n.emod 256).toNat).toNat : Int) := by
  have h1 := Int.emod_nonneg n (show (256 : Int) ≠ 0 by omega)
  have h2 := Int.emod_lt_of_pos n (show (0 : Int) < 256 by omega)
  rw [IntKind.wrap_u8, UInt8.toNat_ofNat']
  have : n.emod 256 = n % 256 := rfl
  rw [this]
  omega
end Go.Pl
