/- Part of a proof: walks of functions of the program, by contracts, and the rules they use. By an AI agent. -/
import Derived.Test.YtackchmdajdlaaaGreatHwT1
import Derived.Test.YtackchmdajdlaaaGreatHwSb
import Derived.Test.YtackchmdajdlaaaGreatPlShb
set_option linter.unusedSimpArgs false
set_option linter.unusedVariables false
set_option linter.defProp false
namespace Go.Proofs.YtackchmdajdlaaaGreat
open Go Go.Hl Go.Pl
set_option maxRecDepth 10000
set_option linter.unusedSimpArgs false
set_option linter.unusedVariables false

theorem add_ok (l : List Word) (w : Word) (hl : l.length < 2 ^ 40) : HPure Tryz.prog 40 [.slc (l.map .str), .str w] (fun v => v = .slc ((addW l w).map .str)) := by
 refine hfn_walk Tryz.func40 rfl (by kernel_rfl) (locOk_nil _) (Nat.le_of_ble_eq_true rfl) ?_
 refine hw_seq fun K hK => hw_region (by kernel_rfl) ?_
 simp (maxSteps := 4000000) only [↓sP, sA, tyS, simprocAttr]
 repeat refine AI ?_
 refine hK _ _ _ ?_
 clear hK K
 refine hw_seq fun K hK => ?_
 refine hw_seq fun K hK => hw_region (by kernel_rfl) ?_
 simp (maxSteps := 4000000) only [↓sP, sA, tyS, simprocAttr]
 refine call_pure (has_ok l w (by omega)) ⟨rfl, rfl, rfl, rfl⟩ ?_
 rintro v rfl
 repeat refine AI ?_
 refine hK _ _ _ ?_
 clear hK K
 refine hw_cond (b := l.contains w) rfl (fun hb => ?_) (fun hb => ?_)
 ·
  refine hw_seq fun K hK => hw_region (by kernel_rfl) ?_
  simp (maxSteps := 4000000) only [↓sP, sA, tyS, simprocAttr]
  repeat refine AI ?_
  refine hK _ _ _ ?_
  clear hK K
  refine hw_ret ?_
  simp (maxSteps := 4000000) only [hpost, Tryz.results40, hresL, hres1, tupOf, ↓sP, sA, tyS, simprocAttr]
  refine hret_pure [] (.slc (l.map .str)) ?_ ?_
  ·
   simp [HV.close, CV.denil, denilL_str]; rfl
  ·
   simp only [addW, hb, if_true]
 ·
  refine hw_skip ?_
  simp (maxSteps := 4000000) only [↓sP, sA, tyS, simprocAttr]
  repeat refine AI ?_
  refine hK _ _ _ ?_
  clear hK K
  refine hw_seq fun K hK => hw_region (by kernel_rfl) ?_
  simp (maxSteps := 4000000) only [↓sP, sA, tyS, simprocAttr]
  repeat refine AI ?_
  refine hK _ _ _ ?_
  clear hK K
  refine hw_seq fun K hK => hw_region (by kernel_rfl) ?_
  simp (maxSteps := 4000000) only [↓sP, sA, tyS, simprocAttr]
  repeat refine AI ?_
  refine hK _ _ _ ?_
  clear hK K
  refine hw_seq fun K hK => ?_
  refine hw_block ?_
  refine hw_own 5 0 9 1 rfl rfl rfl rfl ?_
  refine hw_loop (α := {i : Nat // i ≤ l.length ∧ ∀ j (h : j < i) (h' : j < l.length), slt l[j] w = true}) (fun i => (fin [(0, .c (.slc (l.map .str))), (1, .c (.str w)), (5, .own 24 i.1), (6, .c (.int .i64 i.1))], fob [(24, .row 9 1 ((l.take i.1).map .str))])) 25 (fun i => l.length - i.1) ⟨0, by omega, fun j h => by omega⟩ (fits_fin (by omega) (by simp [FinOk, fin_at, finA_at, upd_at, HV.men, HV.menL, HV.norm, HV.toC, HV.toCL]) (by simp [FobOk, fob_at, upd_at, none0_at, gone, HO.men, HV.men, HV.menL, HV.norm, HV.toC, HV.toCL])) ?_
  rintro ⟨i, hi, hni⟩
  have hti : (l.take i).length = i := by simp; omega
  refine hw_seq fun K hK => ?_
  by_cases hlt : i < l.length
  ·
   refine hw_seq fun K hK => hw_region (by kernel_rfl) ?_
   simp only [sR, simprocAttr]
   iterate 5
    (refine hlex_step (g := none) rfl rfl fun K' hK' => ?_; simp only [sH, ↓sP, sA, tyS, simprocAttr, Int.natCast_nonneg, Int.ofNat_lt, hlt, nth_map hlt]; (repeat refine AI ?_); refine hK' _ _ ?_; clear hK' K')
   iterate 6
    (refine hlex_step (g := some (15, true)) rfl rfl fun K' hK' => ?_; simp only [sH, ↓sP, sA, tyS, simprocAttr, Int.natCast_nonneg, Int.ofNat_lt, hlt, nth_map hlt]; (repeat refine AI ?_); refine hK' _ _ ?_; clear hK' K')
   refine hlex_step (g := none) rfl rfl fun K' hK' => ?_
   simp (maxSteps := 4000000) only [sH, ↓sP, sA, tyS, simprocAttr, Int.natCast_nonneg, Int.ofNat_lt, hlt, nth_map hlt]
   repeat refine AI ?_
   refine hK' _ _ ?_
   clear hK' K'
   simp only [sE, ↓reduceIte, simprocAttr]
   repeat refine AI ?_
   refine hK _ _ _ ?_
   clear hK K
   refine hw_cond (b := slt l[i] w) rfl (fun hb => ?_) (fun hb => ?_)
   ·
    refine hw_skip ?_
    simp (maxSteps := 4000000) only [↓sP, sA, tyS, simprocAttr]
    repeat refine AI ?_
    refine hK _ _ _ ?_
    clear hK K
    refine hw_block ?_
    refine hw_seq fun K hK => hw_region (by kernel_rfl) ?_
    simp only [sR, simprocAttr]
    iterate 8
     (refine hlex_step (g := none) rfl rfl fun K' hK' => ?_; simp only [sH, ↓sP, sA, tyS, simprocAttr, Int.natCast_nonneg, Int.ofNat_lt, hlt, nth_map hlt, hti, List.length_append]; (repeat refine AI ?_); refine hK' _ _ ?_; clear hK' K')
    simp only [sE, ↓reduceIte, simprocAttr]
    repeat refine AI ?_
    refine hK _ _ _ ?_
    clear hK K
    refine hw_region (by kernel_rfl) ?_
    simp (maxSteps := 4000000) only [↓sP, sA, tyS, simprocAttr, IntWalk.i64_in _ (show -9223372036854775808 ≤ (i : Int) + 1 ∧ (i : Int) + 1 ≤ 9223372036854775807 by omega)]
    refine ⟨⟨i + 1, by omega, fun j h h' => ?_⟩, fits_fin (by omega) ?_ ?_, ?_⟩
    ·
     by_cases e : j = i
     ·
      subst e; exact hb
     ·
      exact hni j (by omega) h'
    ·
     simp [FinOk, upd_at, fin_at, HV.men]
    ·
     refine ⟨?_, by omega, trivial, trivial⟩
     simp only [List.take_succ_eq_append_getElem hlt, List.map_append]
     rfl
    ·
     show l.length - (i + 1) < l.length - i
     omega
   ·
    refine hw_exit ?_
    simp (maxSteps := 4000000) only [↓sP, sA, tyS, simprocAttr]
    clear hK K
    repeat refine AI ?_
    refine hK _ _ _ ?_
    clear hK K
    refine hw_seq fun K hK => hw_draw2 mixed [(0, [], []), (1, [], []), (2, [], []), (4, [2], []), (5, [2], []), (6, [2], []), (3, [], [4, 5, 6]), (7, [], []), (8, [], [])] [0, 0, 2, 7, 0, 0, 48, 127, 255] (by kernel_rfl) (by kernel_rfl) (by kernel_rfl) (by kernel_rfl) rfl (by kernel_rfl) ?_
    iterate 9
     (refine hwalk2_step (g := none) rfl rfl fun K' hK' => ?_; simp only [sH, ↓sP, sA, tyS, simprocAttr, hti, ← List.map_drop, ← List.map_take]; (repeat refine AI ?_); refine hK' _ _ ?_; clear hK' K')
    simp only [sE, ↓reduceIte, simprocAttr]
    repeat refine AI ?_
    refine hK _ _ _ ?_
    clear hK K
    refine hw_ret ?_
    simp (maxSteps := 4000000) only [hpost, Tryz.results40, hresL, hres1, tupOf, ↓sP, sA, tyS, simprocAttr]
    refine hret_pure [24] (.slc ((l.take i ++ w :: l.drop i).map .str)) ?_ ?_
    ·
     have : l.take (l.length - i) = l.take (l.length - i) := rfl
     simp [HV.close, upd_at, HV.norm, HV.toC, List.take_of_length_le]
    ·
     rw [addW_eq (by assumption) hi hni (fun _ => hb)]
  ·
   refine hw_seq fun K hK => hw_region (by kernel_rfl) ?_
   simp only [sR, simprocAttr]
   iterate 5
    (refine hlex_step (g := none) rfl rfl fun K' hK' => ?_; simp only [sH, ↓sP, sA, tyS, simprocAttr, Int.ofNat_lt, hlt]; (repeat refine AI ?_); refine hK' _ _ ?_; clear hK' K')
   iterate 6
    (refine hlex_step (g := some (15, true)) rfl rfl fun K' hK' => ?_; simp only [sH, ↓sP, sA, tyS, simprocAttr, Int.ofNat_lt, hlt]; (repeat refine AI ?_); refine hK' _ _ ?_; clear hK' K')
   refine hlex_step (g := none) rfl rfl fun K' hK' => ?_
   simp (maxSteps := 4000000) only [sH, ↓sP, sA, tyS, simprocAttr, Int.ofNat_lt, hlt]
   repeat refine AI ?_
   refine hK' _ _ ?_
   clear hK' K'
   simp only [sE, ↓reduceIte, simprocAttr]
   repeat refine AI ?_
   refine hK _ _ _ ?_
   clear hK K
   refine hw_cond (b := _) rfl (fun hb => ?_) (fun hb => ?_)
   ·
    cases hb
   ·
    refine hw_exit ?_
    simp (maxSteps := 4000000) only [↓sP, sA, tyS, simprocAttr]
    clear hK K
    repeat refine AI ?_
    refine hK _ _ _ ?_
    clear hK K
    refine hw_seq fun K hK => hw_draw2 mixed [(0, [], []), (1, [], []), (2, [], []), (4, [2], []), (5, [2], []), (6, [2], []), (3, [], [4, 5, 6]), (7, [], []), (8, [], [])] [0, 0, 2, 7, 0, 0, 48, 127, 255] (by kernel_rfl) (by kernel_rfl) (by kernel_rfl) (by kernel_rfl) rfl (by kernel_rfl) ?_
    iterate 9
     (refine hwalk2_step (g := none) rfl rfl fun K' hK' => ?_; simp only [sH, ↓sP, sA, tyS, simprocAttr, hti, ← List.map_drop, ← List.map_take]; (repeat refine AI ?_); refine hK' _ _ ?_; clear hK' K')
    simp only [sE, ↓reduceIte, simprocAttr]
    repeat refine AI ?_
    refine hK _ _ _ ?_
    clear hK K
    refine hw_ret ?_
    simp (maxSteps := 4000000) only [hpost, Tryz.results40, hresL, hres1, tupOf, ↓sP, sA, tyS, simprocAttr]
    refine hret_pure [24] (.slc ((l.take i ++ w :: l.drop i).map .str)) ?_ ?_
    ·
     simp [HV.close, upd_at, HV.norm, HV.toC, List.take_of_length_le]
    ·
     rw [addW_eq (by assumption) hi hni (fun h => absurd h hlt)]

end Go.Proofs.YtackchmdajdlaaaGreat

namespace Go.Proofs.YtackchmdajdlaaaGreat
open Go Go.Hl Go.Pl
set_option maxRecDepth 10000
set_option maxHeartbeats 2000000
set_option linter.unusedSimpArgs false
set_option linter.unusedVariables false

theorem within_ok (lo n : Int) : HPure Tryz.prog 58 [.int .i64 lo, .int .i64 n] (fun v => v = .bool (decide (lo ≤ n) && decide (n ≤ maxN))) := by
  refine hfn_walk Tryz.func58 rfl (by kernel_rfl) (locOk_nil _) (Nat.le_of_ble_eq_true rfl) ?_
  refine hw_seq fun K hK => hw_region (by kernel_rfl) ?_
  simp (maxSteps := 4000000) only [↓sP, sA, tyS, simprocAttr]
  repeat refine AI ?_
  refine hK _ _ _ ?_
  clear hK K
  refine hw_seq fun K hK => hw_region (by kernel_rfl) ?_
  simp only [sR, simprocAttr]
  iterate 4
    (refine hlex_step (g := none) rfl rfl fun K' hK' => ?_; simp only [sH, ↓sP, sA, tyS, simprocAttr]; (repeat refine AI ?_); refine hK' _ _ ?_; clear hK' K')
  refine hlex_cases 7 rfl (fun h1_7 => ?_) (fun h1_7 => ?_)
  · iterate 2
      (refine hlex_step (g := some (8, true)) rfl rfl fun K' hK' => ?_; simp only [sH, ↓sP, sA, tyS, simprocAttr, h1_7]; (repeat refine AI ?_); refine hK' _ _ ?_; clear hK' K')
    iterate 2
      (refine hlex_step (g := none) rfl rfl fun K' hK' => ?_; simp only [sH, ↓sP, sA, tyS, simprocAttr, h1_7]; (repeat refine AI ?_); refine hK' _ _ ?_; clear hK' K')
    simp only [sE, ↓reduceIte, simprocAttr]
    repeat refine AI ?_
    refine hK _ _ _ ?_
    clear hK K
    refine hw_ret ?_
    simp (maxSteps := 4000000) only [hpost, Tryz.results58, hresL, hres1, tupOf, ↓sP, sA, tyS, simprocAttr]
    refine hret_pure [] (.bool _) rfl ?_
    simp [h1_7, maxN]
    all_goals first | rfl | simp_all
  · iterate 2
      (refine hlex_step (g := some (8, true)) rfl rfl fun K' hK' => ?_; simp only [sH, ↓sP, sA, tyS, simprocAttr, h1_7]; (repeat refine AI ?_); refine hK' _ _ ?_; clear hK' K')
    iterate 2
      (refine hlex_step (g := none) rfl rfl fun K' hK' => ?_; simp only [sH, ↓sP, sA, tyS, simprocAttr, h1_7]; (repeat refine AI ?_); refine hK' _ _ ?_; clear hK' K')
    simp only [sE, ↓reduceIte, simprocAttr]
    repeat refine AI ?_
    refine hK _ _ _ ?_
    clear hK K
    refine hw_ret ?_
    simp (maxSteps := 4000000) only [hpost, Tryz.results58, hresL, hres1, tupOf, ↓sP, sA, tyS, simprocAttr]
    refine hret_pure [] (.bool _) rfl ?_
    simp [h1_7, maxN]
    all_goals first | rfl | simp_all


theorem instant_ok (n : Int) : HPure Tryz.prog 68 [.int .i64 n] (fun v => v = .bool (inN n)) := by
  refine hfn_walk Tryz.func68 rfl (by kernel_rfl) (locOk_nil _) (Nat.le_of_ble_eq_true rfl) ?_
  refine hw_seq fun K hK => hw_region (by kernel_rfl) ?_
  simp (maxSteps := 4000000) only [↓sP, sA, tyS, simprocAttr]
  repeat refine AI ?_
  refine hK _ _ _ ?_
  clear hK K
  refine hw_seq fun K hK => hw_region (by kernel_rfl) ?_
  simp only [sR, simprocAttr]
  iterate 3
    (refine hlex_step (g := none) rfl rfl fun K' hK' => ?_; simp only [sH, ↓sP, sA, tyS, simprocAttr]; (repeat refine AI ?_); refine hK' _ _ ?_; clear hK' K')
  refine hlex_cases 4 rfl (fun h1_4 => ?_) (fun h1_4 => ?_)
  · iterate 2
      (refine hlex_step (g := some (5, true)) rfl rfl fun K' hK' => ?_; simp only [sH, ↓sP, sA, tyS, simprocAttr, h1_4]; (repeat refine AI ?_); refine hK' _ _ ?_; clear hK' K')
    iterate 2
      (refine hlex_step (g := none) rfl rfl fun K' hK' => ?_; simp only [sH, ↓sP, sA, tyS, simprocAttr, h1_4]; (repeat refine AI ?_); refine hK' _ _ ?_; clear hK' K')
    simp only [sE, ↓reduceIte, simprocAttr]
    repeat refine AI ?_
    refine hK _ _ _ ?_
    clear hK K
    refine hw_ret ?_
    simp (maxSteps := 4000000) only [hpost, Tryz.results68, hresL, hres1, tupOf, ↓sP, sA, tyS, simprocAttr]
    refine hret_pure [] (.bool _) rfl ?_
    simp [h1_4, inN, maxN]
    all_goals first | rfl | simp_all
  · iterate 2
      (refine hlex_step (g := some (5, true)) rfl rfl fun K' hK' => ?_; simp only [sH, ↓sP, sA, tyS, simprocAttr, h1_4]; (repeat refine AI ?_); refine hK' _ _ ?_; clear hK' K')
    iterate 2
      (refine hlex_step (g := none) rfl rfl fun K' hK' => ?_; simp only [sH, ↓sP, sA, tyS, simprocAttr, h1_4]; (repeat refine AI ?_); refine hK' _ _ ?_; clear hK' K')
    simp only [sE, ↓reduceIte, simprocAttr]
    repeat refine AI ?_
    refine hK _ _ _ ?_
    clear hK K
    refine hw_ret ?_
    simp (maxSteps := 4000000) only [hpost, Tryz.results68, hresL, hres1, tupOf, ↓sP, sA, tyS, simprocAttr]
    refine hret_pure [] (.bool _) rfl ?_
    simp [h1_4, inN, maxN]
    all_goals first | rfl | simp_all


theorem height_ok (n : Int) : HPure Tryz.prog 98 [.int .i64 n] (fun v => v = .bool (decide (0 ≤ n) && decide (n ≤ 6))) := by
  refine hfn_walk Tryz.func98 rfl (by kernel_rfl) (locOk_nil _) (Nat.le_of_ble_eq_true rfl) ?_
  refine hw_seq fun K hK => hw_region (by kernel_rfl) ?_
  simp (maxSteps := 4000000) only [↓sP, sA, tyS, simprocAttr]
  repeat refine AI ?_
  refine hK _ _ _ ?_
  clear hK K
  refine hw_seq fun K hK => hw_region (by kernel_rfl) ?_
  simp only [sR, simprocAttr]
  iterate 3
    (refine hlex_step (g := none) rfl rfl fun K' hK' => ?_; simp only [sH, ↓sP, sA, tyS, simprocAttr]; (repeat refine AI ?_); refine hK' _ _ ?_; clear hK' K')
  refine hlex_cases 4 rfl (fun h1_4 => ?_) (fun h1_4 => ?_)
  · iterate 2
      (refine hlex_step (g := some (5, true)) rfl rfl fun K' hK' => ?_; simp only [sH, ↓sP, sA, tyS, simprocAttr, h1_4]; (repeat refine AI ?_); refine hK' _ _ ?_; clear hK' K')
    iterate 2
      (refine hlex_step (g := none) rfl rfl fun K' hK' => ?_; simp only [sH, ↓sP, sA, tyS, simprocAttr, h1_4]; (repeat refine AI ?_); refine hK' _ _ ?_; clear hK' K')
    simp only [sE, ↓reduceIte, simprocAttr]
    repeat refine AI ?_
    refine hK _ _ _ ?_
    clear hK K
    refine hw_ret ?_
    simp (maxSteps := 4000000) only [hpost, Tryz.results98, hresL, hres1, tupOf, ↓sP, sA, tyS, simprocAttr]
    refine hret_pure [] (.bool _) rfl ?_
    simp [h1_4]
    all_goals first | rfl | simp_all
  · iterate 2
      (refine hlex_step (g := some (5, true)) rfl rfl fun K' hK' => ?_; simp only [sH, ↓sP, sA, tyS, simprocAttr, h1_4]; (repeat refine AI ?_); refine hK' _ _ ?_; clear hK' K')
    iterate 2
      (refine hlex_step (g := none) rfl rfl fun K' hK' => ?_; simp only [sH, ↓sP, sA, tyS, simprocAttr, h1_4]; (repeat refine AI ?_); refine hK' _ _ ?_; clear hK' K')
    simp only [sE, ↓reduceIte, simprocAttr]
    repeat refine AI ?_
    refine hK _ _ _ ?_
    clear hK K
    refine hw_ret ?_
    simp (maxSteps := 4000000) only [hpost, Tryz.results98, hresL, hres1, tupOf, ↓sP, sA, tyS, simprocAttr]
    refine hret_pure [] (.bool _) rfl ?_
    simp [h1_4]
    all_goals first | rfl | simp_all


theorem pvalid_ok (p : Pk) : HPure Tryz.prog 77 [p.cv] (fun v => v = .bool (decide (0 ≤ p.h) && decide (p.h ≤ 6))) := by
  refine hfn_walk Tryz.func77 rfl (by kernel_rfl) (locOk_nil _) (Nat.le_of_ble_eq_true rfl) ?_
  refine hw_seq fun K hK => hw_region (by kernel_rfl) ?_
  simp (maxSteps := 4000000) only [↓sP, sA, tyS, simprocAttr]
  repeat refine AI ?_
  refine hK _ _ _ ?_
  clear hK K
  refine hw_seq fun K hK => hw_region (by kernel_rfl) ?_
  simp only [sR, simprocAttr]
  iterate 2
    (refine hlex_step (g := none) rfl rfl fun K' hK' => ?_; simp only [sH, ↓sP, sA, tyS, simprocAttr]; (repeat refine AI ?_); refine hK' _ _ ?_; clear hK' K')
  refine hlex_step (g := none) rfl rfl fun K' hK' => ?_
  simp (maxSteps := 4000000) only [sH, ↓sP, sA, tyS, simprocAttr]
  refine call_pure (args := [_]) (height_ok p.h) ⟨rfl, rfl, rfl, rfl⟩ ?_
  rintro u rfl
  repeat refine AI ?_
  refine hK' _ _ ?_
  clear hK' K'
  refine hlex_step (g := none) rfl rfl fun K' hK' => ?_
  simp (maxSteps := 4000000) only [sH, ↓sP, sA, tyS, simprocAttr]
  repeat refine AI ?_
  refine hK' _ _ ?_
  clear hK' K'
  simp only [sE, ↓reduceIte, simprocAttr]
  repeat refine AI ?_
  refine hK _ _ _ ?_
  clear hK K
  refine hw_ret ?_
  simp (maxSteps := 4000000) only [hpost, Tryz.results77, hresL, hres1, tupOf, ↓sP, sA, tyS, simprocAttr]
  exact hret_pure [] (.bool _) rfl rfl


theorem pvalid9_ok (p : Pk) : HPure Tryz.prog 84 [p.cv] (fun v => v = .bool (decide (0 ≤ p.h) && decide (p.h ≤ 6))) := by
  refine hfn_walk Tryz.func84 rfl (by kernel_rfl) (locOk_nil _) (Nat.le_of_ble_eq_true rfl) ?_
  refine hw_seq fun K hK => hw_region (by kernel_rfl) ?_
  simp (maxSteps := 4000000) only [↓sP, sA, tyS, simprocAttr]
  repeat refine AI ?_
  refine hK _ _ _ ?_
  clear hK K
  refine hw_seq fun K hK => hw_region (by kernel_rfl) ?_
  simp only [sR, simprocAttr]
  iterate 4
    (refine hlex_step (g := none) rfl rfl fun K' hK' => ?_; simp only [sH, ↓sP, sA, tyS, simprocAttr]; (repeat refine AI ?_); refine hK' _ _ ?_; clear hK' K')
  refine hlex_cases 5 rfl (fun h1_5 => ?_) (fun h1_5 => ?_)
  · iterate 3
      (refine hlex_step (g := some (6, true)) rfl rfl fun K' hK' => ?_; simp only [sH, ↓sP, sA, tyS, simprocAttr, h1_5]; (repeat refine AI ?_); refine hK' _ _ ?_; clear hK' K')
    iterate 2
      (refine hlex_step (g := none) rfl rfl fun K' hK' => ?_; simp only [sH, ↓sP, sA, tyS, simprocAttr, h1_5]; (repeat refine AI ?_); refine hK' _ _ ?_; clear hK' K')
    simp only [sE, ↓reduceIte, simprocAttr]
    repeat refine AI ?_
    refine hK _ _ _ ?_
    clear hK K
    refine hw_ret ?_
    simp (maxSteps := 4000000) only [hpost, Tryz.results84, hresL, hres1, tupOf, ↓sP, sA, tyS, simprocAttr]
    refine hret_pure [] (.bool _) rfl ?_
    simp [h1_5]
    all_goals first | rfl | simp_all
  · iterate 3
      (refine hlex_step (g := some (6, true)) rfl rfl fun K' hK' => ?_; simp only [sH, ↓sP, sA, tyS, simprocAttr, h1_5]; (repeat refine AI ?_); refine hK' _ _ ?_; clear hK' K')
    iterate 2
      (refine hlex_step (g := none) rfl rfl fun K' hK' => ?_; simp only [sH, ↓sP, sA, tyS, simprocAttr, h1_5]; (repeat refine AI ?_); refine hK' _ _ ?_; clear hK' K')
    simp only [sE, ↓reduceIte, simprocAttr]
    repeat refine AI ?_
    refine hK _ _ _ ?_
    clear hK K
    refine hw_ret ?_
    simp (maxSteps := 4000000) only [hpost, Tryz.results84, hresL, hres1, tupOf, ↓sP, sA, tyS, simprocAttr]
    refine hret_pure [] (.bool _) rfl ?_
    simp [h1_5]
    all_goals first | rfl | simp_all


theorem need_ok (r : Rt) (w : Word) (hl : r.q.length < 2 ^ 40) : HPure Tryz.prog 41 [r.cv, .str w] (fun v => v = .int .i64 (need r.q w)) := by
  refine hfn_walk Tryz.func41 rfl (by kernel_rfl) (locOk_nil _) (Nat.le_of_ble_eq_true rfl) ?_
  refine hw_seq fun K hK => hw_region (by kernel_rfl) ?_
  simp (maxSteps := 4000000) only [↓sP, sA, tyS, simprocAttr]
  repeat refine AI ?_
  refine hK _ _ _ ?_
  clear hK K
  refine hw_seq fun K hK => ?_
  refine hw_seq fun K hK => hw_region (by kernel_rfl) ?_
  simp only [sR, simprocAttr]
  iterate 4
    (refine hlex_step (g := none) rfl rfl fun K' hK' => ?_; simp only [sH, ↓sP, sA, tyS, simprocAttr]; (repeat refine AI ?_); refine hK' _ _ ?_; clear hK' K')
  simp only [sE, ↓reduceIte, simprocAttr]
  repeat refine AI ?_
  refine hK _ _ _ ?_
  clear hK K
  refine hw_block ?_
  refine hw_loop (α := {i : Nat // i ≤ r.q.length ∧ ∀ x ∈ r.q.take i, (x.r == w) = false}) (fun i => (fin [(1, .c (.str w)), (8, .c (.slc (r.q.map Qt.cv))), (9, .c (.int .i64 r.q.length)), (10, .c (.int .i64 i.1))], fob [])) 100 (fun i => r.q.length - i.1) ⟨0, by omega, by simp⟩ (fits_fin (by omega) (by simp [FinOk, fin_at, finA_at, upd_at, HV.men, HV.menL, HV.norm, HV.toC, HV.toCL]) (by simp [FobOk, fob_at, upd_at, none0_at, gone, HO.men, HV.men, HV.menL, HV.norm, HV.toC, HV.toCL])) ?_
  rintro ⟨i, hi, h0⟩
  refine hw_seq fun K hK => hw_region (by kernel_rfl) ?_
  simp (maxSteps := 4000000) only [↓sP, sA, tyS, simprocAttr]
  repeat refine AI ?_
  refine hK _ _ _ ?_
  clear hK K
  refine hw_seq fun K hK => ?_
  refine hw_cond (b := decide ((i : Int) < r.q.length)) rfl (fun hb => ?_) (fun hb => ?_)
  · have hlt : i < r.q.length := by simpa using hb
    refine hw_skip ?_
    simp (maxSteps := 4000000) only [↓sP, sA, tyS, simprocAttr]
    repeat refine AI ?_
    refine hK _ _ _ ?_
    clear hK K
    refine hw_seq fun K hK => ?_
    refine hw_block ?_
    refine hw_seq fun K hK => hw_region (by kernel_rfl) ?_
    simp only [sR, simprocAttr]
    iterate 4
      (refine hlex_step (g := none) rfl rfl fun K' hK' => ?_; simp only [sH, ↓sP, sA, tyS, simprocAttr, Int.natCast_nonneg, Int.ofNat_lt, hlt, nth_map hlt]; (repeat refine AI ?_); refine hK' _ _ ?_; clear hK' K')
    simp only [sE, ↓reduceIte, simprocAttr]
    repeat refine AI ?_
    refine hK _ _ _ ?_
    clear hK K
    refine hw_seq fun K hK => hw_region (by kernel_rfl) ?_
    simp only [sR, simprocAttr]
    iterate 4
      (refine hlex_step (g := none) rfl rfl fun K' hK' => ?_; simp only [sH, ↓sP, sA, tyS, simprocAttr]; (repeat refine AI ?_); refine hK' _ _ ?_; clear hK' K')
    simp only [sE, ↓reduceIte, simprocAttr]
    repeat refine AI ?_
    refine hK _ _ _ ?_
    clear hK K
    refine hw_cond (b := r.q[i].r == w) rfl (fun hb => ?_) (fun hb => ?_)
    · refine hw_seq fun K hK => hw_region (by kernel_rfl) ?_
      simp (maxSteps := 4000000) only [↓sP, sA, tyS, simprocAttr]
      repeat refine AI ?_
      refine hK _ _ _ ?_
      clear hK K
      refine hw_ret ?_
      simp (maxSteps := 4000000) only [hpost, Tryz.results41, hresL, hres1, tupOf, ↓sP, sA, tyS, simprocAttr]
      exact hret_pure [] (.int .i64 r.q[i].n) rfl (by rw [need_hit hlt hb h0])
    · refine hw_skip ?_
      simp (maxSteps := 4000000) only [↓sP, sA, tyS, simprocAttr]
      repeat refine AI ?_
      refine hK _ _ _ ?_
      clear hK K
      refine hw_region (by kernel_rfl) ?_
      simp (maxSteps := 4000000) only [↓sP, sA, tyS, simprocAttr, IntWalk.i64_in _ (show -9223372036854775808 ≤ (i : Int) + 1 ∧ (i : Int) + 1 ≤ 9223372036854775807 by omega)]
      refine ⟨⟨i + 1, hlt, take_miss (p := fun x => x.r == w) hlt hb h0⟩, fits_fin (by omega) (by simp [FinOk, fin_at, finA_at, upd_at, HV.men, HV.menL, HV.norm, HV.toC, HV.toCL]) (by simp [FobOk, fob_at, upd_at, none0_at, gone, HO.men, HV.men, HV.menL, HV.norm, HV.toC, HV.toCL]), ?_⟩
      show r.q.length - (i + 1) < r.q.length - i
      omega
  · refine hw_exit ?_
    simp (maxSteps := 4000000) only [↓sP, sA, tyS, simprocAttr]
    clear hK K
    repeat refine AI ?_
    refine hK _ _ _ ?_
    clear hK K
    refine hw_seq fun K hK => hw_region (by kernel_rfl) ?_
    simp (maxSteps := 4000000) only [↓sP, sA, tyS, simprocAttr]
    repeat refine AI ?_
    refine hK _ _ _ ?_
    clear hK K
    refine hw_ret ?_
    simp (maxSteps := 4000000) only [hpost, Tryz.results41, hresL, hres1, tupOf, ↓sP, sA, tyS, simprocAttr]
    have hei : i = r.q.length := by simp at hb; omega
    subst hei
    exact hret_pure [] (.int .i64 0) rfl (by rw [need_miss (by simpa using h0)])


theorem quota_ok (r : Rt) (w : Word) (hl : r.q.length < 2 ^ 40) : HPure Tryz.prog 42 [r.cv, .str w] (fun v => v = .int .i64 (need r.q w)) := by
  refine hfn_walk Tryz.func42 rfl (by kernel_rfl) (locOk_nil _) (Nat.le_of_ble_eq_true rfl) ?_
  refine hw_seq fun K hK => hw_region (by kernel_rfl) ?_
  simp (maxSteps := 4000000) only [↓sP, sA, tyS, simprocAttr]
  repeat refine AI ?_
  refine hK _ _ _ ?_
  clear hK K
  refine hw_seq fun K hK => ?_
  refine hw_seq fun K hK => hw_region (by kernel_rfl) ?_
  simp (maxSteps := 4000000) only [↓sP, sA, tyS, simprocAttr]
  repeat refine AI ?_
  refine hK _ _ _ ?_
  clear hK K
  refine hw_block ?_
  refine hw_loop (α := {i : Nat // i ≤ r.q.length ∧ ∀ x ∈ r.q.take i, (x.r == w) = false}) (fun i => (fin [(1, .c (.str w)), (2, .ptr 0 0), (5, .c (.int .i64 i.1))], fob [(0, .box 26 (.c r.cv))])) 100 (fun i => r.q.length - i.1) ⟨0, by omega, by simp⟩ (fits_fin (by omega) (by simp [FinOk, fin_at, finA_at, upd_at, HV.men, HV.menL, HV.norm, HV.toC, HV.toCL]) (by simp [FobOk, fob_at, upd_at, none0_at, gone, HO.men, HV.men, HV.menL, HV.norm, HV.toC, HV.toCL])) ?_
  rintro ⟨i, hi, h0⟩
  refine hw_seq fun K hK => ?_
  refine hw_seq fun K hK => hw_region (by kernel_rfl) ?_
  simp only [sR, simprocAttr]
  iterate 5
    (refine hlex_step (g := none) rfl rfl fun K' hK' => ?_; simp only [sH, ↓sP, sA, tyS, simprocAttr]; (repeat refine AI ?_); refine hK' _ _ ?_; clear hK' K')
  simp only [sE, ↓reduceIte, simprocAttr]
  repeat refine AI ?_
  refine hK _ _ _ ?_
  clear hK K
  refine hw_cond (b := decide ((i : Int) < r.q.length)) rfl (fun hb => ?_) (fun hb => ?_)
  · have hlt : i < r.q.length := by simpa using hb
    refine hw_skip ?_
    simp (maxSteps := 4000000) only [↓sP, sA, tyS, simprocAttr]
    repeat refine AI ?_
    refine hK _ _ _ ?_
    clear hK K
    refine hw_seq fun K hK => ?_
    refine hw_block ?_
    refine hw_seq fun K hK => hw_region (by kernel_rfl) ?_
    simp only [sR, simprocAttr]
    iterate 8
      (refine hlex_step (g := none) rfl rfl fun K' hK' => ?_; simp only [sH, ↓sP, sA, tyS, simprocAttr, Int.natCast_nonneg, Int.ofNat_lt, hlt, nth_map hlt]; (repeat refine AI ?_); refine hK' _ _ ?_; clear hK' K')
    simp only [sE, ↓reduceIte, simprocAttr]
    repeat refine AI ?_
    refine hK _ _ _ ?_
    clear hK K
    refine hw_cond (b := r.q[i].r == w) rfl (fun hb => ?_) (fun hb => ?_)
    · refine hw_seq fun K hK => hw_region (by kernel_rfl) ?_
      simp only [sR, simprocAttr]
      iterate 7
        (refine hlex_step (g := none) rfl rfl fun K' hK' => ?_; simp only [sH, ↓sP, sA, tyS, simprocAttr, Int.natCast_nonneg, Int.ofNat_lt, hlt, nth_map hlt]; (repeat refine AI ?_); refine hK' _ _ ?_; clear hK' K')
      simp only [sE, ↓reduceIte, simprocAttr]
      repeat refine AI ?_
      refine hK _ _ _ ?_
      clear hK K
      refine hw_ret ?_
      simp (maxSteps := 4000000) only [hpost, Tryz.results42, hresL, hres1, tupOf, ↓sP, sA, tyS, simprocAttr]
      exact hret_pure [] (.int .i64 r.q[i].n) rfl (by rw [need_hit hlt hb h0])
    · refine hw_skip ?_
      simp (maxSteps := 4000000) only [↓sP, sA, tyS, simprocAttr]
      repeat refine AI ?_
      refine hK _ _ _ ?_
      clear hK K
      refine hw_region (by kernel_rfl) ?_
      simp (maxSteps := 4000000) only [↓sP, sA, tyS, simprocAttr, IntWalk.i64_in _ (show -9223372036854775808 ≤ (i : Int) + 1 ∧ (i : Int) + 1 ≤ 9223372036854775807 by omega)]
      refine ⟨⟨i + 1, hlt, take_miss (p := fun x => x.r == w) hlt hb h0⟩, fits_fin (by omega) (by simp [FinOk, fin_at, finA_at, upd_at, HV.men, HV.menL, HV.norm, HV.toC, HV.toCL]) (by simp [FobOk, fob_at, upd_at, none0_at, gone, HO.men, HV.men, HV.menL, HV.norm, HV.toC, HV.toCL]), ?_⟩
      show r.q.length - (i + 1) < r.q.length - i
      omega
  · refine hw_exit ?_
    simp (maxSteps := 4000000) only [↓sP, sA, tyS, simprocAttr]
    clear hK K
    repeat refine AI ?_
    refine hK _ _ _ ?_
    clear hK K
    refine hw_seq fun K hK => hw_region (by kernel_rfl) ?_
    simp (maxSteps := 4000000) only [↓sP, sA, tyS, simprocAttr]
    repeat refine AI ?_
    refine hK _ _ _ ?_
    clear hK K
    refine hw_ret ?_
    simp (maxSteps := 4000000) only [hpost, Tryz.results42, hresL, hres1, tupOf, ↓sP, sA, tyS, simprocAttr]
    have hei : i = r.q.length := by simp at hb; omega
    subst hei
    exact hret_pure [] (.int .i64 0) rfl (by rw [need_miss (by simpa using h0)])


theorem revoked_ok (r : Rt) (d : Dig) (hl : r.x.length < 2 ^ 40) : HPure2 Tryz.prog 46 [r.cv, dg d] (fun u v => u = .int .i64 (revZ r.x d) ∧ v = .bool (revS r.x d)) := by
  refine hfn_walk Tryz.func46 rfl (by kernel_rfl) (locOk_nil _) (Nat.le_of_ble_eq_true rfl) ?_
  refine hw_seq fun K hK => hw_region (by kernel_rfl) ?_
  simp only [sR, simprocAttr]
  iterate 4
    (refine hlex_step (g := none) rfl rfl fun K' hK' => ?_; simp only [sH, ↓sP, sA, tyS, simprocAttr]; (repeat refine AI ?_); refine hK' _ _ ?_; clear hK' K')
  simp only [sE, ↓reduceIte, simprocAttr]
  repeat refine AI ?_
  refine hK _ _ _ ?_
  clear hK K
  refine hw_seq fun K hK => ?_
  refine hw_seq fun K hK => hw_region (by kernel_rfl) ?_
  simp only [sR, simprocAttr]
  iterate 4
    (refine hlex_step (g := none) rfl rfl fun K' hK' => ?_; simp only [sH, ↓sP, sA, tyS, simprocAttr]; (repeat refine AI ?_); refine hK' _ _ ?_; clear hK' K')
  simp only [sE, ↓reduceIte, simprocAttr]
  repeat refine AI ?_
  refine hK _ _ _ ?_
  clear hK K
  refine hw_block ?_
  refine hw_loop (α := {i : Nat // i ≤ r.x.length ∧ ∀ x ∈ r.x.take i, (x.k == d) = false}) (fun i => (fin [(3, .ptr 4 0), (9, .c (.slc (r.x.map Rv.cv))), (10, .c (.int .i64 r.x.length)), (11, .c (.int .i64 i.1))], fob [(4, .box 55 (.c (dg d)))])) 100 (fun i => r.x.length - i.1) ⟨0, by omega, by simp⟩ (fits_fin (by omega) (by simp [FinOk, fin_at, finA_at, upd_at, HV.men, HV.menL, HV.norm, HV.toC, HV.toCL]) (by simp [FobOk, fob_at, upd_at, none0_at, gone, HO.men, HV.men, HV.menL, HV.norm, HV.toC, HV.toCL])) ?_
  rintro ⟨i, hi, h0⟩
  refine hw_seq fun K hK => hw_region (by kernel_rfl) ?_
  simp (maxSteps := 4000000) only [↓sP, sA, tyS, simprocAttr]
  repeat refine AI ?_
  refine hK _ _ _ ?_
  clear hK K
  refine hw_seq fun K hK => ?_
  refine hw_cond (b := decide ((i : Int) < r.x.length)) rfl (fun hb => ?_) (fun hb => ?_)
  · have hlt : i < r.x.length := by simpa using hb
    refine hw_skip ?_
    simp (maxSteps := 4000000) only [↓sP, sA, tyS, simprocAttr]
    repeat refine AI ?_
    refine hK _ _ _ ?_
    clear hK K
    refine hw_seq fun K hK => ?_
    refine hw_block ?_
    refine hw_seq fun K hK => hw_region (by kernel_rfl) ?_
    simp only [sR, simprocAttr]
    iterate 4
      (refine hlex_step (g := none) rfl rfl fun K' hK' => ?_; simp only [sH, ↓sP, sA, tyS, simprocAttr, Int.natCast_nonneg, Int.ofNat_lt, hlt, nth_map hlt]; (repeat refine AI ?_); refine hK' _ _ ?_; clear hK' K')
    simp only [sE, ↓reduceIte, simprocAttr]
    repeat refine AI ?_
    refine hK _ _ _ ?_
    clear hK K
    refine hw_seq fun K hK => hw_region (by kernel_rfl) ?_
    simp only [sR, simprocAttr]
    iterate 4
      (refine hlex_step (g := none) rfl rfl fun K' hK' => ?_; simp only [sH, ↓sP, sA, tyS, simprocAttr]; (repeat refine AI ?_); refine hK' _ _ ?_; clear hK' K')
    simp only [sE, ↓reduceIte, simprocAttr]
    repeat refine AI ?_
    refine hK _ _ _ ?_
    clear hK K
    refine hw_cond (b := r.x[i].k == d) rfl (fun hb => ?_) (fun hb => ?_)
    · refine hw_seq fun K hK => hw_region (by kernel_rfl) ?_
      simp only [sR, simprocAttr]
      iterate 4
        (refine hlex_step (g := none) rfl rfl fun K' hK' => ?_; simp only [sH, ↓sP, sA, tyS, simprocAttr]; (repeat refine AI ?_); refine hK' _ _ ?_; clear hK' K')
      simp only [sE, ↓reduceIte, simprocAttr]
      repeat refine AI ?_
      refine hK _ _ _ ?_
      clear hK K
      refine hw_ret ?_
      simp (maxSteps := 4000000) only [hpost, Tryz.results46, hresL, hres1, tupOf, ↓sP, sA, tyS, simprocAttr]
      exact hret_pure2 [] (.int .i64 r.x[i].t) (.bool true) rfl ⟨by unfold revZ; rw [rev_hit hlt hb h0]; rfl, by unfold revS; rw [rev_hit hlt hb h0]; rfl⟩
    · refine hw_skip ?_
      simp (maxSteps := 4000000) only [↓sP, sA, tyS, simprocAttr]
      repeat refine AI ?_
      refine hK _ _ _ ?_
      clear hK K
      refine hw_region (by kernel_rfl) ?_
      simp (maxSteps := 4000000) only [↓sP, sA, tyS, simprocAttr, IntWalk.i64_in _ (show -9223372036854775808 ≤ (i : Int) + 1 ∧ (i : Int) + 1 ≤ 9223372036854775807 by omega)]
      refine ⟨⟨i + 1, hlt, take_miss (p := fun x => x.k == d) hlt hb h0⟩, fits_fin (by omega) (by simp [FinOk, fin_at, finA_at, upd_at, HV.men, HV.menL, HV.norm, HV.toC, HV.toCL]) (by simp [FobOk, fob_at, upd_at, none0_at, gone, HO.men, HV.men, HV.menL, HV.norm, HV.toC, HV.toCL]), ?_⟩
      show r.x.length - (i + 1) < r.x.length - i
      omega
  · refine hw_exit ?_
    simp (maxSteps := 4000000) only [↓sP, sA, tyS, simprocAttr]
    clear hK K
    repeat refine AI ?_
    refine hK _ _ _ ?_
    clear hK K
    refine hw_seq fun K hK => hw_region (by kernel_rfl) ?_
    simp (maxSteps := 4000000) only [↓sP, sA, tyS, simprocAttr]
    repeat refine AI ?_
    refine hK _ _ _ ?_
    clear hK K
    refine hw_ret ?_
    simp (maxSteps := 4000000) only [hpost, Tryz.results46, hresL, hres1, tupOf, ↓sP, sA, tyS, simprocAttr]
    have hei : i = r.x.length := by simp at hb; omega
    subst hei
    have hm := rev_miss (l := r.x) (d := d) (by simpa using h0)
    exact hret_pure2 [] (.int .i64 0) (.bool false) rfl ⟨by unfold revZ; rw [hm]; rfl, by unfold revS; rw [hm]; rfl⟩


theorem hasd_ok (l : List Dig) (d : Dig) (hl : l.length < 2 ^ 40) : HPure Tryz.prog 51 [.slc (l.map dg), dg d] (fun v => v = .bool (l.contains d)) := by
  refine hfn_walk Tryz.func51 rfl (by kernel_rfl) (locOk_nil _) (Nat.le_of_ble_eq_true rfl) ?_
  refine hw_seq fun K hK => hw_region (by kernel_rfl) ?_
  simp (maxSteps := 4000000) only [↓sP, sA, tyS, simprocAttr]
  repeat refine AI ?_
  refine hK _ _ _ ?_
  clear hK K
  refine hw_seq fun K hK => ?_
  refine hw_seq fun K hK => hw_region (by kernel_rfl) ?_
  simp (maxSteps := 4000000) only [↓sP, sA, tyS, simprocAttr]
  repeat refine AI ?_
  refine hK _ _ _ ?_
  clear hK K
  refine hw_block ?_
  refine hw_loop (α := {i : Nat // i ≤ l.length ∧ ∀ x ∈ l.take i, (x == d) = false}) (fun i => (fin [(0, .c (.slc (l.map dg))), (3, .ptr 0 0), (5, .c (.int .i64 i.1))], fob [(0, .box 55 (.c (dg d)))])) 100 (fun i => l.length - i.1) ⟨0, by omega, by simp⟩ (fits_fin (by omega) (by simp [FinOk, fin_at, finA_at, upd_at, HV.men, HV.menL, HV.norm, HV.toC, HV.toCL]) (by simp [FobOk, fob_at, upd_at, none0_at, gone, HO.men, HV.men, HV.menL, HV.norm, HV.toC, HV.toCL])) ?_
  rintro ⟨i, hi, h0⟩
  refine hw_seq fun K hK => ?_
  refine hw_seq fun K hK => hw_region (by kernel_rfl) ?_
  simp only [sR, simprocAttr]
  iterate 4
    (refine hlex_step (g := none) rfl rfl fun K' hK' => ?_; simp only [sH, ↓sP, sA, tyS, simprocAttr]; (repeat refine AI ?_); refine hK' _ _ ?_; clear hK' K')
  simp only [sE, ↓reduceIte, simprocAttr]
  repeat refine AI ?_
  refine hK _ _ _ ?_
  clear hK K
  refine hw_cond (b := decide ((i : Int) < l.length)) rfl (fun hb => ?_) (fun hb => ?_)
  · have hlt : i < l.length := by simpa using hb
    refine hw_skip ?_
    simp (maxSteps := 4000000) only [↓sP, sA, tyS, simprocAttr]
    repeat refine AI ?_
    refine hK _ _ _ ?_
    clear hK K
    refine hw_seq fun K hK => ?_
    refine hw_block ?_
    refine hw_seq fun K hK => hw_quiet mixed (by kernel_rfl) (by kernel_rfl) (by kernel_rfl) ?_
    simp only [sR, simprocAttr]
    iterate 6
      (refine hlex_step (g := none) rfl rfl fun K' hK' => ?_; simp only [sH, ↓sP, sA, tyS, simprocAttr, Int.natCast_nonneg, Int.ofNat_lt, hlt, nth_map hlt]; (repeat refine AI ?_); refine hK' _ _ ?_; clear hK' K')
    simp only [sE, ↓reduceIte, simprocAttr]
    repeat refine AI ?_
    refine hK _ _ _ ?_
    clear hK K
    refine hw_cond (b := l[i] == d) rfl (fun hb => ?_) (fun hb => ?_)
    · refine hw_seq fun K hK => hw_region (by kernel_rfl) ?_
      simp (maxSteps := 4000000) only [↓sP, sA, tyS, simprocAttr]
      repeat refine AI ?_
      refine hK _ _ _ ?_
      clear hK K
      refine hw_ret ?_
      simp (maxSteps := 4000000) only [hpost, Tryz.results51, hresL, hres1, tupOf, ↓sP, sA, tyS, simprocAttr]
      exact hret_pure [] (.bool true) rfl (by have := List.getElem_mem hlt; have e : l[i] = d := eq_of_beq hb
                                              rw [e] at this; simp [this])
    · refine hw_skip ?_
      simp (maxSteps := 4000000) only [↓sP, sA, tyS, simprocAttr]
      repeat refine AI ?_
      refine hK _ _ _ ?_
      clear hK K
      refine hw_region (by kernel_rfl) ?_
      simp (maxSteps := 4000000) only [↓sP, sA, tyS, simprocAttr, IntWalk.i64_in _ (show -9223372036854775808 ≤ (i : Int) + 1 ∧ (i : Int) + 1 ≤ 9223372036854775807 by omega)]
      refine ⟨⟨i + 1, hlt, take_miss (p := fun x => x == d) hlt hb h0⟩, fits_fin (by omega) (by simp [FinOk, fin_at, finA_at, upd_at, HV.men, HV.menL, HV.norm, HV.toC, HV.toCL]) (by simp [FobOk, fob_at, upd_at, none0_at, gone, HO.men, HV.men, HV.menL, HV.norm, HV.toC, HV.toCL]), ?_⟩
      show l.length - (i + 1) < l.length - i
      omega
  · refine hw_exit ?_
    simp (maxSteps := 4000000) only [↓sP, sA, tyS, simprocAttr]
    clear hK K
    repeat refine AI ?_
    refine hK _ _ _ ?_
    clear hK K
    refine hw_seq fun K hK => hw_region (by kernel_rfl) ?_
    simp (maxSteps := 4000000) only [↓sP, sA, tyS, simprocAttr]
    repeat refine AI ?_
    refine hK _ _ _ ?_
    clear hK K
    refine hw_ret ?_
    simp (maxSteps := 4000000) only [hpost, Tryz.results51, hresL, hres1, tupOf, ↓sP, sA, tyS, simprocAttr]
    have hei : i = l.length := by simp at hb; omega
    subst hei
    exact hret_pure [] (.bool false) rfl (by rw [List.take_length] at h0; have : d ∉ l := fun hm => by have := h0 d hm; simp at this
                                             simp [this])


theorem less_ok (a b : Dig) : HPure Tryz.prog 52 [dg a, dg b] (fun v => v = .bool (dlt a b)) := by
  refine hfn_walk Tryz.func52 rfl (by kernel_rfl) (locOk_nil _) (Nat.le_of_ble_eq_true rfl) ?_
  refine hw_seq fun K hK => hw_region (by kernel_rfl) ?_
  simp (maxSteps := 4000000) only [↓sP, sA, tyS, simprocAttr]
  repeat refine AI ?_
  refine hK _ _ _ ?_
  clear hK K
  refine hw_seq fun K hK => ?_
  refine hw_seq fun K hK => hw_region (by kernel_rfl) ?_
  simp (maxSteps := 4000000) only [↓sP, sA, tyS, simprocAttr]
  repeat refine AI ?_
  refine hK _ _ _ ?_
  clear hK K
  refine hw_block ?_
  refine hw_loop (α := {i : Nat // i ≤ 32 ∧ a.1.take i = b.1.take i}) (fun i => (fin [(2, .ptr 0 0), (3, .ptr 4 0), (5, .c (.int .i64 i.1))], fob [(0, .box 55 (.c (dg a))), (4, .box 55 (.c (dg b)))])) 100 (fun i => 32 - i.1) ⟨0, by omega, by simp⟩ (fits_fin (by omega) (by simp [FinOk, fin_at, finA_at, upd_at, HV.men, HV.menL, HV.norm, HV.toC, HV.toCL]) (by simp [FobOk, fob_at, upd_at, none0_at, gone, HO.men, HV.men, HV.menL, HV.norm, HV.toC, HV.toCL])) ?_
  rintro ⟨i, hi, h0⟩
  refine hw_seq fun K hK => ?_
  refine hw_seq fun K hK => hw_region (by kernel_rfl) ?_
  simp (maxSteps := 4000000) only [↓sP, sA, tyS, simprocAttr]
  repeat refine AI ?_
  refine hK _ _ _ ?_
  clear hK K
  refine hw_cond (b := decide ((i : Int) < 32)) rfl (fun hb => ?_) (fun hb => ?_)
  · have hlt : i < 32 := by simp at hb; omega
    have hlt' : (i : Int) < 32 := by omega
    have ha : i < a.1.length := by rw [a.2]; exact hlt
    have hb' : i < b.1.length := by rw [b.2]; exact hlt
    refine hw_skip ?_
    simp (maxSteps := 4000000) only [↓sP, sA, tyS, simprocAttr]
    repeat refine AI ?_
    refine hK _ _ _ ?_
    clear hK K
    refine hw_seq fun K hK => ?_
    refine hw_block ?_
    refine hw_seq fun K hK => hw_quiet mixed (by kernel_rfl) (by kernel_rfl) (by kernel_rfl) ?_
    simp only [sR, simprocAttr]
    iterate 7
      (refine hlex_step (g := none) rfl rfl fun K' hK' => ?_; simp only [sH, ↓sP, sA, tyS, simprocAttr, Int.natCast_nonneg, hlt', dg_get hlt, Nat.mul_one, u8]; (repeat refine AI ?_); refine hK' _ _ ?_; clear hK' K')
    simp only [sE, ↓reduceIte, simprocAttr]
    repeat refine AI ?_
    refine hK _ _ _ ?_
    clear hK K
    refine hw_cond (b := (((a.1[i]).toNat : Int) != ((b.1[i]).toNat : Int))) rfl (fun hb => ?_) (fun hb => ?_)
    · refine hw_seq fun K hK => hw_quiet mixed (by kernel_rfl) (by kernel_rfl) (by kernel_rfl) ?_
      simp only [sR, simprocAttr]
      iterate 8
        (refine hlex_step (g := none) rfl rfl fun K' hK' => ?_; simp only [sH, ↓sP, sA, tyS, simprocAttr, Int.natCast_nonneg, hlt', dg_get hlt, Nat.mul_one, u8]; (repeat refine AI ?_); refine hK' _ _ ?_; clear hK' K')
      simp only [sE, ↓reduceIte, simprocAttr]
      repeat refine AI ?_
      refine hK _ _ _ ?_
      clear hK K
      refine hw_ret ?_
      simp (maxSteps := 4000000) only [hpost, Tryz.results52, hresL, hres1, tupOf, ↓sP, sA, tyS, simprocAttr]
      rw [u8_ne] at hb
      exact hret_pure [] (.bool _) rfl (by rw [u8_lt, dlt_at hlt h0 (by simpa using hb)])
    · refine hw_skip ?_
      simp (maxSteps := 4000000) only [↓sP, sA, tyS, simprocAttr]
      repeat refine AI ?_
      refine hK _ _ _ ?_
      clear hK K
      refine hw_region (by kernel_rfl) ?_
      simp (maxSteps := 4000000) only [↓sP, sA, tyS, simprocAttr, IntWalk.i64_in _ (show -9223372036854775808 ≤ (i : Int) + 1 ∧ (i : Int) + 1 ≤ 9223372036854775807 by omega)]
      rw [u8_ne] at hb
      refine ⟨⟨i + 1, hlt, ?_⟩, fits_fin (by omega) (by simp [FinOk, fin_at, finA_at, upd_at, HV.men, HV.menL, HV.norm, HV.toC, HV.toCL]) (by simp [FobOk, fob_at, upd_at, none0_at, gone, HO.men, HV.men, HV.menL, HV.norm, HV.toC, HV.toCL]), ?_⟩
      · rw [List.take_succ_eq_append_getElem ha, List.take_succ_eq_append_getElem hb', h0]
        have : a.1[i] = b.1[i] := by simpa using hb
        rw [this]
      · show 32 - (i + 1) < 32 - i
        omega
  · refine hw_exit ?_
    simp (maxSteps := 4000000) only [↓sP, sA, tyS, simprocAttr]
    clear hK K
    repeat refine AI ?_
    refine hK _ _ _ ?_
    clear hK K
    refine hw_seq fun K hK => hw_region (by kernel_rfl) ?_
    simp (maxSteps := 4000000) only [↓sP, sA, tyS, simprocAttr]
    repeat refine AI ?_
    refine hK _ _ _ ?_
    clear hK K
    refine hw_ret ?_
    simp (maxSteps := 4000000) only [hpost, Tryz.results52, hresL, hres1, tupOf, ↓sP, sA, tyS, simprocAttr]
    have hei : i = 32 := by simp at hb; omega
    subst hei
    exact hret_pure [] (.bool false) rfl (by rw [dlt_same h0])

end Go.Proofs.YtackchmdajdlaaaGreat
