/- Part of a proof: walks of functions of the program, by contracts. By an AI agent. -/
import Derived.Test.YtbmeabkgdpfpbaaHlT3
import Derived.Test.YtbmeabkgdpfpbaaHlSb
set_option linter.unusedSimpArgs false
set_option linter.unusedVariables false
namespace Go.Proofs.Ytbmeabkgdpfpbaa
open Go Go.Hl Go.Pl
set_option maxRecDepth 10000
set_option linter.unusedSimpArgs false
set_option linter.unusedVariables false
def tp (L : List Int) (a : Nat) : CV := .agg [.slc (L.map (.int .i64)), .int .i64 a]
attribute [local simp] tp

theorem next_ok (L : List Int) (a : Nat) (n : Int) (ha : a < 2 ^ 40) (hn : n < 2 ^ 40) : HBox Try.prog 20 39 (tp L a) [.int .i64 n] (fun u v' => ∃ (x : Int) (a' : Nat), u = .int .i64 x ∧ v' = tp L a' ∧ a' ≤ a + 1 ∧ 0 ≤ x ∧ (n < 1 → x = 0) ∧ (1 ≤ n → x < n)) := by
  refine hfn_walk Try.func20 rfl (by kernel_rfl) (locOk_box _ _ _) (Nat.le_of_ble_eq_true rfl) ?_
  refine hw_seq fun K hK => hw_region (by kernel_rfl) ?_
  simp (maxSteps := 4000000) only [↓sP, sA, tyS, Nat.reducePow, Nat.reduceLeDiff, reduceCtorEq, Nat.reduceEqDiff, ↓reduceIte, Nat.reduceAdd, Nat.reduceMul, Nat.reduceSub, Nat.reduceLT]
  repeat refine And.intro (by first | omega | (simp only [maxLen]; omega) | assumption | (simp [CV.cells]; done) | (simp [CV.cells, maxLen]; omega)) ?_
  refine hK _ _ _ ?_
  clear hK K
  refine hw_seq fun K hK => ?_
  refine hw_seq fun K hK => hw_region (by kernel_rfl) ?_
  simp (maxSteps := 4000000) only [↓sP, sA, tyS, Nat.reducePow, Nat.reduceLeDiff, reduceCtorEq, Nat.reduceEqDiff, ↓reduceIte, Nat.reduceAdd, Nat.reduceMul, Nat.reduceSub, Nat.reduceLT]
  repeat refine And.intro (by first | omega | (simp only [maxLen]; omega) | assumption | (simp [CV.cells]; done) | (simp [CV.cells, maxLen]; omega)) ?_
  refine hK _ _ _ ?_
  clear hK K
  refine hw_cond (b := decide (n < 1)) rfl (fun hb => ?_) (fun hb => ?_)
  · refine hw_seq fun K hK => hw_region (by kernel_rfl) ?_
    simp (maxSteps := 4000000) only [↓sP, sA, tyS, Nat.reducePow, Nat.reduceLeDiff, reduceCtorEq, Nat.reduceEqDiff, ↓reduceIte, Nat.reduceAdd, Nat.reduceMul, Nat.reduceSub, Nat.reduceLT]
    repeat refine And.intro (by first | omega | (simp only [maxLen]; omega) | assumption | (simp [CV.cells]; done) | (simp [CV.cells, maxLen]; omega)) ?_
    refine hK _ _ _ ?_
    clear hK K
    refine hw_ret ?_
    simp (maxSteps := 4000000) only [hpost, Try.results20, hresL, hres1, tupOf, ↓sP, sA, tyS, Nat.reducePow, Nat.reduceLeDiff, reduceCtorEq, Nat.reduceEqDiff, ↓reduceIte, Nat.reduceAdd, Nat.reduceMul, Nat.reduceSub, Nat.reduceLT]
    refine hret_box [] (.int .i64 0) (tp L a) rfl rfl ?_ (by simp) ⟨0, a, rfl, rfl, by omega, by omega, fun _ => rfl, fun h => by omega⟩
    simp [HV.close, tp, CV.denil, CV.denilL, denilL_int, HV.norm, HV.toC]
  · refine hw_skip ?_
    simp (maxSteps := 4000000) only [↓sP, sA, tyS, Nat.reducePow, Nat.reduceLeDiff, reduceCtorEq, Nat.reduceEqDiff, ↓reduceIte, Nat.reduceAdd, Nat.reduceMul, Nat.reduceSub, Nat.reduceLT]
    repeat refine And.intro (by first | omega | (simp only [maxLen]; omega) | assumption | (simp [CV.cells]; done) | (simp [CV.cells, maxLen]; omega)) ?_
    refine hK _ _ _ ?_
    clear hK K
    refine hw_seq fun K hK => hw_region (by kernel_rfl) ?_
    simp only [List.range, List.range.loop, List.size_toArray, List.length_cons, List.length_nil, Nat.reduceAdd, Nat.reduceMul, Nat.zero_add, Nat.add_zero]
    refine hlex_step (g := none) rfl rfl fun K' hK' => ?_
    simp (maxSteps := 4000000) only [hop1, hgd, List.getElem_toArray, List.getElem_cons_zero, List.getElem_cons_succ, ↓sP, sA, tyS, Nat.reducePow, Nat.reduceLeDiff, reduceCtorEq, Nat.reduceEqDiff, ↓reduceIte, Nat.reduceAdd, Nat.reduceMul, Nat.reduceSub, Nat.reduceLT, tp]
    repeat refine And.intro (by first | omega | (simp only [maxLen]; omega) | assumption | (simp [CV.cells]; done) | (simp [CV.cells, maxLen]; omega)) ?_
    refine hK' _ _ ?_
    clear hK' K'
    refine hlex_step (g := none) rfl rfl fun K' hK' => ?_
    simp (maxSteps := 4000000) only [hop1, hgd, List.getElem_toArray, List.getElem_cons_zero, List.getElem_cons_succ, ↓sP, sA, tyS, Nat.reducePow, Nat.reduceLeDiff, reduceCtorEq, Nat.reduceEqDiff, ↓reduceIte, Nat.reduceAdd, Nat.reduceMul, Nat.reduceSub, Nat.reduceLT, tp]
    repeat refine And.intro (by first | omega | (simp only [maxLen]; omega) | assumption | (simp [CV.cells]; done) | (simp [CV.cells, maxLen]; omega)) ?_
    refine hK' _ _ ?_
    clear hK' K'
    refine hlex_step (g := none) rfl rfl fun K' hK' => ?_
    simp (maxSteps := 4000000) only [hop1, hgd, List.getElem_toArray, List.getElem_cons_zero, List.getElem_cons_succ, ↓sP, sA, tyS, Nat.reducePow, Nat.reduceLeDiff, reduceCtorEq, Nat.reduceEqDiff, ↓reduceIte, Nat.reduceAdd, Nat.reduceMul, Nat.reduceSub, Nat.reduceLT, tp]
    repeat refine And.intro (by first | omega | (simp only [maxLen]; omega) | assumption | (simp [CV.cells]; done) | (simp [CV.cells, maxLen]; omega)) ?_
    refine hK' _ _ ?_
    clear hK' K'
    refine hlex_step (g := none) rfl rfl fun K' hK' => ?_
    simp (maxSteps := 4000000) only [hop1, hgd, List.getElem_toArray, List.getElem_cons_zero, List.getElem_cons_succ, ↓sP, sA, tyS, Nat.reducePow, Nat.reduceLeDiff, reduceCtorEq, Nat.reduceEqDiff, ↓reduceIte, Nat.reduceAdd, Nat.reduceMul, Nat.reduceSub, Nat.reduceLT, tp]
    repeat refine And.intro (by first | omega | (simp only [maxLen]; omega) | assumption | (simp [CV.cells]; done) | (simp [CV.cells, maxLen]; omega)) ?_
    refine hK' _ _ ?_
    clear hK' K'
    refine hlex_step (g := none) rfl rfl fun K' hK' => ?_
    simp (maxSteps := 4000000) only [hop1, hgd, List.getElem_toArray, List.getElem_cons_zero, List.getElem_cons_succ, ↓sP, sA, tyS, Nat.reducePow, Nat.reduceLeDiff, reduceCtorEq, Nat.reduceEqDiff, ↓reduceIte, Nat.reduceAdd, Nat.reduceMul, Nat.reduceSub, Nat.reduceLT, tp]
    repeat refine And.intro (by first | omega | (simp only [maxLen]; omega) | assumption | (simp [CV.cells]; done) | (simp [CV.cells, maxLen]; omega)) ?_
    refine hK' _ _ ?_
    clear hK' K'
    refine hlex_step (g := none) rfl rfl fun K' hK' => ?_
    simp (maxSteps := 4000000) only [hop1, hgd, List.getElem_toArray, List.getElem_cons_zero, List.getElem_cons_succ, ↓sP, sA, tyS, Nat.reducePow, Nat.reduceLeDiff, reduceCtorEq, Nat.reduceEqDiff, ↓reduceIte, Nat.reduceAdd, Nat.reduceMul, Nat.reduceSub, Nat.reduceLT, tp]
    repeat refine And.intro (by first | omega | (simp only [maxLen]; omega) | assumption | (simp [CV.cells]; done) | (simp [CV.cells, maxLen]; omega)) ?_
    refine hK' _ _ ?_
    clear hK' K'
    refine hlex_step (g := none) rfl rfl fun K' hK' => ?_
    simp (maxSteps := 4000000) only [hop1, hgd, List.getElem_toArray, List.getElem_cons_zero, List.getElem_cons_succ, ↓sP, sA, tyS, Nat.reducePow, Nat.reduceLeDiff, reduceCtorEq, Nat.reduceEqDiff, ↓reduceIte, Nat.reduceAdd, Nat.reduceMul, Nat.reduceSub, Nat.reduceLT, tp]
    repeat refine And.intro (by first | omega | (simp only [maxLen]; omega) | assumption | (simp [CV.cells]; done) | (simp [CV.cells, maxLen]; omega)) ?_
    refine hK' _ _ ?_
    clear hK' K'
    simp only [hlex, hwalk2, hthen, hblk, ↓reduceIte, reduceCtorEq, Nat.reduceEqDiff, List.size_toArray, List.length_cons, List.length_nil, Nat.reduceAdd, Nat.reduceMul, Nat.zero_add]
    repeat refine And.intro (by first | omega | (simp only [maxLen]; omega) | assumption | (simp [CV.cells]; done) | (simp [CV.cells, maxLen]; omega)) ?_
    refine hK _ _ _ ?_
    clear hK K
    refine hw_seq fun K hK => ?_
    have key : ∀ (v : Int) fr ob nx, Fits 1 fr ob (fin [(0, .ptr 0 0), (1, .c (.int .i64 n)), (5, .c (.int .i64 v))]) (fob [(0, .box 39 (.c (tp L a)))]) 300 → K fr ob nx := by
      intro v fr ob nx hf
      refine hK _ _ _ (hw_fits hf ?_)
      clear hf hK K
      have hn1 : 1 ≤ n := by simp at hb; omega
      have e0 := Int.tmod_lt_of_pos v (b := n) (by omega)
      have e1 : -n < v.tmod n := Int.lt_tmod_of_pos v (by omega)
      refine hw_seq fun K hK => hw_region (by kernel_rfl) ?_
      simp only [List.range, List.range.loop, List.size_toArray, List.length_cons, List.length_nil, Nat.reduceAdd, Nat.reduceMul, Nat.zero_add, Nat.add_zero]
      refine hlex_step (g := none) rfl rfl fun K' hK' => ?_
      simp (maxSteps := 4000000) only [hop1, hgd, List.getElem_toArray, List.getElem_cons_zero, List.getElem_cons_succ, ↓sP, sA, tyS, Nat.reducePow, Nat.reduceLeDiff, reduceCtorEq, Nat.reduceEqDiff, ↓reduceIte, Nat.reduceAdd, Nat.reduceMul, Nat.reduceSub, Nat.reduceLT, tp]
      repeat refine And.intro (by first | omega | (simp only [maxLen]; omega) | assumption | (simp [CV.cells]; done) | (simp [CV.cells, maxLen]; omega)) ?_
      refine hK' _ _ ?_
      clear hK' K'
      refine hlex_step (g := none) rfl rfl fun K' hK' => ?_
      simp (maxSteps := 4000000) only [hop1, hgd, List.getElem_toArray, List.getElem_cons_zero, List.getElem_cons_succ, ↓sP, sA, tyS, Nat.reducePow, Nat.reduceLeDiff, reduceCtorEq, Nat.reduceEqDiff, ↓reduceIte, Nat.reduceAdd, Nat.reduceMul, Nat.reduceSub, Nat.reduceLT, tp]
      repeat refine And.intro (by first | omega | (simp only [maxLen]; omega) | assumption | (simp [CV.cells]; done) | (simp [CV.cells, maxLen]; omega)) ?_
      refine hK' _ _ ?_
      clear hK' K'
      refine hlex_step (g := none) rfl rfl fun K' hK' => ?_
      simp (maxSteps := 4000000) only [hop1, hgd, List.getElem_toArray, List.getElem_cons_zero, List.getElem_cons_succ, ↓sP, sA, tyS, Nat.reducePow, Nat.reduceLeDiff, reduceCtorEq, Nat.reduceEqDiff, ↓reduceIte, Nat.reduceAdd, Nat.reduceMul, Nat.reduceSub, Nat.reduceLT, tp]
      repeat refine And.intro (by first | omega | (simp only [maxLen]; omega) | assumption | (simp [CV.cells]; done) | (simp [CV.cells, maxLen]; omega)) ?_
      refine hK' _ _ ?_
      clear hK' K'
      refine hlex_step (g := none) rfl rfl fun K' hK' => ?_
      simp (maxSteps := 4000000) only [hop1, hgd, List.getElem_toArray, List.getElem_cons_zero, List.getElem_cons_succ, ↓sP, sA, tyS, Nat.reducePow, Nat.reduceLeDiff, reduceCtorEq, Nat.reduceEqDiff, ↓reduceIte, Nat.reduceAdd, Nat.reduceMul, Nat.reduceSub, Nat.reduceLT, tp]
      repeat refine And.intro (by first | omega | (simp only [maxLen]; omega) | assumption | (simp [CV.cells]; done) | (simp [CV.cells, maxLen]; omega)) ?_
      refine hK' _ _ ?_
      clear hK' K'
      refine hlex_step (g := none) rfl rfl fun K' hK' => ?_
      simp (maxSteps := 4000000) only [hop1, hgd, List.getElem_toArray, List.getElem_cons_zero, List.getElem_cons_succ, ↓sP, sA, tyS, Nat.reducePow, Nat.reduceLeDiff, reduceCtorEq, Nat.reduceEqDiff, ↓reduceIte, Nat.reduceAdd, Nat.reduceMul, Nat.reduceSub, Nat.reduceLT, tp]
      repeat refine And.intro (by first | omega | (simp only [maxLen]; omega) | assumption | (simp [CV.cells]; done) | (simp [CV.cells, maxLen]; omega)) ?_
      refine hK' _ _ ?_
      clear hK' K'
      refine hlex_step (g := none) rfl rfl fun K' hK' => ?_
      simp (maxSteps := 4000000) only [hop1, hgd, List.getElem_toArray, List.getElem_cons_zero, List.getElem_cons_succ, ↓sP, sA, tyS, Nat.reducePow, Nat.reduceLeDiff, reduceCtorEq, Nat.reduceEqDiff, ↓reduceIte, Nat.reduceAdd, Nat.reduceMul, Nat.reduceSub, Nat.reduceLT, tp]
      repeat refine And.intro (by first | omega | (simp only [maxLen]; omega) | assumption | (simp [CV.cells]; done) | (simp [CV.cells, maxLen]; omega)) ?_
      refine hK' _ _ ?_
      clear hK' K'
      refine hlex_step (g := none) rfl rfl fun K' hK' => ?_
      simp (maxSteps := 4000000) only [hop1, hgd, List.getElem_toArray, List.getElem_cons_zero, List.getElem_cons_succ, ↓sP, sA, tyS, Nat.reducePow, Nat.reduceLeDiff, reduceCtorEq, Nat.reduceEqDiff, ↓reduceIte, Nat.reduceAdd, Nat.reduceMul, Nat.reduceSub, Nat.reduceLT, tp]
      repeat refine And.intro (by first | omega | (simp only [maxLen]; omega) | assumption | (simp [CV.cells]; done) | (simp [CV.cells, maxLen]; omega)) ?_
      refine hK' _ _ ?_
      clear hK' K'
      refine hlex_step (g := none) rfl rfl fun K' hK' => ?_
      simp (maxSteps := 4000000) only [hop1, hgd, List.getElem_toArray, List.getElem_cons_zero, List.getElem_cons_succ, ↓sP, sA, tyS, Nat.reducePow, Nat.reduceLeDiff, reduceCtorEq, Nat.reduceEqDiff, ↓reduceIte, Nat.reduceAdd, Nat.reduceMul, Nat.reduceSub, Nat.reduceLT, tp]
      repeat refine And.intro (by first | omega | (simp only [maxLen]; omega) | assumption | (simp [CV.cells]; done) | (simp [CV.cells, maxLen]; omega)) ?_
      refine hK' _ _ ?_
      clear hK' K'
      simp only [hlex, hwalk2, hthen, hblk, ↓reduceIte, reduceCtorEq, Nat.reduceEqDiff, List.size_toArray, List.length_cons, List.length_nil, Nat.reduceAdd, Nat.reduceMul, Nat.zero_add]
      repeat refine And.intro (by first | omega | (simp only [maxLen]; omega) | assumption | (simp [CV.cells]; done) | (simp [CV.cells, maxLen]; omega)) ?_
      refine hK _ _ _ ?_
      clear hK K
      refine hw_seq fun K hK => hw_region (by kernel_rfl) ?_
      simp only [List.range, List.range.loop, List.size_toArray, List.length_cons, List.length_nil, Nat.reduceAdd, Nat.reduceMul, Nat.zero_add, Nat.add_zero]
      refine hlex_step (g := none) rfl rfl fun K' hK' => ?_
      simp (maxSteps := 4000000) only [hop1, hgd, List.getElem_toArray, List.getElem_cons_zero, List.getElem_cons_succ, ↓sP, sA, tyS, Nat.reducePow, Nat.reduceLeDiff, reduceCtorEq, Nat.reduceEqDiff, ↓reduceIte, Nat.reduceAdd, Nat.reduceMul, Nat.reduceSub, Nat.reduceLT, tp]
      repeat refine And.intro (by first | omega | (simp only [maxLen]; omega) | assumption | (simp [CV.cells]; done) | (simp [CV.cells, maxLen]; omega)) ?_
      refine hK' _ _ ?_
      clear hK' K'
      refine hlex_step (g := none) rfl rfl fun K' hK' => ?_
      simp (maxSteps := 4000000) only [hop1, hgd, List.getElem_toArray, List.getElem_cons_zero, List.getElem_cons_succ, ↓sP, sA, tyS, Nat.reducePow, Nat.reduceLeDiff, reduceCtorEq, Nat.reduceEqDiff, ↓reduceIte, Nat.reduceAdd, Nat.reduceMul, Nat.reduceSub, Nat.reduceLT, tp]
      repeat refine And.intro (by first | omega | (simp only [maxLen]; omega) | assumption | (simp [CV.cells]; done) | (simp [CV.cells, maxLen]; omega)) ?_
      refine hK' _ _ ?_
      clear hK' K'
      refine hlex_step (g := none) rfl rfl fun K' hK' => ?_
      simp (maxSteps := 4000000) only [hop1, hgd, List.getElem_toArray, List.getElem_cons_zero, List.getElem_cons_succ, ↓sP, sA, tyS, Nat.reducePow, Nat.reduceLeDiff, reduceCtorEq, Nat.reduceEqDiff, ↓reduceIte, Nat.reduceAdd, Nat.reduceMul, Nat.reduceSub, Nat.reduceLT, tp]
      repeat refine And.intro (by first | omega | (simp only [maxLen]; omega) | assumption | (simp [CV.cells]; done) | (simp [CV.cells, maxLen]; omega)) ?_
      refine hK' _ _ ?_
      clear hK' K'
      refine hlex_step (g := none) rfl rfl fun K' hK' => ?_
      simp (maxSteps := 4000000) only [hop1, hgd, List.getElem_toArray, List.getElem_cons_zero, List.getElem_cons_succ, ↓sP, sA, tyS, Nat.reducePow, Nat.reduceLeDiff, reduceCtorEq, Nat.reduceEqDiff, ↓reduceIte, Nat.reduceAdd, Nat.reduceMul, Nat.reduceSub, Nat.reduceLT, tp]
      repeat refine And.intro (by first | omega | (simp only [maxLen]; omega) | assumption | (simp [CV.cells]; done) | (simp [CV.cells, maxLen]; omega)) ?_
      refine hK' _ _ ?_
      clear hK' K'
      refine hlex_step (g := none) rfl rfl fun K' hK' => ?_
      simp (maxSteps := 4000000) only [hop1, hgd, List.getElem_toArray, List.getElem_cons_zero, List.getElem_cons_succ, ↓sP, sA, tyS, Nat.reducePow, Nat.reduceLeDiff, reduceCtorEq, Nat.reduceEqDiff, ↓reduceIte, Nat.reduceAdd, Nat.reduceMul, Nat.reduceSub, Nat.reduceLT, tp]
      repeat refine And.intro (by first | omega | (simp only [maxLen]; omega) | assumption | (simp [CV.cells]; done) | (simp [CV.cells, maxLen]; omega)) ?_
      refine hK' _ _ ?_
      clear hK' K'
      refine hlex_step (g := none) rfl rfl fun K' hK' => ?_
      simp (maxSteps := 4000000) only [hop1, hgd, List.getElem_toArray, List.getElem_cons_zero, List.getElem_cons_succ, ↓sP, sA, tyS, Nat.reducePow, Nat.reduceLeDiff, reduceCtorEq, Nat.reduceEqDiff, ↓reduceIte, Nat.reduceAdd, Nat.reduceMul, Nat.reduceSub, Nat.reduceLT, tp]
      repeat refine And.intro (by first | omega | (simp only [maxLen]; omega) | assumption | (simp [CV.cells]; done) | (simp [CV.cells, maxLen]; omega)) ?_
      refine hK' _ _ ?_
      clear hK' K'
      refine hlex_step (g := none) rfl rfl fun K' hK' => ?_
      simp (maxSteps := 4000000) only [hop1, hgd, List.getElem_toArray, List.getElem_cons_zero, List.getElem_cons_succ, ↓sP, sA, tyS, Nat.reducePow, Nat.reduceLeDiff, reduceCtorEq, Nat.reduceEqDiff, ↓reduceIte, Nat.reduceAdd, Nat.reduceMul, Nat.reduceSub, Nat.reduceLT, tp]
      repeat refine And.intro (by first | omega | (simp only [maxLen]; omega) | assumption | (simp [CV.cells]; done) | (simp [CV.cells, maxLen]; omega)) ?_
      refine hK' _ _ ?_
      clear hK' K'
      refine hlex_step (g := none) rfl rfl fun K' hK' => ?_
      simp (maxSteps := 4000000) only [hop1, hgd, List.getElem_toArray, List.getElem_cons_zero, List.getElem_cons_succ, ↓sP, sA, tyS, Nat.reducePow, Nat.reduceLeDiff, reduceCtorEq, Nat.reduceEqDiff, ↓reduceIte, Nat.reduceAdd, Nat.reduceMul, Nat.reduceSub, Nat.reduceLT, tp]
      repeat refine And.intro (by first | omega | (simp only [maxLen]; omega) | assumption | (simp [CV.cells]; done) | (simp [CV.cells, maxLen]; omega)) ?_
      refine hK' _ _ ?_
      clear hK' K'
      simp only [hlex, hwalk2, hthen, hblk, ↓reduceIte, reduceCtorEq, Nat.reduceEqDiff, List.size_toArray, List.length_cons, List.length_nil, Nat.reduceAdd, Nat.reduceMul, Nat.zero_add]
      repeat refine And.intro (by first | omega | (simp only [maxLen]; omega) | assumption | (simp [CV.cells]; done) | (simp [CV.cells, maxLen]; omega)) ?_
      refine hK _ _ _ ?_
      clear hK K
      refine hw_ret ?_
      simp (maxSteps := 4000000) only [hpost, Try.results20, hresL, hres1, tupOf, ↓sP, sA, tyS, Nat.reducePow, Nat.reduceLeDiff, reduceCtorEq, Nat.reduceEqDiff, ↓reduceIte, Nat.reduceAdd, Nat.reduceMul, Nat.reduceSub, Nat.reduceLT]
      have e2 : IntKind.i64.wrap (v.tmod n + n) = v.tmod n + n := IntWalk.i64_in _ (by omega)
      have e3 : IntKind.i64.wrap ((a : Int) + 1) = ((a + 1 : Nat) : Int) := IntWalk.i64_in _ (by omega)
      refine hret_box [] (.int .i64 ((v.tmod n + n).tmod n)) (tp L (a + 1)) (by rw [e2]; rfl) rfl ?_ (by simp) ⟨_, a + 1, rfl, rfl, by omega, Int.tmod_nonneg _ (by omega), fun h => by omega, fun _ => Int.tmod_lt_of_pos _ (by omega)⟩
      simp [HV.close, HV.closeL, tp, CV.denil, CV.denilL, denilL_int, HV.norm, HV.toC, HV.toCL, e3]
    refine hw_seq fun K hK => hw_quiet mixed (by kernel_rfl) (by kernel_rfl) (by kernel_rfl) ?_
    simp only [List.range, List.range.loop, List.size_toArray, List.length_cons, List.length_nil, Nat.reduceAdd, Nat.reduceMul, Nat.zero_add, Nat.add_zero]
    refine hlex_step (g := none) rfl rfl fun K' hK' => ?_
    simp (maxSteps := 4000000) only [hop1, hgd, List.getElem_toArray, List.getElem_cons_zero, List.getElem_cons_succ, ↓sP, sA, tyS, Nat.reducePow, Nat.reduceLeDiff, reduceCtorEq, Nat.reduceEqDiff, ↓reduceIte, Nat.reduceAdd, Nat.reduceMul, Nat.reduceSub, Nat.reduceLT, tp]
    repeat refine And.intro (by first | omega | (simp only [maxLen]; omega) | assumption | (simp [CV.cells]; done) | (simp [CV.cells, maxLen]; omega)) ?_
    refine hK' _ _ ?_
    clear hK' K'
    refine hlex_step (g := none) rfl rfl fun K' hK' => ?_
    simp (maxSteps := 4000000) only [hop1, hgd, List.getElem_toArray, List.getElem_cons_zero, List.getElem_cons_succ, ↓sP, sA, tyS, Nat.reducePow, Nat.reduceLeDiff, reduceCtorEq, Nat.reduceEqDiff, ↓reduceIte, Nat.reduceAdd, Nat.reduceMul, Nat.reduceSub, Nat.reduceLT, tp]
    repeat refine And.intro (by first | omega | (simp only [maxLen]; omega) | assumption | (simp [CV.cells]; done) | (simp [CV.cells, maxLen]; omega)) ?_
    refine hK' _ _ ?_
    clear hK' K'
    refine hlex_step (g := none) rfl rfl fun K' hK' => ?_
    simp (maxSteps := 4000000) only [hop1, hgd, List.getElem_toArray, List.getElem_cons_zero, List.getElem_cons_succ, ↓sP, sA, tyS, Nat.reducePow, Nat.reduceLeDiff, reduceCtorEq, Nat.reduceEqDiff, ↓reduceIte, Nat.reduceAdd, Nat.reduceMul, Nat.reduceSub, Nat.reduceLT, tp]
    repeat refine And.intro (by first | omega | (simp only [maxLen]; omega) | assumption | (simp [CV.cells]; done) | (simp [CV.cells, maxLen]; omega)) ?_
    refine hK' _ _ ?_
    clear hK' K'
    refine hlex_step (g := none) rfl rfl fun K' hK' => ?_
    simp (maxSteps := 4000000) only [hop1, hgd, List.getElem_toArray, List.getElem_cons_zero, List.getElem_cons_succ, ↓sP, sA, tyS, Nat.reducePow, Nat.reduceLeDiff, reduceCtorEq, Nat.reduceEqDiff, ↓reduceIte, Nat.reduceAdd, Nat.reduceMul, Nat.reduceSub, Nat.reduceLT, tp]
    repeat refine And.intro (by first | omega | (simp only [maxLen]; omega) | assumption | (simp [CV.cells]; done) | (simp [CV.cells, maxLen]; omega)) ?_
    refine hK' _ _ ?_
    clear hK' K'
    refine hlex_step (g := none) rfl rfl fun K' hK' => ?_
    simp (maxSteps := 4000000) only [hop1, hgd, List.getElem_toArray, List.getElem_cons_zero, List.getElem_cons_succ, ↓sP, sA, tyS, Nat.reducePow, Nat.reduceLeDiff, reduceCtorEq, Nat.reduceEqDiff, ↓reduceIte, Nat.reduceAdd, Nat.reduceMul, Nat.reduceSub, Nat.reduceLT, tp]
    repeat refine And.intro (by first | omega | (simp only [maxLen]; omega) | assumption | (simp [CV.cells]; done) | (simp [CV.cells, maxLen]; omega)) ?_
    refine hK' _ _ ?_
    clear hK' K'
    refine hlex_step (g := none) rfl rfl fun K' hK' => ?_
    simp (maxSteps := 4000000) only [hop1, hgd, List.getElem_toArray, List.getElem_cons_zero, List.getElem_cons_succ, ↓sP, sA, tyS, Nat.reducePow, Nat.reduceLeDiff, reduceCtorEq, Nat.reduceEqDiff, ↓reduceIte, Nat.reduceAdd, Nat.reduceMul, Nat.reduceSub, Nat.reduceLT, tp]
    repeat refine And.intro (by first | omega | (simp only [maxLen]; omega) | assumption | (simp [CV.cells]; done) | (simp [CV.cells, maxLen]; omega)) ?_
    refine hK' _ _ ?_
    clear hK' K'
    refine hlex_step (g := none) rfl rfl fun K' hK' => ?_
    simp (maxSteps := 4000000) only [hop1, hgd, List.getElem_toArray, List.getElem_cons_zero, List.getElem_cons_succ, ↓sP, sA, tyS, Nat.reducePow, Nat.reduceLeDiff, reduceCtorEq, Nat.reduceEqDiff, ↓reduceIte, Nat.reduceAdd, Nat.reduceMul, Nat.reduceSub, Nat.reduceLT, tp]
    repeat refine And.intro (by first | omega | (simp only [maxLen]; omega) | assumption | (simp [CV.cells]; done) | (simp [CV.cells, maxLen]; omega)) ?_
    refine hK' _ _ ?_
    clear hK' K'
    refine hlex_step (g := none) rfl rfl fun K' hK' => ?_
    simp (maxSteps := 4000000) only [hop1, hgd, List.getElem_toArray, List.getElem_cons_zero, List.getElem_cons_succ, ↓sP, sA, tyS, Nat.reducePow, Nat.reduceLeDiff, reduceCtorEq, Nat.reduceEqDiff, ↓reduceIte, Nat.reduceAdd, Nat.reduceMul, Nat.reduceSub, Nat.reduceLT, tp]
    repeat refine And.intro (by first | omega | (simp only [maxLen]; omega) | assumption | (simp [CV.cells]; done) | (simp [CV.cells, maxLen]; omega)) ?_
    refine hK' _ _ ?_
    clear hK' K'
    refine hlex_step (g := none) rfl rfl fun K' hK' => ?_
    simp (maxSteps := 4000000) only [hop1, hgd, List.getElem_toArray, List.getElem_cons_zero, List.getElem_cons_succ, ↓sP, sA, tyS, Nat.reducePow, Nat.reduceLeDiff, reduceCtorEq, Nat.reduceEqDiff, ↓reduceIte, Nat.reduceAdd, Nat.reduceMul, Nat.reduceSub, Nat.reduceLT, tp]
    repeat refine And.intro (by first | omega | (simp only [maxLen]; omega) | assumption | (simp [CV.cells]; done) | (simp [CV.cells, maxLen]; omega)) ?_
    refine hK' _ _ ?_
    clear hK' K'
    refine hlex_step (g := none) rfl rfl fun K' hK' => ?_
    simp (maxSteps := 4000000) only [hop1, hgd, List.getElem_toArray, List.getElem_cons_zero, List.getElem_cons_succ, ↓sP, sA, tyS, Nat.reducePow, Nat.reduceLeDiff, reduceCtorEq, Nat.reduceEqDiff, ↓reduceIte, Nat.reduceAdd, Nat.reduceMul, Nat.reduceSub, Nat.reduceLT, tp]
    repeat refine And.intro (by first | omega | (simp only [maxLen]; omega) | assumption | (simp [CV.cells]; done) | (simp [CV.cells, maxLen]; omega)) ?_
    refine hK' _ _ ?_
    clear hK' K'
    simp only [hlex, hwalk2, hthen, hblk, ↓reduceIte, reduceCtorEq, Nat.reduceEqDiff, List.size_toArray, List.length_cons, List.length_nil, Nat.reduceAdd, Nat.reduceMul, Nat.zero_add]
    repeat refine And.intro (by first | omega | (simp only [maxLen]; omega) | assumption | (simp [CV.cells]; done) | (simp [CV.cells, maxLen]; omega)) ?_
    refine hK _ _ _ ?_
    clear hK K
    refine hw_cond (b := decide ((a : Int) < L.length)) rfl (fun hb => ?_) (fun hb => ?_)
    · refine hw_quiet mixed (by kernel_rfl) (by kernel_rfl) (by kernel_rfl) ?_
      simp only [List.range, List.range.loop, List.size_toArray, List.length_cons, List.length_nil, Nat.reduceAdd, Nat.reduceMul, Nat.zero_add, Nat.add_zero]
      refine hlex_step (g := none) rfl rfl fun K' hK' => ?_
      simp (maxSteps := 4000000) only [hop1, hgd, List.getElem_toArray, List.getElem_cons_zero, List.getElem_cons_succ, ↓sP, sA, tyS, Nat.reducePow, Nat.reduceLeDiff, reduceCtorEq, Nat.reduceEqDiff, ↓reduceIte, Nat.reduceAdd, Nat.reduceMul, Nat.reduceSub, Nat.reduceLT, tp, Int.natCast_nonneg, (by simpa using hb : (a : Int) < L.length), nth_map (show a < L.length by simpa using hb)]
      repeat refine And.intro (by first | omega | (simp only [maxLen]; omega) | assumption | (simp [CV.cells]; done) | (simp [CV.cells, maxLen]; omega)) ?_
      refine hK' _ _ ?_
      clear hK' K'
      refine hlex_step (g := none) rfl rfl fun K' hK' => ?_
      simp (maxSteps := 4000000) only [hop1, hgd, List.getElem_toArray, List.getElem_cons_zero, List.getElem_cons_succ, ↓sP, sA, tyS, Nat.reducePow, Nat.reduceLeDiff, reduceCtorEq, Nat.reduceEqDiff, ↓reduceIte, Nat.reduceAdd, Nat.reduceMul, Nat.reduceSub, Nat.reduceLT, tp, Int.natCast_nonneg, (by simpa using hb : (a : Int) < L.length), nth_map (show a < L.length by simpa using hb)]
      repeat refine And.intro (by first | omega | (simp only [maxLen]; omega) | assumption | (simp [CV.cells]; done) | (simp [CV.cells, maxLen]; omega)) ?_
      refine hK' _ _ ?_
      clear hK' K'
      refine hlex_step (g := none) rfl rfl fun K' hK' => ?_
      simp (maxSteps := 4000000) only [hop1, hgd, List.getElem_toArray, List.getElem_cons_zero, List.getElem_cons_succ, ↓sP, sA, tyS, Nat.reducePow, Nat.reduceLeDiff, reduceCtorEq, Nat.reduceEqDiff, ↓reduceIte, Nat.reduceAdd, Nat.reduceMul, Nat.reduceSub, Nat.reduceLT, tp, Int.natCast_nonneg, (by simpa using hb : (a : Int) < L.length), nth_map (show a < L.length by simpa using hb)]
      repeat refine And.intro (by first | omega | (simp only [maxLen]; omega) | assumption | (simp [CV.cells]; done) | (simp [CV.cells, maxLen]; omega)) ?_
      refine hK' _ _ ?_
      clear hK' K'
      refine hlex_step (g := none) rfl rfl fun K' hK' => ?_
      simp (maxSteps := 4000000) only [hop1, hgd, List.getElem_toArray, List.getElem_cons_zero, List.getElem_cons_succ, ↓sP, sA, tyS, Nat.reducePow, Nat.reduceLeDiff, reduceCtorEq, Nat.reduceEqDiff, ↓reduceIte, Nat.reduceAdd, Nat.reduceMul, Nat.reduceSub, Nat.reduceLT, tp, Int.natCast_nonneg, (by simpa using hb : (a : Int) < L.length), nth_map (show a < L.length by simpa using hb)]
      repeat refine And.intro (by first | omega | (simp only [maxLen]; omega) | assumption | (simp [CV.cells]; done) | (simp [CV.cells, maxLen]; omega)) ?_
      refine hK' _ _ ?_
      clear hK' K'
      refine hlex_step (g := none) rfl rfl fun K' hK' => ?_
      simp (maxSteps := 4000000) only [hop1, hgd, List.getElem_toArray, List.getElem_cons_zero, List.getElem_cons_succ, ↓sP, sA, tyS, Nat.reducePow, Nat.reduceLeDiff, reduceCtorEq, Nat.reduceEqDiff, ↓reduceIte, Nat.reduceAdd, Nat.reduceMul, Nat.reduceSub, Nat.reduceLT, tp, Int.natCast_nonneg, (by simpa using hb : (a : Int) < L.length), nth_map (show a < L.length by simpa using hb)]
      repeat refine And.intro (by first | omega | (simp only [maxLen]; omega) | assumption | (simp [CV.cells]; done) | (simp [CV.cells, maxLen]; omega)) ?_
      refine hK' _ _ ?_
      clear hK' K'
      refine hlex_step (g := none) rfl rfl fun K' hK' => ?_
      simp (maxSteps := 4000000) only [hop1, hgd, List.getElem_toArray, List.getElem_cons_zero, List.getElem_cons_succ, ↓sP, sA, tyS, Nat.reducePow, Nat.reduceLeDiff, reduceCtorEq, Nat.reduceEqDiff, ↓reduceIte, Nat.reduceAdd, Nat.reduceMul, Nat.reduceSub, Nat.reduceLT, tp, Int.natCast_nonneg, (by simpa using hb : (a : Int) < L.length), nth_map (show a < L.length by simpa using hb)]
      repeat refine And.intro (by first | omega | (simp only [maxLen]; omega) | assumption | (simp [CV.cells]; done) | (simp [CV.cells, maxLen]; omega)) ?_
      refine hK' _ _ ?_
      clear hK' K'
      refine hlex_step (g := none) rfl rfl fun K' hK' => ?_
      simp (maxSteps := 4000000) only [hop1, hgd, List.getElem_toArray, List.getElem_cons_zero, List.getElem_cons_succ, ↓sP, sA, tyS, Nat.reducePow, Nat.reduceLeDiff, reduceCtorEq, Nat.reduceEqDiff, ↓reduceIte, Nat.reduceAdd, Nat.reduceMul, Nat.reduceSub, Nat.reduceLT, tp, Int.natCast_nonneg, (by simpa using hb : (a : Int) < L.length), nth_map (show a < L.length by simpa using hb)]
      repeat refine And.intro (by first | omega | (simp only [maxLen]; omega) | assumption | (simp [CV.cells]; done) | (simp [CV.cells, maxLen]; omega)) ?_
      refine hK' _ _ ?_
      clear hK' K'
      refine hlex_step (g := none) rfl rfl fun K' hK' => ?_
      simp (maxSteps := 4000000) only [hop1, hgd, List.getElem_toArray, List.getElem_cons_zero, List.getElem_cons_succ, ↓sP, sA, tyS, Nat.reducePow, Nat.reduceLeDiff, reduceCtorEq, Nat.reduceEqDiff, ↓reduceIte, Nat.reduceAdd, Nat.reduceMul, Nat.reduceSub, Nat.reduceLT, tp, Int.natCast_nonneg, (by simpa using hb : (a : Int) < L.length), nth_map (show a < L.length by simpa using hb)]
      repeat refine And.intro (by first | omega | (simp only [maxLen]; omega) | assumption | (simp [CV.cells]; done) | (simp [CV.cells, maxLen]; omega)) ?_
      refine hK' _ _ ?_
      clear hK' K'
      refine hlex_step (g := none) rfl rfl fun K' hK' => ?_
      simp (maxSteps := 4000000) only [hop1, hgd, List.getElem_toArray, List.getElem_cons_zero, List.getElem_cons_succ, ↓sP, sA, tyS, Nat.reducePow, Nat.reduceLeDiff, reduceCtorEq, Nat.reduceEqDiff, ↓reduceIte, Nat.reduceAdd, Nat.reduceMul, Nat.reduceSub, Nat.reduceLT, tp, Int.natCast_nonneg, (by simpa using hb : (a : Int) < L.length), nth_map (show a < L.length by simpa using hb)]
      repeat refine And.intro (by first | omega | (simp only [maxLen]; omega) | assumption | (simp [CV.cells]; done) | (simp [CV.cells, maxLen]; omega)) ?_
      refine hK' _ _ ?_
      clear hK' K'
      refine hlex_step (g := none) rfl rfl fun K' hK' => ?_
      simp (maxSteps := 4000000) only [hop1, hgd, List.getElem_toArray, List.getElem_cons_zero, List.getElem_cons_succ, ↓sP, sA, tyS, Nat.reducePow, Nat.reduceLeDiff, reduceCtorEq, Nat.reduceEqDiff, ↓reduceIte, Nat.reduceAdd, Nat.reduceMul, Nat.reduceSub, Nat.reduceLT, tp, Int.natCast_nonneg, (by simpa using hb : (a : Int) < L.length), nth_map (show a < L.length by simpa using hb)]
      repeat refine And.intro (by first | omega | (simp only [maxLen]; omega) | assumption | (simp [CV.cells]; done) | (simp [CV.cells, maxLen]; omega)) ?_
      refine hK' _ _ ?_
      clear hK' K'
      refine hlex_step (g := none) rfl rfl fun K' hK' => ?_
      simp (maxSteps := 4000000) only [hop1, hgd, List.getElem_toArray, List.getElem_cons_zero, List.getElem_cons_succ, ↓sP, sA, tyS, Nat.reducePow, Nat.reduceLeDiff, reduceCtorEq, Nat.reduceEqDiff, ↓reduceIte, Nat.reduceAdd, Nat.reduceMul, Nat.reduceSub, Nat.reduceLT, tp, Int.natCast_nonneg, (by simpa using hb : (a : Int) < L.length), nth_map (show a < L.length by simpa using hb)]
      repeat refine And.intro (by first | omega | (simp only [maxLen]; omega) | assumption | (simp [CV.cells]; done) | (simp [CV.cells, maxLen]; omega)) ?_
      refine hK' _ _ ?_
      clear hK' K'
      simp only [hlex, hwalk2, hthen, hblk, ↓reduceIte, reduceCtorEq, Nat.reduceEqDiff, List.size_toArray, List.length_cons, List.length_nil, Nat.reduceAdd, Nat.reduceMul, Nat.zero_add]
      exact key (L[a]'(by simpa using hb)) _ _ _ (fits_fin (by omega) (by simp [FinOk, fin_at, finA_at, upd_at, HV.men, HV.menL, HV.norm, HV.toC, HV.toCL]) (by simp [FobOk, fob_at, upd_at, none0_at, HO.men, HV.men, HV.menL, HV.norm, HV.toC, HV.toCL]))
    · refine hw_skip ?_
      simp (maxSteps := 4000000) only [↓sP, sA, tyS, Nat.reducePow, Nat.reduceLeDiff, reduceCtorEq, Nat.reduceEqDiff, ↓reduceIte, Nat.reduceAdd, Nat.reduceMul, Nat.reduceSub, Nat.reduceLT]
      exact key (IntKind.i64.wrap (IntKind.i64.wrap (↑a * 7) + 3)) _ _ _ (fits_fin (by omega) (by simp [FinOk, fin_at, finA_at, upd_at, HV.men, HV.menL, HV.norm, HV.toC, HV.toCL]) (by simp [FobOk, fob_at, upd_at, none0_at, HO.men, HV.men, HV.menL, HV.norm, HV.toC, HV.toCL]))


theorem pick_ok (L : List Int) (a : Nat) (l : List Word) (ha : a < 2 ^ 40) (hl : 1 ≤ l.length ∧ l.length < 2 ^ 40) : HBox Try.prog 18 39 (tp L a) [.slc (l.map .str)] (fun u v' => ∃ (w : Word) (a' : Nat), u = .str w ∧ w ∈ l ∧ v' = tp L a' ∧ a' ≤ a + 1) := by
  refine hfn_walk Try.func18 rfl (by kernel_rfl) (locOk_box _ _ _) (Nat.le_of_ble_eq_true rfl) ?_
  refine hw_seq fun K hK => hw_region (by kernel_rfl) ?_
  simp (maxSteps := 4000000) only [↓sP, sA, tyS, Nat.reducePow, Nat.reduceLeDiff, reduceCtorEq, Nat.reduceEqDiff, ↓reduceIte, Nat.reduceAdd, Nat.reduceMul, Nat.reduceSub, Nat.reduceLT]
  repeat refine And.intro (by first | omega | (simp only [maxLen]; omega) | assumption | (simp [CV.cells]; done) | (simp [CV.cells, maxLen]; omega)) ?_
  refine hK _ _ _ ?_
  clear hK K
  refine hw_seq fun K hK => hw_region (by kernel_rfl) ?_
  simp (maxSteps := 4000000) only [↓sP, sA, tyS, Nat.reducePow, Nat.reduceLeDiff, reduceCtorEq, Nat.reduceEqDiff, ↓reduceIte, Nat.reduceAdd, Nat.reduceMul, Nat.reduceSub, Nat.reduceLT]
  refine call_box (args := [_]) (next_ok L a l.length ha (by omega)) rfl (by simp) ⟨rfl, rfl, rfl, rfl⟩ ?_
  rintro u v' ⟨x, a', rfl, rfl, h1, h2, h3, h4⟩
  obtain ⟨i, rfl⟩ : ∃ i : Nat, x = i := ⟨x.toNat, by omega⟩
  have hlt : i < l.length := by omega
  simp only [↓sP, sA, tyS, Nat.reducePow, Nat.reduceLeDiff, reduceCtorEq, Nat.reduceEqDiff, ↓reduceIte, Nat.reduceAdd, Nat.reduceMul, Nat.reduceSub, Nat.reduceLT, Int.natCast_nonneg, Int.ofNat_lt, hlt, nth_map hlt]
  repeat refine And.intro (by first | omega | (simp only [maxLen]; omega) | assumption | (simp [CV.cells]; done) | (simp [CV.cells, maxLen]; omega)) ?_
  refine hK _ _ _ ?_
  clear hK K
  refine hw_ret ?_
  simp (maxSteps := 4000000) only [hpost, Try.results18, hresL, hres1, tupOf, ↓sP, sA, tyS, Nat.reducePow, Nat.reduceLeDiff, reduceCtorEq, Nat.reduceEqDiff, ↓reduceIte, Nat.reduceAdd, Nat.reduceMul, Nat.reduceSub, Nat.reduceLT]
  exact hret_box [] (.str l[i]) (tp L a') rfl rfl (by simp [HV.close, HV.closeL, tp, CV.denil, CV.denilL, denilL_int, HV.norm, HV.toC, HV.toCL]) (by simp) ⟨_, a', rfl, List.getElem_mem _, rfl, h1⟩


theorem sum_ok (L : List Int) (a : Nat) (ha : a < 2 ^ 40) : HBox Try.prog 36 39 (tp L a) [] (fun u v' => ∃ (b : UInt8) (a' : Nat), u = dg (dg1 b) ∧ v' = tp L a' ∧ a' ≤ a + 1) := by
  refine hfn_walk Try.func36 rfl (by kernel_rfl) (locOk_box _ _ _) (Nat.le_of_ble_eq_true rfl) ?_
  refine hw_seq fun K hK => hw_region (by kernel_rfl) ?_
  simp (maxSteps := 4000000) only [↓sP, sA, tyS, Nat.reducePow, Nat.reduceLeDiff, reduceCtorEq, Nat.reduceEqDiff, ↓reduceIte, Nat.reduceAdd, Nat.reduceMul, Nat.reduceSub, Nat.reduceLT]
  repeat refine And.intro (by first | omega | (simp only [maxLen]; omega) | assumption | (simp [CV.cells]; done) | (simp [CV.cells, maxLen]; omega)) ?_
  refine hK _ _ _ ?_
  clear hK K
  refine hw_seq fun K hK => hw_region (by kernel_rfl) ?_
  simp (maxSteps := 4000000) only [↓sP, sA, tyS, Nat.reducePow, Nat.reduceLeDiff, reduceCtorEq, Nat.reduceEqDiff, ↓reduceIte, Nat.reduceAdd, Nat.reduceMul, Nat.reduceSub, Nat.reduceLT]
  refine call_box (args := [_]) (next_ok L a 6 ha (by omega)) rfl (by simp) ⟨rfl, rfl, rfl, rfl⟩ ?_
  rintro u v' ⟨x, a', rfl, rfl, h1, h2, h3, h4⟩
  have e1 : IntKind.i64.wrap (1 + x) = 1 + x := IntWalk.i64_in _ (by omega)
  have e2 : IntKind.u8.wrap (1 + x) = 1 + x := IntWalk.u8_in _ (by omega)
  simp only [↓sP, sA, tyS, Nat.reducePow, Nat.reduceLeDiff, reduceCtorEq, Nat.reduceEqDiff, ↓reduceIte, Nat.reduceAdd, Nat.reduceMul, Nat.reduceSub, Nat.reduceLT, e1, e2]
  repeat refine And.intro (by first | omega | (simp only [maxLen]; omega) | assumption | (simp [CV.cells]; done) | (simp [CV.cells, maxLen]; omega)) ?_
  refine hK _ _ _ ?_
  clear hK K
  refine hw_ret ?_
  simp (maxSteps := 4000000) only [hpost, Try.results36, hresL, hres1, tupOf, ↓sP, sA, tyS, Nat.reducePow, Nat.reduceLeDiff, reduceCtorEq, Nat.reduceEqDiff, ↓reduceIte, Nat.reduceAdd, Nat.reduceMul, Nat.reduceSub, Nat.reduceLT]
  refine hret_box [] (dgi .u8 (1 + x)) (tp L a') rfl rfl (by simp [HV.close, HV.closeL, tp, CV.denil, CV.denilL, denilL_int, HV.norm, HV.toC, HV.toCL]) (by simp) ⟨_, a', dgi_ofInt (by omega) (by omega), rfl, h1⟩

end Go.Proofs.Ytbmeabkgdpfpbaa
