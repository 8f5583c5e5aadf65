/- Part of a proof: walks of functions of the program, by contracts. By an AI agent. -/
import Derived.Test.YtbmeabkgdpfpbaaHlT7
import Derived.Test.YtbmeabkgdpfpbaaHlSb
set_option linter.unusedSimpArgs false
set_option linter.unusedVariables false
namespace Go.Proofs.Ytbmeabkgdpfpbaa
open Go Go.Hl Go.Pl
set_option maxRecDepth 10000
set_option maxHeartbeats 2000000
set_option linter.unusedSimpArgs false
set_option linter.unusedVariables false

theorem same18_ok (s : Int) (a b c a' b' c' : List Word) (ha : a.length < 2 ^ 60) (hb : b.length < 2 ^ 60) (hc : c.length < 2 ^ 60) : HPure Try.prog 11 [rb s a b c, rb s a' b' c'] (fun v => v = .bool (a == a' && (b == b' && c == c'))) := by
  refine hfn_walk Try.func11 rfl (by kernel_rfl) (locOk_nil _) (Nat.le_of_ble_eq_true rfl) ?_
  refine hw_seq fun K hK => hw_region (by kernel_rfl) ?_
  simp (maxSteps := 4000000) only [↓sP, sA, tyS, Nat.reducePow, Nat.reduceLeDiff, reduceCtorEq, Nat.reduceEqDiff, ↓reduceIte, Nat.reduceAdd, Nat.reduceMul, Nat.reduceSub, Nat.reduceLT, rb]
  repeat refine And.intro (by first | omega | (simp only [maxLen]; omega) | assumption | (simp [CV.cells]; done) | (simp [CV.cells, maxLen]; omega)) ?_
  refine hK _ _ _ ?_
  clear hK K
  refine hw_seq fun K hK => ?_
  have key : ∀ (v : Bool) fr ob nx, v = (a == a' && (b == b' && c == c')) → Fits 0 fr ob (fin [(4, .c (.bool v))]) (fob []) 500 → K fr ob nx := by
    rintro v fr ob nx rfl hf
    refine hK _ _ _ (hw_fits hf ?_)
    clear hf hK K
    refine hw_ret ?_
    simp (maxSteps := 4000000) only [hpost, Try.results11, hresL, hres1, tupOf, ↓sP, sA, tyS, Nat.reducePow, Nat.reduceLeDiff, reduceCtorEq, Nat.reduceEqDiff, ↓reduceIte, Nat.reduceAdd, Nat.reduceMul, Nat.reduceSub, Nat.reduceLT]
    exact hret_pure [] (.bool (a == a' && (b == b' && c == c'))) rfl rfl
  cases h1 : (a == a')
  · refine hw_region (by kernel_rfl) ?_
    simp only [List.range, List.range.loop, List.size_toArray, List.length_cons, List.length_nil, Nat.reduceAdd, Nat.reduceMul, Nat.zero_add, Nat.add_zero]
    refine hlex_step (g := none) rfl rfl fun K' hK' => ?_
    simp (maxSteps := 4000000) only [hop1, hgd, List.getElem_toArray, List.getElem_cons_zero, List.getElem_cons_succ, ↓sP, sA, tyS, Nat.reducePow, Nat.reduceLeDiff, reduceCtorEq, Nat.reduceEqDiff, ↓reduceIte, Nat.reduceAdd, Nat.reduceMul, Nat.reduceSub, Nat.reduceLT, h1, CV.denil, denilL_str]
    repeat refine And.intro (by first | omega | (simp only [maxLen]; omega) | assumption | (simp [CV.cells]; done) | (simp [CV.cells, maxLen]; omega)) ?_
    refine hK' _ _ ?_
    clear hK' K'
    refine hlex_step (g := none) rfl rfl fun K' hK' => ?_
    simp (maxSteps := 4000000) only [hop1, hgd, List.getElem_toArray, List.getElem_cons_zero, List.getElem_cons_succ, ↓sP, sA, tyS, Nat.reducePow, Nat.reduceLeDiff, reduceCtorEq, Nat.reduceEqDiff, ↓reduceIte, Nat.reduceAdd, Nat.reduceMul, Nat.reduceSub, Nat.reduceLT, h1, CV.denil, denilL_str]
    repeat refine And.intro (by first | omega | (simp only [maxLen]; omega) | assumption | (simp [CV.cells]; done) | (simp [CV.cells, maxLen]; omega)) ?_
    refine hK' _ _ ?_
    clear hK' K'
    refine hlex_step (g := none) rfl rfl fun K' hK' => ?_
    simp (maxSteps := 4000000) only [hop1, hgd, List.getElem_toArray, List.getElem_cons_zero, List.getElem_cons_succ, ↓sP, sA, tyS, Nat.reducePow, Nat.reduceLeDiff, reduceCtorEq, Nat.reduceEqDiff, ↓reduceIte, Nat.reduceAdd, Nat.reduceMul, Nat.reduceSub, Nat.reduceLT, h1, CV.denil, denilL_str]
    repeat refine And.intro (by first | omega | (simp only [maxLen]; omega) | assumption | (simp [CV.cells]; done) | (simp [CV.cells, maxLen]; omega)) ?_
    refine hK' _ _ ?_
    clear hK' K'
    refine hlex_step (g := none) rfl rfl fun K' hK' => ?_
    simp (maxSteps := 4000000) only [hop1, hgd, List.getElem_toArray, List.getElem_cons_zero, List.getElem_cons_succ, ↓sP, sA, tyS, Nat.reducePow, Nat.reduceLeDiff, reduceCtorEq, Nat.reduceEqDiff, ↓reduceIte, Nat.reduceAdd, Nat.reduceMul, Nat.reduceSub, Nat.reduceLT, h1, CV.denil, denilL_str]
    repeat refine And.intro (by first | omega | (simp only [maxLen]; omega) | assumption | (simp [CV.cells]; done) | (simp [CV.cells, maxLen]; omega)) ?_
    refine hK' _ _ ?_
    clear hK' K'
    refine hlex_step (g := none) rfl rfl fun K' hK' => ?_
    simp (maxSteps := 4000000) only [hop1, hgd, List.getElem_toArray, List.getElem_cons_zero, List.getElem_cons_succ, ↓sP, sA, tyS, Nat.reducePow, Nat.reduceLeDiff, reduceCtorEq, Nat.reduceEqDiff, ↓reduceIte, Nat.reduceAdd, Nat.reduceMul, Nat.reduceSub, Nat.reduceLT, h1, CV.denil, denilL_str]
    repeat refine And.intro (by first | omega | (simp only [maxLen]; omega) | assumption | (simp [CV.cells]; done) | (simp [CV.cells, maxLen]; omega)) ?_
    refine hK' _ _ ?_
    clear hK' K'
    refine hlex_step (g := none) rfl rfl fun K' hK' => ?_
    simp (maxSteps := 4000000) only [hop1, hgd, List.getElem_toArray, List.getElem_cons_zero, List.getElem_cons_succ, ↓sP, sA, tyS, Nat.reducePow, Nat.reduceLeDiff, reduceCtorEq, Nat.reduceEqDiff, ↓reduceIte, Nat.reduceAdd, Nat.reduceMul, Nat.reduceSub, Nat.reduceLT, h1, CV.denil, denilL_str]
    repeat refine And.intro (by first | omega | (simp only [maxLen]; omega) | assumption | (simp [CV.cells]; done) | (simp [CV.cells, maxLen]; omega)) ?_
    refine hK' _ _ ?_
    clear hK' K'
    refine hlex_step (g := some (10, true)) rfl rfl fun K' hK' => ?_
    simp (maxSteps := 4000000) only [hop1, hgd, List.getElem_toArray, List.getElem_cons_zero, List.getElem_cons_succ, ↓sP, sA, tyS, Nat.reducePow, Nat.reduceLeDiff, reduceCtorEq, Nat.reduceEqDiff, ↓reduceIte, Nat.reduceAdd, Nat.reduceMul, Nat.reduceSub, Nat.reduceLT, h1, CV.denil, denilL_str]
    repeat refine And.intro (by first | omega | (simp only [maxLen]; omega) | assumption | (simp [CV.cells]; done) | (simp [CV.cells, maxLen]; omega)) ?_
    refine hK' _ _ ?_
    clear hK' K'
    refine hlex_step (g := some (10, true)) rfl rfl fun K' hK' => ?_
    simp (maxSteps := 4000000) only [hop1, hgd, List.getElem_toArray, List.getElem_cons_zero, List.getElem_cons_succ, ↓sP, sA, tyS, Nat.reducePow, Nat.reduceLeDiff, reduceCtorEq, Nat.reduceEqDiff, ↓reduceIte, Nat.reduceAdd, Nat.reduceMul, Nat.reduceSub, Nat.reduceLT, h1, CV.denil, denilL_str]
    repeat refine And.intro (by first | omega | (simp only [maxLen]; omega) | assumption | (simp [CV.cells]; done) | (simp [CV.cells, maxLen]; omega)) ?_
    refine hK' _ _ ?_
    clear hK' K'
    refine hlex_step (g := some (10, true)) rfl rfl fun K' hK' => ?_
    simp (maxSteps := 4000000) only [hop1, hgd, List.getElem_toArray, List.getElem_cons_zero, List.getElem_cons_succ, ↓sP, sA, tyS, Nat.reducePow, Nat.reduceLeDiff, reduceCtorEq, Nat.reduceEqDiff, ↓reduceIte, Nat.reduceAdd, Nat.reduceMul, Nat.reduceSub, Nat.reduceLT, h1, CV.denil, denilL_str]
    repeat refine And.intro (by first | omega | (simp only [maxLen]; omega) | assumption | (simp [CV.cells]; done) | (simp [CV.cells, maxLen]; omega)) ?_
    refine hK' _ _ ?_
    clear hK' K'
    refine hlex_step (g := some (10, true)) rfl rfl fun K' hK' => ?_
    simp (maxSteps := 4000000) only [hop1, hgd, List.getElem_toArray, List.getElem_cons_zero, List.getElem_cons_succ, ↓sP, sA, tyS, Nat.reducePow, Nat.reduceLeDiff, reduceCtorEq, Nat.reduceEqDiff, ↓reduceIte, Nat.reduceAdd, Nat.reduceMul, Nat.reduceSub, Nat.reduceLT, h1, CV.denil, denilL_str]
    repeat refine And.intro (by first | omega | (simp only [maxLen]; omega) | assumption | (simp [CV.cells]; done) | (simp [CV.cells, maxLen]; omega)) ?_
    refine hK' _ _ ?_
    clear hK' K'
    refine hlex_step (g := some (10, true)) rfl rfl fun K' hK' => ?_
    simp (maxSteps := 4000000) only [hop1, hgd, List.getElem_toArray, List.getElem_cons_zero, List.getElem_cons_succ, ↓sP, sA, tyS, Nat.reducePow, Nat.reduceLeDiff, reduceCtorEq, Nat.reduceEqDiff, ↓reduceIte, Nat.reduceAdd, Nat.reduceMul, Nat.reduceSub, Nat.reduceLT, h1, CV.denil, denilL_str]
    refine call_pure (args := [_, _]) (same_ok a a' (by omega)) ⟨rfl, rfl, rfl, rfl⟩ ?_
    rintro v rfl
    repeat refine And.intro (by first | omega | (simp only [maxLen]; omega) | assumption | (simp [CV.cells]; done) | (simp [CV.cells, maxLen]; omega)) ?_
    refine hK' _ _ ?_
    clear hK' K'
    refine hlex_step (g := none) rfl rfl fun K' hK' => ?_
    simp (maxSteps := 4000000) only [hop1, hgd, List.getElem_toArray, List.getElem_cons_zero, List.getElem_cons_succ, ↓sP, sA, tyS, Nat.reducePow, Nat.reduceLeDiff, reduceCtorEq, Nat.reduceEqDiff, ↓reduceIte, Nat.reduceAdd, Nat.reduceMul, Nat.reduceSub, Nat.reduceLT, h1, CV.denil, denilL_str]
    repeat refine And.intro (by first | omega | (simp only [maxLen]; omega) | assumption | (simp [CV.cells]; done) | (simp [CV.cells, maxLen]; omega)) ?_
    refine hK' _ _ ?_
    clear hK' K'
    refine hlex_step (g := none) rfl rfl fun K' hK' => ?_
    simp (maxSteps := 4000000) only [hop1, hgd, List.getElem_toArray, List.getElem_cons_zero, List.getElem_cons_succ, ↓sP, sA, tyS, Nat.reducePow, Nat.reduceLeDiff, reduceCtorEq, Nat.reduceEqDiff, ↓reduceIte, Nat.reduceAdd, Nat.reduceMul, Nat.reduceSub, Nat.reduceLT, h1, CV.denil, denilL_str]
    repeat refine And.intro (by first | omega | (simp only [maxLen]; omega) | assumption | (simp [CV.cells]; done) | (simp [CV.cells, maxLen]; omega)) ?_
    refine hK' _ _ ?_
    clear hK' K'
    refine hlex_step (g := some (17, true)) rfl rfl fun K' hK' => ?_
    simp (maxSteps := 4000000) only [hop1, hgd, List.getElem_toArray, List.getElem_cons_zero, List.getElem_cons_succ, ↓sP, sA, tyS, Nat.reducePow, Nat.reduceLeDiff, reduceCtorEq, Nat.reduceEqDiff, ↓reduceIte, Nat.reduceAdd, Nat.reduceMul, Nat.reduceSub, Nat.reduceLT, h1, CV.denil, denilL_str]
    repeat refine And.intro (by first | omega | (simp only [maxLen]; omega) | assumption | (simp [CV.cells]; done) | (simp [CV.cells, maxLen]; omega)) ?_
    refine hK' _ _ ?_
    clear hK' K'
    refine hlex_step (g := some (17, true)) rfl rfl fun K' hK' => ?_
    simp (maxSteps := 4000000) only [hop1, hgd, List.getElem_toArray, List.getElem_cons_zero, List.getElem_cons_succ, ↓sP, sA, tyS, Nat.reducePow, Nat.reduceLeDiff, reduceCtorEq, Nat.reduceEqDiff, ↓reduceIte, Nat.reduceAdd, Nat.reduceMul, Nat.reduceSub, Nat.reduceLT, h1, CV.denil, denilL_str]
    repeat refine And.intro (by first | omega | (simp only [maxLen]; omega) | assumption | (simp [CV.cells]; done) | (simp [CV.cells, maxLen]; omega)) ?_
    refine hK' _ _ ?_
    clear hK' K'
    refine hlex_step (g := some (17, true)) rfl rfl fun K' hK' => ?_
    simp (maxSteps := 4000000) only [hop1, hgd, List.getElem_toArray, List.getElem_cons_zero, List.getElem_cons_succ, ↓sP, sA, tyS, Nat.reducePow, Nat.reduceLeDiff, reduceCtorEq, Nat.reduceEqDiff, ↓reduceIte, Nat.reduceAdd, Nat.reduceMul, Nat.reduceSub, Nat.reduceLT, h1, CV.denil, denilL_str]
    repeat refine And.intro (by first | omega | (simp only [maxLen]; omega) | assumption | (simp [CV.cells]; done) | (simp [CV.cells, maxLen]; omega)) ?_
    refine hK' _ _ ?_
    clear hK' K'
    refine hlex_step (g := some (17, true)) rfl rfl fun K' hK' => ?_
    simp (maxSteps := 4000000) only [hop1, hgd, List.getElem_toArray, List.getElem_cons_zero, List.getElem_cons_succ, ↓sP, sA, tyS, Nat.reducePow, Nat.reduceLeDiff, reduceCtorEq, Nat.reduceEqDiff, ↓reduceIte, Nat.reduceAdd, Nat.reduceMul, Nat.reduceSub, Nat.reduceLT, h1, CV.denil, denilL_str]
    repeat refine And.intro (by first | omega | (simp only [maxLen]; omega) | assumption | (simp [CV.cells]; done) | (simp [CV.cells, maxLen]; omega)) ?_
    refine hK' _ _ ?_
    clear hK' K'
    refine hlex_step (g := some (17, true)) rfl rfl fun K' hK' => ?_
    simp (maxSteps := 4000000) only [hop1, hgd, List.getElem_toArray, List.getElem_cons_zero, List.getElem_cons_succ, ↓sP, sA, tyS, Nat.reducePow, Nat.reduceLeDiff, reduceCtorEq, Nat.reduceEqDiff, ↓reduceIte, Nat.reduceAdd, Nat.reduceMul, Nat.reduceSub, Nat.reduceLT, h1, CV.denil, denilL_str]
    repeat refine And.intro (by first | omega | (simp only [maxLen]; omega) | assumption | (simp [CV.cells]; done) | (simp [CV.cells, maxLen]; omega)) ?_
    refine hK' _ _ ?_
    clear hK' K'
    refine hlex_step (g := none) rfl rfl fun K' hK' => ?_
    simp (maxSteps := 4000000) only [hop1, hgd, List.getElem_toArray, List.getElem_cons_zero, List.getElem_cons_succ, ↓sP, sA, tyS, Nat.reducePow, Nat.reduceLeDiff, reduceCtorEq, Nat.reduceEqDiff, ↓reduceIte, Nat.reduceAdd, Nat.reduceMul, Nat.reduceSub, Nat.reduceLT, h1, CV.denil, denilL_str]
    repeat refine And.intro (by first | omega | (simp only [maxLen]; omega) | assumption | (simp [CV.cells]; done) | (simp [CV.cells, maxLen]; omega)) ?_
    refine hK' _ _ ?_
    clear hK' K'
    refine hlex_step (g := none) rfl rfl fun K' hK' => ?_
    simp (maxSteps := 4000000) only [hop1, hgd, List.getElem_toArray, List.getElem_cons_zero, List.getElem_cons_succ, ↓sP, sA, tyS, Nat.reducePow, Nat.reduceLeDiff, reduceCtorEq, Nat.reduceEqDiff, ↓reduceIte, Nat.reduceAdd, Nat.reduceMul, Nat.reduceSub, Nat.reduceLT, h1, CV.denil, denilL_str]
    repeat refine And.intro (by first | omega | (simp only [maxLen]; omega) | assumption | (simp [CV.cells]; done) | (simp [CV.cells, maxLen]; omega)) ?_
    refine hK' _ _ ?_
    clear hK' K'
    refine hlex_step (g := some (24, true)) rfl rfl fun K' hK' => ?_
    simp (maxSteps := 4000000) only [hop1, hgd, List.getElem_toArray, List.getElem_cons_zero, List.getElem_cons_succ, ↓sP, sA, tyS, Nat.reducePow, Nat.reduceLeDiff, reduceCtorEq, Nat.reduceEqDiff, ↓reduceIte, Nat.reduceAdd, Nat.reduceMul, Nat.reduceSub, Nat.reduceLT, h1, CV.denil, denilL_str]
    repeat refine And.intro (by first | omega | (simp only [maxLen]; omega) | assumption | (simp [CV.cells]; done) | (simp [CV.cells, maxLen]; omega)) ?_
    refine hK' _ _ ?_
    clear hK' K'
    refine hlex_step (g := some (24, true)) rfl rfl fun K' hK' => ?_
    simp (maxSteps := 4000000) only [hop1, hgd, List.getElem_toArray, List.getElem_cons_zero, List.getElem_cons_succ, ↓sP, sA, tyS, Nat.reducePow, Nat.reduceLeDiff, reduceCtorEq, Nat.reduceEqDiff, ↓reduceIte, Nat.reduceAdd, Nat.reduceMul, Nat.reduceSub, Nat.reduceLT, h1, CV.denil, denilL_str]
    repeat refine And.intro (by first | omega | (simp only [maxLen]; omega) | assumption | (simp [CV.cells]; done) | (simp [CV.cells, maxLen]; omega)) ?_
    refine hK' _ _ ?_
    clear hK' K'
    refine hlex_step (g := some (24, true)) rfl rfl fun K' hK' => ?_
    simp (maxSteps := 4000000) only [hop1, hgd, List.getElem_toArray, List.getElem_cons_zero, List.getElem_cons_succ, ↓sP, sA, tyS, Nat.reducePow, Nat.reduceLeDiff, reduceCtorEq, Nat.reduceEqDiff, ↓reduceIte, Nat.reduceAdd, Nat.reduceMul, Nat.reduceSub, Nat.reduceLT, h1, CV.denil, denilL_str]
    repeat refine And.intro (by first | omega | (simp only [maxLen]; omega) | assumption | (simp [CV.cells]; done) | (simp [CV.cells, maxLen]; omega)) ?_
    refine hK' _ _ ?_
    clear hK' K'
    refine hlex_step (g := some (24, true)) rfl rfl fun K' hK' => ?_
    simp (maxSteps := 4000000) only [hop1, hgd, List.getElem_toArray, List.getElem_cons_zero, List.getElem_cons_succ, ↓sP, sA, tyS, Nat.reducePow, Nat.reduceLeDiff, reduceCtorEq, Nat.reduceEqDiff, ↓reduceIte, Nat.reduceAdd, Nat.reduceMul, Nat.reduceSub, Nat.reduceLT, h1, CV.denil, denilL_str]
    repeat refine And.intro (by first | omega | (simp only [maxLen]; omega) | assumption | (simp [CV.cells]; done) | (simp [CV.cells, maxLen]; omega)) ?_
    refine hK' _ _ ?_
    clear hK' K'
    refine hlex_step (g := some (24, true)) rfl rfl fun K' hK' => ?_
    simp (maxSteps := 4000000) only [hop1, hgd, List.getElem_toArray, List.getElem_cons_zero, List.getElem_cons_succ, ↓sP, sA, tyS, Nat.reducePow, Nat.reduceLeDiff, reduceCtorEq, Nat.reduceEqDiff, ↓reduceIte, Nat.reduceAdd, Nat.reduceMul, Nat.reduceSub, Nat.reduceLT, h1, CV.denil, denilL_str]
    repeat refine And.intro (by first | omega | (simp only [maxLen]; omega) | assumption | (simp [CV.cells]; done) | (simp [CV.cells, maxLen]; omega)) ?_
    refine hK' _ _ ?_
    clear hK' K'
    refine hlex_step (g := none) rfl rfl fun K' hK' => ?_
    simp (maxSteps := 4000000) only [hop1, hgd, List.getElem_toArray, List.getElem_cons_zero, List.getElem_cons_succ, ↓sP, sA, tyS, Nat.reducePow, Nat.reduceLeDiff, reduceCtorEq, Nat.reduceEqDiff, ↓reduceIte, Nat.reduceAdd, Nat.reduceMul, Nat.reduceSub, Nat.reduceLT, h1, CV.denil, denilL_str]
    repeat refine And.intro (by first | omega | (simp only [maxLen]; omega) | assumption | (simp [CV.cells]; done) | (simp [CV.cells, maxLen]; omega)) ?_
    refine hK' _ _ ?_
    clear hK' K'
    refine hlex_step (g := none) rfl rfl fun K' hK' => ?_
    simp (maxSteps := 4000000) only [hop1, hgd, List.getElem_toArray, List.getElem_cons_zero, List.getElem_cons_succ, ↓sP, sA, tyS, Nat.reducePow, Nat.reduceLeDiff, reduceCtorEq, Nat.reduceEqDiff, ↓reduceIte, Nat.reduceAdd, Nat.reduceMul, Nat.reduceSub, Nat.reduceLT, h1, CV.denil, denilL_str]
    repeat refine And.intro (by first | omega | (simp only [maxLen]; omega) | assumption | (simp [CV.cells]; done) | (simp [CV.cells, maxLen]; omega)) ?_
    refine hK' _ _ ?_
    clear hK' K'
    simp only [hlex, hwalk2, hthen, hblk, ↓reduceIte, reduceCtorEq, Nat.reduceEqDiff, List.size_toArray, List.length_cons, List.length_nil, Nat.reduceAdd, Nat.reduceMul, Nat.zero_add]
    exact key false _ _ _ (by simp [h1]) (fits_fin (by omega) (by simp [FinOk, fin_at, finA_at, upd_at, HV.men, HV.menL, HV.norm, HV.toC, HV.toCL]) (by simp [FobOk, fob_at, upd_at, none0_at, HO.men, HV.men, HV.menL, HV.norm, HV.toC, HV.toCL]))
  · cases h2 : (b == b')
    · refine hw_region (by kernel_rfl) ?_
      simp only [List.range, List.range.loop, List.size_toArray, List.length_cons, List.length_nil, Nat.reduceAdd, Nat.reduceMul, Nat.zero_add, Nat.add_zero]
      refine hlex_step (g := none) rfl rfl fun K' hK' => ?_
      simp (maxSteps := 4000000) only [hop1, hgd, List.getElem_toArray, List.getElem_cons_zero, List.getElem_cons_succ, ↓sP, sA, tyS, Nat.reducePow, Nat.reduceLeDiff, reduceCtorEq, Nat.reduceEqDiff, ↓reduceIte, Nat.reduceAdd, Nat.reduceMul, Nat.reduceSub, Nat.reduceLT, h1, h2, CV.denil, denilL_str]
      repeat refine And.intro (by first | omega | (simp only [maxLen]; omega) | assumption | (simp [CV.cells]; done) | (simp [CV.cells, maxLen]; omega)) ?_
      refine hK' _ _ ?_
      clear hK' K'
      refine hlex_step (g := none) rfl rfl fun K' hK' => ?_
      simp (maxSteps := 4000000) only [hop1, hgd, List.getElem_toArray, List.getElem_cons_zero, List.getElem_cons_succ, ↓sP, sA, tyS, Nat.reducePow, Nat.reduceLeDiff, reduceCtorEq, Nat.reduceEqDiff, ↓reduceIte, Nat.reduceAdd, Nat.reduceMul, Nat.reduceSub, Nat.reduceLT, h1, h2, CV.denil, denilL_str]
      repeat refine And.intro (by first | omega | (simp only [maxLen]; omega) | assumption | (simp [CV.cells]; done) | (simp [CV.cells, maxLen]; omega)) ?_
      refine hK' _ _ ?_
      clear hK' K'
      refine hlex_step (g := none) rfl rfl fun K' hK' => ?_
      simp (maxSteps := 4000000) only [hop1, hgd, List.getElem_toArray, List.getElem_cons_zero, List.getElem_cons_succ, ↓sP, sA, tyS, Nat.reducePow, Nat.reduceLeDiff, reduceCtorEq, Nat.reduceEqDiff, ↓reduceIte, Nat.reduceAdd, Nat.reduceMul, Nat.reduceSub, Nat.reduceLT, h1, h2, CV.denil, denilL_str]
      repeat refine And.intro (by first | omega | (simp only [maxLen]; omega) | assumption | (simp [CV.cells]; done) | (simp [CV.cells, maxLen]; omega)) ?_
      refine hK' _ _ ?_
      clear hK' K'
      refine hlex_step (g := none) rfl rfl fun K' hK' => ?_
      simp (maxSteps := 4000000) only [hop1, hgd, List.getElem_toArray, List.getElem_cons_zero, List.getElem_cons_succ, ↓sP, sA, tyS, Nat.reducePow, Nat.reduceLeDiff, reduceCtorEq, Nat.reduceEqDiff, ↓reduceIte, Nat.reduceAdd, Nat.reduceMul, Nat.reduceSub, Nat.reduceLT, h1, h2, CV.denil, denilL_str]
      repeat refine And.intro (by first | omega | (simp only [maxLen]; omega) | assumption | (simp [CV.cells]; done) | (simp [CV.cells, maxLen]; omega)) ?_
      refine hK' _ _ ?_
      clear hK' K'
      refine hlex_step (g := none) rfl rfl fun K' hK' => ?_
      simp (maxSteps := 4000000) only [hop1, hgd, List.getElem_toArray, List.getElem_cons_zero, List.getElem_cons_succ, ↓sP, sA, tyS, Nat.reducePow, Nat.reduceLeDiff, reduceCtorEq, Nat.reduceEqDiff, ↓reduceIte, Nat.reduceAdd, Nat.reduceMul, Nat.reduceSub, Nat.reduceLT, h1, h2, CV.denil, denilL_str]
      repeat refine And.intro (by first | omega | (simp only [maxLen]; omega) | assumption | (simp [CV.cells]; done) | (simp [CV.cells, maxLen]; omega)) ?_
      refine hK' _ _ ?_
      clear hK' K'
      refine hlex_step (g := none) rfl rfl fun K' hK' => ?_
      simp (maxSteps := 4000000) only [hop1, hgd, List.getElem_toArray, List.getElem_cons_zero, List.getElem_cons_succ, ↓sP, sA, tyS, Nat.reducePow, Nat.reduceLeDiff, reduceCtorEq, Nat.reduceEqDiff, ↓reduceIte, Nat.reduceAdd, Nat.reduceMul, Nat.reduceSub, Nat.reduceLT, h1, h2, CV.denil, denilL_str]
      repeat refine And.intro (by first | omega | (simp only [maxLen]; omega) | assumption | (simp [CV.cells]; done) | (simp [CV.cells, maxLen]; omega)) ?_
      refine hK' _ _ ?_
      clear hK' K'
      refine hlex_step (g := some (10, true)) rfl rfl fun K' hK' => ?_
      simp (maxSteps := 4000000) only [hop1, hgd, List.getElem_toArray, List.getElem_cons_zero, List.getElem_cons_succ, ↓sP, sA, tyS, Nat.reducePow, Nat.reduceLeDiff, reduceCtorEq, Nat.reduceEqDiff, ↓reduceIte, Nat.reduceAdd, Nat.reduceMul, Nat.reduceSub, Nat.reduceLT, h1, h2, CV.denil, denilL_str]
      repeat refine And.intro (by first | omega | (simp only [maxLen]; omega) | assumption | (simp [CV.cells]; done) | (simp [CV.cells, maxLen]; omega)) ?_
      refine hK' _ _ ?_
      clear hK' K'
      refine hlex_step (g := some (10, true)) rfl rfl fun K' hK' => ?_
      simp (maxSteps := 4000000) only [hop1, hgd, List.getElem_toArray, List.getElem_cons_zero, List.getElem_cons_succ, ↓sP, sA, tyS, Nat.reducePow, Nat.reduceLeDiff, reduceCtorEq, Nat.reduceEqDiff, ↓reduceIte, Nat.reduceAdd, Nat.reduceMul, Nat.reduceSub, Nat.reduceLT, h1, h2, CV.denil, denilL_str]
      repeat refine And.intro (by first | omega | (simp only [maxLen]; omega) | assumption | (simp [CV.cells]; done) | (simp [CV.cells, maxLen]; omega)) ?_
      refine hK' _ _ ?_
      clear hK' K'
      refine hlex_step (g := some (10, true)) rfl rfl fun K' hK' => ?_
      simp (maxSteps := 4000000) only [hop1, hgd, List.getElem_toArray, List.getElem_cons_zero, List.getElem_cons_succ, ↓sP, sA, tyS, Nat.reducePow, Nat.reduceLeDiff, reduceCtorEq, Nat.reduceEqDiff, ↓reduceIte, Nat.reduceAdd, Nat.reduceMul, Nat.reduceSub, Nat.reduceLT, h1, h2, CV.denil, denilL_str]
      repeat refine And.intro (by first | omega | (simp only [maxLen]; omega) | assumption | (simp [CV.cells]; done) | (simp [CV.cells, maxLen]; omega)) ?_
      refine hK' _ _ ?_
      clear hK' K'
      refine hlex_step (g := some (10, true)) rfl rfl fun K' hK' => ?_
      simp (maxSteps := 4000000) only [hop1, hgd, List.getElem_toArray, List.getElem_cons_zero, List.getElem_cons_succ, ↓sP, sA, tyS, Nat.reducePow, Nat.reduceLeDiff, reduceCtorEq, Nat.reduceEqDiff, ↓reduceIte, Nat.reduceAdd, Nat.reduceMul, Nat.reduceSub, Nat.reduceLT, h1, h2, CV.denil, denilL_str]
      repeat refine And.intro (by first | omega | (simp only [maxLen]; omega) | assumption | (simp [CV.cells]; done) | (simp [CV.cells, maxLen]; omega)) ?_
      refine hK' _ _ ?_
      clear hK' K'
      refine hlex_step (g := some (10, true)) rfl rfl fun K' hK' => ?_
      simp (maxSteps := 4000000) only [hop1, hgd, List.getElem_toArray, List.getElem_cons_zero, List.getElem_cons_succ, ↓sP, sA, tyS, Nat.reducePow, Nat.reduceLeDiff, reduceCtorEq, Nat.reduceEqDiff, ↓reduceIte, Nat.reduceAdd, Nat.reduceMul, Nat.reduceSub, Nat.reduceLT, h1, h2, CV.denil, denilL_str]
      refine call_pure (args := [_, _]) (same_ok a a' (by omega)) ⟨rfl, rfl, rfl, rfl⟩ ?_
      rintro v rfl
      repeat refine And.intro (by first | omega | (simp only [maxLen]; omega) | assumption | (simp [CV.cells]; done) | (simp [CV.cells, maxLen]; omega)) ?_
      refine hK' _ _ ?_
      clear hK' K'
      refine hlex_step (g := none) rfl rfl fun K' hK' => ?_
      simp (maxSteps := 4000000) only [hop1, hgd, List.getElem_toArray, List.getElem_cons_zero, List.getElem_cons_succ, ↓sP, sA, tyS, Nat.reducePow, Nat.reduceLeDiff, reduceCtorEq, Nat.reduceEqDiff, ↓reduceIte, Nat.reduceAdd, Nat.reduceMul, Nat.reduceSub, Nat.reduceLT, h1, h2, CV.denil, denilL_str]
      repeat refine And.intro (by first | omega | (simp only [maxLen]; omega) | assumption | (simp [CV.cells]; done) | (simp [CV.cells, maxLen]; omega)) ?_
      refine hK' _ _ ?_
      clear hK' K'
      refine hlex_step (g := none) rfl rfl fun K' hK' => ?_
      simp (maxSteps := 4000000) only [hop1, hgd, List.getElem_toArray, List.getElem_cons_zero, List.getElem_cons_succ, ↓sP, sA, tyS, Nat.reducePow, Nat.reduceLeDiff, reduceCtorEq, Nat.reduceEqDiff, ↓reduceIte, Nat.reduceAdd, Nat.reduceMul, Nat.reduceSub, Nat.reduceLT, h1, h2, CV.denil, denilL_str]
      repeat refine And.intro (by first | omega | (simp only [maxLen]; omega) | assumption | (simp [CV.cells]; done) | (simp [CV.cells, maxLen]; omega)) ?_
      refine hK' _ _ ?_
      clear hK' K'
      refine hlex_step (g := some (17, true)) rfl rfl fun K' hK' => ?_
      simp (maxSteps := 4000000) only [hop1, hgd, List.getElem_toArray, List.getElem_cons_zero, List.getElem_cons_succ, ↓sP, sA, tyS, Nat.reducePow, Nat.reduceLeDiff, reduceCtorEq, Nat.reduceEqDiff, ↓reduceIte, Nat.reduceAdd, Nat.reduceMul, Nat.reduceSub, Nat.reduceLT, h1, h2, CV.denil, denilL_str]
      repeat refine And.intro (by first | omega | (simp only [maxLen]; omega) | assumption | (simp [CV.cells]; done) | (simp [CV.cells, maxLen]; omega)) ?_
      refine hK' _ _ ?_
      clear hK' K'
      refine hlex_step (g := some (17, true)) rfl rfl fun K' hK' => ?_
      simp (maxSteps := 4000000) only [hop1, hgd, List.getElem_toArray, List.getElem_cons_zero, List.getElem_cons_succ, ↓sP, sA, tyS, Nat.reducePow, Nat.reduceLeDiff, reduceCtorEq, Nat.reduceEqDiff, ↓reduceIte, Nat.reduceAdd, Nat.reduceMul, Nat.reduceSub, Nat.reduceLT, h1, h2, CV.denil, denilL_str]
      repeat refine And.intro (by first | omega | (simp only [maxLen]; omega) | assumption | (simp [CV.cells]; done) | (simp [CV.cells, maxLen]; omega)) ?_
      refine hK' _ _ ?_
      clear hK' K'
      refine hlex_step (g := some (17, true)) rfl rfl fun K' hK' => ?_
      simp (maxSteps := 4000000) only [hop1, hgd, List.getElem_toArray, List.getElem_cons_zero, List.getElem_cons_succ, ↓sP, sA, tyS, Nat.reducePow, Nat.reduceLeDiff, reduceCtorEq, Nat.reduceEqDiff, ↓reduceIte, Nat.reduceAdd, Nat.reduceMul, Nat.reduceSub, Nat.reduceLT, h1, h2, CV.denil, denilL_str]
      repeat refine And.intro (by first | omega | (simp only [maxLen]; omega) | assumption | (simp [CV.cells]; done) | (simp [CV.cells, maxLen]; omega)) ?_
      refine hK' _ _ ?_
      clear hK' K'
      refine hlex_step (g := some (17, true)) rfl rfl fun K' hK' => ?_
      simp (maxSteps := 4000000) only [hop1, hgd, List.getElem_toArray, List.getElem_cons_zero, List.getElem_cons_succ, ↓sP, sA, tyS, Nat.reducePow, Nat.reduceLeDiff, reduceCtorEq, Nat.reduceEqDiff, ↓reduceIte, Nat.reduceAdd, Nat.reduceMul, Nat.reduceSub, Nat.reduceLT, h1, h2, CV.denil, denilL_str]
      repeat refine And.intro (by first | omega | (simp only [maxLen]; omega) | assumption | (simp [CV.cells]; done) | (simp [CV.cells, maxLen]; omega)) ?_
      refine hK' _ _ ?_
      clear hK' K'
      refine hlex_step (g := some (17, true)) rfl rfl fun K' hK' => ?_
      simp (maxSteps := 4000000) only [hop1, hgd, List.getElem_toArray, List.getElem_cons_zero, List.getElem_cons_succ, ↓sP, sA, tyS, Nat.reducePow, Nat.reduceLeDiff, reduceCtorEq, Nat.reduceEqDiff, ↓reduceIte, Nat.reduceAdd, Nat.reduceMul, Nat.reduceSub, Nat.reduceLT, h1, h2, CV.denil, denilL_str]
      refine call_pure (args := [_, _]) (same_ok b b' (by omega)) ⟨rfl, rfl, rfl, rfl⟩ ?_
      rintro v rfl
      repeat refine And.intro (by first | omega | (simp only [maxLen]; omega) | assumption | (simp [CV.cells]; done) | (simp [CV.cells, maxLen]; omega)) ?_
      refine hK' _ _ ?_
      clear hK' K'
      refine hlex_step (g := none) rfl rfl fun K' hK' => ?_
      simp (maxSteps := 4000000) only [hop1, hgd, List.getElem_toArray, List.getElem_cons_zero, List.getElem_cons_succ, ↓sP, sA, tyS, Nat.reducePow, Nat.reduceLeDiff, reduceCtorEq, Nat.reduceEqDiff, ↓reduceIte, Nat.reduceAdd, Nat.reduceMul, Nat.reduceSub, Nat.reduceLT, h1, h2, CV.denil, denilL_str]
      repeat refine And.intro (by first | omega | (simp only [maxLen]; omega) | assumption | (simp [CV.cells]; done) | (simp [CV.cells, maxLen]; omega)) ?_
      refine hK' _ _ ?_
      clear hK' K'
      refine hlex_step (g := none) rfl rfl fun K' hK' => ?_
      simp (maxSteps := 4000000) only [hop1, hgd, List.getElem_toArray, List.getElem_cons_zero, List.getElem_cons_succ, ↓sP, sA, tyS, Nat.reducePow, Nat.reduceLeDiff, reduceCtorEq, Nat.reduceEqDiff, ↓reduceIte, Nat.reduceAdd, Nat.reduceMul, Nat.reduceSub, Nat.reduceLT, h1, h2, CV.denil, denilL_str]
      repeat refine And.intro (by first | omega | (simp only [maxLen]; omega) | assumption | (simp [CV.cells]; done) | (simp [CV.cells, maxLen]; omega)) ?_
      refine hK' _ _ ?_
      clear hK' K'
      refine hlex_step (g := some (24, true)) rfl rfl fun K' hK' => ?_
      simp (maxSteps := 4000000) only [hop1, hgd, List.getElem_toArray, List.getElem_cons_zero, List.getElem_cons_succ, ↓sP, sA, tyS, Nat.reducePow, Nat.reduceLeDiff, reduceCtorEq, Nat.reduceEqDiff, ↓reduceIte, Nat.reduceAdd, Nat.reduceMul, Nat.reduceSub, Nat.reduceLT, h1, h2, CV.denil, denilL_str]
      repeat refine And.intro (by first | omega | (simp only [maxLen]; omega) | assumption | (simp [CV.cells]; done) | (simp [CV.cells, maxLen]; omega)) ?_
      refine hK' _ _ ?_
      clear hK' K'
      refine hlex_step (g := some (24, true)) rfl rfl fun K' hK' => ?_
      simp (maxSteps := 4000000) only [hop1, hgd, List.getElem_toArray, List.getElem_cons_zero, List.getElem_cons_succ, ↓sP, sA, tyS, Nat.reducePow, Nat.reduceLeDiff, reduceCtorEq, Nat.reduceEqDiff, ↓reduceIte, Nat.reduceAdd, Nat.reduceMul, Nat.reduceSub, Nat.reduceLT, h1, h2, CV.denil, denilL_str]
      repeat refine And.intro (by first | omega | (simp only [maxLen]; omega) | assumption | (simp [CV.cells]; done) | (simp [CV.cells, maxLen]; omega)) ?_
      refine hK' _ _ ?_
      clear hK' K'
      refine hlex_step (g := some (24, true)) rfl rfl fun K' hK' => ?_
      simp (maxSteps := 4000000) only [hop1, hgd, List.getElem_toArray, List.getElem_cons_zero, List.getElem_cons_succ, ↓sP, sA, tyS, Nat.reducePow, Nat.reduceLeDiff, reduceCtorEq, Nat.reduceEqDiff, ↓reduceIte, Nat.reduceAdd, Nat.reduceMul, Nat.reduceSub, Nat.reduceLT, h1, h2, CV.denil, denilL_str]
      repeat refine And.intro (by first | omega | (simp only [maxLen]; omega) | assumption | (simp [CV.cells]; done) | (simp [CV.cells, maxLen]; omega)) ?_
      refine hK' _ _ ?_
      clear hK' K'
      refine hlex_step (g := some (24, true)) rfl rfl fun K' hK' => ?_
      simp (maxSteps := 4000000) only [hop1, hgd, List.getElem_toArray, List.getElem_cons_zero, List.getElem_cons_succ, ↓sP, sA, tyS, Nat.reducePow, Nat.reduceLeDiff, reduceCtorEq, Nat.reduceEqDiff, ↓reduceIte, Nat.reduceAdd, Nat.reduceMul, Nat.reduceSub, Nat.reduceLT, h1, h2, CV.denil, denilL_str]
      repeat refine And.intro (by first | omega | (simp only [maxLen]; omega) | assumption | (simp [CV.cells]; done) | (simp [CV.cells, maxLen]; omega)) ?_
      refine hK' _ _ ?_
      clear hK' K'
      refine hlex_step (g := some (24, true)) rfl rfl fun K' hK' => ?_
      simp (maxSteps := 4000000) only [hop1, hgd, List.getElem_toArray, List.getElem_cons_zero, List.getElem_cons_succ, ↓sP, sA, tyS, Nat.reducePow, Nat.reduceLeDiff, reduceCtorEq, Nat.reduceEqDiff, ↓reduceIte, Nat.reduceAdd, Nat.reduceMul, Nat.reduceSub, Nat.reduceLT, h1, h2, CV.denil, denilL_str]
      repeat refine And.intro (by first | omega | (simp only [maxLen]; omega) | assumption | (simp [CV.cells]; done) | (simp [CV.cells, maxLen]; omega)) ?_
      refine hK' _ _ ?_
      clear hK' K'
      refine hlex_step (g := none) rfl rfl fun K' hK' => ?_
      simp (maxSteps := 4000000) only [hop1, hgd, List.getElem_toArray, List.getElem_cons_zero, List.getElem_cons_succ, ↓sP, sA, tyS, Nat.reducePow, Nat.reduceLeDiff, reduceCtorEq, Nat.reduceEqDiff, ↓reduceIte, Nat.reduceAdd, Nat.reduceMul, Nat.reduceSub, Nat.reduceLT, h1, h2, CV.denil, denilL_str]
      repeat refine And.intro (by first | omega | (simp only [maxLen]; omega) | assumption | (simp [CV.cells]; done) | (simp [CV.cells, maxLen]; omega)) ?_
      refine hK' _ _ ?_
      clear hK' K'
      refine hlex_step (g := none) rfl rfl fun K' hK' => ?_
      simp (maxSteps := 4000000) only [hop1, hgd, List.getElem_toArray, List.getElem_cons_zero, List.getElem_cons_succ, ↓sP, sA, tyS, Nat.reducePow, Nat.reduceLeDiff, reduceCtorEq, Nat.reduceEqDiff, ↓reduceIte, Nat.reduceAdd, Nat.reduceMul, Nat.reduceSub, Nat.reduceLT, h1, h2, CV.denil, denilL_str]
      repeat refine And.intro (by first | omega | (simp only [maxLen]; omega) | assumption | (simp [CV.cells]; done) | (simp [CV.cells, maxLen]; omega)) ?_
      refine hK' _ _ ?_
      clear hK' K'
      simp only [hlex, hwalk2, hthen, hblk, ↓reduceIte, reduceCtorEq, Nat.reduceEqDiff, List.size_toArray, List.length_cons, List.length_nil, Nat.reduceAdd, Nat.reduceMul, Nat.zero_add]
      exact key false _ _ _ (by simp [h1, h2]) (fits_fin (by omega) (by simp [FinOk, fin_at, finA_at, upd_at, HV.men, HV.menL, HV.norm, HV.toC, HV.toCL]) (by simp [FobOk, fob_at, upd_at, none0_at, HO.men, HV.men, HV.menL, HV.norm, HV.toC, HV.toCL]))
    · refine hw_region (by kernel_rfl) ?_
      simp only [List.range, List.range.loop, List.size_toArray, List.length_cons, List.length_nil, Nat.reduceAdd, Nat.reduceMul, Nat.zero_add, Nat.add_zero]
      refine hlex_step (g := none) rfl rfl fun K' hK' => ?_
      simp (maxSteps := 4000000) only [hop1, hgd, List.getElem_toArray, List.getElem_cons_zero, List.getElem_cons_succ, ↓sP, sA, tyS, Nat.reducePow, Nat.reduceLeDiff, reduceCtorEq, Nat.reduceEqDiff, ↓reduceIte, Nat.reduceAdd, Nat.reduceMul, Nat.reduceSub, Nat.reduceLT, h1, h2, CV.denil, denilL_str]
      repeat refine And.intro (by first | omega | (simp only [maxLen]; omega) | assumption | (simp [CV.cells]; done) | (simp [CV.cells, maxLen]; omega)) ?_
      refine hK' _ _ ?_
      clear hK' K'
      refine hlex_step (g := none) rfl rfl fun K' hK' => ?_
      simp (maxSteps := 4000000) only [hop1, hgd, List.getElem_toArray, List.getElem_cons_zero, List.getElem_cons_succ, ↓sP, sA, tyS, Nat.reducePow, Nat.reduceLeDiff, reduceCtorEq, Nat.reduceEqDiff, ↓reduceIte, Nat.reduceAdd, Nat.reduceMul, Nat.reduceSub, Nat.reduceLT, h1, h2, CV.denil, denilL_str]
      repeat refine And.intro (by first | omega | (simp only [maxLen]; omega) | assumption | (simp [CV.cells]; done) | (simp [CV.cells, maxLen]; omega)) ?_
      refine hK' _ _ ?_
      clear hK' K'
      refine hlex_step (g := none) rfl rfl fun K' hK' => ?_
      simp (maxSteps := 4000000) only [hop1, hgd, List.getElem_toArray, List.getElem_cons_zero, List.getElem_cons_succ, ↓sP, sA, tyS, Nat.reducePow, Nat.reduceLeDiff, reduceCtorEq, Nat.reduceEqDiff, ↓reduceIte, Nat.reduceAdd, Nat.reduceMul, Nat.reduceSub, Nat.reduceLT, h1, h2, CV.denil, denilL_str]
      repeat refine And.intro (by first | omega | (simp only [maxLen]; omega) | assumption | (simp [CV.cells]; done) | (simp [CV.cells, maxLen]; omega)) ?_
      refine hK' _ _ ?_
      clear hK' K'
      refine hlex_step (g := none) rfl rfl fun K' hK' => ?_
      simp (maxSteps := 4000000) only [hop1, hgd, List.getElem_toArray, List.getElem_cons_zero, List.getElem_cons_succ, ↓sP, sA, tyS, Nat.reducePow, Nat.reduceLeDiff, reduceCtorEq, Nat.reduceEqDiff, ↓reduceIte, Nat.reduceAdd, Nat.reduceMul, Nat.reduceSub, Nat.reduceLT, h1, h2, CV.denil, denilL_str]
      repeat refine And.intro (by first | omega | (simp only [maxLen]; omega) | assumption | (simp [CV.cells]; done) | (simp [CV.cells, maxLen]; omega)) ?_
      refine hK' _ _ ?_
      clear hK' K'
      refine hlex_step (g := none) rfl rfl fun K' hK' => ?_
      simp (maxSteps := 4000000) only [hop1, hgd, List.getElem_toArray, List.getElem_cons_zero, List.getElem_cons_succ, ↓sP, sA, tyS, Nat.reducePow, Nat.reduceLeDiff, reduceCtorEq, Nat.reduceEqDiff, ↓reduceIte, Nat.reduceAdd, Nat.reduceMul, Nat.reduceSub, Nat.reduceLT, h1, h2, CV.denil, denilL_str]
      repeat refine And.intro (by first | omega | (simp only [maxLen]; omega) | assumption | (simp [CV.cells]; done) | (simp [CV.cells, maxLen]; omega)) ?_
      refine hK' _ _ ?_
      clear hK' K'
      refine hlex_step (g := none) rfl rfl fun K' hK' => ?_
      simp (maxSteps := 4000000) only [hop1, hgd, List.getElem_toArray, List.getElem_cons_zero, List.getElem_cons_succ, ↓sP, sA, tyS, Nat.reducePow, Nat.reduceLeDiff, reduceCtorEq, Nat.reduceEqDiff, ↓reduceIte, Nat.reduceAdd, Nat.reduceMul, Nat.reduceSub, Nat.reduceLT, h1, h2, CV.denil, denilL_str]
      repeat refine And.intro (by first | omega | (simp only [maxLen]; omega) | assumption | (simp [CV.cells]; done) | (simp [CV.cells, maxLen]; omega)) ?_
      refine hK' _ _ ?_
      clear hK' K'
      refine hlex_step (g := some (10, true)) rfl rfl fun K' hK' => ?_
      simp (maxSteps := 4000000) only [hop1, hgd, List.getElem_toArray, List.getElem_cons_zero, List.getElem_cons_succ, ↓sP, sA, tyS, Nat.reducePow, Nat.reduceLeDiff, reduceCtorEq, Nat.reduceEqDiff, ↓reduceIte, Nat.reduceAdd, Nat.reduceMul, Nat.reduceSub, Nat.reduceLT, h1, h2, CV.denil, denilL_str]
      repeat refine And.intro (by first | omega | (simp only [maxLen]; omega) | assumption | (simp [CV.cells]; done) | (simp [CV.cells, maxLen]; omega)) ?_
      refine hK' _ _ ?_
      clear hK' K'
      refine hlex_step (g := some (10, true)) rfl rfl fun K' hK' => ?_
      simp (maxSteps := 4000000) only [hop1, hgd, List.getElem_toArray, List.getElem_cons_zero, List.getElem_cons_succ, ↓sP, sA, tyS, Nat.reducePow, Nat.reduceLeDiff, reduceCtorEq, Nat.reduceEqDiff, ↓reduceIte, Nat.reduceAdd, Nat.reduceMul, Nat.reduceSub, Nat.reduceLT, h1, h2, CV.denil, denilL_str]
      repeat refine And.intro (by first | omega | (simp only [maxLen]; omega) | assumption | (simp [CV.cells]; done) | (simp [CV.cells, maxLen]; omega)) ?_
      refine hK' _ _ ?_
      clear hK' K'
      refine hlex_step (g := some (10, true)) rfl rfl fun K' hK' => ?_
      simp (maxSteps := 4000000) only [hop1, hgd, List.getElem_toArray, List.getElem_cons_zero, List.getElem_cons_succ, ↓sP, sA, tyS, Nat.reducePow, Nat.reduceLeDiff, reduceCtorEq, Nat.reduceEqDiff, ↓reduceIte, Nat.reduceAdd, Nat.reduceMul, Nat.reduceSub, Nat.reduceLT, h1, h2, CV.denil, denilL_str]
      repeat refine And.intro (by first | omega | (simp only [maxLen]; omega) | assumption | (simp [CV.cells]; done) | (simp [CV.cells, maxLen]; omega)) ?_
      refine hK' _ _ ?_
      clear hK' K'
      refine hlex_step (g := some (10, true)) rfl rfl fun K' hK' => ?_
      simp (maxSteps := 4000000) only [hop1, hgd, List.getElem_toArray, List.getElem_cons_zero, List.getElem_cons_succ, ↓sP, sA, tyS, Nat.reducePow, Nat.reduceLeDiff, reduceCtorEq, Nat.reduceEqDiff, ↓reduceIte, Nat.reduceAdd, Nat.reduceMul, Nat.reduceSub, Nat.reduceLT, h1, h2, CV.denil, denilL_str]
      repeat refine And.intro (by first | omega | (simp only [maxLen]; omega) | assumption | (simp [CV.cells]; done) | (simp [CV.cells, maxLen]; omega)) ?_
      refine hK' _ _ ?_
      clear hK' K'
      refine hlex_step (g := some (10, true)) rfl rfl fun K' hK' => ?_
      simp (maxSteps := 4000000) only [hop1, hgd, List.getElem_toArray, List.getElem_cons_zero, List.getElem_cons_succ, ↓sP, sA, tyS, Nat.reducePow, Nat.reduceLeDiff, reduceCtorEq, Nat.reduceEqDiff, ↓reduceIte, Nat.reduceAdd, Nat.reduceMul, Nat.reduceSub, Nat.reduceLT, h1, h2, CV.denil, denilL_str]
      refine call_pure (args := [_, _]) (same_ok a a' (by omega)) ⟨rfl, rfl, rfl, rfl⟩ ?_
      rintro v rfl
      repeat refine And.intro (by first | omega | (simp only [maxLen]; omega) | assumption | (simp [CV.cells]; done) | (simp [CV.cells, maxLen]; omega)) ?_
      refine hK' _ _ ?_
      clear hK' K'
      refine hlex_step (g := none) rfl rfl fun K' hK' => ?_
      simp (maxSteps := 4000000) only [hop1, hgd, List.getElem_toArray, List.getElem_cons_zero, List.getElem_cons_succ, ↓sP, sA, tyS, Nat.reducePow, Nat.reduceLeDiff, reduceCtorEq, Nat.reduceEqDiff, ↓reduceIte, Nat.reduceAdd, Nat.reduceMul, Nat.reduceSub, Nat.reduceLT, h1, h2, CV.denil, denilL_str]
      repeat refine And.intro (by first | omega | (simp only [maxLen]; omega) | assumption | (simp [CV.cells]; done) | (simp [CV.cells, maxLen]; omega)) ?_
      refine hK' _ _ ?_
      clear hK' K'
      refine hlex_step (g := none) rfl rfl fun K' hK' => ?_
      simp (maxSteps := 4000000) only [hop1, hgd, List.getElem_toArray, List.getElem_cons_zero, List.getElem_cons_succ, ↓sP, sA, tyS, Nat.reducePow, Nat.reduceLeDiff, reduceCtorEq, Nat.reduceEqDiff, ↓reduceIte, Nat.reduceAdd, Nat.reduceMul, Nat.reduceSub, Nat.reduceLT, h1, h2, CV.denil, denilL_str]
      repeat refine And.intro (by first | omega | (simp only [maxLen]; omega) | assumption | (simp [CV.cells]; done) | (simp [CV.cells, maxLen]; omega)) ?_
      refine hK' _ _ ?_
      clear hK' K'
      refine hlex_step (g := some (17, true)) rfl rfl fun K' hK' => ?_
      simp (maxSteps := 4000000) only [hop1, hgd, List.getElem_toArray, List.getElem_cons_zero, List.getElem_cons_succ, ↓sP, sA, tyS, Nat.reducePow, Nat.reduceLeDiff, reduceCtorEq, Nat.reduceEqDiff, ↓reduceIte, Nat.reduceAdd, Nat.reduceMul, Nat.reduceSub, Nat.reduceLT, h1, h2, CV.denil, denilL_str]
      repeat refine And.intro (by first | omega | (simp only [maxLen]; omega) | assumption | (simp [CV.cells]; done) | (simp [CV.cells, maxLen]; omega)) ?_
      refine hK' _ _ ?_
      clear hK' K'
      refine hlex_step (g := some (17, true)) rfl rfl fun K' hK' => ?_
      simp (maxSteps := 4000000) only [hop1, hgd, List.getElem_toArray, List.getElem_cons_zero, List.getElem_cons_succ, ↓sP, sA, tyS, Nat.reducePow, Nat.reduceLeDiff, reduceCtorEq, Nat.reduceEqDiff, ↓reduceIte, Nat.reduceAdd, Nat.reduceMul, Nat.reduceSub, Nat.reduceLT, h1, h2, CV.denil, denilL_str]
      repeat refine And.intro (by first | omega | (simp only [maxLen]; omega) | assumption | (simp [CV.cells]; done) | (simp [CV.cells, maxLen]; omega)) ?_
      refine hK' _ _ ?_
      clear hK' K'
      refine hlex_step (g := some (17, true)) rfl rfl fun K' hK' => ?_
      simp (maxSteps := 4000000) only [hop1, hgd, List.getElem_toArray, List.getElem_cons_zero, List.getElem_cons_succ, ↓sP, sA, tyS, Nat.reducePow, Nat.reduceLeDiff, reduceCtorEq, Nat.reduceEqDiff, ↓reduceIte, Nat.reduceAdd, Nat.reduceMul, Nat.reduceSub, Nat.reduceLT, h1, h2, CV.denil, denilL_str]
      repeat refine And.intro (by first | omega | (simp only [maxLen]; omega) | assumption | (simp [CV.cells]; done) | (simp [CV.cells, maxLen]; omega)) ?_
      refine hK' _ _ ?_
      clear hK' K'
      refine hlex_step (g := some (17, true)) rfl rfl fun K' hK' => ?_
      simp (maxSteps := 4000000) only [hop1, hgd, List.getElem_toArray, List.getElem_cons_zero, List.getElem_cons_succ, ↓sP, sA, tyS, Nat.reducePow, Nat.reduceLeDiff, reduceCtorEq, Nat.reduceEqDiff, ↓reduceIte, Nat.reduceAdd, Nat.reduceMul, Nat.reduceSub, Nat.reduceLT, h1, h2, CV.denil, denilL_str]
      repeat refine And.intro (by first | omega | (simp only [maxLen]; omega) | assumption | (simp [CV.cells]; done) | (simp [CV.cells, maxLen]; omega)) ?_
      refine hK' _ _ ?_
      clear hK' K'
      refine hlex_step (g := some (17, true)) rfl rfl fun K' hK' => ?_
      simp (maxSteps := 4000000) only [hop1, hgd, List.getElem_toArray, List.getElem_cons_zero, List.getElem_cons_succ, ↓sP, sA, tyS, Nat.reducePow, Nat.reduceLeDiff, reduceCtorEq, Nat.reduceEqDiff, ↓reduceIte, Nat.reduceAdd, Nat.reduceMul, Nat.reduceSub, Nat.reduceLT, h1, h2, CV.denil, denilL_str]
      refine call_pure (args := [_, _]) (same_ok b b' (by omega)) ⟨rfl, rfl, rfl, rfl⟩ ?_
      rintro v rfl
      repeat refine And.intro (by first | omega | (simp only [maxLen]; omega) | assumption | (simp [CV.cells]; done) | (simp [CV.cells, maxLen]; omega)) ?_
      refine hK' _ _ ?_
      clear hK' K'
      refine hlex_step (g := none) rfl rfl fun K' hK' => ?_
      simp (maxSteps := 4000000) only [hop1, hgd, List.getElem_toArray, List.getElem_cons_zero, List.getElem_cons_succ, ↓sP, sA, tyS, Nat.reducePow, Nat.reduceLeDiff, reduceCtorEq, Nat.reduceEqDiff, ↓reduceIte, Nat.reduceAdd, Nat.reduceMul, Nat.reduceSub, Nat.reduceLT, h1, h2, CV.denil, denilL_str]
      repeat refine And.intro (by first | omega | (simp only [maxLen]; omega) | assumption | (simp [CV.cells]; done) | (simp [CV.cells, maxLen]; omega)) ?_
      refine hK' _ _ ?_
      clear hK' K'
      refine hlex_step (g := none) rfl rfl fun K' hK' => ?_
      simp (maxSteps := 4000000) only [hop1, hgd, List.getElem_toArray, List.getElem_cons_zero, List.getElem_cons_succ, ↓sP, sA, tyS, Nat.reducePow, Nat.reduceLeDiff, reduceCtorEq, Nat.reduceEqDiff, ↓reduceIte, Nat.reduceAdd, Nat.reduceMul, Nat.reduceSub, Nat.reduceLT, h1, h2, CV.denil, denilL_str]
      repeat refine And.intro (by first | omega | (simp only [maxLen]; omega) | assumption | (simp [CV.cells]; done) | (simp [CV.cells, maxLen]; omega)) ?_
      refine hK' _ _ ?_
      clear hK' K'
      refine hlex_step (g := some (24, true)) rfl rfl fun K' hK' => ?_
      simp (maxSteps := 4000000) only [hop1, hgd, List.getElem_toArray, List.getElem_cons_zero, List.getElem_cons_succ, ↓sP, sA, tyS, Nat.reducePow, Nat.reduceLeDiff, reduceCtorEq, Nat.reduceEqDiff, ↓reduceIte, Nat.reduceAdd, Nat.reduceMul, Nat.reduceSub, Nat.reduceLT, h1, h2, CV.denil, denilL_str]
      repeat refine And.intro (by first | omega | (simp only [maxLen]; omega) | assumption | (simp [CV.cells]; done) | (simp [CV.cells, maxLen]; omega)) ?_
      refine hK' _ _ ?_
      clear hK' K'
      refine hlex_step (g := some (24, true)) rfl rfl fun K' hK' => ?_
      simp (maxSteps := 4000000) only [hop1, hgd, List.getElem_toArray, List.getElem_cons_zero, List.getElem_cons_succ, ↓sP, sA, tyS, Nat.reducePow, Nat.reduceLeDiff, reduceCtorEq, Nat.reduceEqDiff, ↓reduceIte, Nat.reduceAdd, Nat.reduceMul, Nat.reduceSub, Nat.reduceLT, h1, h2, CV.denil, denilL_str]
      repeat refine And.intro (by first | omega | (simp only [maxLen]; omega) | assumption | (simp [CV.cells]; done) | (simp [CV.cells, maxLen]; omega)) ?_
      refine hK' _ _ ?_
      clear hK' K'
      refine hlex_step (g := some (24, true)) rfl rfl fun K' hK' => ?_
      simp (maxSteps := 4000000) only [hop1, hgd, List.getElem_toArray, List.getElem_cons_zero, List.getElem_cons_succ, ↓sP, sA, tyS, Nat.reducePow, Nat.reduceLeDiff, reduceCtorEq, Nat.reduceEqDiff, ↓reduceIte, Nat.reduceAdd, Nat.reduceMul, Nat.reduceSub, Nat.reduceLT, h1, h2, CV.denil, denilL_str]
      repeat refine And.intro (by first | omega | (simp only [maxLen]; omega) | assumption | (simp [CV.cells]; done) | (simp [CV.cells, maxLen]; omega)) ?_
      refine hK' _ _ ?_
      clear hK' K'
      refine hlex_step (g := some (24, true)) rfl rfl fun K' hK' => ?_
      simp (maxSteps := 4000000) only [hop1, hgd, List.getElem_toArray, List.getElem_cons_zero, List.getElem_cons_succ, ↓sP, sA, tyS, Nat.reducePow, Nat.reduceLeDiff, reduceCtorEq, Nat.reduceEqDiff, ↓reduceIte, Nat.reduceAdd, Nat.reduceMul, Nat.reduceSub, Nat.reduceLT, h1, h2, CV.denil, denilL_str]
      repeat refine And.intro (by first | omega | (simp only [maxLen]; omega) | assumption | (simp [CV.cells]; done) | (simp [CV.cells, maxLen]; omega)) ?_
      refine hK' _ _ ?_
      clear hK' K'
      refine hlex_step (g := some (24, true)) rfl rfl fun K' hK' => ?_
      simp (maxSteps := 4000000) only [hop1, hgd, List.getElem_toArray, List.getElem_cons_zero, List.getElem_cons_succ, ↓sP, sA, tyS, Nat.reducePow, Nat.reduceLeDiff, reduceCtorEq, Nat.reduceEqDiff, ↓reduceIte, Nat.reduceAdd, Nat.reduceMul, Nat.reduceSub, Nat.reduceLT, h1, h2, CV.denil, denilL_str]
      refine call_pure (args := [_, _]) (same_ok c c' (by omega)) ⟨rfl, rfl, rfl, rfl⟩ ?_
      rintro v rfl
      repeat refine And.intro (by first | omega | (simp only [maxLen]; omega) | assumption | (simp [CV.cells]; done) | (simp [CV.cells, maxLen]; omega)) ?_
      refine hK' _ _ ?_
      clear hK' K'
      refine hlex_step (g := none) rfl rfl fun K' hK' => ?_
      simp (maxSteps := 4000000) only [hop1, hgd, List.getElem_toArray, List.getElem_cons_zero, List.getElem_cons_succ, ↓sP, sA, tyS, Nat.reducePow, Nat.reduceLeDiff, reduceCtorEq, Nat.reduceEqDiff, ↓reduceIte, Nat.reduceAdd, Nat.reduceMul, Nat.reduceSub, Nat.reduceLT, h1, h2, CV.denil, denilL_str]
      repeat refine And.intro (by first | omega | (simp only [maxLen]; omega) | assumption | (simp [CV.cells]; done) | (simp [CV.cells, maxLen]; omega)) ?_
      refine hK' _ _ ?_
      clear hK' K'
      refine hlex_step (g := none) rfl rfl fun K' hK' => ?_
      simp (maxSteps := 4000000) only [hop1, hgd, List.getElem_toArray, List.getElem_cons_zero, List.getElem_cons_succ, ↓sP, sA, tyS, Nat.reducePow, Nat.reduceLeDiff, reduceCtorEq, Nat.reduceEqDiff, ↓reduceIte, Nat.reduceAdd, Nat.reduceMul, Nat.reduceSub, Nat.reduceLT, h1, h2, CV.denil, denilL_str]
      repeat refine And.intro (by first | omega | (simp only [maxLen]; omega) | assumption | (simp [CV.cells]; done) | (simp [CV.cells, maxLen]; omega)) ?_
      refine hK' _ _ ?_
      clear hK' K'
      simp only [hlex, hwalk2, hthen, hblk, ↓reduceIte, reduceCtorEq, Nat.reduceEqDiff, List.size_toArray, List.length_cons, List.length_nil, Nat.reduceAdd, Nat.reduceMul, Nat.zero_add]
      exact key (c == c') _ _ _ (by simp [h1, h2]) (fits_fin (by omega) (by simp [FinOk, fin_at, finA_at, upd_at, HV.men, HV.menL, HV.norm, HV.toC, HV.toCL]) (by simp [FobOk, fob_at, upd_at, none0_at, HO.men, HV.men, HV.menL, HV.norm, HV.toC, HV.toCL]))

end Go.Proofs.Ytbmeabkgdpfpbaa
