/- Part of a proof: walks of functions of the program, by contracts. By an AI agent. -/
import Derived.Test.YtbmeabkgdpfpbaaHlT1
import Derived.Test.YtbmeabkgdpfpbaaHlSb
set_option linter.unusedSimpArgs false
set_option linter.unusedVariables false
namespace Go.Proofs.Ytbmeabkgdpfpbaa
open Go Go.Hl Go.Pl
set_option maxRecDepth 10000
set_option linter.unusedSimpArgs false
set_option linter.unusedVariables false

theorem add_ok (l : List Word) (w : Word) (hl : l.length < 2 ^ 40) : HPure Try.prog 27 [.slc (l.map .str), .str w] (fun v => v = .slc ((addW l w).map .str)) := by
  refine hfn_walk Try.func27 rfl (by kernel_rfl) (locOk_nil _) (Nat.le_of_ble_eq_true rfl) ?_
  refine hw_seq fun K hK => hw_region (by kernel_rfl) ?_
  simp (maxSteps := 4000000) only [↓sP, sA, tyS, Nat.reducePow, Nat.reduceLeDiff, reduceCtorEq, Nat.reduceEqDiff, ↓reduceIte, Nat.reduceAdd, Nat.reduceMul, Nat.reduceSub, Nat.reduceLT]
  repeat refine And.intro (by first | omega | (simp only [maxLen]; omega) | assumption | (simp [CV.cells]; done) | (simp [CV.cells, maxLen]; omega)) ?_
  refine hK _ _ _ ?_
  clear hK K
  refine hw_seq fun K hK => ?_
  refine hw_seq fun K hK => hw_region (by kernel_rfl) ?_
  simp (maxSteps := 4000000) only [↓sP, sA, tyS, Nat.reducePow, Nat.reduceLeDiff, reduceCtorEq, Nat.reduceEqDiff, ↓reduceIte, Nat.reduceAdd, Nat.reduceMul, Nat.reduceSub, Nat.reduceLT]
  refine call_pure (has_ok l w (by omega)) ⟨rfl, rfl, rfl, rfl⟩ ?_
  rintro v rfl
  repeat refine And.intro (by first | omega | (simp only [maxLen]; omega) | assumption | (simp [CV.cells]; done) | (simp [CV.cells, maxLen]; omega)) ?_
  refine hK _ _ _ ?_
  clear hK K
  refine hw_cond (b := l.contains w) rfl (fun hb => ?_) (fun hb => ?_)
  · refine hw_seq fun K hK => hw_region (by kernel_rfl) ?_
    simp (maxSteps := 4000000) only [↓sP, sA, tyS, Nat.reducePow, Nat.reduceLeDiff, reduceCtorEq, Nat.reduceEqDiff, ↓reduceIte, Nat.reduceAdd, Nat.reduceMul, Nat.reduceSub, Nat.reduceLT]
    repeat refine And.intro (by first | omega | (simp only [maxLen]; omega) | assumption | (simp [CV.cells]; done) | (simp [CV.cells, maxLen]; omega)) ?_
    refine hK _ _ _ ?_
    clear hK K
    refine hw_ret ?_
    simp (maxSteps := 4000000) only [hpost, Try.results27, hresL, hres1, tupOf, ↓sP, sA, tyS, Nat.reducePow, Nat.reduceLeDiff, reduceCtorEq, Nat.reduceEqDiff, ↓reduceIte, Nat.reduceAdd, Nat.reduceMul, Nat.reduceSub, Nat.reduceLT]
    refine hret_pure [] (.slc (l.map .str)) ?_ ?_
    · simp [HV.close, CV.denil, denilL_str]; rfl
    · simp only [addW, hb, if_true]
  · refine hw_skip ?_
    simp (maxSteps := 4000000) only [↓sP, sA, tyS, Nat.reducePow, Nat.reduceLeDiff, reduceCtorEq, Nat.reduceEqDiff, ↓reduceIte, Nat.reduceAdd, Nat.reduceMul, Nat.reduceSub, Nat.reduceLT]
    repeat refine And.intro (by first | omega | (simp only [maxLen]; omega) | assumption | (simp [CV.cells]; done) | (simp [CV.cells, maxLen]; omega)) ?_
    refine hK _ _ _ ?_
    clear hK K
    refine hw_seq fun K hK => hw_region (by kernel_rfl) ?_
    simp (maxSteps := 4000000) only [↓sP, sA, tyS, Nat.reducePow, Nat.reduceLeDiff, reduceCtorEq, Nat.reduceEqDiff, ↓reduceIte, Nat.reduceAdd, Nat.reduceMul, Nat.reduceSub, Nat.reduceLT]
    repeat refine And.intro (by first | omega | (simp only [maxLen]; omega) | assumption | (simp [CV.cells]; done) | (simp [CV.cells, maxLen]; omega)) ?_
    refine hK _ _ _ ?_
    clear hK K
    refine hw_seq fun K hK => hw_region (by kernel_rfl) ?_
    simp (maxSteps := 4000000) only [↓sP, sA, tyS, Nat.reducePow, Nat.reduceLeDiff, reduceCtorEq, Nat.reduceEqDiff, ↓reduceIte, Nat.reduceAdd, Nat.reduceMul, Nat.reduceSub, Nat.reduceLT]
    repeat refine And.intro (by first | omega | (simp only [maxLen]; omega) | assumption | (simp [CV.cells]; done) | (simp [CV.cells, maxLen]; omega)) ?_
    refine hK _ _ _ ?_
    clear hK K
    refine hw_seq fun K hK => ?_
    refine hw_block ?_
    refine hw_own 5 0 9 1 rfl rfl rfl rfl ?_
    refine hw_loop (α := {i : Nat // i ≤ l.length ∧ ∀ j (h : j < i) (h' : j < l.length), slt l[j] w = true}) (fun i => (fin [(0, .c (.slc (l.map .str))), (1, .c (.str w)), (5, .own 24 i.1), (6, .c (.int .i64 i.1))], fob [(24, .row 9 1 ((l.take i.1).map .str))])) 25 (fun i => l.length - i.1) ⟨0, by omega, fun j h => by omega⟩ (fits_fin (by omega) (by simp [FinOk, fin_at, finA_at, upd_at, HV.men, HV.menL, HV.norm, HV.toC, HV.toCL]) (by simp [FobOk, fob_at, upd_at, none0_at, HO.men, HV.men, HV.menL, HV.norm, HV.toC, HV.toCL])) ?_
    rintro ⟨i, hi, hni⟩
    have hti : (l.take i).length = i := by simp; omega
    refine hw_seq fun K hK => ?_
    by_cases hlt : i < l.length
    · refine hw_seq fun K hK => hw_region (by kernel_rfl) ?_
      simp only [List.range, List.range.loop, List.size_toArray, List.length_cons, List.length_nil, Nat.reduceAdd, Nat.reduceMul, Nat.zero_add, Nat.add_zero]
      refine hlex_step (g := none) rfl rfl fun K' hK' => ?_
      simp (maxSteps := 4000000) only [hop1, hgd, List.getElem_toArray, List.getElem_cons_zero, List.getElem_cons_succ, ↓sP, sA, tyS, Nat.reducePow, Nat.reduceLeDiff, reduceCtorEq, Nat.reduceEqDiff, ↓reduceIte, Nat.reduceAdd, Nat.reduceMul, Nat.reduceSub, Nat.reduceLT, Int.natCast_nonneg, Int.ofNat_lt, hlt, nth_map hlt]
      repeat refine And.intro (by first | omega | (simp only [maxLen]; omega) | assumption | (simp [CV.cells]; done) | (simp [CV.cells, maxLen]; omega)) ?_
      refine hK' _ _ ?_
      clear hK' K'
      refine hlex_step (g := none) rfl rfl fun K' hK' => ?_
      simp (maxSteps := 4000000) only [hop1, hgd, List.getElem_toArray, List.getElem_cons_zero, List.getElem_cons_succ, ↓sP, sA, tyS, Nat.reducePow, Nat.reduceLeDiff, reduceCtorEq, Nat.reduceEqDiff, ↓reduceIte, Nat.reduceAdd, Nat.reduceMul, Nat.reduceSub, Nat.reduceLT, Int.natCast_nonneg, Int.ofNat_lt, hlt, nth_map hlt]
      repeat refine And.intro (by first | omega | (simp only [maxLen]; omega) | assumption | (simp [CV.cells]; done) | (simp [CV.cells, maxLen]; omega)) ?_
      refine hK' _ _ ?_
      clear hK' K'
      refine hlex_step (g := none) rfl rfl fun K' hK' => ?_
      simp (maxSteps := 4000000) only [hop1, hgd, List.getElem_toArray, List.getElem_cons_zero, List.getElem_cons_succ, ↓sP, sA, tyS, Nat.reducePow, Nat.reduceLeDiff, reduceCtorEq, Nat.reduceEqDiff, ↓reduceIte, Nat.reduceAdd, Nat.reduceMul, Nat.reduceSub, Nat.reduceLT, Int.natCast_nonneg, Int.ofNat_lt, hlt, nth_map hlt]
      repeat refine And.intro (by first | omega | (simp only [maxLen]; omega) | assumption | (simp [CV.cells]; done) | (simp [CV.cells, maxLen]; omega)) ?_
      refine hK' _ _ ?_
      clear hK' K'
      refine hlex_step (g := none) rfl rfl fun K' hK' => ?_
      simp (maxSteps := 4000000) only [hop1, hgd, List.getElem_toArray, List.getElem_cons_zero, List.getElem_cons_succ, ↓sP, sA, tyS, Nat.reducePow, Nat.reduceLeDiff, reduceCtorEq, Nat.reduceEqDiff, ↓reduceIte, Nat.reduceAdd, Nat.reduceMul, Nat.reduceSub, Nat.reduceLT, Int.natCast_nonneg, Int.ofNat_lt, hlt, nth_map hlt]
      repeat refine And.intro (by first | omega | (simp only [maxLen]; omega) | assumption | (simp [CV.cells]; done) | (simp [CV.cells, maxLen]; omega)) ?_
      refine hK' _ _ ?_
      clear hK' K'
      refine hlex_step (g := none) rfl rfl fun K' hK' => ?_
      simp (maxSteps := 4000000) only [hop1, hgd, List.getElem_toArray, List.getElem_cons_zero, List.getElem_cons_succ, ↓sP, sA, tyS, Nat.reducePow, Nat.reduceLeDiff, reduceCtorEq, Nat.reduceEqDiff, ↓reduceIte, Nat.reduceAdd, Nat.reduceMul, Nat.reduceSub, Nat.reduceLT, Int.natCast_nonneg, Int.ofNat_lt, hlt, nth_map hlt]
      repeat refine And.intro (by first | omega | (simp only [maxLen]; omega) | assumption | (simp [CV.cells]; done) | (simp [CV.cells, maxLen]; omega)) ?_
      refine hK' _ _ ?_
      clear hK' K'
      refine hlex_step (g := some (15, true)) rfl rfl fun K' hK' => ?_
      simp (maxSteps := 4000000) only [hop1, hgd, List.getElem_toArray, List.getElem_cons_zero, List.getElem_cons_succ, ↓sP, sA, tyS, Nat.reducePow, Nat.reduceLeDiff, reduceCtorEq, Nat.reduceEqDiff, ↓reduceIte, Nat.reduceAdd, Nat.reduceMul, Nat.reduceSub, Nat.reduceLT, Int.natCast_nonneg, Int.ofNat_lt, hlt, nth_map hlt]
      repeat refine And.intro (by first | omega | (simp only [maxLen]; omega) | assumption | (simp [CV.cells]; done) | (simp [CV.cells, maxLen]; omega)) ?_
      refine hK' _ _ ?_
      clear hK' K'
      refine hlex_step (g := some (15, true)) rfl rfl fun K' hK' => ?_
      simp (maxSteps := 4000000) only [hop1, hgd, List.getElem_toArray, List.getElem_cons_zero, List.getElem_cons_succ, ↓sP, sA, tyS, Nat.reducePow, Nat.reduceLeDiff, reduceCtorEq, Nat.reduceEqDiff, ↓reduceIte, Nat.reduceAdd, Nat.reduceMul, Nat.reduceSub, Nat.reduceLT, Int.natCast_nonneg, Int.ofNat_lt, hlt, nth_map hlt]
      repeat refine And.intro (by first | omega | (simp only [maxLen]; omega) | assumption | (simp [CV.cells]; done) | (simp [CV.cells, maxLen]; omega)) ?_
      refine hK' _ _ ?_
      clear hK' K'
      refine hlex_step (g := some (15, true)) rfl rfl fun K' hK' => ?_
      simp (maxSteps := 4000000) only [hop1, hgd, List.getElem_toArray, List.getElem_cons_zero, List.getElem_cons_succ, ↓sP, sA, tyS, Nat.reducePow, Nat.reduceLeDiff, reduceCtorEq, Nat.reduceEqDiff, ↓reduceIte, Nat.reduceAdd, Nat.reduceMul, Nat.reduceSub, Nat.reduceLT, Int.natCast_nonneg, Int.ofNat_lt, hlt, nth_map hlt]
      repeat refine And.intro (by first | omega | (simp only [maxLen]; omega) | assumption | (simp [CV.cells]; done) | (simp [CV.cells, maxLen]; omega)) ?_
      refine hK' _ _ ?_
      clear hK' K'
      refine hlex_step (g := some (15, true)) rfl rfl fun K' hK' => ?_
      simp (maxSteps := 4000000) only [hop1, hgd, List.getElem_toArray, List.getElem_cons_zero, List.getElem_cons_succ, ↓sP, sA, tyS, Nat.reducePow, Nat.reduceLeDiff, reduceCtorEq, Nat.reduceEqDiff, ↓reduceIte, Nat.reduceAdd, Nat.reduceMul, Nat.reduceSub, Nat.reduceLT, Int.natCast_nonneg, Int.ofNat_lt, hlt, nth_map hlt]
      repeat refine And.intro (by first | omega | (simp only [maxLen]; omega) | assumption | (simp [CV.cells]; done) | (simp [CV.cells, maxLen]; omega)) ?_
      refine hK' _ _ ?_
      clear hK' K'
      refine hlex_step (g := some (15, true)) rfl rfl fun K' hK' => ?_
      simp (maxSteps := 4000000) only [hop1, hgd, List.getElem_toArray, List.getElem_cons_zero, List.getElem_cons_succ, ↓sP, sA, tyS, Nat.reducePow, Nat.reduceLeDiff, reduceCtorEq, Nat.reduceEqDiff, ↓reduceIte, Nat.reduceAdd, Nat.reduceMul, Nat.reduceSub, Nat.reduceLT, Int.natCast_nonneg, Int.ofNat_lt, hlt, nth_map hlt]
      repeat refine And.intro (by first | omega | (simp only [maxLen]; omega) | assumption | (simp [CV.cells]; done) | (simp [CV.cells, maxLen]; omega)) ?_
      refine hK' _ _ ?_
      clear hK' K'
      refine hlex_step (g := some (15, true)) rfl rfl fun K' hK' => ?_
      simp (maxSteps := 4000000) only [hop1, hgd, List.getElem_toArray, List.getElem_cons_zero, List.getElem_cons_succ, ↓sP, sA, tyS, Nat.reducePow, Nat.reduceLeDiff, reduceCtorEq, Nat.reduceEqDiff, ↓reduceIte, Nat.reduceAdd, Nat.reduceMul, Nat.reduceSub, Nat.reduceLT, Int.natCast_nonneg, Int.ofNat_lt, hlt, nth_map hlt]
      repeat refine And.intro (by first | omega | (simp only [maxLen]; omega) | assumption | (simp [CV.cells]; done) | (simp [CV.cells, maxLen]; omega)) ?_
      refine hK' _ _ ?_
      clear hK' K'
      refine hlex_step (g := none) rfl rfl fun K' hK' => ?_
      simp (maxSteps := 4000000) only [hop1, hgd, List.getElem_toArray, List.getElem_cons_zero, List.getElem_cons_succ, ↓sP, sA, tyS, Nat.reducePow, Nat.reduceLeDiff, reduceCtorEq, Nat.reduceEqDiff, ↓reduceIte, Nat.reduceAdd, Nat.reduceMul, Nat.reduceSub, Nat.reduceLT, Int.natCast_nonneg, Int.ofNat_lt, hlt, nth_map hlt]
      repeat refine And.intro (by first | omega | (simp only [maxLen]; omega) | assumption | (simp [CV.cells]; done) | (simp [CV.cells, maxLen]; omega)) ?_
      refine hK' _ _ ?_
      clear hK' K'
      simp only [hlex, hwalk2, hthen, hblk, ↓reduceIte, reduceCtorEq, Nat.reduceEqDiff, List.size_toArray, List.length_cons, List.length_nil, Nat.reduceAdd, Nat.reduceMul, Nat.zero_add]
      repeat refine And.intro (by first | omega | (simp only [maxLen]; omega) | assumption | (simp [CV.cells]; done) | (simp [CV.cells, maxLen]; omega)) ?_
      refine hK _ _ _ ?_
      clear hK K
      refine hw_cond (b := slt l[i] w) rfl (fun hb => ?_) (fun hb => ?_)
      · refine hw_skip ?_
        simp (maxSteps := 4000000) only [↓sP, sA, tyS, Nat.reducePow, Nat.reduceLeDiff, reduceCtorEq, Nat.reduceEqDiff, ↓reduceIte, Nat.reduceAdd, Nat.reduceMul, Nat.reduceSub, Nat.reduceLT]
        repeat refine And.intro (by first | omega | (simp only [maxLen]; omega) | assumption | (simp [CV.cells]; done) | (simp [CV.cells, maxLen]; omega)) ?_
        refine hK _ _ _ ?_
        clear hK K
        refine hw_block ?_
        refine hw_seq fun K hK => hw_region (by kernel_rfl) ?_
        simp only [List.range, List.range.loop, List.size_toArray, List.length_cons, List.length_nil, Nat.reduceAdd, Nat.reduceMul, Nat.zero_add, Nat.add_zero]
        refine hlex_step (g := none) rfl rfl fun K' hK' => ?_
        simp (maxSteps := 4000000) only [hop1, hgd, List.getElem_toArray, List.getElem_cons_zero, List.getElem_cons_succ, ↓sP, sA, tyS, Nat.reducePow, Nat.reduceLeDiff, reduceCtorEq, Nat.reduceEqDiff, ↓reduceIte, Nat.reduceAdd, Nat.reduceMul, Nat.reduceSub, Nat.reduceLT, Int.natCast_nonneg, Int.ofNat_lt, hlt, nth_map hlt, hti, List.length_append]
        repeat refine And.intro (by first | omega | (simp only [maxLen]; omega) | assumption | (simp [CV.cells]; done) | (simp [CV.cells, maxLen]; omega)) ?_
        refine hK' _ _ ?_
        clear hK' K'
        refine hlex_step (g := none) rfl rfl fun K' hK' => ?_
        simp (maxSteps := 4000000) only [hop1, hgd, List.getElem_toArray, List.getElem_cons_zero, List.getElem_cons_succ, ↓sP, sA, tyS, Nat.reducePow, Nat.reduceLeDiff, reduceCtorEq, Nat.reduceEqDiff, ↓reduceIte, Nat.reduceAdd, Nat.reduceMul, Nat.reduceSub, Nat.reduceLT, Int.natCast_nonneg, Int.ofNat_lt, hlt, nth_map hlt, hti, List.length_append]
        repeat refine And.intro (by first | omega | (simp only [maxLen]; omega) | assumption | (simp [CV.cells]; done) | (simp [CV.cells, maxLen]; omega)) ?_
        refine hK' _ _ ?_
        clear hK' K'
        refine hlex_step (g := none) rfl rfl fun K' hK' => ?_
        simp (maxSteps := 4000000) only [hop1, hgd, List.getElem_toArray, List.getElem_cons_zero, List.getElem_cons_succ, ↓sP, sA, tyS, Nat.reducePow, Nat.reduceLeDiff, reduceCtorEq, Nat.reduceEqDiff, ↓reduceIte, Nat.reduceAdd, Nat.reduceMul, Nat.reduceSub, Nat.reduceLT, Int.natCast_nonneg, Int.ofNat_lt, hlt, nth_map hlt, hti, List.length_append]
        repeat refine And.intro (by first | omega | (simp only [maxLen]; omega) | assumption | (simp [CV.cells]; done) | (simp [CV.cells, maxLen]; omega)) ?_
        refine hK' _ _ ?_
        clear hK' K'
        refine hlex_step (g := none) rfl rfl fun K' hK' => ?_
        simp (maxSteps := 4000000) only [hop1, hgd, List.getElem_toArray, List.getElem_cons_zero, List.getElem_cons_succ, ↓sP, sA, tyS, Nat.reducePow, Nat.reduceLeDiff, reduceCtorEq, Nat.reduceEqDiff, ↓reduceIte, Nat.reduceAdd, Nat.reduceMul, Nat.reduceSub, Nat.reduceLT, Int.natCast_nonneg, Int.ofNat_lt, hlt, nth_map hlt, hti, List.length_append]
        repeat refine And.intro (by first | omega | (simp only [maxLen]; omega) | assumption | (simp [CV.cells]; done) | (simp [CV.cells, maxLen]; omega)) ?_
        refine hK' _ _ ?_
        clear hK' K'
        refine hlex_step (g := none) rfl rfl fun K' hK' => ?_
        simp (maxSteps := 4000000) only [hop1, hgd, List.getElem_toArray, List.getElem_cons_zero, List.getElem_cons_succ, ↓sP, sA, tyS, Nat.reducePow, Nat.reduceLeDiff, reduceCtorEq, Nat.reduceEqDiff, ↓reduceIte, Nat.reduceAdd, Nat.reduceMul, Nat.reduceSub, Nat.reduceLT, Int.natCast_nonneg, Int.ofNat_lt, hlt, nth_map hlt, hti, List.length_append]
        repeat refine And.intro (by first | omega | (simp only [maxLen]; omega) | assumption | (simp [CV.cells]; done) | (simp [CV.cells, maxLen]; omega)) ?_
        refine hK' _ _ ?_
        clear hK' K'
        refine hlex_step (g := none) rfl rfl fun K' hK' => ?_
        simp (maxSteps := 4000000) only [hop1, hgd, List.getElem_toArray, List.getElem_cons_zero, List.getElem_cons_succ, ↓sP, sA, tyS, Nat.reducePow, Nat.reduceLeDiff, reduceCtorEq, Nat.reduceEqDiff, ↓reduceIte, Nat.reduceAdd, Nat.reduceMul, Nat.reduceSub, Nat.reduceLT, Int.natCast_nonneg, Int.ofNat_lt, hlt, nth_map hlt, hti, List.length_append]
        repeat refine And.intro (by first | omega | (simp only [maxLen]; omega) | assumption | (simp [CV.cells]; done) | (simp [CV.cells, maxLen]; omega)) ?_
        refine hK' _ _ ?_
        clear hK' K'
        refine hlex_step (g := none) rfl rfl fun K' hK' => ?_
        simp (maxSteps := 4000000) only [hop1, hgd, List.getElem_toArray, List.getElem_cons_zero, List.getElem_cons_succ, ↓sP, sA, tyS, Nat.reducePow, Nat.reduceLeDiff, reduceCtorEq, Nat.reduceEqDiff, ↓reduceIte, Nat.reduceAdd, Nat.reduceMul, Nat.reduceSub, Nat.reduceLT, Int.natCast_nonneg, Int.ofNat_lt, hlt, nth_map hlt, hti, List.length_append]
        repeat refine And.intro (by first | omega | (simp only [maxLen]; omega) | assumption | (simp [CV.cells]; done) | (simp [CV.cells, maxLen]; omega)) ?_
        refine hK' _ _ ?_
        clear hK' K'
        refine hlex_step (g := none) rfl rfl fun K' hK' => ?_
        simp (maxSteps := 4000000) only [hop1, hgd, List.getElem_toArray, List.getElem_cons_zero, List.getElem_cons_succ, ↓sP, sA, tyS, Nat.reducePow, Nat.reduceLeDiff, reduceCtorEq, Nat.reduceEqDiff, ↓reduceIte, Nat.reduceAdd, Nat.reduceMul, Nat.reduceSub, Nat.reduceLT, Int.natCast_nonneg, Int.ofNat_lt, hlt, nth_map hlt, hti, List.length_append]
        repeat refine And.intro (by first | omega | (simp only [maxLen]; omega) | assumption | (simp [CV.cells]; done) | (simp [CV.cells, maxLen]; omega)) ?_
        refine hK' _ _ ?_
        clear hK' K'
        simp only [hlex, hwalk2, hthen, hblk, ↓reduceIte, reduceCtorEq, Nat.reduceEqDiff, List.size_toArray, List.length_cons, List.length_nil, Nat.reduceAdd, Nat.reduceMul, Nat.zero_add]
        repeat refine And.intro (by first | omega | (simp only [maxLen]; omega) | assumption | (simp [CV.cells]; done) | (simp [CV.cells, maxLen]; omega)) ?_
        refine hK _ _ _ ?_
        clear hK K
        refine hw_region (by kernel_rfl) ?_
        simp (maxSteps := 4000000) only [↓sP, sA, tyS, Nat.reducePow, Nat.reduceLeDiff, reduceCtorEq, Nat.reduceEqDiff, ↓reduceIte, Nat.reduceAdd, Nat.reduceMul, Nat.reduceSub, Nat.reduceLT, IntWalk.i64_in _ (show -9223372036854775808 ≤ (i : Int) + 1 ∧ (i : Int) + 1 ≤ 9223372036854775807 by omega)]
        refine ⟨⟨i + 1, by omega, fun j h h' => ?_⟩, fits_fin (by omega) ?_ ?_, ?_⟩
        · by_cases e : j = i
          · subst e; exact hb
          · exact hni j (by omega) h'
        · simp [FinOk, upd_at, fin_at, HV.men]
        · refine ⟨?_, by omega, trivial, trivial⟩
          simp only [List.take_succ_eq_append_getElem hlt, List.map_append]
          rfl
        · show l.length - (i + 1) < l.length - i
          omega
      · refine hw_exit ?_
        simp (maxSteps := 4000000) only [↓sP, sA, tyS, Nat.reducePow, Nat.reduceLeDiff, reduceCtorEq, Nat.reduceEqDiff, ↓reduceIte, Nat.reduceAdd, Nat.reduceMul, Nat.reduceSub, Nat.reduceLT]
        clear hK K
        repeat refine And.intro (by first | omega | (simp only [maxLen]; omega) | assumption | (simp [CV.cells]; done) | (simp [CV.cells, maxLen]; omega)) ?_
        refine hK _ _ _ ?_
        clear hK K
        refine hw_seq fun K hK => hw_draw2 mixed [(0, [], []), (1, [], []), (2, [], []), (4, [2], []), (5, [2], []), (6, [2], []), (3, [], [4, 5, 6]), (7, [], []), (8, [], [])] [0, 0, 2, 7, 0, 0, 48, 127, 255] (by kernel_rfl) (by kernel_rfl) (by kernel_rfl) (by kernel_rfl) rfl (by kernel_rfl) ?_
        refine hwalk2_step (g := none) rfl rfl fun K' hK' => ?_
        simp (maxSteps := 4000000) only [hop1, hgd, List.getElem_toArray, List.getElem_cons_zero, List.getElem_cons_succ, ↓sP, sA, tyS, Nat.reducePow, Nat.reduceLeDiff, reduceCtorEq, Nat.reduceEqDiff, ↓reduceIte, Nat.reduceAdd, Nat.reduceMul, Nat.reduceSub, Nat.reduceLT, hti, ← List.map_drop, ← List.map_take]
        repeat refine And.intro (by first | omega | (simp only [maxLen]; omega) | assumption | (simp [CV.cells]; done) | (simp [CV.cells, maxLen]; omega)) ?_
        refine hK' _ _ ?_
        clear hK' K'
        refine hwalk2_step (g := none) rfl rfl fun K' hK' => ?_
        simp (maxSteps := 4000000) only [hop1, hgd, List.getElem_toArray, List.getElem_cons_zero, List.getElem_cons_succ, ↓sP, sA, tyS, Nat.reducePow, Nat.reduceLeDiff, reduceCtorEq, Nat.reduceEqDiff, ↓reduceIte, Nat.reduceAdd, Nat.reduceMul, Nat.reduceSub, Nat.reduceLT, hti, ← List.map_drop, ← List.map_take]
        repeat refine And.intro (by first | omega | (simp only [maxLen]; omega) | assumption | (simp [CV.cells]; done) | (simp [CV.cells, maxLen]; omega)) ?_
        refine hK' _ _ ?_
        clear hK' K'
        refine hwalk2_step (g := none) rfl rfl fun K' hK' => ?_
        simp (maxSteps := 4000000) only [hop1, hgd, List.getElem_toArray, List.getElem_cons_zero, List.getElem_cons_succ, ↓sP, sA, tyS, Nat.reducePow, Nat.reduceLeDiff, reduceCtorEq, Nat.reduceEqDiff, ↓reduceIte, Nat.reduceAdd, Nat.reduceMul, Nat.reduceSub, Nat.reduceLT, hti, ← List.map_drop, ← List.map_take]
        repeat refine And.intro (by first | omega | (simp only [maxLen]; omega) | assumption | (simp [CV.cells]; done) | (simp [CV.cells, maxLen]; omega)) ?_
        refine hK' _ _ ?_
        clear hK' K'
        refine hwalk2_step (g := none) rfl rfl fun K' hK' => ?_
        simp (maxSteps := 4000000) only [hop1, hgd, List.getElem_toArray, List.getElem_cons_zero, List.getElem_cons_succ, ↓sP, sA, tyS, Nat.reducePow, Nat.reduceLeDiff, reduceCtorEq, Nat.reduceEqDiff, ↓reduceIte, Nat.reduceAdd, Nat.reduceMul, Nat.reduceSub, Nat.reduceLT, hti, ← List.map_drop, ← List.map_take]
        repeat refine And.intro (by first | omega | (simp only [maxLen]; omega) | assumption | (simp [CV.cells]; done) | (simp [CV.cells, maxLen]; omega)) ?_
        refine hK' _ _ ?_
        clear hK' K'
        refine hwalk2_step (g := none) rfl rfl fun K' hK' => ?_
        simp (maxSteps := 4000000) only [hop1, hgd, List.getElem_toArray, List.getElem_cons_zero, List.getElem_cons_succ, ↓sP, sA, tyS, Nat.reducePow, Nat.reduceLeDiff, reduceCtorEq, Nat.reduceEqDiff, ↓reduceIte, Nat.reduceAdd, Nat.reduceMul, Nat.reduceSub, Nat.reduceLT, hti, ← List.map_drop, ← List.map_take]
        repeat refine And.intro (by first | omega | (simp only [maxLen]; omega) | assumption | (simp [CV.cells]; done) | (simp [CV.cells, maxLen]; omega)) ?_
        refine hK' _ _ ?_
        clear hK' K'
        refine hwalk2_step (g := none) rfl rfl fun K' hK' => ?_
        simp (maxSteps := 4000000) only [hop1, hgd, List.getElem_toArray, List.getElem_cons_zero, List.getElem_cons_succ, ↓sP, sA, tyS, Nat.reducePow, Nat.reduceLeDiff, reduceCtorEq, Nat.reduceEqDiff, ↓reduceIte, Nat.reduceAdd, Nat.reduceMul, Nat.reduceSub, Nat.reduceLT, hti, ← List.map_drop, ← List.map_take]
        repeat refine And.intro (by first | omega | (simp only [maxLen]; omega) | assumption | (simp [CV.cells]; done) | (simp [CV.cells, maxLen]; omega)) ?_
        refine hK' _ _ ?_
        clear hK' K'
        refine hwalk2_step (g := none) rfl rfl fun K' hK' => ?_
        simp (maxSteps := 4000000) only [hop1, hgd, List.getElem_toArray, List.getElem_cons_zero, List.getElem_cons_succ, ↓sP, sA, tyS, Nat.reducePow, Nat.reduceLeDiff, reduceCtorEq, Nat.reduceEqDiff, ↓reduceIte, Nat.reduceAdd, Nat.reduceMul, Nat.reduceSub, Nat.reduceLT, hti, ← List.map_drop, ← List.map_take]
        repeat refine And.intro (by first | omega | (simp only [maxLen]; omega) | assumption | (simp [CV.cells]; done) | (simp [CV.cells, maxLen]; omega)) ?_
        refine hK' _ _ ?_
        clear hK' K'
        refine hwalk2_step (g := none) rfl rfl fun K' hK' => ?_
        simp (maxSteps := 4000000) only [hop1, hgd, List.getElem_toArray, List.getElem_cons_zero, List.getElem_cons_succ, ↓sP, sA, tyS, Nat.reducePow, Nat.reduceLeDiff, reduceCtorEq, Nat.reduceEqDiff, ↓reduceIte, Nat.reduceAdd, Nat.reduceMul, Nat.reduceSub, Nat.reduceLT, hti, ← List.map_drop, ← List.map_take]
        repeat refine And.intro (by first | omega | (simp only [maxLen]; omega) | assumption | (simp [CV.cells]; done) | (simp [CV.cells, maxLen]; omega)) ?_
        refine hK' _ _ ?_
        clear hK' K'
        refine hwalk2_step (g := none) rfl rfl fun K' hK' => ?_
        simp (maxSteps := 4000000) only [hop1, hgd, List.getElem_toArray, List.getElem_cons_zero, List.getElem_cons_succ, ↓sP, sA, tyS, Nat.reducePow, Nat.reduceLeDiff, reduceCtorEq, Nat.reduceEqDiff, ↓reduceIte, Nat.reduceAdd, Nat.reduceMul, Nat.reduceSub, Nat.reduceLT, hti, ← List.map_drop, ← List.map_take]
        repeat refine And.intro (by first | omega | (simp only [maxLen]; omega) | assumption | (simp [CV.cells]; done) | (simp [CV.cells, maxLen]; omega)) ?_
        refine hK' _ _ ?_
        clear hK' K'
        simp only [hlex, hwalk2, hthen, hblk, ↓reduceIte, reduceCtorEq, Nat.reduceEqDiff, List.size_toArray, List.length_cons, List.length_nil, Nat.reduceAdd, Nat.reduceMul, Nat.zero_add]
        repeat refine And.intro (by first | omega | (simp only [maxLen]; omega) | assumption | (simp [CV.cells]; done) | (simp [CV.cells, maxLen]; omega)) ?_
        refine hK _ _ _ ?_
        clear hK K
        refine hw_ret ?_
        simp (maxSteps := 4000000) only [hpost, Try.results27, hresL, hres1, tupOf, ↓sP, sA, tyS, Nat.reducePow, Nat.reduceLeDiff, reduceCtorEq, Nat.reduceEqDiff, ↓reduceIte, Nat.reduceAdd, Nat.reduceMul, Nat.reduceSub, Nat.reduceLT]
        refine hret_pure [24] (.slc ((l.take i ++ w :: l.drop i).map .str)) ?_ ?_
        · have : l.take (l.length - i) = l.take (l.length - i) := rfl
          simp [HV.close, upd_at, HV.norm, HV.toC, List.take_of_length_le]
        · rw [addW_eq (by assumption) hi hni (fun _ => hb)]
    · refine hw_seq fun K hK => hw_region (by kernel_rfl) ?_
      simp only [List.range, List.range.loop, List.size_toArray, List.length_cons, List.length_nil, Nat.reduceAdd, Nat.reduceMul, Nat.zero_add, Nat.add_zero]
      refine hlex_step (g := none) rfl rfl fun K' hK' => ?_
      simp (maxSteps := 4000000) only [hop1, hgd, List.getElem_toArray, List.getElem_cons_zero, List.getElem_cons_succ, ↓sP, sA, tyS, Nat.reducePow, Nat.reduceLeDiff, reduceCtorEq, Nat.reduceEqDiff, ↓reduceIte, Nat.reduceAdd, Nat.reduceMul, Nat.reduceSub, Nat.reduceLT, Int.ofNat_lt, hlt]
      repeat refine And.intro (by first | omega | (simp only [maxLen]; omega) | assumption | (simp [CV.cells]; done) | (simp [CV.cells, maxLen]; omega)) ?_
      refine hK' _ _ ?_
      clear hK' K'
      refine hlex_step (g := none) rfl rfl fun K' hK' => ?_
      simp (maxSteps := 4000000) only [hop1, hgd, List.getElem_toArray, List.getElem_cons_zero, List.getElem_cons_succ, ↓sP, sA, tyS, Nat.reducePow, Nat.reduceLeDiff, reduceCtorEq, Nat.reduceEqDiff, ↓reduceIte, Nat.reduceAdd, Nat.reduceMul, Nat.reduceSub, Nat.reduceLT, Int.ofNat_lt, hlt]
      repeat refine And.intro (by first | omega | (simp only [maxLen]; omega) | assumption | (simp [CV.cells]; done) | (simp [CV.cells, maxLen]; omega)) ?_
      refine hK' _ _ ?_
      clear hK' K'
      refine hlex_step (g := none) rfl rfl fun K' hK' => ?_
      simp (maxSteps := 4000000) only [hop1, hgd, List.getElem_toArray, List.getElem_cons_zero, List.getElem_cons_succ, ↓sP, sA, tyS, Nat.reducePow, Nat.reduceLeDiff, reduceCtorEq, Nat.reduceEqDiff, ↓reduceIte, Nat.reduceAdd, Nat.reduceMul, Nat.reduceSub, Nat.reduceLT, Int.ofNat_lt, hlt]
      repeat refine And.intro (by first | omega | (simp only [maxLen]; omega) | assumption | (simp [CV.cells]; done) | (simp [CV.cells, maxLen]; omega)) ?_
      refine hK' _ _ ?_
      clear hK' K'
      refine hlex_step (g := none) rfl rfl fun K' hK' => ?_
      simp (maxSteps := 4000000) only [hop1, hgd, List.getElem_toArray, List.getElem_cons_zero, List.getElem_cons_succ, ↓sP, sA, tyS, Nat.reducePow, Nat.reduceLeDiff, reduceCtorEq, Nat.reduceEqDiff, ↓reduceIte, Nat.reduceAdd, Nat.reduceMul, Nat.reduceSub, Nat.reduceLT, Int.ofNat_lt, hlt]
      repeat refine And.intro (by first | omega | (simp only [maxLen]; omega) | assumption | (simp [CV.cells]; done) | (simp [CV.cells, maxLen]; omega)) ?_
      refine hK' _ _ ?_
      clear hK' K'
      refine hlex_step (g := none) rfl rfl fun K' hK' => ?_
      simp (maxSteps := 4000000) only [hop1, hgd, List.getElem_toArray, List.getElem_cons_zero, List.getElem_cons_succ, ↓sP, sA, tyS, Nat.reducePow, Nat.reduceLeDiff, reduceCtorEq, Nat.reduceEqDiff, ↓reduceIte, Nat.reduceAdd, Nat.reduceMul, Nat.reduceSub, Nat.reduceLT, Int.ofNat_lt, hlt]
      repeat refine And.intro (by first | omega | (simp only [maxLen]; omega) | assumption | (simp [CV.cells]; done) | (simp [CV.cells, maxLen]; omega)) ?_
      refine hK' _ _ ?_
      clear hK' K'
      refine hlex_step (g := some (15, true)) rfl rfl fun K' hK' => ?_
      simp (maxSteps := 4000000) only [hop1, hgd, List.getElem_toArray, List.getElem_cons_zero, List.getElem_cons_succ, ↓sP, sA, tyS, Nat.reducePow, Nat.reduceLeDiff, reduceCtorEq, Nat.reduceEqDiff, ↓reduceIte, Nat.reduceAdd, Nat.reduceMul, Nat.reduceSub, Nat.reduceLT, Int.ofNat_lt, hlt]
      repeat refine And.intro (by first | omega | (simp only [maxLen]; omega) | assumption | (simp [CV.cells]; done) | (simp [CV.cells, maxLen]; omega)) ?_
      refine hK' _ _ ?_
      clear hK' K'
      refine hlex_step (g := some (15, true)) rfl rfl fun K' hK' => ?_
      simp (maxSteps := 4000000) only [hop1, hgd, List.getElem_toArray, List.getElem_cons_zero, List.getElem_cons_succ, ↓sP, sA, tyS, Nat.reducePow, Nat.reduceLeDiff, reduceCtorEq, Nat.reduceEqDiff, ↓reduceIte, Nat.reduceAdd, Nat.reduceMul, Nat.reduceSub, Nat.reduceLT, Int.ofNat_lt, hlt]
      repeat refine And.intro (by first | omega | (simp only [maxLen]; omega) | assumption | (simp [CV.cells]; done) | (simp [CV.cells, maxLen]; omega)) ?_
      refine hK' _ _ ?_
      clear hK' K'
      refine hlex_step (g := some (15, true)) rfl rfl fun K' hK' => ?_
      simp (maxSteps := 4000000) only [hop1, hgd, List.getElem_toArray, List.getElem_cons_zero, List.getElem_cons_succ, ↓sP, sA, tyS, Nat.reducePow, Nat.reduceLeDiff, reduceCtorEq, Nat.reduceEqDiff, ↓reduceIte, Nat.reduceAdd, Nat.reduceMul, Nat.reduceSub, Nat.reduceLT, Int.ofNat_lt, hlt]
      repeat refine And.intro (by first | omega | (simp only [maxLen]; omega) | assumption | (simp [CV.cells]; done) | (simp [CV.cells, maxLen]; omega)) ?_
      refine hK' _ _ ?_
      clear hK' K'
      refine hlex_step (g := some (15, true)) rfl rfl fun K' hK' => ?_
      simp (maxSteps := 4000000) only [hop1, hgd, List.getElem_toArray, List.getElem_cons_zero, List.getElem_cons_succ, ↓sP, sA, tyS, Nat.reducePow, Nat.reduceLeDiff, reduceCtorEq, Nat.reduceEqDiff, ↓reduceIte, Nat.reduceAdd, Nat.reduceMul, Nat.reduceSub, Nat.reduceLT, Int.ofNat_lt, hlt]
      repeat refine And.intro (by first | omega | (simp only [maxLen]; omega) | assumption | (simp [CV.cells]; done) | (simp [CV.cells, maxLen]; omega)) ?_
      refine hK' _ _ ?_
      clear hK' K'
      refine hlex_step (g := some (15, true)) rfl rfl fun K' hK' => ?_
      simp (maxSteps := 4000000) only [hop1, hgd, List.getElem_toArray, List.getElem_cons_zero, List.getElem_cons_succ, ↓sP, sA, tyS, Nat.reducePow, Nat.reduceLeDiff, reduceCtorEq, Nat.reduceEqDiff, ↓reduceIte, Nat.reduceAdd, Nat.reduceMul, Nat.reduceSub, Nat.reduceLT, Int.ofNat_lt, hlt]
      repeat refine And.intro (by first | omega | (simp only [maxLen]; omega) | assumption | (simp [CV.cells]; done) | (simp [CV.cells, maxLen]; omega)) ?_
      refine hK' _ _ ?_
      clear hK' K'
      refine hlex_step (g := some (15, true)) rfl rfl fun K' hK' => ?_
      simp (maxSteps := 4000000) only [hop1, hgd, List.getElem_toArray, List.getElem_cons_zero, List.getElem_cons_succ, ↓sP, sA, tyS, Nat.reducePow, Nat.reduceLeDiff, reduceCtorEq, Nat.reduceEqDiff, ↓reduceIte, Nat.reduceAdd, Nat.reduceMul, Nat.reduceSub, Nat.reduceLT, Int.ofNat_lt, hlt]
      repeat refine And.intro (by first | omega | (simp only [maxLen]; omega) | assumption | (simp [CV.cells]; done) | (simp [CV.cells, maxLen]; omega)) ?_
      refine hK' _ _ ?_
      clear hK' K'
      refine hlex_step (g := none) rfl rfl fun K' hK' => ?_
      simp (maxSteps := 4000000) only [hop1, hgd, List.getElem_toArray, List.getElem_cons_zero, List.getElem_cons_succ, ↓sP, sA, tyS, Nat.reducePow, Nat.reduceLeDiff, reduceCtorEq, Nat.reduceEqDiff, ↓reduceIte, Nat.reduceAdd, Nat.reduceMul, Nat.reduceSub, Nat.reduceLT, Int.ofNat_lt, hlt]
      repeat refine And.intro (by first | omega | (simp only [maxLen]; omega) | assumption | (simp [CV.cells]; done) | (simp [CV.cells, maxLen]; omega)) ?_
      refine hK' _ _ ?_
      clear hK' K'
      simp only [hlex, hwalk2, hthen, hblk, ↓reduceIte, reduceCtorEq, Nat.reduceEqDiff, List.size_toArray, List.length_cons, List.length_nil, Nat.reduceAdd, Nat.reduceMul, Nat.zero_add]
      repeat refine And.intro (by first | omega | (simp only [maxLen]; omega) | assumption | (simp [CV.cells]; done) | (simp [CV.cells, maxLen]; omega)) ?_
      refine hK _ _ _ ?_
      clear hK K
      refine hw_cond (b := _) rfl (fun hb => ?_) (fun hb => ?_)
      · cases hb
      · refine hw_exit ?_
        simp (maxSteps := 4000000) only [↓sP, sA, tyS, Nat.reducePow, Nat.reduceLeDiff, reduceCtorEq, Nat.reduceEqDiff, ↓reduceIte, Nat.reduceAdd, Nat.reduceMul, Nat.reduceSub, Nat.reduceLT]
        clear hK K
        repeat refine And.intro (by first | omega | (simp only [maxLen]; omega) | assumption | (simp [CV.cells]; done) | (simp [CV.cells, maxLen]; omega)) ?_
        refine hK _ _ _ ?_
        clear hK K
        refine hw_seq fun K hK => hw_draw2 mixed [(0, [], []), (1, [], []), (2, [], []), (4, [2], []), (5, [2], []), (6, [2], []), (3, [], [4, 5, 6]), (7, [], []), (8, [], [])] [0, 0, 2, 7, 0, 0, 48, 127, 255] (by kernel_rfl) (by kernel_rfl) (by kernel_rfl) (by kernel_rfl) rfl (by kernel_rfl) ?_
        refine hwalk2_step (g := none) rfl rfl fun K' hK' => ?_
        simp (maxSteps := 4000000) only [hop1, hgd, List.getElem_toArray, List.getElem_cons_zero, List.getElem_cons_succ, ↓sP, sA, tyS, Nat.reducePow, Nat.reduceLeDiff, reduceCtorEq, Nat.reduceEqDiff, ↓reduceIte, Nat.reduceAdd, Nat.reduceMul, Nat.reduceSub, Nat.reduceLT, hti, ← List.map_drop, ← List.map_take]
        repeat refine And.intro (by first | omega | (simp only [maxLen]; omega) | assumption | (simp [CV.cells]; done) | (simp [CV.cells, maxLen]; omega)) ?_
        refine hK' _ _ ?_
        clear hK' K'
        refine hwalk2_step (g := none) rfl rfl fun K' hK' => ?_
        simp (maxSteps := 4000000) only [hop1, hgd, List.getElem_toArray, List.getElem_cons_zero, List.getElem_cons_succ, ↓sP, sA, tyS, Nat.reducePow, Nat.reduceLeDiff, reduceCtorEq, Nat.reduceEqDiff, ↓reduceIte, Nat.reduceAdd, Nat.reduceMul, Nat.reduceSub, Nat.reduceLT, hti, ← List.map_drop, ← List.map_take]
        repeat refine And.intro (by first | omega | (simp only [maxLen]; omega) | assumption | (simp [CV.cells]; done) | (simp [CV.cells, maxLen]; omega)) ?_
        refine hK' _ _ ?_
        clear hK' K'
        refine hwalk2_step (g := none) rfl rfl fun K' hK' => ?_
        simp (maxSteps := 4000000) only [hop1, hgd, List.getElem_toArray, List.getElem_cons_zero, List.getElem_cons_succ, ↓sP, sA, tyS, Nat.reducePow, Nat.reduceLeDiff, reduceCtorEq, Nat.reduceEqDiff, ↓reduceIte, Nat.reduceAdd, Nat.reduceMul, Nat.reduceSub, Nat.reduceLT, hti, ← List.map_drop, ← List.map_take]
        repeat refine And.intro (by first | omega | (simp only [maxLen]; omega) | assumption | (simp [CV.cells]; done) | (simp [CV.cells, maxLen]; omega)) ?_
        refine hK' _ _ ?_
        clear hK' K'
        refine hwalk2_step (g := none) rfl rfl fun K' hK' => ?_
        simp (maxSteps := 4000000) only [hop1, hgd, List.getElem_toArray, List.getElem_cons_zero, List.getElem_cons_succ, ↓sP, sA, tyS, Nat.reducePow, Nat.reduceLeDiff, reduceCtorEq, Nat.reduceEqDiff, ↓reduceIte, Nat.reduceAdd, Nat.reduceMul, Nat.reduceSub, Nat.reduceLT, hti, ← List.map_drop, ← List.map_take]
        repeat refine And.intro (by first | omega | (simp only [maxLen]; omega) | assumption | (simp [CV.cells]; done) | (simp [CV.cells, maxLen]; omega)) ?_
        refine hK' _ _ ?_
        clear hK' K'
        refine hwalk2_step (g := none) rfl rfl fun K' hK' => ?_
        simp (maxSteps := 4000000) only [hop1, hgd, List.getElem_toArray, List.getElem_cons_zero, List.getElem_cons_succ, ↓sP, sA, tyS, Nat.reducePow, Nat.reduceLeDiff, reduceCtorEq, Nat.reduceEqDiff, ↓reduceIte, Nat.reduceAdd, Nat.reduceMul, Nat.reduceSub, Nat.reduceLT, hti, ← List.map_drop, ← List.map_take]
        repeat refine And.intro (by first | omega | (simp only [maxLen]; omega) | assumption | (simp [CV.cells]; done) | (simp [CV.cells, maxLen]; omega)) ?_
        refine hK' _ _ ?_
        clear hK' K'
        refine hwalk2_step (g := none) rfl rfl fun K' hK' => ?_
        simp (maxSteps := 4000000) only [hop1, hgd, List.getElem_toArray, List.getElem_cons_zero, List.getElem_cons_succ, ↓sP, sA, tyS, Nat.reducePow, Nat.reduceLeDiff, reduceCtorEq, Nat.reduceEqDiff, ↓reduceIte, Nat.reduceAdd, Nat.reduceMul, Nat.reduceSub, Nat.reduceLT, hti, ← List.map_drop, ← List.map_take]
        repeat refine And.intro (by first | omega | (simp only [maxLen]; omega) | assumption | (simp [CV.cells]; done) | (simp [CV.cells, maxLen]; omega)) ?_
        refine hK' _ _ ?_
        clear hK' K'
        refine hwalk2_step (g := none) rfl rfl fun K' hK' => ?_
        simp (maxSteps := 4000000) only [hop1, hgd, List.getElem_toArray, List.getElem_cons_zero, List.getElem_cons_succ, ↓sP, sA, tyS, Nat.reducePow, Nat.reduceLeDiff, reduceCtorEq, Nat.reduceEqDiff, ↓reduceIte, Nat.reduceAdd, Nat.reduceMul, Nat.reduceSub, Nat.reduceLT, hti, ← List.map_drop, ← List.map_take]
        repeat refine And.intro (by first | omega | (simp only [maxLen]; omega) | assumption | (simp [CV.cells]; done) | (simp [CV.cells, maxLen]; omega)) ?_
        refine hK' _ _ ?_
        clear hK' K'
        refine hwalk2_step (g := none) rfl rfl fun K' hK' => ?_
        simp (maxSteps := 4000000) only [hop1, hgd, List.getElem_toArray, List.getElem_cons_zero, List.getElem_cons_succ, ↓sP, sA, tyS, Nat.reducePow, Nat.reduceLeDiff, reduceCtorEq, Nat.reduceEqDiff, ↓reduceIte, Nat.reduceAdd, Nat.reduceMul, Nat.reduceSub, Nat.reduceLT, hti, ← List.map_drop, ← List.map_take]
        repeat refine And.intro (by first | omega | (simp only [maxLen]; omega) | assumption | (simp [CV.cells]; done) | (simp [CV.cells, maxLen]; omega)) ?_
        refine hK' _ _ ?_
        clear hK' K'
        refine hwalk2_step (g := none) rfl rfl fun K' hK' => ?_
        simp (maxSteps := 4000000) only [hop1, hgd, List.getElem_toArray, List.getElem_cons_zero, List.getElem_cons_succ, ↓sP, sA, tyS, Nat.reducePow, Nat.reduceLeDiff, reduceCtorEq, Nat.reduceEqDiff, ↓reduceIte, Nat.reduceAdd, Nat.reduceMul, Nat.reduceSub, Nat.reduceLT, hti, ← List.map_drop, ← List.map_take]
        repeat refine And.intro (by first | omega | (simp only [maxLen]; omega) | assumption | (simp [CV.cells]; done) | (simp [CV.cells, maxLen]; omega)) ?_
        refine hK' _ _ ?_
        clear hK' K'
        simp only [hlex, hwalk2, hthen, hblk, ↓reduceIte, reduceCtorEq, Nat.reduceEqDiff, List.size_toArray, List.length_cons, List.length_nil, Nat.reduceAdd, Nat.reduceMul, Nat.zero_add]
        repeat refine And.intro (by first | omega | (simp only [maxLen]; omega) | assumption | (simp [CV.cells]; done) | (simp [CV.cells, maxLen]; omega)) ?_
        refine hK _ _ _ ?_
        clear hK K
        refine hw_ret ?_
        simp (maxSteps := 4000000) only [hpost, Try.results27, hresL, hres1, tupOf, ↓sP, sA, tyS, Nat.reducePow, Nat.reduceLeDiff, reduceCtorEq, Nat.reduceEqDiff, ↓reduceIte, Nat.reduceAdd, Nat.reduceMul, Nat.reduceSub, Nat.reduceLT]
        refine hret_pure [24] (.slc ((l.take i ++ w :: l.drop i).map .str)) ?_ ?_
        · simp [HV.close, upd_at, HV.norm, HV.toC, List.take_of_length_le]
        · rw [addW_eq (by assumption) hi hni (fun h => absurd h hlt)]

end Go.Proofs.Ytbmeabkgdpfpbaa
