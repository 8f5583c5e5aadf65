/- Part of a proof: walks of functions of the program, by contracts. By an AI agent. -/
import Derived.Test.YtbmeabkgdpfpbaaHlTf
import Derived.Test.YtbmeabkgdpfpbaaHlSb
set_option linter.unusedSimpArgs false
set_option linter.unusedVariables false
namespace Go.Proofs.Ytbmeabkgdpfpbaa
open Go Go.Hl Go.Pl
set_option maxRecDepth 10000
set_option maxHeartbeats 2000000
set_option linter.unusedSimpArgs false
set_option linter.unusedVariables false

theorem owners_len4 : owners.length = 4 := rfl

theorem honest_law (L : List Int) (f : Int) : HPure Try.prog 7 [.slc (L.map (.int .i64)), .int .i64 f] (fun v => v = .bool true) := by
  obtain ⟨k, hk, ek⟩ := rot_ex f 5 (by omega) (by omega)
  simp only [Int.cast_ofNat_Int] at ek
  refine hfn_walk Try.func7 rfl (by kernel_rfl) (locOk_nil _) (Nat.le_of_ble_eq_true rfl) ?_
  refine hw_seq fun K hK => hw_region (by kernel_rfl) ?_
  simp (maxSteps := 4000000) only [↓sP, sA, tyS, Nat.reducePow, Nat.reduceLeDiff, reduceCtorEq, Nat.reduceEqDiff, ↓reduceIte, Nat.reduceAdd, Nat.reduceMul, Nat.reduceSub, Nat.reduceLT]
  repeat refine And.intro (by first | omega | (simp only [maxLen]; omega) | assumption | (simp [CV.cells]; done) | (simp [CV.cells, maxLen]; omega)) ?_
  refine hK _ _ _ ?_
  clear hK K
  refine hw_seq fun K hK => hw_region (by kernel_rfl) ?_
  simp only [List.range, List.range.loop, List.size_toArray, List.length_cons, List.length_nil, Nat.reduceAdd, Nat.reduceMul, Nat.zero_add, Nat.add_zero]
  refine hlex_step (g := none) rfl rfl fun K' hK' => ?_
  simp (maxSteps := 4000000) only [hop1, hgd, List.getElem_toArray, List.getElem_cons_zero, List.getElem_cons_succ, ↓sP, sA, tyS, Nat.reducePow, Nat.reduceLeDiff, reduceCtorEq, Nat.reduceEqDiff, ↓reduceIte, Nat.reduceAdd, Nat.reduceMul, Nat.reduceSub, Nat.reduceLT, denilL_int]
  repeat refine And.intro (by first | omega | (simp only [maxLen]; omega) | assumption | (simp [CV.cells]; done) | (simp [CV.cells, maxLen]; omega)) ?_
  refine hK' _ _ ?_
  clear hK' K'
  refine hlex_step (g := none) rfl rfl fun K' hK' => ?_
  simp (maxSteps := 4000000) only [hop1, hgd, List.getElem_toArray, List.getElem_cons_zero, List.getElem_cons_succ, ↓sP, sA, tyS, Nat.reducePow, Nat.reduceLeDiff, reduceCtorEq, Nat.reduceEqDiff, ↓reduceIte, Nat.reduceAdd, Nat.reduceMul, Nat.reduceSub, Nat.reduceLT, denilL_int]
  repeat refine And.intro (by first | omega | (simp only [maxLen]; omega) | assumption | (simp [CV.cells]; done) | (simp [CV.cells, maxLen]; omega)) ?_
  refine hK' _ _ ?_
  clear hK' K'
  refine hlex_step (g := none) rfl rfl fun K' hK' => ?_
  simp (maxSteps := 4000000) only [hop1, hgd, List.getElem_toArray, List.getElem_cons_zero, List.getElem_cons_succ, ↓sP, sA, tyS, Nat.reducePow, Nat.reduceLeDiff, reduceCtorEq, Nat.reduceEqDiff, ↓reduceIte, Nat.reduceAdd, Nat.reduceMul, Nat.reduceSub, Nat.reduceLT, denilL_int]
  repeat refine And.intro (by first | omega | (simp only [maxLen]; omega) | assumption | (simp [CV.cells]; done) | (simp [CV.cells, maxLen]; omega)) ?_
  refine hK' _ _ ?_
  clear hK' K'
  refine hlex_step (g := none) rfl rfl fun K' hK' => ?_
  simp (maxSteps := 4000000) only [hop1, hgd, List.getElem_toArray, List.getElem_cons_zero, List.getElem_cons_succ, ↓sP, sA, tyS, Nat.reducePow, Nat.reduceLeDiff, reduceCtorEq, Nat.reduceEqDiff, ↓reduceIte, Nat.reduceAdd, Nat.reduceMul, Nat.reduceSub, Nat.reduceLT, denilL_int]
  repeat refine And.intro (by first | omega | (simp only [maxLen]; omega) | assumption | (simp [CV.cells]; done) | (simp [CV.cells, maxLen]; omega)) ?_
  refine hK' _ _ ?_
  clear hK' K'
  simp only [hlex, hwalk2, hthen, hblk, ↓reduceIte, reduceCtorEq, Nat.reduceEqDiff, List.size_toArray, List.length_cons, List.length_nil, Nat.reduceAdd, Nat.reduceMul, Nat.zero_add]
  repeat refine And.intro (by first | omega | (simp only [maxLen]; omega) | assumption | (simp [CV.cells]; done) | (simp [CV.cells, maxLen]; omega)) ?_
  refine hK _ _ _ ?_
  clear hK K
  refine hw_seq fun K hK => hw_region (by kernel_rfl) ?_
  simp (maxSteps := 4000000) only [↓sP, sA, tyS, Nat.reducePow, Nat.reduceLeDiff, reduceCtorEq, Nat.reduceEqDiff, ↓reduceIte, Nat.reduceAdd, Nat.reduceMul, Nat.reduceSub, Nat.reduceLT]
  refine call_pure (args := []) owners_ok ⟨rfl, rfl, rfl, rfl⟩ ?_
  rintro u rfl
  simp only [↓sP, sA, tyS, Nat.reducePow, Nat.reduceLeDiff, reduceCtorEq, Nat.reduceEqDiff, ↓reduceIte, Nat.reduceAdd, Nat.reduceMul, Nat.reduceSub, Nat.reduceLT]
  repeat refine And.intro (by first | omega | (simp only [maxLen]; omega) | assumption | (simp [CV.cells]; done) | (simp [CV.cells, maxLen]; omega)) ?_
  refine hK _ _ _ ?_
  clear hK K
  refine hw_seq fun K hK => hw_region (by kernel_rfl) ?_
  simp only [List.range, List.range.loop, List.size_toArray, List.length_cons, List.length_nil, Nat.reduceAdd, Nat.reduceMul, Nat.zero_add, Nat.add_zero]
  refine hlex_step (g := none) rfl rfl fun K' hK' => ?_
  simp (maxSteps := 4000000) only [hop1, hgd, List.getElem_toArray, List.getElem_cons_zero, List.getElem_cons_succ, ↓sP, sA, tyS, Nat.reducePow, Nat.reduceLeDiff, reduceCtorEq, Nat.reduceEqDiff, ↓reduceIte, Nat.reduceAdd, Nat.reduceMul, Nat.reduceSub, Nat.reduceLT, ek]
  repeat refine And.intro (by first | omega | (simp only [maxLen]; omega) | assumption | (simp [CV.cells]; done) | (simp [CV.cells, maxLen]; omega)) ?_
  refine hK' _ _ ?_
  clear hK' K'
  refine hlex_step (g := none) rfl rfl fun K' hK' => ?_
  simp (maxSteps := 4000000) only [hop1, hgd, List.getElem_toArray, List.getElem_cons_zero, List.getElem_cons_succ, ↓sP, sA, tyS, Nat.reducePow, Nat.reduceLeDiff, reduceCtorEq, Nat.reduceEqDiff, ↓reduceIte, Nat.reduceAdd, Nat.reduceMul, Nat.reduceSub, Nat.reduceLT, ek]
  repeat refine And.intro (by first | omega | (simp only [maxLen]; omega) | assumption | (simp [CV.cells]; done) | (simp [CV.cells, maxLen]; omega)) ?_
  refine hK' _ _ ?_
  clear hK' K'
  refine hlex_step (g := none) rfl rfl fun K' hK' => ?_
  simp (maxSteps := 4000000) only [hop1, hgd, List.getElem_toArray, List.getElem_cons_zero, List.getElem_cons_succ, ↓sP, sA, tyS, Nat.reducePow, Nat.reduceLeDiff, reduceCtorEq, Nat.reduceEqDiff, ↓reduceIte, Nat.reduceAdd, Nat.reduceMul, Nat.reduceSub, Nat.reduceLT, ek]
  repeat refine And.intro (by first | omega | (simp only [maxLen]; omega) | assumption | (simp [CV.cells]; done) | (simp [CV.cells, maxLen]; omega)) ?_
  refine hK' _ _ ?_
  clear hK' K'
  refine hlex_step (g := none) rfl rfl fun K' hK' => ?_
  simp (maxSteps := 4000000) only [hop1, hgd, List.getElem_toArray, List.getElem_cons_zero, List.getElem_cons_succ, ↓sP, sA, tyS, Nat.reducePow, Nat.reduceLeDiff, reduceCtorEq, Nat.reduceEqDiff, ↓reduceIte, Nat.reduceAdd, Nat.reduceMul, Nat.reduceSub, Nat.reduceLT, ek]
  repeat refine And.intro (by first | omega | (simp only [maxLen]; omega) | assumption | (simp [CV.cells]; done) | (simp [CV.cells, maxLen]; omega)) ?_
  refine hK' _ _ ?_
  clear hK' K'
  refine hlex_step (g := none) rfl rfl fun K' hK' => ?_
  simp (maxSteps := 4000000) only [hop1, hgd, List.getElem_toArray, List.getElem_cons_zero, List.getElem_cons_succ, ↓sP, sA, tyS, Nat.reducePow, Nat.reduceLeDiff, reduceCtorEq, Nat.reduceEqDiff, ↓reduceIte, Nat.reduceAdd, Nat.reduceMul, Nat.reduceSub, Nat.reduceLT, ek]
  repeat refine And.intro (by first | omega | (simp only [maxLen]; omega) | assumption | (simp [CV.cells]; done) | (simp [CV.cells, maxLen]; omega)) ?_
  refine hK' _ _ ?_
  clear hK' K'
  simp only [hlex, hwalk2, hthen, hblk, ↓reduceIte, reduceCtorEq, Nat.reduceEqDiff, List.size_toArray, List.length_cons, List.length_nil, Nat.reduceAdd, Nat.reduceMul, Nat.zero_add]
  repeat refine And.intro (by first | omega | (simp only [maxLen]; omega) | assumption | (simp [CV.cells]; done) | (simp [CV.cells, maxLen]; omega)) ?_
  refine hK _ _ _ ?_
  clear hK K
  refine hw_seq fun K hK => hw_region (by kernel_rfl) ?_
  simp (maxSteps := 4000000) only [↓sP, sA, tyS, Nat.reducePow, Nat.reduceLeDiff, reduceCtorEq, Nat.reduceEqDiff, ↓reduceIte, Nat.reduceAdd, Nat.reduceMul, Nat.reduceSub, Nat.reduceLT]
  repeat refine And.intro (by first | omega | (simp only [maxLen]; omega) | assumption | (simp [CV.cells]; done) | (simp [CV.cells, maxLen]; omega)) ?_
  refine hK _ _ _ ?_
  clear hK K
  refine hw_seq fun K hK => hw_region (by kernel_rfl) ?_
  simp (maxSteps := 4000000) only [↓sP, sA, tyS, Nat.reducePow, Nat.reduceLeDiff, reduceCtorEq, Nat.reduceEqDiff, ↓reduceIte, Nat.reduceAdd, Nat.reduceMul, Nat.reduceSub, Nat.reduceLT]
  refine call_box (args := []) (made_ok L 0 (by omega)) rfl (by simp) ⟨rfl, rfl, rfl, rfl⟩ ?_
  rintro u v' ⟨m, a1, rfl, hm, rfl, k1⟩
  simp only [↓sP, sA, tyS, Nat.reducePow, Nat.reduceLeDiff, reduceCtorEq, Nat.reduceEqDiff, ↓reduceIte, Nat.reduceAdd, Nat.reduceMul, Nat.reduceSub, Nat.reduceLT]
  repeat refine And.intro (by first | omega | (simp only [maxLen]; omega) | assumption | (simp [CV.cells]; done) | (simp [CV.cells, maxLen]; omega)) ?_
  refine hK _ _ _ ?_
  clear hK K
  refine hw_seq fun K hK => ?_
  refine hw_seq fun K hK => hw_region (by kernel_rfl) ?_
  simp (maxSteps := 4000000) only [↓sP, sA, tyS, Nat.reducePow, Nat.reduceLeDiff, reduceCtorEq, Nat.reduceEqDiff, ↓reduceIte, Nat.reduceAdd, Nat.reduceMul, Nat.reduceSub, Nat.reduceLT]
  repeat refine And.intro (by first | omega | (simp only [maxLen]; omega) | assumption | (simp [CV.cells]; done) | (simp [CV.cells, maxLen]; omega)) ?_
  refine hK _ _ _ ?_
  clear hK K
  refine hw_block ?_
  have hml : m.length ≤ 8 := hm.1
  have e0 : List.take k (owners.map CV.str) = (owners.take k).map CV.str := by rw [List.map_take]
  refine hw_own 8 0 46 98 rfl rfl rfl rfl ?_
  refine hw_loop (α := {i : Nat // i ≤ m.length}) (fun i => (fin [(5, .ptr 12 0), (6, .c (.slc (owners.map .str))), (7, .c (.int .i64 k)), (8, .own 68 ((m.take i.1).filter (fun x => (owners.take k).contains x.w)).length), (9, .c (.slc (m.map Rb.cv))), (10, .c (.int .i64 i.1))], fob [(12, .box 39 (.c (tp L a1))), (68, .row 46 98 (((m.take i.1).filter (fun x => (owners.take k).contains x.w)).map Rb.cv))])) 80 (fun i => m.length - i.1) ⟨0, by omega⟩ (fits_fin (by omega) (by simp [FinOk, fin_at, finA_at, upd_at, HV.men, HV.menL, HV.norm, HV.toC, HV.toCL]) (by simp [FobOk, fob_at, upd_at, none0_at, HO.men, HV.men, HV.menL, HV.norm, HV.toC, HV.toCL])) ?_
  rintro ⟨i, hi⟩
  obtain ⟨r0, hr0⟩ : ∃ r0, r0 = (m.take i).filter (fun x => (owners.take k).contains x.w) := ⟨_, rfl⟩
  have hr0l : r0.length ≤ i := by rw [hr0]; exact Nat.le_trans (List.length_filter_le _ _) (by simp; omega)
  simp only [← hr0]
  refine hw_seq fun K hK => ?_
  refine hw_seq fun K hK => hw_region (by kernel_rfl) ?_
  simp only [List.range, List.range.loop, List.size_toArray, List.length_cons, List.length_nil, Nat.reduceAdd, Nat.reduceMul, Nat.zero_add, Nat.add_zero]
  refine hlex_step (g := none) rfl rfl fun K' hK' => ?_
  simp (maxSteps := 4000000) only [hop1, hgd, List.getElem_toArray, List.getElem_cons_zero, List.getElem_cons_succ, ↓sP, sA, tyS, Nat.reducePow, Nat.reduceLeDiff, reduceCtorEq, Nat.reduceEqDiff, ↓reduceIte, Nat.reduceAdd, Nat.reduceMul, Nat.reduceSub, Nat.reduceLT]
  repeat refine And.intro (by first | omega | (simp only [maxLen]; omega) | assumption | (simp [CV.cells]; done) | (simp [CV.cells, maxLen]; omega)) ?_
  refine hK' _ _ ?_
  clear hK' K'
  refine hlex_step (g := none) rfl rfl fun K' hK' => ?_
  simp (maxSteps := 4000000) only [hop1, hgd, List.getElem_toArray, List.getElem_cons_zero, List.getElem_cons_succ, ↓sP, sA, tyS, Nat.reducePow, Nat.reduceLeDiff, reduceCtorEq, Nat.reduceEqDiff, ↓reduceIte, Nat.reduceAdd, Nat.reduceMul, Nat.reduceSub, Nat.reduceLT]
  repeat refine And.intro (by first | omega | (simp only [maxLen]; omega) | assumption | (simp [CV.cells]; done) | (simp [CV.cells, maxLen]; omega)) ?_
  refine hK' _ _ ?_
  clear hK' K'
  refine hlex_step (g := none) rfl rfl fun K' hK' => ?_
  simp (maxSteps := 4000000) only [hop1, hgd, List.getElem_toArray, List.getElem_cons_zero, List.getElem_cons_succ, ↓sP, sA, tyS, Nat.reducePow, Nat.reduceLeDiff, reduceCtorEq, Nat.reduceEqDiff, ↓reduceIte, Nat.reduceAdd, Nat.reduceMul, Nat.reduceSub, Nat.reduceLT]
  repeat refine And.intro (by first | omega | (simp only [maxLen]; omega) | assumption | (simp [CV.cells]; done) | (simp [CV.cells, maxLen]; omega)) ?_
  refine hK' _ _ ?_
  clear hK' K'
  refine hlex_step (g := none) rfl rfl fun K' hK' => ?_
  simp (maxSteps := 4000000) only [hop1, hgd, List.getElem_toArray, List.getElem_cons_zero, List.getElem_cons_succ, ↓sP, sA, tyS, Nat.reducePow, Nat.reduceLeDiff, reduceCtorEq, Nat.reduceEqDiff, ↓reduceIte, Nat.reduceAdd, Nat.reduceMul, Nat.reduceSub, Nat.reduceLT]
  repeat refine And.intro (by first | omega | (simp only [maxLen]; omega) | assumption | (simp [CV.cells]; done) | (simp [CV.cells, maxLen]; omega)) ?_
  refine hK' _ _ ?_
  clear hK' K'
  simp only [hlex, hwalk2, hthen, hblk, ↓reduceIte, reduceCtorEq, Nat.reduceEqDiff, List.size_toArray, List.length_cons, List.length_nil, Nat.reduceAdd, Nat.reduceMul, Nat.zero_add]
  repeat refine And.intro (by first | omega | (simp only [maxLen]; omega) | assumption | (simp [CV.cells]; done) | (simp [CV.cells, maxLen]; omega)) ?_
  refine hK _ _ _ ?_
  clear hK K
  refine hw_cond (b := decide ((i : Int) < m.length)) rfl (fun hb => ?_) (fun hb => ?_)
  · have hlt : i < m.length := by simpa using hb
    refine hw_skip ?_
    simp (maxSteps := 4000000) only [↓sP, sA, tyS, Nat.reducePow, Nat.reduceLeDiff, reduceCtorEq, Nat.reduceEqDiff, ↓reduceIte, Nat.reduceAdd, Nat.reduceMul, Nat.reduceSub, Nat.reduceLT]
    repeat refine And.intro (by first | omega | (simp only [maxLen]; omega) | assumption | (simp [CV.cells]; done) | (simp [CV.cells, maxLen]; omega)) ?_
    refine hK _ _ _ ?_
    clear hK K
    refine hw_seq fun K hK => ?_
    have key : ∀ (r : List Rb) fr ob nx, r = (m.take (i + 1)).filter (fun x => (owners.take k).contains x.w) → Fits 0 fr ob (fin [(5, .ptr 12 0), (6, .c (.slc (owners.map .str))), (7, .c (.int .i64 k)), (8, .own 68 r.length), (9, .c (.slc (m.map Rb.cv))), (10, .c (.int .i64 i))]) (fob [(12, .box 39 (.c (tp L a1))), (68, .row 46 98 (r.map Rb.cv))]) 400 → K fr ob nx := by
      rintro r fr ob nx rfl hf
      refine hK _ _ _ (hw_fits hf ?_)
      clear hf hK K
      refine hw_region (by kernel_rfl) ?_
      simp (maxSteps := 4000000) only [↓sP, sA, tyS, Nat.reducePow, Nat.reduceLeDiff, reduceCtorEq, Nat.reduceEqDiff, ↓reduceIte, Nat.reduceAdd, Nat.reduceMul, Nat.reduceSub, Nat.reduceLT, IntWalk.i64_in _ (show -9223372036854775808 ≤ (i : Int) + 1 ∧ (i : Int) + 1 ≤ 9223372036854775807 by omega)]
      refine ⟨⟨i + 1, hlt⟩, fits_fin (by omega) (by simp [FinOk, fin_at, finA_at, upd_at, HV.men, HV.menL, HV.norm, HV.toC, HV.toCL]) (by simp [FobOk, fob_at, upd_at, none0_at, HO.men, HV.men, HV.menL, HV.norm, HV.toC, HV.toCL]), ?_⟩
      show m.length - (i + 1) < m.length - i
      omega
    refine hw_block ?_
    refine hw_seq fun K hK => hw_draw2 mixed [(0, [], []), (1, [], []), (2, [], []), (3, [], []), (4, [], []), (5, [], []), (6, [], []), (7, [], []), (8, [], [])] [0, 0, 3, 0, 0, 24, 56, 120, 255] (by kernel_rfl) (by kernel_rfl) (by kernel_rfl) (by kernel_rfl) rfl (by kernel_rfl) ?_
    refine hwalk2_step (g := none) rfl rfl fun K' hK' => ?_
    simp (maxSteps := 4000000) only [hop1, hgd, List.getElem_toArray, List.getElem_cons_zero, List.getElem_cons_succ, ↓sP, sA, tyS, Nat.reducePow, Nat.reduceLeDiff, reduceCtorEq, Nat.reduceEqDiff, ↓reduceIte, Nat.reduceAdd, Nat.reduceMul, Nat.reduceSub, Nat.reduceLT, e0, Int.toNat_zero, List.drop_zero, Nat.sub_zero, Int.natCast_nonneg, Int.ofNat_lt, hlt, nth_map hlt, owners_len4]
    repeat refine And.intro (by first | omega | (simp only [maxLen]; omega) | assumption | (simp [CV.cells]; done) | (simp [CV.cells, maxLen]; omega)) ?_
    refine hK' _ _ ?_
    clear hK' K'
    refine hwalk2_step (g := none) rfl rfl fun K' hK' => ?_
    simp (maxSteps := 4000000) only [hop1, hgd, List.getElem_toArray, List.getElem_cons_zero, List.getElem_cons_succ, ↓sP, sA, tyS, Nat.reducePow, Nat.reduceLeDiff, reduceCtorEq, Nat.reduceEqDiff, ↓reduceIte, Nat.reduceAdd, Nat.reduceMul, Nat.reduceSub, Nat.reduceLT, e0, Int.toNat_zero, List.drop_zero, Nat.sub_zero, Int.natCast_nonneg, Int.ofNat_lt, hlt, nth_map hlt, owners_len4]
    repeat refine And.intro (by first | omega | (simp only [maxLen]; omega) | assumption | (simp [CV.cells]; done) | (simp [CV.cells, maxLen]; omega)) ?_
    refine hK' _ _ ?_
    clear hK' K'
    refine hwalk2_step (g := none) rfl rfl fun K' hK' => ?_
    simp (maxSteps := 4000000) only [hop1, hgd, List.getElem_toArray, List.getElem_cons_zero, List.getElem_cons_succ, ↓sP, sA, tyS, Nat.reducePow, Nat.reduceLeDiff, reduceCtorEq, Nat.reduceEqDiff, ↓reduceIte, Nat.reduceAdd, Nat.reduceMul, Nat.reduceSub, Nat.reduceLT, e0, Int.toNat_zero, List.drop_zero, Nat.sub_zero, Int.natCast_nonneg, Int.ofNat_lt, hlt, nth_map hlt, owners_len4]
    repeat refine And.intro (by first | omega | (simp only [maxLen]; omega) | assumption | (simp [CV.cells]; done) | (simp [CV.cells, maxLen]; omega)) ?_
    refine hK' _ _ ?_
    clear hK' K'
    refine hwalk2_step (g := none) rfl rfl fun K' hK' => ?_
    simp (maxSteps := 4000000) only [hop1, hgd, List.getElem_toArray, List.getElem_cons_zero, List.getElem_cons_succ, ↓sP, sA, tyS, Nat.reducePow, Nat.reduceLeDiff, reduceCtorEq, Nat.reduceEqDiff, ↓reduceIte, Nat.reduceAdd, Nat.reduceMul, Nat.reduceSub, Nat.reduceLT, e0, Int.toNat_zero, List.drop_zero, Nat.sub_zero, Int.natCast_nonneg, Int.ofNat_lt, hlt, nth_map hlt, owners_len4]
    repeat refine And.intro (by first | omega | (simp only [maxLen]; omega) | assumption | (simp [CV.cells]; done) | (simp [CV.cells, maxLen]; omega)) ?_
    refine hK' _ _ ?_
    clear hK' K'
    refine hwalk2_step (g := none) rfl rfl fun K' hK' => ?_
    simp (maxSteps := 4000000) only [hop1, hgd, List.getElem_toArray, List.getElem_cons_zero, List.getElem_cons_succ, ↓sP, sA, tyS, Nat.reducePow, Nat.reduceLeDiff, reduceCtorEq, Nat.reduceEqDiff, ↓reduceIte, Nat.reduceAdd, Nat.reduceMul, Nat.reduceSub, Nat.reduceLT, e0, Int.toNat_zero, List.drop_zero, Nat.sub_zero, Int.natCast_nonneg, Int.ofNat_lt, hlt, nth_map hlt, owners_len4]
    repeat refine And.intro (by first | omega | (simp only [maxLen]; omega) | assumption | (simp [CV.cells]; done) | (simp [CV.cells, maxLen]; omega)) ?_
    refine hK' _ _ ?_
    clear hK' K'
    refine hwalk2_step (g := none) rfl rfl fun K' hK' => ?_
    simp (maxSteps := 4000000) only [hop1, hgd, List.getElem_toArray, List.getElem_cons_zero, List.getElem_cons_succ, ↓sP, sA, tyS, Nat.reducePow, Nat.reduceLeDiff, reduceCtorEq, Nat.reduceEqDiff, ↓reduceIte, Nat.reduceAdd, Nat.reduceMul, Nat.reduceSub, Nat.reduceLT, e0, Int.toNat_zero, List.drop_zero, Nat.sub_zero, Int.natCast_nonneg, Int.ofNat_lt, hlt, nth_map hlt, owners_len4]
    repeat refine And.intro (by first | omega | (simp only [maxLen]; omega) | assumption | (simp [CV.cells]; done) | (simp [CV.cells, maxLen]; omega)) ?_
    refine hK' _ _ ?_
    clear hK' K'
    refine hwalk2_step (g := none) rfl rfl fun K' hK' => ?_
    simp (maxSteps := 4000000) only [hop1, hgd, List.getElem_toArray, List.getElem_cons_zero, List.getElem_cons_succ, ↓sP, sA, tyS, Nat.reducePow, Nat.reduceLeDiff, reduceCtorEq, Nat.reduceEqDiff, ↓reduceIte, Nat.reduceAdd, Nat.reduceMul, Nat.reduceSub, Nat.reduceLT, e0, Int.toNat_zero, List.drop_zero, Nat.sub_zero, Int.natCast_nonneg, Int.ofNat_lt, hlt, nth_map hlt, owners_len4]
    repeat refine And.intro (by first | omega | (simp only [maxLen]; omega) | assumption | (simp [CV.cells]; done) | (simp [CV.cells, maxLen]; omega)) ?_
    refine hK' _ _ ?_
    clear hK' K'
    refine hwalk2_step (g := none) rfl rfl fun K' hK' => ?_
    simp (maxSteps := 4000000) only [hop1, hgd, List.getElem_toArray, List.getElem_cons_zero, List.getElem_cons_succ, ↓sP, sA, tyS, Nat.reducePow, Nat.reduceLeDiff, reduceCtorEq, Nat.reduceEqDiff, ↓reduceIte, Nat.reduceAdd, Nat.reduceMul, Nat.reduceSub, Nat.reduceLT, e0, Int.toNat_zero, List.drop_zero, Nat.sub_zero, Int.natCast_nonneg, Int.ofNat_lt, hlt, nth_map hlt, owners_len4]
    repeat refine And.intro (by first | omega | (simp only [maxLen]; omega) | assumption | (simp [CV.cells]; done) | (simp [CV.cells, maxLen]; omega)) ?_
    refine hK' _ _ ?_
    clear hK' K'
    refine hwalk2_step (g := none) rfl rfl fun K' hK' => ?_
    simp (maxSteps := 4000000) only [hop1, hgd, List.getElem_toArray, List.getElem_cons_zero, List.getElem_cons_succ, ↓sP, sA, tyS, Nat.reducePow, Nat.reduceLeDiff, reduceCtorEq, Nat.reduceEqDiff, ↓reduceIte, Nat.reduceAdd, Nat.reduceMul, Nat.reduceSub, Nat.reduceLT, e0, Int.toNat_zero, List.drop_zero, Nat.sub_zero, Int.natCast_nonneg, Int.ofNat_lt, hlt, nth_map hlt, owners_len4]
    refine call_pure (args := [_, _]) (has_ok (owners.take k) m[i].w (by simp [owners_len4]; omega)) ⟨rfl, rfl, rfl, rfl⟩ ?_
    rintro u rfl
    repeat refine And.intro (by first | omega | (simp only [maxLen]; omega) | assumption | (simp [CV.cells]; done) | (simp [CV.cells, maxLen]; omega)) ?_
    refine hK' _ _ ?_
    clear hK' K'
    simp only [hlex, hwalk2, hthen, hblk, ↓reduceIte, reduceCtorEq, Nat.reduceEqDiff, List.size_toArray, List.length_cons, List.length_nil, Nat.reduceAdd, Nat.reduceMul, Nat.zero_add]
    repeat refine And.intro (by first | omega | (simp only [maxLen]; omega) | assumption | (simp [CV.cells]; done) | (simp [CV.cells, maxLen]; omega)) ?_
    refine hK _ _ _ ?_
    clear hK K
    refine hw_cond (b := (owners.take k).contains m[i].w) rfl (fun hb => ?_) (fun hb => ?_)
    · refine hw_region (by kernel_rfl) ?_
      simp only [List.range, List.range.loop, List.size_toArray, List.length_cons, List.length_nil, Nat.reduceAdd, Nat.reduceMul, Nat.zero_add, Nat.add_zero]
      refine hlex_step (g := none) rfl rfl fun K' hK' => ?_
      simp (maxSteps := 4000000) only [hop1, hgd, List.getElem_toArray, List.getElem_cons_zero, List.getElem_cons_succ, ↓sP, sA, tyS, Nat.reducePow, Nat.reduceLeDiff, reduceCtorEq, Nat.reduceEqDiff, ↓reduceIte, Nat.reduceAdd, Nat.reduceMul, Nat.reduceSub, Nat.reduceLT, Int.natCast_nonneg, Int.ofNat_lt, hlt, nth_map hlt, List.length_append]
      repeat refine And.intro (by first | omega | (simp only [maxLen]; omega) | assumption | (simp [CV.cells]; done) | (simp [CV.cells, maxLen]; omega)) ?_
      refine hK' _ _ ?_
      clear hK' K'
      refine hlex_step (g := none) rfl rfl fun K' hK' => ?_
      simp (maxSteps := 4000000) only [hop1, hgd, List.getElem_toArray, List.getElem_cons_zero, List.getElem_cons_succ, ↓sP, sA, tyS, Nat.reducePow, Nat.reduceLeDiff, reduceCtorEq, Nat.reduceEqDiff, ↓reduceIte, Nat.reduceAdd, Nat.reduceMul, Nat.reduceSub, Nat.reduceLT, Int.natCast_nonneg, Int.ofNat_lt, hlt, nth_map hlt, List.length_append]
      repeat refine And.intro (by first | omega | (simp only [maxLen]; omega) | assumption | (simp [CV.cells]; done) | (simp [CV.cells, maxLen]; omega)) ?_
      refine hK' _ _ ?_
      clear hK' K'
      refine hlex_step (g := none) rfl rfl fun K' hK' => ?_
      simp (maxSteps := 4000000) only [hop1, hgd, List.getElem_toArray, List.getElem_cons_zero, List.getElem_cons_succ, ↓sP, sA, tyS, Nat.reducePow, Nat.reduceLeDiff, reduceCtorEq, Nat.reduceEqDiff, ↓reduceIte, Nat.reduceAdd, Nat.reduceMul, Nat.reduceSub, Nat.reduceLT, Int.natCast_nonneg, Int.ofNat_lt, hlt, nth_map hlt, List.length_append]
      repeat refine And.intro (by first | omega | (simp only [maxLen]; omega) | assumption | (simp [CV.cells]; done) | (simp [CV.cells, maxLen]; omega)) ?_
      refine hK' _ _ ?_
      clear hK' K'
      refine hlex_step (g := none) rfl rfl fun K' hK' => ?_
      simp (maxSteps := 4000000) only [hop1, hgd, List.getElem_toArray, List.getElem_cons_zero, List.getElem_cons_succ, ↓sP, sA, tyS, Nat.reducePow, Nat.reduceLeDiff, reduceCtorEq, Nat.reduceEqDiff, ↓reduceIte, Nat.reduceAdd, Nat.reduceMul, Nat.reduceSub, Nat.reduceLT, Int.natCast_nonneg, Int.ofNat_lt, hlt, nth_map hlt, List.length_append]
      repeat refine And.intro (by first | omega | (simp only [maxLen]; omega) | assumption | (simp [CV.cells]; done) | (simp [CV.cells, maxLen]; omega)) ?_
      refine hK' _ _ ?_
      clear hK' K'
      refine hlex_step (g := none) rfl rfl fun K' hK' => ?_
      simp (maxSteps := 4000000) only [hop1, hgd, List.getElem_toArray, List.getElem_cons_zero, List.getElem_cons_succ, ↓sP, sA, tyS, Nat.reducePow, Nat.reduceLeDiff, reduceCtorEq, Nat.reduceEqDiff, ↓reduceIte, Nat.reduceAdd, Nat.reduceMul, Nat.reduceSub, Nat.reduceLT, Int.natCast_nonneg, Int.ofNat_lt, hlt, nth_map hlt, List.length_append]
      repeat refine And.intro (by first | omega | (simp only [maxLen]; omega) | assumption | (simp [CV.cells]; done) | (simp [CV.cells, maxLen]; omega)) ?_
      refine hK' _ _ ?_
      clear hK' K'
      refine hlex_step (g := none) rfl rfl fun K' hK' => ?_
      simp (maxSteps := 4000000) only [hop1, hgd, List.getElem_toArray, List.getElem_cons_zero, List.getElem_cons_succ, ↓sP, sA, tyS, Nat.reducePow, Nat.reduceLeDiff, reduceCtorEq, Nat.reduceEqDiff, ↓reduceIte, Nat.reduceAdd, Nat.reduceMul, Nat.reduceSub, Nat.reduceLT, Int.natCast_nonneg, Int.ofNat_lt, hlt, nth_map hlt, List.length_append]
      repeat refine And.intro (by first | omega | (simp only [maxLen]; omega) | assumption | (simp [CV.cells]; done) | (simp [CV.cells, maxLen]; omega)) ?_
      refine hK' _ _ ?_
      clear hK' K'
      refine hlex_step (g := none) rfl rfl fun K' hK' => ?_
      simp (maxSteps := 4000000) only [hop1, hgd, List.getElem_toArray, List.getElem_cons_zero, List.getElem_cons_succ, ↓sP, sA, tyS, Nat.reducePow, Nat.reduceLeDiff, reduceCtorEq, Nat.reduceEqDiff, ↓reduceIte, Nat.reduceAdd, Nat.reduceMul, Nat.reduceSub, Nat.reduceLT, Int.natCast_nonneg, Int.ofNat_lt, hlt, nth_map hlt, List.length_append]
      repeat refine And.intro (by first | omega | (simp only [maxLen]; omega) | assumption | (simp [CV.cells]; done) | (simp [CV.cells, maxLen]; omega)) ?_
      refine hK' _ _ ?_
      clear hK' K'
      refine hlex_step (g := none) rfl rfl fun K' hK' => ?_
      simp (maxSteps := 4000000) only [hop1, hgd, List.getElem_toArray, List.getElem_cons_zero, List.getElem_cons_succ, ↓sP, sA, tyS, Nat.reducePow, Nat.reduceLeDiff, reduceCtorEq, Nat.reduceEqDiff, ↓reduceIte, Nat.reduceAdd, Nat.reduceMul, Nat.reduceSub, Nat.reduceLT, Int.natCast_nonneg, Int.ofNat_lt, hlt, nth_map hlt, List.length_append]
      repeat refine And.intro (by first | omega | (simp only [maxLen]; omega) | assumption | (simp [CV.cells]; done) | (simp [CV.cells, maxLen]; omega)) ?_
      refine hK' _ _ ?_
      clear hK' K'
      simp only [hlex, hwalk2, hthen, hblk, ↓reduceIte, reduceCtorEq, Nat.reduceEqDiff, List.size_toArray, List.length_cons, List.length_nil, Nat.reduceAdd, Nat.reduceMul, Nat.zero_add]
      exact key (r0 ++ [m[i]]) _ _ _ (by rw [hr0, filter_take _ _ _ hlt, if_pos hb]) (fits_fin (by omega) (by simp [FinOk, fin_at, finA_at, upd_at, HV.men, HV.menL, HV.norm, HV.toC, HV.toCL]) (by simp [FobOk, fob_at, upd_at, none0_at, HO.men, HV.men, HV.menL, HV.norm, HV.toC, HV.toCL]))
    · refine hw_skip ?_
      simp (maxSteps := 4000000) only [↓sP, sA, tyS, Nat.reducePow, Nat.reduceLeDiff, reduceCtorEq, Nat.reduceEqDiff, ↓reduceIte, Nat.reduceAdd, Nat.reduceMul, Nat.reduceSub, Nat.reduceLT]
      exact key r0 _ _ _ (by rw [hr0, filter_take _ _ _ hlt, if_neg (by rw [hb]; simp), List.append_nil]) (fits_fin (by omega) (by simp [FinOk, fin_at, finA_at, upd_at, HV.men, HV.menL, HV.norm, HV.toC, HV.toCL]) (by simp [FobOk, fob_at, upd_at, none0_at, HO.men, HV.men, HV.menL, HV.norm, HV.toC, HV.toCL]))
  · have hei : i = m.length := by simp at hb; omega
    subst hei
    rw [List.take_length] at hr0
    have hr0all : ∀ x ∈ r0, x.w ∈ owners.take k ∧ x.w ∈ owners := fun x hx => by
      rw [hr0] at hx
      obtain ⟨h1, h2⟩ := List.mem_filter.1 hx
      exact ⟨by simpa using h2, (hm.2 x h1).1⟩
    refine hw_exit ?_
    simp (maxSteps := 4000000) only [↓sP, sA, tyS, Nat.reducePow, Nat.reduceLeDiff, reduceCtorEq, Nat.reduceEqDiff, ↓reduceIte, Nat.reduceAdd, Nat.reduceMul, Nat.reduceSub, Nat.reduceLT]
    clear hK K
    repeat refine And.intro (by first | omega | (simp only [maxLen]; omega) | assumption | (simp [CV.cells]; done) | (simp [CV.cells, maxLen]; omega)) ?_
    refine hK _ _ _ ?_
    clear hK K
    refine hw_seq fun K hK => hw_region (by kernel_rfl) ?_
    simp (maxSteps := 4000000) only [↓sP, sA, tyS, Nat.reducePow, Nat.reduceLeDiff, reduceCtorEq, Nat.reduceEqDiff, ↓reduceIte, Nat.reduceAdd, Nat.reduceMul, Nat.reduceSub, Nat.reduceLT]
    refine call_pure (args := []) want_ok ⟨rfl, rfl, rfl, rfl⟩ ?_
    rintro u rfl
    simp only [↓sP, sA, tyS, Nat.reducePow, Nat.reduceLeDiff, reduceCtorEq, Nat.reduceEqDiff, ↓reduceIte, Nat.reduceAdd, Nat.reduceMul, Nat.reduceSub, Nat.reduceLT]
    repeat refine And.intro (by first | omega | (simp only [maxLen]; omega) | assumption | (simp [CV.cells]; done) | (simp [CV.cells, maxLen]; omega)) ?_
    refine hK _ _ _ ?_
    clear hK K
    refine hw_seq fun K hK => hw_region (by kernel_rfl) ?_
    simp only [List.range, List.range.loop, List.size_toArray, List.length_cons, List.length_nil, Nat.reduceAdd, Nat.reduceMul, Nat.zero_add, Nat.add_zero]
    refine hlex_step (g := none) rfl rfl fun K' hK' => ?_
    simp (maxSteps := 4000000) only [hop1, hgd, List.getElem_toArray, List.getElem_cons_zero, List.getElem_cons_succ, ↓sP, sA, tyS, Nat.reducePow, Nat.reduceLeDiff, reduceCtorEq, Nat.reduceEqDiff, ↓reduceIte, Nat.reduceAdd, Nat.reduceMul, Nat.reduceSub, Nat.reduceLT]
    repeat refine And.intro (by first | omega | (simp only [maxLen]; omega) | assumption | (simp [CV.cells]; done) | (simp [CV.cells, maxLen]; omega)) ?_
    refine hK' _ _ ?_
    clear hK' K'
    refine hlex_step (g := none) rfl rfl fun K' hK' => ?_
    simp (maxSteps := 4000000) only [hop1, hgd, List.getElem_toArray, List.getElem_cons_zero, List.getElem_cons_succ, ↓sP, sA, tyS, Nat.reducePow, Nat.reduceLeDiff, reduceCtorEq, Nat.reduceEqDiff, ↓reduceIte, Nat.reduceAdd, Nat.reduceMul, Nat.reduceSub, Nat.reduceLT]
    refine call_box (args := [_]) (next_ok L a1 2 (by omega) (by omega)) rfl (by simp) ⟨rfl, rfl, rfl, rfl⟩ ?_
    rintro u v' ⟨x, a2, rfl, rfl, q1, q2, q3, q4⟩
    have hx2 := q4 (by omega)
    have w1 : IntKind.i64.wrap (3 + x) = 3 + x := IntWalk.i64_in _ (by omega)
    have w2 : IntKind.u8.wrap (3 + x) = 3 + x := IntWalk.u8_in _ (by omega)
    have w3 : dgi .u8 (3 + x) = dg (dg1 (UInt8.ofNat (3 + x).toNat)) := dgi_ofInt (by omega) (by omega)
    obtain ⟨d, hd⟩ : ∃ d, d = dg1 (UInt8.ofNat (3 + x).toNat) := ⟨_, rfl⟩
    rw [← hd] at w3
    repeat refine And.intro (by first | omega | (simp only [maxLen]; omega) | assumption | (simp [CV.cells]; done) | (simp [CV.cells, maxLen]; omega)) ?_
    refine hK' _ _ ?_
    clear hK' K'
    refine hlex_step (g := none) rfl rfl fun K' hK' => ?_
    simp (maxSteps := 4000000) only [hop1, hgd, List.getElem_toArray, List.getElem_cons_zero, List.getElem_cons_succ, ↓sP, sA, tyS, Nat.reducePow, Nat.reduceLeDiff, reduceCtorEq, Nat.reduceEqDiff, ↓reduceIte, Nat.reduceAdd, Nat.reduceMul, Nat.reduceSub, Nat.reduceLT]
    rw [w1]
    repeat refine And.intro (by first | omega | (simp only [maxLen]; omega) | assumption | (simp [CV.cells]; done) | (simp [CV.cells, maxLen]; omega)) ?_
    refine hK' _ _ ?_
    clear hK' K'
    refine hlex_step (g := none) rfl rfl fun K' hK' => ?_
    simp (maxSteps := 4000000) only [hop1, hgd, List.getElem_toArray, List.getElem_cons_zero, List.getElem_cons_succ, ↓sP, sA, tyS, Nat.reducePow, Nat.reduceLeDiff, reduceCtorEq, Nat.reduceEqDiff, ↓reduceIte, Nat.reduceAdd, Nat.reduceMul, Nat.reduceSub, Nat.reduceLT]
    rw [w2]
    repeat refine And.intro (by first | omega | (simp only [maxLen]; omega) | assumption | (simp [CV.cells]; done) | (simp [CV.cells, maxLen]; omega)) ?_
    refine hK' _ _ ?_
    clear hK' K'
    refine hlex_step (g := none) rfl rfl fun K' hK' => ?_
    simp (maxSteps := 4000000) only [hop1, hgd, List.getElem_toArray, List.getElem_cons_zero, List.getElem_cons_succ, ↓sP, sA, tyS, Nat.reducePow, Nat.reduceLeDiff, reduceCtorEq, Nat.reduceEqDiff, ↓reduceIte, Nat.reduceAdd, Nat.reduceMul, Nat.reduceSub, Nat.reduceLT]
    rw [w3]
    repeat refine And.intro (by first | omega | (simp only [maxLen]; omega) | assumption | (simp [CV.cells]; done) | (simp [CV.cells, maxLen]; omega)) ?_
    refine hK' _ _ ?_
    clear hK' K'
    refine hlex_step (g := none) rfl rfl fun K' hK' => ?_
    simp (maxSteps := 4000000) only [hop1, hgd, List.getElem_toArray, List.getElem_cons_zero, List.getElem_cons_succ, ↓sP, sA, tyS, Nat.reducePow, Nat.reduceLeDiff, reduceCtorEq, Nat.reduceEqDiff, ↓reduceIte, Nat.reduceAdd, Nat.reduceMul, Nat.reduceSub, Nat.reduceLT]
    repeat refine And.intro (by first | omega | (simp only [maxLen]; omega) | assumption | (simp [CV.cells]; done) | (simp [CV.cells, maxLen]; omega)) ?_
    refine hK' _ _ ?_
    clear hK' K'
    refine hlex_step (g := none) rfl rfl fun K' hK' => ?_
    simp (maxSteps := 4000000) only [hop1, hgd, List.getElem_toArray, List.getElem_cons_zero, List.getElem_cons_succ, ↓sP, sA, tyS, Nat.reducePow, Nat.reduceLeDiff, reduceCtorEq, Nat.reduceEqDiff, ↓reduceIte, Nat.reduceAdd, Nat.reduceMul, Nat.reduceSub, Nat.reduceLT]
    repeat refine And.intro (by first | omega | (simp only [maxLen]; omega) | assumption | (simp [CV.cells]; done) | (simp [CV.cells, maxLen]; omega)) ?_
    refine hK' _ _ ?_
    clear hK' K'
    simp only [hlex, hwalk2, hthen, hblk, ↓reduceIte, reduceCtorEq, Nat.reduceEqDiff, List.size_toArray, List.length_cons, List.length_nil, Nat.reduceAdd, Nat.reduceMul, Nat.zero_add]
    repeat refine And.intro (by first | omega | (simp only [maxLen]; omega) | assumption | (simp [CV.cells]; done) | (simp [CV.cells, maxLen]; omega)) ?_
    refine hK _ _ _ ?_
    clear hK K
    refine hw_seq fun K hK => ?_
    refine hw_seq fun K hK => hw_region (by kernel_rfl) ?_
    simp (maxSteps := 4000000) only [↓sP, sA, tyS, Nat.reducePow, Nat.reduceLeDiff, reduceCtorEq, Nat.reduceEqDiff, ↓reduceIte, Nat.reduceAdd, Nat.reduceMul, Nat.reduceSub, Nat.reduceLT]
    repeat refine And.intro (by first | omega | (simp only [maxLen]; omega) | assumption | (simp [CV.cells]; done) | (simp [CV.cells, maxLen]; omega)) ?_
    refine hK _ _ _ ?_
    clear hK K
    refine hw_block ?_
    refine hw_loop (α := {s : Nat × Nat × List Rb // k ≤ s.1 ∧ s.1 ≤ 4 ∧ s.2.1 ≤ a2 + 2 * s.1 ∧ s.2.2.length ≤ 8 + s.1 ∧ ∀ x ∈ s.2.2, (x.w ∈ owners.take k ∨ x.p.o = d) ∧ x.w ∈ owners}) (fun s => (fin [(5, .ptr 12 0), (6, .c (.slc (owners.map .str))), (7, .c (.int .i64 k)), (8, .own 68 s.1.2.2.length), (11, .ptr 100 0), (12, .c (.int .i64 s.1.1))], fob [(12, .box 39 (.c (tp L s.1.2.1))), (68, .row 46 98 (s.1.2.2.map Rb.cv)), (100, .box 26 (.c (.agg [dg (dg1 1), dg (dg1 2), dg d])))])) 150 (fun s => 4 - s.1.1) ⟨(k, a2, r0), by simp, by simp <;> omega, by simp <;> omega, by simp <;> omega, fun x hx => ⟨.inl (hr0all x hx).1, (hr0all x hx).2⟩⟩ (fits_fin (by omega) (by simp [FinOk, fin_at, finA_at, upd_at, HV.men, HV.menL, HV.norm, HV.toC, HV.toCL]) (by simp [FobOk, fob_at, upd_at, none0_at, HO.men, HV.men, HV.menL, HV.norm, HV.toC, HV.toCL])) ?_
    rintro ⟨⟨i, a3, r⟩, g1, g2, g3, g4, g5⟩
    simp only at g1 g2 g3 g4 g5 ⊢
    refine hw_seq fun K hK => ?_
    refine hw_seq fun K hK => hw_region (by kernel_rfl) ?_
    simp only [List.range, List.range.loop, List.size_toArray, List.length_cons, List.length_nil, Nat.reduceAdd, Nat.reduceMul, Nat.zero_add, Nat.add_zero]
    refine hlex_step (g := none) rfl rfl fun K' hK' => ?_
    simp (maxSteps := 4000000) only [hop1, hgd, List.getElem_toArray, List.getElem_cons_zero, List.getElem_cons_succ, ↓sP, sA, tyS, Nat.reducePow, Nat.reduceLeDiff, reduceCtorEq, Nat.reduceEqDiff, ↓reduceIte, Nat.reduceAdd, Nat.reduceMul, Nat.reduceSub, Nat.reduceLT]
    repeat refine And.intro (by first | omega | (simp only [maxLen]; omega) | assumption | (simp [CV.cells]; done) | (simp [CV.cells, maxLen]; omega)) ?_
    refine hK' _ _ ?_
    clear hK' K'
    refine hlex_step (g := none) rfl rfl fun K' hK' => ?_
    simp (maxSteps := 4000000) only [hop1, hgd, List.getElem_toArray, List.getElem_cons_zero, List.getElem_cons_succ, ↓sP, sA, tyS, Nat.reducePow, Nat.reduceLeDiff, reduceCtorEq, Nat.reduceEqDiff, ↓reduceIte, Nat.reduceAdd, Nat.reduceMul, Nat.reduceSub, Nat.reduceLT]
    repeat refine And.intro (by first | omega | (simp only [maxLen]; omega) | assumption | (simp [CV.cells]; done) | (simp [CV.cells, maxLen]; omega)) ?_
    refine hK' _ _ ?_
    clear hK' K'
    refine hlex_step (g := none) rfl rfl fun K' hK' => ?_
    simp (maxSteps := 4000000) only [hop1, hgd, List.getElem_toArray, List.getElem_cons_zero, List.getElem_cons_succ, ↓sP, sA, tyS, Nat.reducePow, Nat.reduceLeDiff, reduceCtorEq, Nat.reduceEqDiff, ↓reduceIte, Nat.reduceAdd, Nat.reduceMul, Nat.reduceSub, Nat.reduceLT]
    repeat refine And.intro (by first | omega | (simp only [maxLen]; omega) | assumption | (simp [CV.cells]; done) | (simp [CV.cells, maxLen]; omega)) ?_
    refine hK' _ _ ?_
    clear hK' K'
    refine hlex_step (g := none) rfl rfl fun K' hK' => ?_
    simp (maxSteps := 4000000) only [hop1, hgd, List.getElem_toArray, List.getElem_cons_zero, List.getElem_cons_succ, ↓sP, sA, tyS, Nat.reducePow, Nat.reduceLeDiff, reduceCtorEq, Nat.reduceEqDiff, ↓reduceIte, Nat.reduceAdd, Nat.reduceMul, Nat.reduceSub, Nat.reduceLT]
    repeat refine And.intro (by first | omega | (simp only [maxLen]; omega) | assumption | (simp [CV.cells]; done) | (simp [CV.cells, maxLen]; omega)) ?_
    refine hK' _ _ ?_
    clear hK' K'
    simp only [hlex, hwalk2, hthen, hblk, ↓reduceIte, reduceCtorEq, Nat.reduceEqDiff, List.size_toArray, List.length_cons, List.length_nil, Nat.reduceAdd, Nat.reduceMul, Nat.zero_add]
    repeat refine And.intro (by first | omega | (simp only [maxLen]; omega) | assumption | (simp [CV.cells]; done) | (simp [CV.cells, maxLen]; omega)) ?_
    refine hK _ _ _ ?_
    clear hK K
    refine hw_cond (b := decide ((i : Int) < owners.length)) rfl (fun hb => ?_) (fun hb => ?_)
    · have hlt : i < owners.length := by simpa using hb
      have hi4 : i < 4 := hlt
      refine hw_skip ?_
      simp (maxSteps := 4000000) only [↓sP, sA, tyS, Nat.reducePow, Nat.reduceLeDiff, reduceCtorEq, Nat.reduceEqDiff, ↓reduceIte, Nat.reduceAdd, Nat.reduceMul, Nat.reduceSub, Nat.reduceLT]
      repeat refine And.intro (by first | omega | (simp only [maxLen]; omega) | assumption | (simp [CV.cells]; done) | (simp [CV.cells, maxLen]; omega)) ?_
      refine hK _ _ _ ?_
      clear hK K
      refine hw_seq fun K hK => ?_
      have key2 : ∀ (r' : List Rb) (a' : Nat) fr ob nx, a' ≤ a3 + 2 → r'.length ≤ r.length + 1 → (∀ x ∈ r', (x.w ∈ owners.take k ∨ x.p.o = d) ∧ x.w ∈ owners) → Fits 0 fr ob (fin [(5, .ptr 12 0), (6, .c (.slc (owners.map .str))), (7, .c (.int .i64 k)), (8, .own 68 r'.length), (11, .ptr 100 0), (12, .c (.int .i64 i))]) (fob [(12, .box 39 (.c (tp L a'))), (68, .row 46 98 (r'.map Rb.cv)), (100, .box 26 (.c (.agg [dg (dg1 1), dg (dg1 2), dg d])))]) 400 → K fr ob nx := by
        rintro r' a' fr ob nx j1 j2 j3 hf
        refine hK _ _ _ (hw_fits hf ?_)
        clear hf hK K
        refine hw_region (by kernel_rfl) ?_
        simp (maxSteps := 4000000) only [↓sP, sA, tyS, Nat.reducePow, Nat.reduceLeDiff, reduceCtorEq, Nat.reduceEqDiff, ↓reduceIte, Nat.reduceAdd, Nat.reduceMul, Nat.reduceSub, Nat.reduceLT, IntWalk.i64_in _ (show -9223372036854775808 ≤ (i : Int) + 1 ∧ (i : Int) + 1 ≤ 9223372036854775807 by omega)]
        refine ⟨⟨(i + 1, a', r'), by simp <;> omega, by simp <;> omega, by simp <;> omega, by simp <;> omega, j3⟩, fits_fin (by omega) (by simp [FinOk, fin_at, finA_at, upd_at, HV.men, HV.menL, HV.norm, HV.toC, HV.toCL]) (by simp [FobOk, fob_at, upd_at, none0_at, HO.men, HV.men, HV.menL, HV.norm, HV.toC, HV.toCL]), ?_⟩
        show 4 - (i + 1) < 4 - i
        omega
      refine hw_block ?_
      refine hw_seq fun K hK => hw_region (by kernel_rfl) ?_
      simp (maxSteps := 4000000) only [↓sP, sA, tyS, Nat.reducePow, Nat.reduceLeDiff, reduceCtorEq, Nat.reduceEqDiff, ↓reduceIte, Nat.reduceAdd, Nat.reduceMul, Nat.reduceSub, Nat.reduceLT]
      refine call_box (args := [_]) (next_ok L a3 4 (by omega) (by omega)) rfl (by simp) ⟨rfl, rfl, rfl, rfl⟩ ?_
      rintro u v' ⟨y, a4, rfl, rfl, y1, y2, y3, y4⟩
      simp only [↓sP, sA, tyS, Nat.reducePow, Nat.reduceLeDiff, reduceCtorEq, Nat.reduceEqDiff, ↓reduceIte, Nat.reduceAdd, Nat.reduceMul, Nat.reduceSub, Nat.reduceLT]
      repeat refine And.intro (by first | omega | (simp only [maxLen]; omega) | assumption | (simp [CV.cells]; done) | (simp [CV.cells, maxLen]; omega)) ?_
      refine hK _ _ _ ?_
      clear hK K
      refine hw_cond (b := decide (0 < y)) rfl (fun hb => ?_) (fun hb => ?_)
      · refine hw_draw2 mixed [(0, [], []), (1, [], []), (2, [], []), (3, [], []), (4, [], []), (5, [], []), (6, [], []), (7, [], [0, 1, 2, 3, 4, 5]), (8, [], []), (9, [], []), (10, [], []), (11, [], []), (12, [], [])] [0, 0, 0, 6, 14, 0, 0, 64, 224, 510, 1022, 2047, 4095] (by kernel_rfl) (by kernel_rfl) (by kernel_rfl) (by kernel_rfl) rfl (by kernel_rfl) ?_
        refine hwalk2_step (g := none) rfl rfl fun K' hK' => ?_
        simp (maxSteps := 4000000) only [hop1, hgd, List.getElem_toArray, List.getElem_cons_zero, List.getElem_cons_succ, ↓sP, sA, tyS, Nat.reducePow, Nat.reduceLeDiff, reduceCtorEq, Nat.reduceEqDiff, ↓reduceIte, Nat.reduceAdd, Nat.reduceMul, Nat.reduceSub, Nat.reduceLT, Int.natCast_nonneg, Int.ofNat_lt, hlt, nth_map hlt, List.length_append]
        repeat refine And.intro (by first | omega | (simp only [maxLen]; omega) | assumption | (simp [CV.cells]; done) | (simp [CV.cells, maxLen]; omega)) ?_
        refine hK' _ _ ?_
        clear hK' K'
        refine hwalk2_step (g := none) rfl rfl fun K' hK' => ?_
        simp (maxSteps := 4000000) only [hop1, hgd, List.getElem_toArray, List.getElem_cons_zero, List.getElem_cons_succ, ↓sP, sA, tyS, Nat.reducePow, Nat.reduceLeDiff, reduceCtorEq, Nat.reduceEqDiff, ↓reduceIte, Nat.reduceAdd, Nat.reduceMul, Nat.reduceSub, Nat.reduceLT, Int.natCast_nonneg, Int.ofNat_lt, hlt, nth_map hlt, List.length_append]
        repeat refine And.intro (by first | omega | (simp only [maxLen]; omega) | assumption | (simp [CV.cells]; done) | (simp [CV.cells, maxLen]; omega)) ?_
        refine hK' _ _ ?_
        clear hK' K'
        refine hwalk2_step (g := none) rfl rfl fun K' hK' => ?_
        simp (maxSteps := 4000000) only [hop1, hgd, List.getElem_toArray, List.getElem_cons_zero, List.getElem_cons_succ, ↓sP, sA, tyS, Nat.reducePow, Nat.reduceLeDiff, reduceCtorEq, Nat.reduceEqDiff, ↓reduceIte, Nat.reduceAdd, Nat.reduceMul, Nat.reduceSub, Nat.reduceLT, Int.natCast_nonneg, Int.ofNat_lt, hlt, nth_map hlt, List.length_append]
        repeat refine And.intro (by first | omega | (simp only [maxLen]; omega) | assumption | (simp [CV.cells]; done) | (simp [CV.cells, maxLen]; omega)) ?_
        refine hK' _ _ ?_
        clear hK' K'
        refine hwalk2_step (g := none) rfl rfl fun K' hK' => ?_
        simp (maxSteps := 4000000) only [hop1, hgd, List.getElem_toArray, List.getElem_cons_zero, List.getElem_cons_succ, ↓sP, sA, tyS, Nat.reducePow, Nat.reduceLeDiff, reduceCtorEq, Nat.reduceEqDiff, ↓reduceIte, Nat.reduceAdd, Nat.reduceMul, Nat.reduceSub, Nat.reduceLT, Int.natCast_nonneg, Int.ofNat_lt, hlt, nth_map hlt, List.length_append]
        repeat refine And.intro (by first | omega | (simp only [maxLen]; omega) | assumption | (simp [CV.cells]; done) | (simp [CV.cells, maxLen]; omega)) ?_
        refine hK' _ _ ?_
        clear hK' K'
        refine hwalk2_step (g := none) rfl rfl fun K' hK' => ?_
        simp (maxSteps := 4000000) only [hop1, hgd, List.getElem_toArray, List.getElem_cons_zero, List.getElem_cons_succ, ↓sP, sA, tyS, Nat.reducePow, Nat.reduceLeDiff, reduceCtorEq, Nat.reduceEqDiff, ↓reduceIte, Nat.reduceAdd, Nat.reduceMul, Nat.reduceSub, Nat.reduceLT, Int.natCast_nonneg, Int.ofNat_lt, hlt, nth_map hlt, List.length_append]
        repeat refine And.intro (by first | omega | (simp only [maxLen]; omega) | assumption | (simp [CV.cells]; done) | (simp [CV.cells, maxLen]; omega)) ?_
        refine hK' _ _ ?_
        clear hK' K'
        refine hwalk2_step (g := none) rfl rfl fun K' hK' => ?_
        simp (maxSteps := 4000000) only [hop1, hgd, List.getElem_toArray, List.getElem_cons_zero, List.getElem_cons_succ, ↓sP, sA, tyS, Nat.reducePow, Nat.reduceLeDiff, reduceCtorEq, Nat.reduceEqDiff, ↓reduceIte, Nat.reduceAdd, Nat.reduceMul, Nat.reduceSub, Nat.reduceLT, Int.natCast_nonneg, Int.ofNat_lt, hlt, nth_map hlt, List.length_append]
        repeat refine And.intro (by first | omega | (simp only [maxLen]; omega) | assumption | (simp [CV.cells]; done) | (simp [CV.cells, maxLen]; omega)) ?_
        refine hK' _ _ ?_
        clear hK' K'
        refine hwalk2_step (g := none) rfl rfl fun K' hK' => ?_
        simp (maxSteps := 4000000) only [hop1, hgd, List.getElem_toArray, List.getElem_cons_zero, List.getElem_cons_succ, ↓sP, sA, tyS, Nat.reducePow, Nat.reduceLeDiff, reduceCtorEq, Nat.reduceEqDiff, ↓reduceIte, Nat.reduceAdd, Nat.reduceMul, Nat.reduceSub, Nat.reduceLT, Int.natCast_nonneg, Int.ofNat_lt, hlt, nth_map hlt, List.length_append]
        repeat refine And.intro (by first | omega | (simp only [maxLen]; omega) | assumption | (simp [CV.cells]; done) | (simp [CV.cells, maxLen]; omega)) ?_
        refine hK' _ _ ?_
        clear hK' K'
        refine hwalk2_step (g := none) rfl rfl fun K' hK' => ?_
        simp (maxSteps := 4000000) only [hop1, hgd, List.getElem_toArray, List.getElem_cons_zero, List.getElem_cons_succ, ↓sP, sA, tyS, Nat.reducePow, Nat.reduceLeDiff, reduceCtorEq, Nat.reduceEqDiff, ↓reduceIte, Nat.reduceAdd, Nat.reduceMul, Nat.reduceSub, Nat.reduceLT, Int.natCast_nonneg, Int.ofNat_lt, hlt, nth_map hlt, List.length_append]
        refine call_box (args := [_]) (next_ok L a4 6 (by omega) (by omega)) rfl (by simp) ⟨rfl, rfl, rfl, rfl⟩ ?_
        rintro u v' ⟨z, a5, rfl, rfl, z1, z2, z3, z4⟩
        repeat refine And.intro (by first | omega | (simp only [maxLen]; omega) | assumption | (simp [CV.cells]; done) | (simp [CV.cells, maxLen]; omega)) ?_
        refine hK' _ _ ?_
        clear hK' K'
        refine hwalk2_step (g := none) rfl rfl fun K' hK' => ?_
        simp (maxSteps := 4000000) only [hop1, hgd, List.getElem_toArray, List.getElem_cons_zero, List.getElem_cons_succ, ↓sP, sA, tyS, Nat.reducePow, Nat.reduceLeDiff, reduceCtorEq, Nat.reduceEqDiff, ↓reduceIte, Nat.reduceAdd, Nat.reduceMul, Nat.reduceSub, Nat.reduceLT, Int.natCast_nonneg, Int.ofNat_lt, hlt, nth_map hlt, List.length_append]
        repeat refine And.intro (by first | omega | (simp only [maxLen]; omega) | assumption | (simp [CV.cells]; done) | (simp [CV.cells, maxLen]; omega)) ?_
        refine hK' _ _ ?_
        clear hK' K'
        refine hwalk2_step (g := none) rfl rfl fun K' hK' => ?_
        simp (maxSteps := 4000000) only [hop1, hgd, List.getElem_toArray, List.getElem_cons_zero, List.getElem_cons_succ, ↓sP, sA, tyS, Nat.reducePow, Nat.reduceLeDiff, reduceCtorEq, Nat.reduceEqDiff, ↓reduceIte, Nat.reduceAdd, Nat.reduceMul, Nat.reduceSub, Nat.reduceLT, Int.natCast_nonneg, Int.ofNat_lt, hlt, nth_map hlt, List.length_append]
        repeat refine And.intro (by first | omega | (simp only [maxLen]; omega) | assumption | (simp [CV.cells]; done) | (simp [CV.cells, maxLen]; omega)) ?_
        refine hK' _ _ ?_
        clear hK' K'
        refine hwalk2_step (g := none) rfl rfl fun K' hK' => ?_
        simp (maxSteps := 4000000) only [hop1, hgd, List.getElem_toArray, List.getElem_cons_zero, List.getElem_cons_succ, ↓sP, sA, tyS, Nat.reducePow, Nat.reduceLeDiff, reduceCtorEq, Nat.reduceEqDiff, ↓reduceIte, Nat.reduceAdd, Nat.reduceMul, Nat.reduceSub, Nat.reduceLT, Int.natCast_nonneg, Int.ofNat_lt, hlt, nth_map hlt, List.length_append]
        repeat refine And.intro (by first | omega | (simp only [maxLen]; omega) | assumption | (simp [CV.cells]; done) | (simp [CV.cells, maxLen]; omega)) ?_
        refine hK' _ _ ?_
        clear hK' K'
        refine hwalk2_step (g := none) rfl rfl fun K' hK' => ?_
        simp (maxSteps := 4000000) only [hop1, hgd, List.getElem_toArray, List.getElem_cons_zero, List.getElem_cons_succ, ↓sP, sA, tyS, Nat.reducePow, Nat.reduceLeDiff, reduceCtorEq, Nat.reduceEqDiff, ↓reduceIte, Nat.reduceAdd, Nat.reduceMul, Nat.reduceSub, Nat.reduceLT, Int.natCast_nonneg, Int.ofNat_lt, hlt, nth_map hlt, List.length_append]
        repeat refine And.intro (by first | omega | (simp only [maxLen]; omega) | assumption | (simp [CV.cells]; done) | (simp [CV.cells, maxLen]; omega)) ?_
        refine hK' _ _ ?_
        clear hK' K'
        refine hwalk2_step (g := none) rfl rfl fun K' hK' => ?_
        simp (maxSteps := 4000000) only [hop1, hgd, List.getElem_toArray, List.getElem_cons_zero, List.getElem_cons_succ, ↓sP, sA, tyS, Nat.reducePow, Nat.reduceLeDiff, reduceCtorEq, Nat.reduceEqDiff, ↓reduceIte, Nat.reduceAdd, Nat.reduceMul, Nat.reduceSub, Nat.reduceLT, Int.natCast_nonneg, Int.ofNat_lt, hlt, nth_map hlt, List.length_append]
        repeat refine And.intro (by first | omega | (simp only [maxLen]; omega) | assumption | (simp [CV.cells]; done) | (simp [CV.cells, maxLen]; omega)) ?_
        refine hK' _ _ ?_
        clear hK' K'
        simp only [hlex, hwalk2, hthen, hblk, ↓reduceIte, reduceCtorEq, Nat.reduceEqDiff, List.size_toArray, List.length_cons, List.length_nil, Nat.reduceAdd, Nat.reduceMul, Nat.zero_add]
        exact key2 (r ++ [⟨owners[i], ⟨dg1 1, dg1 2, d, z⟩⟩]) a5 _ _ _ (by omega) (by simp) (fun x hx => by
          rcases List.mem_append.1 hx with hx | hx
          · exact g5 x hx
          · simp only [List.mem_singleton] at hx; subst hx; exact ⟨.inr rfl, List.getElem_mem hlt⟩) (fits_fin (by omega) (by simp [FinOk, fin_at, finA_at, upd_at, HV.men]) (by simp [FobOk, fob_at, upd_at, none0_at, HO.men, HV.men, Rb.cv, Rp.cv]))
      · refine hw_skip ?_
        simp (maxSteps := 4000000) only [↓sP, sA, tyS, Nat.reducePow, Nat.reduceLeDiff, reduceCtorEq, Nat.reduceEqDiff, ↓reduceIte, Nat.reduceAdd, Nat.reduceMul, Nat.reduceSub, Nat.reduceLT]
        exact key2 r a4 _ _ _ (by omega) (by omega) g5 (fits_fin (by omega) (by simp [FinOk, fin_at, finA_at, upd_at, HV.men, HV.menL, HV.norm, HV.toC, HV.toCL]) (by simp [FobOk, fob_at, upd_at, none0_at, HO.men, HV.men, HV.menL, HV.norm, HV.toC, HV.toCL]))
    · have hshort : ∀ x ∈ r, x.w.length ≤ maxLen := fun x hx => by
        have := owners_len _ (g5 x hx).2
        simp only [maxLen]; omega
      refine hw_exit ?_
      simp (maxSteps := 4000000) only [↓sP, sA, tyS, Nat.reducePow, Nat.reduceLeDiff, reduceCtorEq, Nat.reduceEqDiff, ↓reduceIte, Nat.reduceAdd, Nat.reduceMul, Nat.reduceSub, Nat.reduceLT]
      clear hK K
      repeat refine And.intro (by first | omega | (simp only [maxLen]; omega) | assumption | (simp [CV.cells]; done) | (simp [CV.cells, maxLen]; omega)) ?_
      refine hK _ _ _ ?_
      clear hK K
      refine hw_seq fun K hK => hw_region (by kernel_rfl) ?_
      simp only [List.range, List.range.loop, List.size_toArray, List.length_cons, List.length_nil, Nat.reduceAdd, Nat.reduceMul, Nat.zero_add, Nat.add_zero]
      refine hlex_step (g := none) rfl rfl fun K' hK' => ?_
      simp (maxSteps := 4000000) only [hop1, hgd, List.getElem_toArray, List.getElem_cons_zero, List.getElem_cons_succ, ↓sP, sA, tyS, Nat.reducePow, Nat.reduceLeDiff, reduceCtorEq, Nat.reduceEqDiff, ↓reduceIte, Nat.reduceAdd, Nat.reduceMul, Nat.reduceSub, Nat.reduceLT, rb_getAll, rb_denil, rb_isAgg, rb_cells, rb_setAll]
      refine call_pure (args := []) want_ok ⟨rfl, rfl, rfl, rfl⟩ ?_
      rintro u rfl
      repeat refine And.intro (by first | omega | (simp only [maxLen]; omega) | assumption | (simp [CV.cells]; done) | (simp [CV.cells, maxLen]; omega)) ?_
      refine hK' _ _ ?_
      clear hK' K'
      refine hlex_step (g := none) rfl rfl fun K' hK' => ?_
      simp (maxSteps := 4000000) only [hop1, hgd, List.getElem_toArray, List.getElem_cons_zero, List.getElem_cons_succ, ↓sP, sA, tyS, Nat.reducePow, Nat.reduceLeDiff, reduceCtorEq, Nat.reduceEqDiff, ↓reduceIte, Nat.reduceAdd, Nat.reduceMul, Nat.reduceSub, Nat.reduceLT, rb_getAll, rb_denil, rb_isAgg, rb_cells, rb_setAll]
      repeat refine And.intro (by first | omega | (simp only [maxLen]; omega) | assumption | (simp [CV.cells]; done) | (simp [CV.cells, maxLen]; omega)) ?_
      refine hK' _ _ ?_
      clear hK' K'
      refine hlex_step (g := none) rfl rfl fun K' hK' => ?_
      simp (maxSteps := 4000000) only [hop1, hgd, List.getElem_toArray, List.getElem_cons_zero, List.getElem_cons_succ, ↓sP, sA, tyS, Nat.reducePow, Nat.reduceLeDiff, reduceCtorEq, Nat.reduceEqDiff, ↓reduceIte, Nat.reduceAdd, Nat.reduceMul, Nat.reduceSub, Nat.reduceLT, rb_getAll, rb_denil, rb_isAgg, rb_cells, rb_setAll]
      refine call_close (e := 46) (sz := 98) (l := r.map Rb.cv) [_] [_] (judge_ok' (dg1 1) (dg1 2) (dg1 3) r 9 (by omega) hshort) rfl (by simp) (by simp) ⟨rfl, rfl, rfl, rfl⟩ ?_
      rintro u rfl
      have hjl := judge_len (dg1 1) (dg1 2) (dg1 3) 9 r
      have hon := fun h => honest (s := dg1 1) (r := dg1 2) (o := dg1 3) (d := d) (t := 9) (l := r) (ws := owners.take k) (fun x hx => (g5 x hx).1) h
      obtain ⟨j, hj⟩ : ∃ j, j = judge18 (dg1 1) (dg1 2) (dg1 3) 9 r := ⟨_, rfl⟩
      rw [← hj] at hjl hon ⊢
      repeat refine And.intro (by first | omega | (simp only [maxLen]; omega) | assumption | (simp [CV.cells]; done) | (simp [CV.cells, maxLen]; omega)) ?_
      refine hK' _ _ ?_
      clear hK' K'
      refine hlex_step (g := none) rfl rfl fun K' hK' => ?_
      simp (maxSteps := 4000000) only [hop1, hgd, List.getElem_toArray, List.getElem_cons_zero, List.getElem_cons_succ, ↓sP, sA, tyS, Nat.reducePow, Nat.reduceLeDiff, reduceCtorEq, Nat.reduceEqDiff, ↓reduceIte, Nat.reduceAdd, Nat.reduceMul, Nat.reduceSub, Nat.reduceLT, rb_getAll, rb_denil, rb_isAgg, rb_cells, rb_setAll]
      repeat refine And.intro (by first | omega | (simp only [maxLen]; omega) | assumption | (simp [CV.cells]; done) | (simp [CV.cells, maxLen]; omega)) ?_
      refine hK' _ _ ?_
      clear hK' K'
      refine hlex_step (g := none) rfl rfl fun K' hK' => ?_
      simp (maxSteps := 4000000) only [hop1, hgd, List.getElem_toArray, List.getElem_cons_zero, List.getElem_cons_succ, ↓sP, sA, tyS, Nat.reducePow, Nat.reduceLeDiff, reduceCtorEq, Nat.reduceEqDiff, ↓reduceIte, Nat.reduceAdd, Nat.reduceMul, Nat.reduceSub, Nat.reduceLT, rb_getAll, rb_denil, rb_isAgg, rb_cells, rb_setAll]
      repeat refine And.intro (by first | omega | (simp only [maxLen]; omega) | assumption | (simp [CV.cells]; done) | (simp [CV.cells, maxLen]; omega)) ?_
      refine hK' _ _ ?_
      clear hK' K'
      simp only [hlex, hwalk2, hthen, hblk, ↓reduceIte, reduceCtorEq, Nat.reduceEqDiff, List.size_toArray, List.length_cons, List.length_nil, Nat.reduceAdd, Nat.reduceMul, Nat.zero_add]
      repeat refine And.intro (by first | omega | (simp only [maxLen]; omega) | assumption | (simp [CV.cells]; done) | (simp [CV.cells, maxLen]; omega)) ?_
      refine hK _ _ _ ?_
      clear hK K
      by_cases hle : j.a.length ≤ k
      · refine hw_seq fun K hK => hw_draw2 mixed [(0, [], []), (1, [], []), (2, [], []), (3, [], []), (4, [], []), (5, [], []), (6, [], []), (7, [], []), (8, [], []), (9, [], []), (10, [], [8, 9]), (11, [], []), (12, [], []), (13, [], []), (14, [], []), (15, [], [])] [0, 1, 3, 7, 15, 3, 63, 127, 255, 511, 255, 1279, 4095, 8191, 16383, 32767] (by kernel_rfl) (by kernel_rfl) (by kernel_rfl) (by kernel_rfl) rfl (by kernel_rfl) ?_
        refine hwalk2_step (g := none) rfl rfl fun K' hK' => ?_
        simp (maxSteps := 4000000) only [hop1, hgd, List.getElem_toArray, List.getElem_cons_zero, List.getElem_cons_succ, ↓sP, sA, tyS, Nat.reducePow, Nat.reduceLeDiff, reduceCtorEq, Nat.reduceEqDiff, ↓reduceIte, Nat.reduceAdd, Nat.reduceMul, Nat.reduceSub, Nat.reduceLT, gone_at, rb_getA, hle, Int.ofNat_le]
        refine call_pure (args := []) awake_ok ⟨rfl, rfl, rfl, rfl⟩ ?_
        rintro u rfl
        repeat refine And.intro (by first | omega | (simp only [maxLen]; omega) | assumption | (simp [CV.cells]; done) | (simp [CV.cells, maxLen]; omega)) ?_
        refine hK' _ _ ?_
        clear hK' K'
        refine hwalk2_step (g := none) rfl rfl fun K' hK' => ?_
        simp (maxSteps := 4000000) only [hop1, hgd, List.getElem_toArray, List.getElem_cons_zero, List.getElem_cons_succ, ↓sP, sA, tyS, Nat.reducePow, Nat.reduceLeDiff, reduceCtorEq, Nat.reduceEqDiff, ↓reduceIte, Nat.reduceAdd, Nat.reduceMul, Nat.reduceSub, Nat.reduceLT, gone_at, rb_getA, hle, Int.ofNat_le]
        repeat refine And.intro (by first | omega | (simp only [maxLen]; omega) | assumption | (simp [CV.cells]; done) | (simp [CV.cells, maxLen]; omega)) ?_
        refine hK' _ _ ?_
        clear hK' K'
        refine hwalk2_step (g := some (79, true)) rfl rfl fun K' hK' => ?_
        simp (maxSteps := 4000000) only [hop1, hgd, List.getElem_toArray, List.getElem_cons_zero, List.getElem_cons_succ, ↓sP, sA, tyS, Nat.reducePow, Nat.reduceLeDiff, reduceCtorEq, Nat.reduceEqDiff, ↓reduceIte, Nat.reduceAdd, Nat.reduceMul, Nat.reduceSub, Nat.reduceLT, gone_at, rb_getA, hle, Int.ofNat_le]
        repeat refine And.intro (by first | omega | (simp only [maxLen]; omega) | assumption | (simp [CV.cells]; done) | (simp [CV.cells, maxLen]; omega)) ?_
        refine hK' _ _ ?_
        clear hK' K'
        refine hwalk2_step (g := some (79, true)) rfl rfl fun K' hK' => ?_
        simp (maxSteps := 4000000) only [hop1, hgd, List.getElem_toArray, List.getElem_cons_zero, List.getElem_cons_succ, ↓sP, sA, tyS, Nat.reducePow, Nat.reduceLeDiff, reduceCtorEq, Nat.reduceEqDiff, ↓reduceIte, Nat.reduceAdd, Nat.reduceMul, Nat.reduceSub, Nat.reduceLT, gone_at, rb_getA, hle, Int.ofNat_le]
        repeat refine And.intro (by first | omega | (simp only [maxLen]; omega) | assumption | (simp [CV.cells]; done) | (simp [CV.cells, maxLen]; omega)) ?_
        refine hK' _ _ ?_
        clear hK' K'
        refine hwalk2_step (g := some (79, true)) rfl rfl fun K' hK' => ?_
        simp (maxSteps := 4000000) only [hop1, hgd, List.getElem_toArray, List.getElem_cons_zero, List.getElem_cons_succ, ↓sP, sA, tyS, Nat.reducePow, Nat.reduceLeDiff, reduceCtorEq, Nat.reduceEqDiff, ↓reduceIte, Nat.reduceAdd, Nat.reduceMul, Nat.reduceSub, Nat.reduceLT, gone_at, rb_getA, hle, Int.ofNat_le]
        repeat refine And.intro (by first | omega | (simp only [maxLen]; omega) | assumption | (simp [CV.cells]; done) | (simp [CV.cells, maxLen]; omega)) ?_
        refine hK' _ _ ?_
        clear hK' K'
        refine hwalk2_step (g := some (79, true)) rfl rfl fun K' hK' => ?_
        simp (maxSteps := 4000000) only [hop1, hgd, List.getElem_toArray, List.getElem_cons_zero, List.getElem_cons_succ, ↓sP, sA, tyS, Nat.reducePow, Nat.reduceLeDiff, reduceCtorEq, Nat.reduceEqDiff, ↓reduceIte, Nat.reduceAdd, Nat.reduceMul, Nat.reduceSub, Nat.reduceLT, gone_at, rb_getA, hle, Int.ofNat_le]
        repeat refine And.intro (by first | omega | (simp only [maxLen]; omega) | assumption | (simp [CV.cells]; done) | (simp [CV.cells, maxLen]; omega)) ?_
        refine hK' _ _ ?_
        clear hK' K'
        refine hwalk2_step (g := some (79, true)) rfl rfl fun K' hK' => ?_
        simp (maxSteps := 4000000) only [hop1, hgd, List.getElem_toArray, List.getElem_cons_zero, List.getElem_cons_succ, ↓sP, sA, tyS, Nat.reducePow, Nat.reduceLeDiff, reduceCtorEq, Nat.reduceEqDiff, ↓reduceIte, Nat.reduceAdd, Nat.reduceMul, Nat.reduceSub, Nat.reduceLT, gone_at, rb_getA, hle, Int.ofNat_le]
        repeat refine And.intro (by first | omega | (simp only [maxLen]; omega) | assumption | (simp [CV.cells]; done) | (simp [CV.cells, maxLen]; omega)) ?_
        refine hK' _ _ ?_
        clear hK' K'
        refine hwalk2_step (g := some (79, true)) rfl rfl fun K' hK' => ?_
        simp (maxSteps := 4000000) only [hop1, hgd, List.getElem_toArray, List.getElem_cons_zero, List.getElem_cons_succ, ↓sP, sA, tyS, Nat.reducePow, Nat.reduceLeDiff, reduceCtorEq, Nat.reduceEqDiff, ↓reduceIte, Nat.reduceAdd, Nat.reduceMul, Nat.reduceSub, Nat.reduceLT, gone_at, rb_getA, hle, Int.ofNat_le]
        repeat refine And.intro (by first | omega | (simp only [maxLen]; omega) | assumption | (simp [CV.cells]; done) | (simp [CV.cells, maxLen]; omega)) ?_
        refine hK' _ _ ?_
        clear hK' K'
        refine hwalk2_step (g := some (85, false)) rfl rfl fun K' hK' => ?_
        simp (maxSteps := 4000000) only [hop1, hgd, List.getElem_toArray, List.getElem_cons_zero, List.getElem_cons_succ, ↓sP, sA, tyS, Nat.reducePow, Nat.reduceLeDiff, reduceCtorEq, Nat.reduceEqDiff, ↓reduceIte, Nat.reduceAdd, Nat.reduceMul, Nat.reduceSub, Nat.reduceLT, gone_at, rb_getA, hle, Int.ofNat_le]
        repeat refine And.intro (by first | omega | (simp only [maxLen]; omega) | assumption | (simp [CV.cells]; done) | (simp [CV.cells, maxLen]; omega)) ?_
        refine hK' _ _ ?_
        clear hK' K'
        refine hwalk2_step (g := some (85, false)) rfl rfl fun K' hK' => ?_
        simp (maxSteps := 4000000) only [hop1, hgd, List.getElem_toArray, List.getElem_cons_zero, List.getElem_cons_succ, ↓sP, sA, tyS, Nat.reducePow, Nat.reduceLeDiff, reduceCtorEq, Nat.reduceEqDiff, ↓reduceIte, Nat.reduceAdd, Nat.reduceMul, Nat.reduceSub, Nat.reduceLT, gone_at, rb_getA, hle, Int.ofNat_le]
        repeat refine And.intro (by first | omega | (simp only [maxLen]; omega) | assumption | (simp [CV.cells]; done) | (simp [CV.cells, maxLen]; omega)) ?_
        refine hK' _ _ ?_
        clear hK' K'
        refine hwalk2_step (g := some (85, false)) rfl rfl fun K' hK' => ?_
        simp (maxSteps := 4000000) only [hop1, hgd, List.getElem_toArray, List.getElem_cons_zero, List.getElem_cons_succ, ↓sP, sA, tyS, Nat.reducePow, Nat.reduceLeDiff, reduceCtorEq, Nat.reduceEqDiff, ↓reduceIte, Nat.reduceAdd, Nat.reduceMul, Nat.reduceSub, Nat.reduceLT, gone_at, rb_getA, hle, Int.ofNat_le]
        repeat refine And.intro (by first | omega | (simp only [maxLen]; omega) | assumption | (simp [CV.cells]; done) | (simp [CV.cells, maxLen]; omega)) ?_
        refine hK' _ _ ?_
        clear hK' K'
        refine hwalk2_step (g := some (85, false)) rfl rfl fun K' hK' => ?_
        simp (maxSteps := 4000000) only [hop1, hgd, List.getElem_toArray, List.getElem_cons_zero, List.getElem_cons_succ, ↓sP, sA, tyS, Nat.reducePow, Nat.reduceLeDiff, reduceCtorEq, Nat.reduceEqDiff, ↓reduceIte, Nat.reduceAdd, Nat.reduceMul, Nat.reduceSub, Nat.reduceLT, gone_at, rb_getA, hle, Int.ofNat_le]
        repeat refine And.intro (by first | omega | (simp only [maxLen]; omega) | assumption | (simp [CV.cells]; done) | (simp [CV.cells, maxLen]; omega)) ?_
        refine hK' _ _ ?_
        clear hK' K'
        refine hwalk2_step (g := some (85, false)) rfl rfl fun K' hK' => ?_
        simp (maxSteps := 4000000) only [hop1, hgd, List.getElem_toArray, List.getElem_cons_zero, List.getElem_cons_succ, ↓sP, sA, tyS, Nat.reducePow, Nat.reduceLeDiff, reduceCtorEq, Nat.reduceEqDiff, ↓reduceIte, Nat.reduceAdd, Nat.reduceMul, Nat.reduceSub, Nat.reduceLT, gone_at, rb_getA, hle, Int.ofNat_le]
        repeat refine And.intro (by first | omega | (simp only [maxLen]; omega) | assumption | (simp [CV.cells]; done) | (simp [CV.cells, maxLen]; omega)) ?_
        refine hK' _ _ ?_
        clear hK' K'
        refine hwalk2_step (g := some (79, true)) rfl rfl fun K' hK' => ?_
        simp (maxSteps := 4000000) only [hop1, hgd, List.getElem_toArray, List.getElem_cons_zero, List.getElem_cons_succ, ↓sP, sA, tyS, Nat.reducePow, Nat.reduceLeDiff, reduceCtorEq, Nat.reduceEqDiff, ↓reduceIte, Nat.reduceAdd, Nat.reduceMul, Nat.reduceSub, Nat.reduceLT, gone_at, rb_getA, hle, Int.ofNat_le]
        repeat refine And.intro (by first | omega | (simp only [maxLen]; omega) | assumption | (simp [CV.cells]; done) | (simp [CV.cells, maxLen]; omega)) ?_
        refine hK' _ _ ?_
        clear hK' K'
        refine hwalk2_step (g := none) rfl rfl fun K' hK' => ?_
        simp (maxSteps := 4000000) only [hop1, hgd, List.getElem_toArray, List.getElem_cons_zero, List.getElem_cons_succ, ↓sP, sA, tyS, Nat.reducePow, Nat.reduceLeDiff, reduceCtorEq, Nat.reduceEqDiff, ↓reduceIte, Nat.reduceAdd, Nat.reduceMul, Nat.reduceSub, Nat.reduceLT, gone_at, rb_getA, hle, Int.ofNat_le]
        repeat refine And.intro (by first | omega | (simp only [maxLen]; omega) | assumption | (simp [CV.cells]; done) | (simp [CV.cells, maxLen]; omega)) ?_
        refine hK' _ _ ?_
        clear hK' K'
        refine hwalk2_step (g := none) rfl rfl fun K' hK' => ?_
        simp (maxSteps := 4000000) only [hop1, hgd, List.getElem_toArray, List.getElem_cons_zero, List.getElem_cons_succ, ↓sP, sA, tyS, Nat.reducePow, Nat.reduceLeDiff, reduceCtorEq, Nat.reduceEqDiff, ↓reduceIte, Nat.reduceAdd, Nat.reduceMul, Nat.reduceSub, Nat.reduceLT, gone_at, rb_getA, hle, Int.ofNat_le]
        repeat refine And.intro (by first | omega | (simp only [maxLen]; omega) | assumption | (simp [CV.cells]; done) | (simp [CV.cells, maxLen]; omega)) ?_
        refine hK' _ _ ?_
        clear hK' K'
        simp only [hlex, hwalk2, hthen, hblk, ↓reduceIte, reduceCtorEq, Nat.reduceEqDiff, List.size_toArray, List.length_cons, List.length_nil, Nat.reduceAdd, Nat.reduceMul, Nat.zero_add]
        repeat refine And.intro (by first | omega | (simp only [maxLen]; omega) | assumption | (simp [CV.cells]; done) | (simp [CV.cells, maxLen]; omega)) ?_
        refine hK _ _ _ ?_
        clear hK K
        refine hw_ret ?_
        simp (maxSteps := 4000000) only [hpost, Try.results7, hresL, hres1, tupOf, ↓sP, sA, tyS, Nat.reducePow, Nat.reduceLeDiff, reduceCtorEq, Nat.reduceEqDiff, ↓reduceIte, Nat.reduceAdd, Nat.reduceMul, Nat.reduceSub, Nat.reduceLT]
        exact hret_pure [] (.bool true) rfl rfl
      · refine hw_seq fun K hK => hw_draw2 mixed [(0, [], []), (1, [], []), (2, [], []), (3, [], []), (4, [], []), (5, [], []), (6, [], []), (7, [], []), (8, [], []), (9, [], []), (10, [], [8, 9]), (11, [], []), (12, [], []), (13, [], []), (14, [], []), (15, [], [])] [0, 1, 3, 7, 15, 3, 63, 127, 255, 511, 255, 1279, 4095, 8191, 16383, 32767] (by kernel_rfl) (by kernel_rfl) (by kernel_rfl) (by kernel_rfl) rfl (by kernel_rfl) ?_
        refine hwalk2_step (g := none) rfl rfl fun K' hK' => ?_
        simp (maxSteps := 4000000) only [hop1, hgd, List.getElem_toArray, List.getElem_cons_zero, List.getElem_cons_succ, ↓sP, sA, tyS, Nat.reducePow, Nat.reduceLeDiff, reduceCtorEq, Nat.reduceEqDiff, ↓reduceIte, Nat.reduceAdd, Nat.reduceMul, Nat.reduceSub, Nat.reduceLT, gone_at, rb_getA, hle, Int.ofNat_le]
        refine call_pure (args := []) awake_ok ⟨rfl, rfl, rfl, rfl⟩ ?_
        rintro u rfl
        repeat refine And.intro (by first | omega | (simp only [maxLen]; omega) | assumption | (simp [CV.cells]; done) | (simp [CV.cells, maxLen]; omega)) ?_
        refine hK' _ _ ?_
        clear hK' K'
        refine hwalk2_step (g := none) rfl rfl fun K' hK' => ?_
        simp (maxSteps := 4000000) only [hop1, hgd, List.getElem_toArray, List.getElem_cons_zero, List.getElem_cons_succ, ↓sP, sA, tyS, Nat.reducePow, Nat.reduceLeDiff, reduceCtorEq, Nat.reduceEqDiff, ↓reduceIte, Nat.reduceAdd, Nat.reduceMul, Nat.reduceSub, Nat.reduceLT, gone_at, rb_getA, hle, Int.ofNat_le]
        repeat refine And.intro (by first | omega | (simp only [maxLen]; omega) | assumption | (simp [CV.cells]; done) | (simp [CV.cells, maxLen]; omega)) ?_
        refine hK' _ _ ?_
        clear hK' K'
        refine hwalk2_step (g := some (79, true)) rfl rfl fun K' hK' => ?_
        simp (maxSteps := 4000000) only [hop1, hgd, List.getElem_toArray, List.getElem_cons_zero, List.getElem_cons_succ, ↓sP, sA, tyS, Nat.reducePow, Nat.reduceLeDiff, reduceCtorEq, Nat.reduceEqDiff, ↓reduceIte, Nat.reduceAdd, Nat.reduceMul, Nat.reduceSub, Nat.reduceLT, gone_at, rb_getA, hle, Int.ofNat_le]
        repeat refine And.intro (by first | omega | (simp only [maxLen]; omega) | assumption | (simp [CV.cells]; done) | (simp [CV.cells, maxLen]; omega)) ?_
        refine hK' _ _ ?_
        clear hK' K'
        refine hwalk2_step (g := some (79, true)) rfl rfl fun K' hK' => ?_
        simp (maxSteps := 4000000) only [hop1, hgd, List.getElem_toArray, List.getElem_cons_zero, List.getElem_cons_succ, ↓sP, sA, tyS, Nat.reducePow, Nat.reduceLeDiff, reduceCtorEq, Nat.reduceEqDiff, ↓reduceIte, Nat.reduceAdd, Nat.reduceMul, Nat.reduceSub, Nat.reduceLT, gone_at, rb_getA, hle, Int.ofNat_le]
        repeat refine And.intro (by first | omega | (simp only [maxLen]; omega) | assumption | (simp [CV.cells]; done) | (simp [CV.cells, maxLen]; omega)) ?_
        refine hK' _ _ ?_
        clear hK' K'
        refine hwalk2_step (g := some (79, true)) rfl rfl fun K' hK' => ?_
        simp (maxSteps := 4000000) only [hop1, hgd, List.getElem_toArray, List.getElem_cons_zero, List.getElem_cons_succ, ↓sP, sA, tyS, Nat.reducePow, Nat.reduceLeDiff, reduceCtorEq, Nat.reduceEqDiff, ↓reduceIte, Nat.reduceAdd, Nat.reduceMul, Nat.reduceSub, Nat.reduceLT, gone_at, rb_getA, hle, Int.ofNat_le]
        repeat refine And.intro (by first | omega | (simp only [maxLen]; omega) | assumption | (simp [CV.cells]; done) | (simp [CV.cells, maxLen]; omega)) ?_
        refine hK' _ _ ?_
        clear hK' K'
        refine hwalk2_step (g := some (79, true)) rfl rfl fun K' hK' => ?_
        simp (maxSteps := 4000000) only [hop1, hgd, List.getElem_toArray, List.getElem_cons_zero, List.getElem_cons_succ, ↓sP, sA, tyS, Nat.reducePow, Nat.reduceLeDiff, reduceCtorEq, Nat.reduceEqDiff, ↓reduceIte, Nat.reduceAdd, Nat.reduceMul, Nat.reduceSub, Nat.reduceLT, gone_at, rb_getA, hle, Int.ofNat_le]
        repeat refine And.intro (by first | omega | (simp only [maxLen]; omega) | assumption | (simp [CV.cells]; done) | (simp [CV.cells, maxLen]; omega)) ?_
        refine hK' _ _ ?_
        clear hK' K'
        refine hwalk2_step (g := some (79, true)) rfl rfl fun K' hK' => ?_
        simp (maxSteps := 4000000) only [hop1, hgd, List.getElem_toArray, List.getElem_cons_zero, List.getElem_cons_succ, ↓sP, sA, tyS, Nat.reducePow, Nat.reduceLeDiff, reduceCtorEq, Nat.reduceEqDiff, ↓reduceIte, Nat.reduceAdd, Nat.reduceMul, Nat.reduceSub, Nat.reduceLT, gone_at, rb_getA, hle, Int.ofNat_le]
        repeat refine And.intro (by first | omega | (simp only [maxLen]; omega) | assumption | (simp [CV.cells]; done) | (simp [CV.cells, maxLen]; omega)) ?_
        refine hK' _ _ ?_
        clear hK' K'
        refine hwalk2_step (g := some (79, true)) rfl rfl fun K' hK' => ?_
        simp (maxSteps := 4000000) only [hop1, hgd, List.getElem_toArray, List.getElem_cons_zero, List.getElem_cons_succ, ↓sP, sA, tyS, Nat.reducePow, Nat.reduceLeDiff, reduceCtorEq, Nat.reduceEqDiff, ↓reduceIte, Nat.reduceAdd, Nat.reduceMul, Nat.reduceSub, Nat.reduceLT, gone_at, rb_getA, hle, Int.ofNat_le]
        repeat refine And.intro (by first | omega | (simp only [maxLen]; omega) | assumption | (simp [CV.cells]; done) | (simp [CV.cells, maxLen]; omega)) ?_
        refine hK' _ _ ?_
        clear hK' K'
        refine hwalk2_step (g := some (85, false)) rfl rfl fun K' hK' => ?_
        simp (maxSteps := 4000000) only [hop1, hgd, List.getElem_toArray, List.getElem_cons_zero, List.getElem_cons_succ, ↓sP, sA, tyS, Nat.reducePow, Nat.reduceLeDiff, reduceCtorEq, Nat.reduceEqDiff, ↓reduceIte, Nat.reduceAdd, Nat.reduceMul, Nat.reduceSub, Nat.reduceLT, gone_at, rb_getA, hle, Int.ofNat_le]
        repeat refine And.intro (by first | omega | (simp only [maxLen]; omega) | assumption | (simp [CV.cells]; done) | (simp [CV.cells, maxLen]; omega)) ?_
        refine hK' _ _ ?_
        clear hK' K'
        refine hwalk2_step (g := some (85, false)) rfl rfl fun K' hK' => ?_
        simp (maxSteps := 4000000) only [hop1, hgd, List.getElem_toArray, List.getElem_cons_zero, List.getElem_cons_succ, ↓sP, sA, tyS, Nat.reducePow, Nat.reduceLeDiff, reduceCtorEq, Nat.reduceEqDiff, ↓reduceIte, Nat.reduceAdd, Nat.reduceMul, Nat.reduceSub, Nat.reduceLT, gone_at, rb_getA, hle, Int.ofNat_le]
        repeat refine And.intro (by first | omega | (simp only [maxLen]; omega) | assumption | (simp [CV.cells]; done) | (simp [CV.cells, maxLen]; omega)) ?_
        refine hK' _ _ ?_
        clear hK' K'
        refine hwalk2_step (g := some (85, false)) rfl rfl fun K' hK' => ?_
        simp (maxSteps := 4000000) only [hop1, hgd, List.getElem_toArray, List.getElem_cons_zero, List.getElem_cons_succ, ↓sP, sA, tyS, Nat.reducePow, Nat.reduceLeDiff, reduceCtorEq, Nat.reduceEqDiff, ↓reduceIte, Nat.reduceAdd, Nat.reduceMul, Nat.reduceSub, Nat.reduceLT, gone_at, rb_getA, hle, Int.ofNat_le]
        refine call_pure (args := []) want_ok ⟨rfl, rfl, rfl, rfl⟩ ?_
        rintro u rfl
        repeat refine And.intro (by first | omega | (simp only [maxLen]; omega) | assumption | (simp [CV.cells]; done) | (simp [CV.cells, maxLen]; omega)) ?_
        refine hK' _ _ ?_
        clear hK' K'
        refine hwalk2_step (g := some (85, false)) rfl rfl fun K' hK' => ?_
        simp (maxSteps := 4000000) only [hop1, hgd, List.getElem_toArray, List.getElem_cons_zero, List.getElem_cons_succ, ↓sP, sA, tyS, Nat.reducePow, Nat.reduceLeDiff, reduceCtorEq, Nat.reduceEqDiff, ↓reduceIte, Nat.reduceAdd, Nat.reduceMul, Nat.reduceSub, Nat.reduceLT, gone_at, rb_getA, hle, Int.ofNat_le]
        repeat refine And.intro (by first | omega | (simp only [maxLen]; omega) | assumption | (simp [CV.cells]; done) | (simp [CV.cells, maxLen]; omega)) ?_
        refine hK' _ _ ?_
        clear hK' K'
        refine hwalk2_step (g := some (85, false)) rfl rfl fun K' hK' => ?_
        simp (maxSteps := 4000000) only [hop1, hgd, List.getElem_toArray, List.getElem_cons_zero, List.getElem_cons_succ, ↓sP, sA, tyS, Nat.reducePow, Nat.reduceLeDiff, reduceCtorEq, Nat.reduceEqDiff, ↓reduceIte, Nat.reduceAdd, Nat.reduceMul, Nat.reduceSub, Nat.reduceLT, gone_at, rb_getA, hle, Int.ofNat_le]
        rw [show (d == dg1 3) = true from by rw [hon (by simp [owners_len4]; omega)]; simp]
        repeat refine And.intro (by first | omega | (simp only [maxLen]; omega) | assumption | (simp [CV.cells]; done) | (simp [CV.cells, maxLen]; omega)) ?_
        refine hK' _ _ ?_
        clear hK' K'
        refine hwalk2_step (g := some (79, true)) rfl rfl fun K' hK' => ?_
        simp (maxSteps := 4000000) only [hop1, hgd, List.getElem_toArray, List.getElem_cons_zero, List.getElem_cons_succ, ↓sP, sA, tyS, Nat.reducePow, Nat.reduceLeDiff, reduceCtorEq, Nat.reduceEqDiff, ↓reduceIte, Nat.reduceAdd, Nat.reduceMul, Nat.reduceSub, Nat.reduceLT, gone_at, rb_getA, hle, Int.ofNat_le]
        repeat refine And.intro (by first | omega | (simp only [maxLen]; omega) | assumption | (simp [CV.cells]; done) | (simp [CV.cells, maxLen]; omega)) ?_
        refine hK' _ _ ?_
        clear hK' K'
        refine hwalk2_step (g := none) rfl rfl fun K' hK' => ?_
        simp (maxSteps := 4000000) only [hop1, hgd, List.getElem_toArray, List.getElem_cons_zero, List.getElem_cons_succ, ↓sP, sA, tyS, Nat.reducePow, Nat.reduceLeDiff, reduceCtorEq, Nat.reduceEqDiff, ↓reduceIte, Nat.reduceAdd, Nat.reduceMul, Nat.reduceSub, Nat.reduceLT, gone_at, rb_getA, hle, Int.ofNat_le]
        repeat refine And.intro (by first | omega | (simp only [maxLen]; omega) | assumption | (simp [CV.cells]; done) | (simp [CV.cells, maxLen]; omega)) ?_
        refine hK' _ _ ?_
        clear hK' K'
        refine hwalk2_step (g := none) rfl rfl fun K' hK' => ?_
        simp (maxSteps := 4000000) only [hop1, hgd, List.getElem_toArray, List.getElem_cons_zero, List.getElem_cons_succ, ↓sP, sA, tyS, Nat.reducePow, Nat.reduceLeDiff, reduceCtorEq, Nat.reduceEqDiff, ↓reduceIte, Nat.reduceAdd, Nat.reduceMul, Nat.reduceSub, Nat.reduceLT, gone_at, rb_getA, hle, Int.ofNat_le]
        repeat refine And.intro (by first | omega | (simp only [maxLen]; omega) | assumption | (simp [CV.cells]; done) | (simp [CV.cells, maxLen]; omega)) ?_
        refine hK' _ _ ?_
        clear hK' K'
        simp only [hlex, hwalk2, hthen, hblk, ↓reduceIte, reduceCtorEq, Nat.reduceEqDiff, List.size_toArray, List.length_cons, List.length_nil, Nat.reduceAdd, Nat.reduceMul, Nat.zero_add]
        repeat refine And.intro (by first | omega | (simp only [maxLen]; omega) | assumption | (simp [CV.cells]; done) | (simp [CV.cells, maxLen]; omega)) ?_
        refine hK _ _ _ ?_
        clear hK K
        refine hw_ret ?_
        simp (maxSteps := 4000000) only [hpost, Try.results7, hresL, hres1, tupOf, ↓sP, sA, tyS, Nat.reducePow, Nat.reduceLeDiff, reduceCtorEq, Nat.reduceEqDiff, ↓reduceIte, Nat.reduceAdd, Nat.reduceMul, Nat.reduceSub, Nat.reduceLT]
        exact hret_pure [] (.bool true) rfl rfl

end Go.Proofs.Ytbmeabkgdpfpbaa
