/- Part of a proof: walks of functions of the program, by contracts. By an AI agent. -/
import Derived.Test.YtbmeabkgdpfpbaaHlTb
import Derived.Test.YtbmeabkgdpfpbaaHlSb
import Derived.Test.YtbmeabkgdpfpbaaHlTk
import Derived.Test.YtbmeabkgdpfpbaaPl18d
set_option linter.unusedSimpArgs false
set_option linter.unusedVariables false
namespace Go.Proofs.Ytbmeabkgdpfpbaa
open Go Go.Hl Go.Pl
set_option maxRecDepth 10000
set_option maxHeartbeats 2000000
set_option linter.unusedSimpArgs false
set_option linter.unusedVariables false
-- Pl18b Pl18c

theorem owners_len : ∀ w ∈ owners, w.length ≤ 20 := by decide
theorem MadeOk.short {m : List Rb} (h : MadeOk m) : ∀ x ∈ m, x.w.length ≤ maxLen := fun x hx => by
  have := owners_len _ (h.2 x hx).1
  simp only [maxLen]; omega
theorem judge_len (s r o : Dig) (t : Int) (l : List Rb) : (judge18 s r o t l).a.length ≤ l.length ∧ (judge18 s r o t l).d.length ≤ l.length ∧ (judge18 s r o t l).f.length ≤ l.length := by
  have h1 := jfold_len (considered s r t l) o (considered s r t l)
  have h2 := considered_len s r t l
  simp only at h1
  unfold judge18
  omega

theorem owners_len4 : owners.length = 4 := rfl

theorem rb_getAll (s : Int) (a d f : List Word) : CV.getAt 0 4 true (rb s a d f) = some (rb s a d f) := rfl
theorem rb_denil (s : Int) (a d f : List Word) : (rb s a d f).denil = rb s a d f := by simp [rb, CV.denil, CV.denilL, denilL_str]
theorem rb_isAgg (s : Int) (a d f : List Word) : (rb s a d f).isAgg = true := rfl
theorem rb_cells (s : Int) (a d f : List Word) : (rb s a d f).cells = 4 := rfl
theorem rb_getA (s : Int) (a d f : List Word) : CV.getAt 1 1 false (rb s a d f) = some (.slc (a.map .str)) := rfl
theorem rb_getD (s : Int) (a d f : List Word) : CV.getAt 2 1 false (rb s a d f) = some (.slc (d.map .str)) := rfl
theorem rb_getF (s : Int) (a d f : List Word) : CV.getAt 3 1 false (rb s a d f) = some (.slc (f.map .str)) := rfl
theorem rb_setAll (s : Int) (a d f : List Word) (x : HV) : CV.setAt 0 4 x (rb s a d f) = some x := rfl

theorem judge_ok' (s r o : Dig) (l : List Rb) (t : Int) (hl : l.length < 2 ^ 39) (hw : ∀ x ∈ l, x.w.length ≤ maxLen) : HPure Try.prog 8 [.agg [dg s, dg r, dg o], .slc (l.map Rb.cv), .int .i64 t] (fun v => v = rb 0 (judge18 s r o t l).a (judge18 s r o t l).d (judge18 s r o t l).f) := by
  have := judge_ok (fun D => keys_ok D 44 97) (fun D h1 h2 => sorted_ok D 44 97 h1 h2) s r o l t hl hw
  rw [judge_same] at this
  exact this

def annR : Rb := ⟨[97, 110, 110], ⟨dg1 1, dg1 2, dg1 3, 4⟩⟩
theorem ann_judge : judge18 (dg1 1) (dg1 2) (dg1 3) 5 [annR] = ⟨[[97, 110, 110]], [], []⟩ := by
  have h1 : pick1 (dg1 1) (dg1 2) 5 annR = true := by simp [pick1, annR]
  have h2 : considered (dg1 1) (dg1 2) 5 [annR] = [annR] := by simp [considered, later, h1]
  have h3 : faulty [annR] annR = false := by simp [faulty]
  simp only [judge18, h2, List.foldl_cons, List.foldl_nil, jstep, h3]
  simp [annR, addW]

theorem awake_ok : HPure Try.prog 10 [] (fun v => v = .bool true) := by
  refine hfn_walk Try.func10 rfl (by kernel_rfl) (locOk_nil _) (Nat.le_of_ble_eq_true rfl) ?_
  refine hw_seq fun K hK => hw_region (by kernel_rfl) ?_
  simp (maxSteps := 4000000) only [↓sP, sA, tyS, Nat.reducePow, Nat.reduceLeDiff, reduceCtorEq, Nat.reduceEqDiff, ↓reduceIte, Nat.reduceAdd, Nat.reduceMul, Nat.reduceSub, Nat.reduceLT]
  repeat refine And.intro (by first | omega | (simp only [maxLen]; omega) | assumption | (simp [CV.cells]; done) | (simp [CV.cells, maxLen]; omega)) ?_
  refine hK _ _ _ ?_
  clear hK K
  refine hw_seq fun K hK => hw_region (by kernel_rfl) ?_
  simp only [List.range, List.range.loop, List.size_toArray, List.length_cons, List.length_nil, Nat.reduceAdd, Nat.reduceMul, Nat.zero_add, Nat.add_zero]
  refine hlex_step (g := none) rfl rfl fun K' hK' => ?_
  simp (maxSteps := 4000000) only [hop1, hgd, List.getElem_toArray, List.getElem_cons_zero, List.getElem_cons_succ, ↓sP, sA, tyS, Nat.reducePow, Nat.reduceLeDiff, reduceCtorEq, Nat.reduceEqDiff, ↓reduceIte, Nat.reduceAdd, Nat.reduceMul, Nat.reduceSub, Nat.reduceLT]
  repeat refine And.intro (by first | omega | (simp only [maxLen]; omega) | assumption | (simp [CV.cells]; done) | (simp [CV.cells, maxLen]; omega)) ?_
  refine hK' _ _ ?_
  clear hK' K'
  refine hlex_step (g := none) rfl rfl fun K' hK' => ?_
  simp (maxSteps := 4000000) only [hop1, hgd, List.getElem_toArray, List.getElem_cons_zero, List.getElem_cons_succ, ↓sP, sA, tyS, Nat.reducePow, Nat.reduceLeDiff, reduceCtorEq, Nat.reduceEqDiff, ↓reduceIte, Nat.reduceAdd, Nat.reduceMul, Nat.reduceSub, Nat.reduceLT]
  repeat refine And.intro (by first | omega | (simp only [maxLen]; omega) | assumption | (simp [CV.cells]; done) | (simp [CV.cells, maxLen]; omega)) ?_
  refine hK' _ _ ?_
  clear hK' K'
  refine hlex_step (g := none) rfl rfl fun K' hK' => ?_
  simp (maxSteps := 4000000) only [hop1, hgd, List.getElem_toArray, List.getElem_cons_zero, List.getElem_cons_succ, ↓sP, sA, tyS, Nat.reducePow, Nat.reduceLeDiff, reduceCtorEq, Nat.reduceEqDiff, ↓reduceIte, Nat.reduceAdd, Nat.reduceMul, Nat.reduceSub, Nat.reduceLT]
  repeat refine And.intro (by first | omega | (simp only [maxLen]; omega) | assumption | (simp [CV.cells]; done) | (simp [CV.cells, maxLen]; omega)) ?_
  refine hK' _ _ ?_
  clear hK' K'
  refine hlex_step (g := none) rfl rfl fun K' hK' => ?_
  simp (maxSteps := 4000000) only [hop1, hgd, List.getElem_toArray, List.getElem_cons_zero, List.getElem_cons_succ, ↓sP, sA, tyS, Nat.reducePow, Nat.reduceLeDiff, reduceCtorEq, Nat.reduceEqDiff, ↓reduceIte, Nat.reduceAdd, Nat.reduceMul, Nat.reduceSub, Nat.reduceLT]
  repeat refine And.intro (by first | omega | (simp only [maxLen]; omega) | assumption | (simp [CV.cells]; done) | (simp [CV.cells, maxLen]; omega)) ?_
  refine hK' _ _ ?_
  clear hK' K'
  refine hlex_step (g := none) rfl rfl fun K' hK' => ?_
  simp (maxSteps := 4000000) only [hop1, hgd, List.getElem_toArray, List.getElem_cons_zero, List.getElem_cons_succ, ↓sP, sA, tyS, Nat.reducePow, Nat.reduceLeDiff, reduceCtorEq, Nat.reduceEqDiff, ↓reduceIte, Nat.reduceAdd, Nat.reduceMul, Nat.reduceSub, Nat.reduceLT]
  repeat refine And.intro (by first | omega | (simp only [maxLen]; omega) | assumption | (simp [CV.cells]; done) | (simp [CV.cells, maxLen]; omega)) ?_
  refine hK' _ _ ?_
  clear hK' K'
  refine hlex_step (g := none) rfl rfl fun K' hK' => ?_
  simp (maxSteps := 4000000) only [hop1, hgd, List.getElem_toArray, List.getElem_cons_zero, List.getElem_cons_succ, ↓sP, sA, tyS, Nat.reducePow, Nat.reduceLeDiff, reduceCtorEq, Nat.reduceEqDiff, ↓reduceIte, Nat.reduceAdd, Nat.reduceMul, Nat.reduceSub, Nat.reduceLT]
  repeat refine And.intro (by first | omega | (simp only [maxLen]; omega) | assumption | (simp [CV.cells]; done) | (simp [CV.cells, maxLen]; omega)) ?_
  refine hK' _ _ ?_
  clear hK' K'
  simp only [hlex, hwalk2, hthen, hblk, ↓reduceIte, reduceCtorEq, Nat.reduceEqDiff, List.size_toArray, List.length_cons, List.length_nil, Nat.reduceAdd, Nat.reduceMul, Nat.zero_add]
  repeat refine And.intro (by first | omega | (simp only [maxLen]; omega) | assumption | (simp [CV.cells]; done) | (simp [CV.cells, maxLen]; omega)) ?_
  refine hK _ _ _ ?_
  clear hK K
  refine hw_seq fun K hK => hw_region (by kernel_rfl) ?_
  simp only [List.range, List.range.loop, List.size_toArray, List.length_cons, List.length_nil, Nat.reduceAdd, Nat.reduceMul, Nat.zero_add, Nat.add_zero]
  refine hlex_step (g := none) rfl rfl fun K' hK' => ?_
  simp (maxSteps := 4000000) only [hop1, hgd, List.getElem_toArray, List.getElem_cons_zero, List.getElem_cons_succ, ↓sP, sA, tyS, Nat.reducePow, Nat.reduceLeDiff, reduceCtorEq, Nat.reduceEqDiff, ↓reduceIte, Nat.reduceAdd, Nat.reduceMul, Nat.reduceSub, Nat.reduceLT, rb_getAll, rb_denil, rb_isAgg, rb_cells, rb_setAll]
  repeat refine And.intro (by first | omega | (simp only [maxLen]; omega) | assumption | (simp [CV.cells]; done) | (simp [CV.cells, maxLen]; omega)) ?_
  refine hK' _ _ ?_
  clear hK' K'
  refine hlex_step (g := none) rfl rfl fun K' hK' => ?_
  simp (maxSteps := 4000000) only [hop1, hgd, List.getElem_toArray, List.getElem_cons_zero, List.getElem_cons_succ, ↓sP, sA, tyS, Nat.reducePow, Nat.reduceLeDiff, reduceCtorEq, Nat.reduceEqDiff, ↓reduceIte, Nat.reduceAdd, Nat.reduceMul, Nat.reduceSub, Nat.reduceLT, rb_getAll, rb_denil, rb_isAgg, rb_cells, rb_setAll]
  repeat refine And.intro (by first | omega | (simp only [maxLen]; omega) | assumption | (simp [CV.cells]; done) | (simp [CV.cells, maxLen]; omega)) ?_
  refine hK' _ _ ?_
  clear hK' K'
  refine hlex_step (g := none) rfl rfl fun K' hK' => ?_
  simp (maxSteps := 4000000) only [hop1, hgd, List.getElem_toArray, List.getElem_cons_zero, List.getElem_cons_succ, ↓sP, sA, tyS, Nat.reducePow, Nat.reduceLeDiff, reduceCtorEq, Nat.reduceEqDiff, ↓reduceIte, Nat.reduceAdd, Nat.reduceMul, Nat.reduceSub, Nat.reduceLT, rb_getAll, rb_denil, rb_isAgg, rb_cells, rb_setAll]
  repeat refine And.intro (by first | omega | (simp only [maxLen]; omega) | assumption | (simp [CV.cells]; done) | (simp [CV.cells, maxLen]; omega)) ?_
  refine hK' _ _ ?_
  clear hK' K'
  refine hlex_step (g := none) rfl rfl fun K' hK' => ?_
  simp (maxSteps := 4000000) only [hop1, hgd, List.getElem_toArray, List.getElem_cons_zero, List.getElem_cons_succ, ↓sP, sA, tyS, Nat.reducePow, Nat.reduceLeDiff, reduceCtorEq, Nat.reduceEqDiff, ↓reduceIte, Nat.reduceAdd, Nat.reduceMul, Nat.reduceSub, Nat.reduceLT, rb_getAll, rb_denil, rb_isAgg, rb_cells, rb_setAll]
  repeat refine And.intro (by first | omega | (simp only [maxLen]; omega) | assumption | (simp [CV.cells]; done) | (simp [CV.cells, maxLen]; omega)) ?_
  refine hK' _ _ ?_
  clear hK' K'
  refine hlex_step (g := none) rfl rfl fun K' hK' => ?_
  simp (maxSteps := 4000000) only [hop1, hgd, List.getElem_toArray, List.getElem_cons_zero, List.getElem_cons_succ, ↓sP, sA, tyS, Nat.reducePow, Nat.reduceLeDiff, reduceCtorEq, Nat.reduceEqDiff, ↓reduceIte, Nat.reduceAdd, Nat.reduceMul, Nat.reduceSub, Nat.reduceLT, rb_getAll, rb_denil, rb_isAgg, rb_cells, rb_setAll]
  repeat refine And.intro (by first | omega | (simp only [maxLen]; omega) | assumption | (simp [CV.cells]; done) | (simp [CV.cells, maxLen]; omega)) ?_
  refine hK' _ _ ?_
  clear hK' K'
  refine hlex_step (g := none) rfl rfl fun K' hK' => ?_
  simp (maxSteps := 4000000) only [hop1, hgd, List.getElem_toArray, List.getElem_cons_zero, List.getElem_cons_succ, ↓sP, sA, tyS, Nat.reducePow, Nat.reduceLeDiff, reduceCtorEq, Nat.reduceEqDiff, ↓reduceIte, Nat.reduceAdd, Nat.reduceMul, Nat.reduceSub, Nat.reduceLT, rb_getAll, rb_denil, rb_isAgg, rb_cells, rb_setAll]
  refine call_close (e := 46) (sz := 98) (l := [annR].map Rb.cv) [.agg [dg (dg1 1), dg (dg1 2), dg (dg1 3)]] [.int .i64 5] (judge_ok' (dg1 1) (dg1 2) (dg1 3) [annR] 5 (by simp) (by simp [annR, maxLen])) rfl rfl (by simp) ⟨rfl, rfl, rfl, rfl⟩ ?_
  rintro u rfl
  rw [ann_judge]
  repeat refine And.intro (by first | omega | (simp only [maxLen]; omega) | assumption | (simp [CV.cells]; done) | (simp [CV.cells, maxLen]; omega)) ?_
  refine hK' _ _ ?_
  clear hK' K'
  refine hlex_step (g := none) rfl rfl fun K' hK' => ?_
  simp (maxSteps := 4000000) only [hop1, hgd, List.getElem_toArray, List.getElem_cons_zero, List.getElem_cons_succ, ↓sP, sA, tyS, Nat.reducePow, Nat.reduceLeDiff, reduceCtorEq, Nat.reduceEqDiff, ↓reduceIte, Nat.reduceAdd, Nat.reduceMul, Nat.reduceSub, Nat.reduceLT, rb_getAll, rb_denil, rb_isAgg, rb_cells, rb_setAll]
  repeat refine And.intro (by first | omega | (simp only [maxLen]; omega) | assumption | (simp [CV.cells]; done) | (simp [CV.cells, maxLen]; omega)) ?_
  refine hK' _ _ ?_
  clear hK' K'
  refine hlex_step (g := none) rfl rfl fun K' hK' => ?_
  simp (maxSteps := 4000000) only [hop1, hgd, List.getElem_toArray, List.getElem_cons_zero, List.getElem_cons_succ, ↓sP, sA, tyS, Nat.reducePow, Nat.reduceLeDiff, reduceCtorEq, Nat.reduceEqDiff, ↓reduceIte, Nat.reduceAdd, Nat.reduceMul, Nat.reduceSub, Nat.reduceLT, rb_getAll, rb_denil, rb_isAgg, rb_cells, rb_setAll]
  repeat refine And.intro (by first | omega | (simp only [maxLen]; omega) | assumption | (simp [CV.cells]; done) | (simp [CV.cells, maxLen]; omega)) ?_
  refine hK' _ _ ?_
  clear hK' K'
  simp only [hlex, hwalk2, hthen, hblk, ↓reduceIte, reduceCtorEq, Nat.reduceEqDiff, List.size_toArray, List.length_cons, List.length_nil, Nat.reduceAdd, Nat.reduceMul, Nat.zero_add]
  repeat refine And.intro (by first | omega | (simp only [maxLen]; omega) | assumption | (simp [CV.cells]; done) | (simp [CV.cells, maxLen]; omega)) ?_
  refine hK _ _ _ ?_
  clear hK K
  refine hw_seq fun K hK => hw_region (by kernel_rfl) ?_
  simp only [List.range, List.range.loop, List.size_toArray, List.length_cons, List.length_nil, Nat.reduceAdd, Nat.reduceMul, Nat.zero_add, Nat.add_zero]
  refine hlex_step (g := none) rfl rfl fun K' hK' => ?_
  simp (maxSteps := 4000000) only [hop1, hgd, List.getElem_toArray, List.getElem_cons_zero, List.getElem_cons_succ, ↓sP, sA, tyS, Nat.reducePow, Nat.reduceLeDiff, reduceCtorEq, Nat.reduceEqDiff, ↓reduceIte, Nat.reduceAdd, Nat.reduceMul, Nat.reduceSub, Nat.reduceLT, rb_getAll, rb_denil, rb_isAgg, rb_cells, rb_getA, Int.toNat_zero, nth]
  repeat refine And.intro (by first | omega | (simp only [maxLen]; omega) | assumption | (simp [CV.cells]; done) | (simp [CV.cells, maxLen]; omega)) ?_
  refine hK' _ _ ?_
  clear hK' K'
  refine hlex_step (g := none) rfl rfl fun K' hK' => ?_
  simp (maxSteps := 4000000) only [hop1, hgd, List.getElem_toArray, List.getElem_cons_zero, List.getElem_cons_succ, ↓sP, sA, tyS, Nat.reducePow, Nat.reduceLeDiff, reduceCtorEq, Nat.reduceEqDiff, ↓reduceIte, Nat.reduceAdd, Nat.reduceMul, Nat.reduceSub, Nat.reduceLT, rb_getAll, rb_denil, rb_isAgg, rb_cells, rb_getA, Int.toNat_zero, nth]
  repeat refine And.intro (by first | omega | (simp only [maxLen]; omega) | assumption | (simp [CV.cells]; done) | (simp [CV.cells, maxLen]; omega)) ?_
  refine hK' _ _ ?_
  clear hK' K'
  refine hlex_step (g := none) rfl rfl fun K' hK' => ?_
  simp (maxSteps := 4000000) only [hop1, hgd, List.getElem_toArray, List.getElem_cons_zero, List.getElem_cons_succ, ↓sP, sA, tyS, Nat.reducePow, Nat.reduceLeDiff, reduceCtorEq, Nat.reduceEqDiff, ↓reduceIte, Nat.reduceAdd, Nat.reduceMul, Nat.reduceSub, Nat.reduceLT, rb_getAll, rb_denil, rb_isAgg, rb_cells, rb_getA, Int.toNat_zero, nth]
  repeat refine And.intro (by first | omega | (simp only [maxLen]; omega) | assumption | (simp [CV.cells]; done) | (simp [CV.cells, maxLen]; omega)) ?_
  refine hK' _ _ ?_
  clear hK' K'
  refine hlex_step (g := none) rfl rfl fun K' hK' => ?_
  simp (maxSteps := 4000000) only [hop1, hgd, List.getElem_toArray, List.getElem_cons_zero, List.getElem_cons_succ, ↓sP, sA, tyS, Nat.reducePow, Nat.reduceLeDiff, reduceCtorEq, Nat.reduceEqDiff, ↓reduceIte, Nat.reduceAdd, Nat.reduceMul, Nat.reduceSub, Nat.reduceLT, rb_getAll, rb_denil, rb_isAgg, rb_cells, rb_getA, Int.toNat_zero, nth]
  repeat refine And.intro (by first | omega | (simp only [maxLen]; omega) | assumption | (simp [CV.cells]; done) | (simp [CV.cells, maxLen]; omega)) ?_
  refine hK' _ _ ?_
  clear hK' K'
  refine hlex_step (g := none) rfl rfl fun K' hK' => ?_
  simp (maxSteps := 4000000) only [hop1, hgd, List.getElem_toArray, List.getElem_cons_zero, List.getElem_cons_succ, ↓sP, sA, tyS, Nat.reducePow, Nat.reduceLeDiff, reduceCtorEq, Nat.reduceEqDiff, ↓reduceIte, Nat.reduceAdd, Nat.reduceMul, Nat.reduceSub, Nat.reduceLT, rb_getAll, rb_denil, rb_isAgg, rb_cells, rb_getA, Int.toNat_zero, nth]
  repeat refine And.intro (by first | omega | (simp only [maxLen]; omega) | assumption | (simp [CV.cells]; done) | (simp [CV.cells, maxLen]; omega)) ?_
  refine hK' _ _ ?_
  clear hK' K'
  refine hlex_step (g := some (17, true)) rfl rfl fun K' hK' => ?_
  simp (maxSteps := 4000000) only [hop1, hgd, List.getElem_toArray, List.getElem_cons_zero, List.getElem_cons_succ, ↓sP, sA, tyS, Nat.reducePow, Nat.reduceLeDiff, reduceCtorEq, Nat.reduceEqDiff, ↓reduceIte, Nat.reduceAdd, Nat.reduceMul, Nat.reduceSub, Nat.reduceLT, rb_getAll, rb_denil, rb_isAgg, rb_cells, rb_getA, Int.toNat_zero, nth]
  repeat refine And.intro (by first | omega | (simp only [maxLen]; omega) | assumption | (simp [CV.cells]; done) | (simp [CV.cells, maxLen]; omega)) ?_
  refine hK' _ _ ?_
  clear hK' K'
  refine hlex_step (g := some (17, true)) rfl rfl fun K' hK' => ?_
  simp (maxSteps := 4000000) only [hop1, hgd, List.getElem_toArray, List.getElem_cons_zero, List.getElem_cons_succ, ↓sP, sA, tyS, Nat.reducePow, Nat.reduceLeDiff, reduceCtorEq, Nat.reduceEqDiff, ↓reduceIte, Nat.reduceAdd, Nat.reduceMul, Nat.reduceSub, Nat.reduceLT, rb_getAll, rb_denil, rb_isAgg, rb_cells, rb_getA, Int.toNat_zero, nth]
  repeat refine And.intro (by first | omega | (simp only [maxLen]; omega) | assumption | (simp [CV.cells]; done) | (simp [CV.cells, maxLen]; omega)) ?_
  refine hK' _ _ ?_
  clear hK' K'
  refine hlex_step (g := some (17, true)) rfl rfl fun K' hK' => ?_
  simp (maxSteps := 4000000) only [hop1, hgd, List.getElem_toArray, List.getElem_cons_zero, List.getElem_cons_succ, ↓sP, sA, tyS, Nat.reducePow, Nat.reduceLeDiff, reduceCtorEq, Nat.reduceEqDiff, ↓reduceIte, Nat.reduceAdd, Nat.reduceMul, Nat.reduceSub, Nat.reduceLT, rb_getAll, rb_denil, rb_isAgg, rb_cells, rb_getA, Int.toNat_zero, nth]
  repeat refine And.intro (by first | omega | (simp only [maxLen]; omega) | assumption | (simp [CV.cells]; done) | (simp [CV.cells, maxLen]; omega)) ?_
  refine hK' _ _ ?_
  clear hK' K'
  refine hlex_step (g := some (17, true)) rfl rfl fun K' hK' => ?_
  simp (maxSteps := 4000000) only [hop1, hgd, List.getElem_toArray, List.getElem_cons_zero, List.getElem_cons_succ, ↓sP, sA, tyS, Nat.reducePow, Nat.reduceLeDiff, reduceCtorEq, Nat.reduceEqDiff, ↓reduceIte, Nat.reduceAdd, Nat.reduceMul, Nat.reduceSub, Nat.reduceLT, rb_getAll, rb_denil, rb_isAgg, rb_cells, rb_getA, Int.toNat_zero, nth]
  repeat refine And.intro (by first | omega | (simp only [maxLen]; omega) | assumption | (simp [CV.cells]; done) | (simp [CV.cells, maxLen]; omega)) ?_
  refine hK' _ _ ?_
  clear hK' K'
  refine hlex_step (g := some (17, true)) rfl rfl fun K' hK' => ?_
  simp (maxSteps := 4000000) only [hop1, hgd, List.getElem_toArray, List.getElem_cons_zero, List.getElem_cons_succ, ↓sP, sA, tyS, Nat.reducePow, Nat.reduceLeDiff, reduceCtorEq, Nat.reduceEqDiff, ↓reduceIte, Nat.reduceAdd, Nat.reduceMul, Nat.reduceSub, Nat.reduceLT, rb_getAll, rb_denil, rb_isAgg, rb_cells, rb_getA, Int.toNat_zero, nth]
  repeat refine And.intro (by first | omega | (simp only [maxLen]; omega) | assumption | (simp [CV.cells]; done) | (simp [CV.cells, maxLen]; omega)) ?_
  refine hK' _ _ ?_
  clear hK' K'
  refine hlex_step (g := none) rfl rfl fun K' hK' => ?_
  simp (maxSteps := 4000000) only [hop1, hgd, List.getElem_toArray, List.getElem_cons_zero, List.getElem_cons_succ, ↓sP, sA, tyS, Nat.reducePow, Nat.reduceLeDiff, reduceCtorEq, Nat.reduceEqDiff, ↓reduceIte, Nat.reduceAdd, Nat.reduceMul, Nat.reduceSub, Nat.reduceLT, rb_getAll, rb_denil, rb_isAgg, rb_cells, rb_getA, Int.toNat_zero, nth]
  repeat refine And.intro (by first | omega | (simp only [maxLen]; omega) | assumption | (simp [CV.cells]; done) | (simp [CV.cells, maxLen]; omega)) ?_
  refine hK' _ _ ?_
  clear hK' K'
  refine hlex_step (g := none) rfl rfl fun K' hK' => ?_
  simp (maxSteps := 4000000) only [hop1, hgd, List.getElem_toArray, List.getElem_cons_zero, List.getElem_cons_succ, ↓sP, sA, tyS, Nat.reducePow, Nat.reduceLeDiff, reduceCtorEq, Nat.reduceEqDiff, ↓reduceIte, Nat.reduceAdd, Nat.reduceMul, Nat.reduceSub, Nat.reduceLT, rb_getAll, rb_denil, rb_isAgg, rb_cells, rb_getA, Int.toNat_zero, nth]
  repeat refine And.intro (by first | omega | (simp only [maxLen]; omega) | assumption | (simp [CV.cells]; done) | (simp [CV.cells, maxLen]; omega)) ?_
  refine hK' _ _ ?_
  clear hK' K'
  refine hlex_step (g := some (24, true)) rfl rfl fun K' hK' => ?_
  simp (maxSteps := 4000000) only [hop1, hgd, List.getElem_toArray, List.getElem_cons_zero, List.getElem_cons_succ, ↓sP, sA, tyS, Nat.reducePow, Nat.reduceLeDiff, reduceCtorEq, Nat.reduceEqDiff, ↓reduceIte, Nat.reduceAdd, Nat.reduceMul, Nat.reduceSub, Nat.reduceLT, rb_getAll, rb_denil, rb_isAgg, rb_cells, rb_getA, Int.toNat_zero, nth]
  repeat refine And.intro (by first | omega | (simp only [maxLen]; omega) | assumption | (simp [CV.cells]; done) | (simp [CV.cells, maxLen]; omega)) ?_
  refine hK' _ _ ?_
  clear hK' K'
  refine hlex_step (g := some (24, true)) rfl rfl fun K' hK' => ?_
  simp (maxSteps := 4000000) only [hop1, hgd, List.getElem_toArray, List.getElem_cons_zero, List.getElem_cons_succ, ↓sP, sA, tyS, Nat.reducePow, Nat.reduceLeDiff, reduceCtorEq, Nat.reduceEqDiff, ↓reduceIte, Nat.reduceAdd, Nat.reduceMul, Nat.reduceSub, Nat.reduceLT, rb_getAll, rb_denil, rb_isAgg, rb_cells, rb_getA, Int.toNat_zero, nth]
  refine call_pure (args := [_, _, _]) (state_ok 0 _ _ _ 1 0) ⟨rfl, rfl, rfl, rfl⟩ ?_
  rintro u rfl
  simp only [show stateZ [[97, 110, 110]] [] 1 0 = 1 from rfl]
  repeat refine And.intro (by first | omega | (simp only [maxLen]; omega) | assumption | (simp [CV.cells]; done) | (simp [CV.cells, maxLen]; omega)) ?_
  refine hK' _ _ ?_
  clear hK' K'
  refine hlex_step (g := some (24, true)) rfl rfl fun K' hK' => ?_
  simp (maxSteps := 4000000) only [hop1, hgd, List.getElem_toArray, List.getElem_cons_zero, List.getElem_cons_succ, ↓sP, sA, tyS, Nat.reducePow, Nat.reduceLeDiff, reduceCtorEq, Nat.reduceEqDiff, ↓reduceIte, Nat.reduceAdd, Nat.reduceMul, Nat.reduceSub, Nat.reduceLT, rb_getAll, rb_denil, rb_isAgg, rb_cells, rb_getA, Int.toNat_zero, nth]
  repeat refine And.intro (by first | omega | (simp only [maxLen]; omega) | assumption | (simp [CV.cells]; done) | (simp [CV.cells, maxLen]; omega)) ?_
  refine hK' _ _ ?_
  clear hK' K'
  refine hlex_step (g := none) rfl rfl fun K' hK' => ?_
  simp (maxSteps := 4000000) only [hop1, hgd, List.getElem_toArray, List.getElem_cons_zero, List.getElem_cons_succ, ↓sP, sA, tyS, Nat.reducePow, Nat.reduceLeDiff, reduceCtorEq, Nat.reduceEqDiff, ↓reduceIte, Nat.reduceAdd, Nat.reduceMul, Nat.reduceSub, Nat.reduceLT, rb_getAll, rb_denil, rb_isAgg, rb_cells, rb_getA, Int.toNat_zero, nth]
  repeat refine And.intro (by first | omega | (simp only [maxLen]; omega) | assumption | (simp [CV.cells]; done) | (simp [CV.cells, maxLen]; omega)) ?_
  refine hK' _ _ ?_
  clear hK' K'
  refine hlex_step (g := none) rfl rfl fun K' hK' => ?_
  simp (maxSteps := 4000000) only [hop1, hgd, List.getElem_toArray, List.getElem_cons_zero, List.getElem_cons_succ, ↓sP, sA, tyS, Nat.reducePow, Nat.reduceLeDiff, reduceCtorEq, Nat.reduceEqDiff, ↓reduceIte, Nat.reduceAdd, Nat.reduceMul, Nat.reduceSub, Nat.reduceLT, rb_getAll, rb_denil, rb_isAgg, rb_cells, rb_getA, Int.toNat_zero, nth]
  repeat refine And.intro (by first | omega | (simp only [maxLen]; omega) | assumption | (simp [CV.cells]; done) | (simp [CV.cells, maxLen]; omega)) ?_
  refine hK' _ _ ?_
  clear hK' K'
  simp only [hlex, hwalk2, hthen, hblk, ↓reduceIte, reduceCtorEq, Nat.reduceEqDiff, List.size_toArray, List.length_cons, List.length_nil, Nat.reduceAdd, Nat.reduceMul, Nat.zero_add]
  repeat refine And.intro (by first | omega | (simp only [maxLen]; omega) | assumption | (simp [CV.cells]; done) | (simp [CV.cells, maxLen]; omega)) ?_
  refine hK _ _ _ ?_
  clear hK K
  refine hw_ret ?_
  simp (maxSteps := 4000000) only [hpost, Try.results10, hresL, hres1, tupOf, ↓sP, sA, tyS, Nat.reducePow, Nat.reduceLeDiff, reduceCtorEq, Nat.reduceEqDiff, ↓reduceIte, Nat.reduceAdd, Nat.reduceMul, Nat.reduceSub, Nat.reduceLT]
  exact hret_pure [] (.bool true) rfl rfl


end Go.Proofs.Ytbmeabkgdpfpbaa
