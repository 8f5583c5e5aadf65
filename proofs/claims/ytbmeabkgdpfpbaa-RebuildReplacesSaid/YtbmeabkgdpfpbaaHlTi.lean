/- Part of a proof: walks of functions of the program, by contracts. By an AI agent. -/
import Derived.Test.YtbmeabkgdpfpbaaHlTh
import Derived.Test.YtbmeabkgdpfpbaaHlSb
import Derived.Test.YtbmeabkgdpfpbaaPl18e
set_option linter.unusedSimpArgs false
set_option linter.unusedVariables false
namespace Go.Proofs.Ytbmeabkgdpfpbaa
open Go Go.Hl Go.Pl
set_option maxRecDepth 10000
set_option maxHeartbeats 2000000
set_option linter.unusedSimpArgs false
set_option linter.unusedVariables false

theorem AI {p q : Prop} (h : q) (hp : p := by first | omega | (simp only [maxLen]; omega) | assumption | (simp [CV.cells]; done) | (simp [CV.cells, maxLen]; omega)) : p ∧ q := ⟨hp, h⟩
theorem replaces_law (L : List Int) (o : Int) (ho : 0 ≤ o ∧ o ≤ 255) : HPure Try.prog 6 [.slc (L.map (.int .i64)), .int .u8 o] (fun v => v = .bool true) := by
  obtain ⟨q, hq⟩ : ∃ q, q = o.tmod 2 := ⟨_, rfl⟩
  have hq2 : q = 0 ∨ q = 1 := by
    have h1 := Int.tmod_nonneg 2 ho.1
    have h2 := Int.tmod_lt_of_pos o (show (0 : Int) < 2 by omega)
    omega
  obtain ⟨d, hd⟩ : ∃ d, d = dg1 (UInt8.ofNat (3 + q).toNat) := ⟨_, rfl⟩
  have hw3 : IntKind.u8.wrap (3 + q) = 3 + q := IntWalk.u8_in _ (by omega)
  have hdg : dgi .u8 (3 + q) = dg d := by rw [hd]; exact dgi_ofInt (by omega) (by omega)
  obtain ⟨b, hb0⟩ : ∃ b, b = (d == dg1 3) := ⟨_, rfl⟩
  have hqb : (q == 0) = b ∧ (q == 1) = !b := by
    rw [hb0, hd]
    rcases hq2 with rfl | rfl <;> exact ⟨by decide, by decide⟩
  replace hq := hq.symm
  refine hfn_walk Try.func6 rfl (by kernel_rfl) (locOk_nil _) (Nat.le_of_ble_eq_true rfl) ?_
  refine hw_seq fun K hK => hw_region (by kernel_rfl) ?_
  simp (maxSteps := 4000000) only [↓sP, sA, tyS, simprocAttr]
  repeat refine AI ?_
  refine hK _ _ _ ?_
  clear hK K
  refine hw_seq fun K hK => hw_region (by kernel_rfl) ?_
  simp only [List.range, List.range.loop, List.size_toArray, List.length_cons, List.length_nil, Nat.reduceAdd, Nat.reduceMul, Nat.zero_add, Nat.add_zero]
  iterate 4
    (refine hlex_step (g := none) rfl rfl fun K' hK' => ?_; simp (maxSteps := 4000000) only [hop1, hgd, List.getElem_toArray, List.getElem_cons_zero, List.getElem_cons_succ, ↓sP, sA, tyS, simprocAttr, denilL_int]; (repeat refine AI ?_); refine hK' _ _ ?_; clear hK' K')
  simp only [hlex, hwalk2, hthen, hblk, ↓reduceIte, reduceCtorEq, Nat.reduceEqDiff, List.size_toArray, List.length_cons, List.length_nil, Nat.reduceAdd, Nat.reduceMul, Nat.zero_add]
  repeat refine AI ?_
  refine hK _ _ _ ?_
  clear hK K
  refine hw_seq fun K hK => hw_region (by kernel_rfl) ?_
  simp only [List.range, List.range.loop, List.size_toArray, List.length_cons, List.length_nil, Nat.reduceAdd, Nat.reduceMul, Nat.zero_add, Nat.add_zero]
  refine hlex_step (g := none) rfl rfl fun K' hK' => ?_
  simp (maxSteps := 4000000) only [hop1, hgd, List.getElem_toArray, List.getElem_cons_zero, List.getElem_cons_succ, ↓sP, sA, tyS, simprocAttr]
  repeat refine AI ?_
  refine hK' _ _ ?_
  clear hK' K'
  refine hlex_step (g := none) rfl rfl fun K' hK' => ?_
  simp (maxSteps := 4000000) only [hop1, hgd, List.getElem_toArray, List.getElem_cons_zero, List.getElem_cons_succ, ↓sP, sA, tyS, simprocAttr]
  refine call_box_own (made_own L 0 (by omega)) rfl (by simp) ⟨rfl, rfl, rfl, rfl⟩ ?_
  rintro l v' ⟨m, a1, rfl, hm, rfl, k1⟩
  repeat refine AI ?_
  refine hK' _ _ ?_
  clear hK' K'
  refine hlex_step (g := none) rfl rfl fun K' hK' => ?_
  simp (maxSteps := 4000000) only [hop1, hgd, List.getElem_toArray, List.getElem_cons_zero, List.getElem_cons_succ, ↓sP, sA, tyS, simprocAttr]
  repeat refine AI ?_
  refine hK' _ _ ?_
  clear hK' K'
  simp only [hlex, hwalk2, hthen, hblk, ↓reduceIte, reduceCtorEq, Nat.reduceEqDiff, List.size_toArray, List.length_cons, List.length_nil, Nat.reduceAdd, Nat.reduceMul, Nat.zero_add]
  repeat refine AI ?_
  refine hK _ _ _ ?_
  clear hK K
  refine hw_seq fun K hK => hw_region (by kernel_rfl) ?_
  simp only [List.range, List.range.loop, List.size_toArray, List.length_cons, List.length_nil, Nat.reduceAdd, Nat.reduceMul, Nat.zero_add, Nat.add_zero]
  refine hlex_step (g := none) rfl rfl fun K' hK' => ?_
  simp (maxSteps := 4000000) only [hop1, hgd, List.getElem_toArray, List.getElem_cons_zero, List.getElem_cons_succ, ↓sP, sA, tyS, simprocAttr]
  repeat refine AI ?_
  refine hK' _ _ ?_
  clear hK' K'
  refine hlex_step (g := none) rfl rfl fun K' hK' => ?_
  simp (maxSteps := 4000000) only [hop1, hgd, List.getElem_toArray, List.getElem_cons_zero, List.getElem_cons_succ, ↓sP, sA, tyS, simprocAttr]
  refine call_pure (args := []) owners_ok ⟨rfl, rfl, rfl, rfl⟩ ?_
  rintro u rfl
  repeat refine AI ?_
  refine hK' _ _ ?_
  clear hK' K'
  refine hlex_step (g := none) rfl rfl fun K' hK' => ?_
  simp (maxSteps := 4000000) only [hop1, hgd, List.getElem_toArray, List.getElem_cons_zero, List.getElem_cons_succ, ↓sP, sA, tyS, simprocAttr]
  refine call_box (args := [_]) (pick_ok L a1 owners (by omega) (by decide)) rfl (by simp) ⟨rfl, rfl, rfl, rfl⟩ ?_
  rintro u v' ⟨w, a2, rfl, hw, rfl, k2⟩
  repeat refine AI ?_
  refine hK' _ _ ?_
  clear hK' K'
  refine hlex_step (g := none) rfl rfl fun K' hK' => ?_
  simp (maxSteps := 4000000) only [hop1, hgd, List.getElem_toArray, List.getElem_cons_zero, List.getElem_cons_succ, ↓sP, sA, tyS, simprocAttr]
  repeat refine AI ?_
  refine hK' _ _ ?_
  clear hK' K'
  simp only [hlex, hwalk2, hthen, hblk, ↓reduceIte, reduceCtorEq, Nat.reduceEqDiff, List.size_toArray, List.length_cons, List.length_nil, Nat.reduceAdd, Nat.reduceMul, Nat.zero_add]
  repeat refine AI ?_
  refine hK _ _ _ ?_
  clear hK K
  refine hw_seq fun K hK => hw_region (by kernel_rfl) ?_
  simp only [List.range, List.range.loop, List.size_toArray, List.length_cons, List.length_nil, Nat.reduceAdd, Nat.reduceMul, Nat.zero_add, Nat.add_zero]
  refine hlex_step (g := none) rfl rfl fun K' hK' => ?_
  simp (maxSteps := 4000000) only [hop1, hgd, List.getElem_toArray, List.getElem_cons_zero, List.getElem_cons_succ, ↓sP, sA, tyS, simprocAttr]
  refine call_pure (args := []) want_ok ⟨rfl, rfl, rfl, rfl⟩ ?_
  rintro u rfl
  repeat refine AI ?_
  refine hK' _ _ ?_
  clear hK' K'
  iterate 2
    (refine hlex_step (g := none) rfl rfl fun K' hK' => ?_; simp (maxSteps := 4000000) only [hop1, hgd, List.getElem_toArray, List.getElem_cons_zero, List.getElem_cons_succ, ↓sP, sA, tyS, simprocAttr]; (repeat refine AI ?_); refine hK' _ _ ?_; clear hK' K')
  simp only [hlex, hwalk2, hthen, hblk, ↓reduceIte, reduceCtorEq, Nat.reduceEqDiff, List.size_toArray, List.length_cons, List.length_nil, Nat.reduceAdd, Nat.reduceMul, Nat.zero_add]
  repeat refine AI ?_
  refine hK _ _ _ ?_
  clear hK K
  have hml : m.length ≤ 8 := hm.1
  refine hw_seq fun K hK => hw_region (by kernel_rfl) ?_
  simp only [List.range, List.range.loop, List.size_toArray, List.length_cons, List.length_nil, Nat.reduceAdd, Nat.reduceMul, Nat.zero_add, Nat.add_zero]
  iterate 6
    (refine hlex_step (g := none) rfl rfl fun K' hK' => ?_; simp (maxSteps := 4000000) only [hop1, hgd, List.getElem_toArray, List.getElem_cons_zero, List.getElem_cons_succ, ↓sP, sA, tyS, simprocAttr, hq, hw3, hdg]; (repeat refine AI ?_); refine hK' _ _ ?_; clear hK' K')
  simp only [hlex, hwalk2, hthen, hblk, ↓reduceIte, reduceCtorEq, Nat.reduceEqDiff, List.size_toArray, List.length_cons, List.length_nil, Nat.reduceAdd, Nat.reduceMul, Nat.zero_add]
  repeat refine AI ?_
  refine hK _ _ _ ?_
  clear hK K
  refine hw_seq fun K hK => hw_region (by kernel_rfl) ?_
  simp only [List.range, List.range.loop, List.size_toArray, List.length_cons, List.length_nil, Nat.reduceAdd, Nat.reduceMul, Nat.zero_add, Nat.add_zero]
  refine hlex_step (g := none) rfl rfl fun K' hK' => ?_
  simp (maxSteps := 4000000) only [hop1, hgd, List.getElem_toArray, List.getElem_cons_zero, List.getElem_cons_succ, ↓sP, sA, tyS, simprocAttr, rb_getAll, rb_denil, rb_isAgg, rb_cells, rb_setAll]
  refine call_pure (args := []) want_ok ⟨rfl, rfl, rfl, rfl⟩ ?_
  rintro u rfl
  repeat refine AI ?_
  refine hK' _ _ ?_
  clear hK' K'
  refine hlex_step (g := none) rfl rfl fun K' hK' => ?_
  simp (maxSteps := 4000000) only [hop1, hgd, List.getElem_toArray, List.getElem_cons_zero, List.getElem_cons_succ, ↓sP, sA, tyS, simprocAttr, rb_getAll, rb_denil, rb_isAgg, rb_cells, rb_setAll]
  repeat refine AI ?_
  refine hK' _ _ ?_
  clear hK' K'
  refine hlex_step (g := none) rfl rfl fun K' hK' => ?_
  simp (maxSteps := 4000000) only [hop1, hgd, List.getElem_toArray, List.getElem_cons_zero, List.getElem_cons_succ, ↓sP, sA, tyS, simprocAttr, rb_getAll, rb_denil, rb_isAgg, rb_cells, rb_setAll]
  refine call_lend (e := 46) (sz := 98) (l := m.map Rb.cv) [_] [_] (judge_own (dg1 1) (dg1 2) (dg1 3) m 20 (by omega) hm.short) rfl (by simp) (by simp) ⟨rfl, rfl, rfl, rfl⟩ ?_
  rintro u rfl
  rw [judge_same]
  repeat refine AI ?_
  refine hK' _ _ ?_
  clear hK' K'
  iterate 2
    (refine hlex_step (g := none) rfl rfl fun K' hK' => ?_; simp (maxSteps := 4000000) only [hop1, hgd, List.getElem_toArray, List.getElem_cons_zero, List.getElem_cons_succ, ↓sP, sA, tyS, simprocAttr, rb_getAll, rb_denil, rb_isAgg, rb_cells, rb_setAll]; (repeat refine AI ?_); refine hK' _ _ ?_; clear hK' K')
  simp only [hlex, hwalk2, hthen, hblk, ↓reduceIte, reduceCtorEq, Nat.reduceEqDiff, List.size_toArray, List.length_cons, List.length_nil, Nat.reduceAdd, Nat.reduceMul, Nat.zero_add]
  repeat refine AI ?_
  refine hK _ _ _ ?_
  clear hK K
  obtain ⟨M, hM⟩ : ∃ M : List Rb, M = m ++ [(⟨w, ⟨dg1 1, dg1 2, d, 15⟩⟩ : Rb)] := ⟨_, rfl⟩
  have hshort : ∀ x ∈ M, x.w.length ≤ maxLen := fun x hx => by
    rw [hM] at hx
    rcases List.mem_append.1 hx with hx | hx
    · exact hm.short x hx
    · have := owners_len _ hw
      rw [List.mem_singleton.1 hx]; simp only [maxLen]; omega
  have hlen := judge_len (dg1 1) (dg1 2) (dg1 3) 20 M
  have hlen0 := judge_len (dg1 1) (dg1 2) (dg1 3) 20 m
  have hrep := replaced (s := dg1 1) (r := dg1 2) (o := dg1 3) (d := d) (t := 20) (m := m) (w := w) (fun x hx => by have := (hm.2 x hx).2.2; omega) (by omega)
  have hoth := fun p hp => replaced_other (s := dg1 1) (r := dg1 2) (o := dg1 3) (d := d) (t := 20) (m := m) (w := w) (p := p) hp
  simp only at hrep hoth
  rw [← hM] at hrep
  simp only [← hM] at hoth
  rw [← hb0] at hrep
  have hl9 : M.length ≤ 9 := by simp [hM]; omega
  obtain ⟨j, hj⟩ : ∃ j, j = judge18 (dg1 1) (dg1 2) (dg1 3) 20 M := ⟨_, rfl⟩
  obtain ⟨i, hi⟩ : ∃ i, i = judge18 (dg1 1) (dg1 2) (dg1 3) 20 m := ⟨_, rfl⟩
  rw [← hj] at hlen hrep
  rw [← hi] at hlen0
  simp only [← hi, ← hj] at hoth
  rw [← hi]
  refine hw_seq fun K hK => hw_draw2 mixed [(1, [], []), (2, [], []), (3, [], []), (4, [], []), (5, [], []), (6, [], []), (9, [6], []), (0, [6, 9], [1, 2, 3, 4, 5, 6, 9]), (7, [9], [9]), (8, [9], [9]), (10, [], [])] [0, 0, 0, 0, 8, 28, 60, 127, 255, 0, 1023] (by kernel_rfl) (by kernel_rfl) (by kernel_rfl) (by kernel_rfl) rfl (by kernel_rfl) ?_
  iterate 7
    (refine hwalk2_step (g := none) rfl rfl fun K' hK' => ?_; simp (maxSteps := 4000000) only [hop1, hgd, List.getElem_toArray, List.getElem_cons_zero, List.getElem_cons_succ, ↓sP, sA, tyS, simprocAttr, gone_at, rb_getAll, rb_denil, rb_isAgg, rb_cells, rb_setAll]; (repeat refine AI ?_); refine hK' _ _ ?_; clear hK' K')
  refine hwalk2_step (g := none) rfl rfl fun K' hK' => ?_
  simp (maxSteps := 4000000) only [hop1, hgd, List.getElem_toArray, List.getElem_cons_zero, List.getElem_cons_succ, ↓sP, sA, tyS, simprocAttr, gone_at, rb_getAll, rb_denil, rb_isAgg, rb_cells, rb_setAll]
  refine call_pure (args := []) want_ok ⟨rfl, rfl, rfl, rfl⟩ ?_
  rintro u rfl
  repeat refine AI ?_
  refine hK' _ _ ?_
  clear hK' K'
  refine hwalk2_step (g := none) rfl rfl fun K' hK' => ?_
  simp (maxSteps := 4000000) only [hop1, hgd, List.getElem_toArray, List.getElem_cons_zero, List.getElem_cons_succ, ↓sP, sA, tyS, simprocAttr, gone_at, rb_getAll, rb_denil, rb_isAgg, rb_cells, rb_setAll]
  repeat refine AI ?_
  refine hK' _ _ ?_
  clear hK' K'
  refine hwalk2_step (g := none) rfl rfl fun K' hK' => ?_
  simp (maxSteps := 4000000) only [hop1, hgd, List.getElem_toArray, List.getElem_cons_zero, List.getElem_cons_succ, ↓sP, sA, tyS, simprocAttr, gone_at, rb_getAll, rb_denil, rb_isAgg, rb_cells, rb_setAll]
  refine call_close (e := 46) (sz := 98) (l := M.map Rb.cv) [_] [_] (judge_ok' (dg1 1) (dg1 2) (dg1 3) M 20 (by omega) hshort) ?_ ?_ (by simp) ⟨rfl, rfl, rfl, rfl⟩ ?_
  · simp [upd_at, hM, Rb.cv, Rp.cv]
  · simp [hM]
  rintro u rfl
  repeat refine AI ?_
  refine hK' _ _ ?_
  clear hK' K'
  refine hwalk2_step (g := none) rfl rfl fun K' hK' => ?_
  simp (maxSteps := 4000000) only [hop1, hgd, List.getElem_toArray, List.getElem_cons_zero, List.getElem_cons_succ, ↓sP, sA, tyS, simprocAttr, gone_at, rb_getAll, rb_denil, rb_isAgg, rb_cells, rb_setAll]
  repeat refine AI ?_
  refine hK' _ _ ?_
  clear hK' K'
  simp only [hlex, hwalk2, hthen, hblk, ↓reduceIte, reduceCtorEq, Nat.reduceEqDiff, List.size_toArray, List.length_cons, List.length_nil, Nat.reduceAdd, Nat.reduceMul, Nat.zero_add]
  repeat refine AI ?_
  refine hK _ _ _ ?_
  clear hK K
  refine hw_seq fun K hK => ?_
  rw [← hj]
  refine hw_seq fun K hK => hw_region (by kernel_rfl) ?_
  simp only [List.range, List.range.loop, List.size_toArray, List.length_cons, List.length_nil, Nat.reduceAdd, Nat.reduceMul, Nat.zero_add, Nat.add_zero]
  iterate 3
    (refine hlex_step (g := none) rfl rfl fun K' hK' => ?_; simp (maxSteps := 4000000) only [hop1, hgd, List.getElem_toArray, List.getElem_cons_zero, List.getElem_cons_succ, ↓sP, sA, tyS, simprocAttr, gone_at, rb_getA, rb_getD, rb_getF, hq, hqb.1, hqb.2]; (repeat refine AI ?_); refine hK' _ _ ?_; clear hK' K')
  refine hlex_step (g := none) rfl rfl fun K' hK' => ?_
  simp (maxSteps := 4000000) only [hop1, hgd, List.getElem_toArray, List.getElem_cons_zero, List.getElem_cons_succ, ↓sP, sA, tyS, simprocAttr, gone_at, rb_getA, rb_getD, rb_getF, hq, hqb.1, hqb.2]
  refine call_pure (args := [_, _]) (has_ok j.a w (by omega)) ⟨rfl, rfl, rfl, rfl⟩ ?_
  rintro u rfl
  rw [hrep.1]
  repeat refine AI ?_
  refine hK' _ _ ?_
  clear hK' K'
  iterate 5
    (refine hlex_step (g := none) rfl rfl fun K' hK' => ?_; simp (maxSteps := 4000000) only [hop1, hgd, List.getElem_toArray, List.getElem_cons_zero, List.getElem_cons_succ, ↓sP, sA, tyS, simprocAttr, gone_at, rb_getA, rb_getD, rb_getF, hq, hqb.1, hqb.2]; (repeat refine AI ?_); refine hK' _ _ ?_; clear hK' K')
  iterate 3
    (refine hlex_step (g := some (47, false)) rfl rfl fun K' hK' => ?_; simp (maxSteps := 4000000) only [hop1, hgd, List.getElem_toArray, List.getElem_cons_zero, List.getElem_cons_succ, ↓sP, sA, tyS, simprocAttr, gone_at, rb_getA, rb_getD, rb_getF, hq, hqb.1, hqb.2]; (repeat refine AI ?_); refine hK' _ _ ?_; clear hK' K')
  refine hlex_step (g := some (47, false)) rfl rfl fun K' hK' => ?_
  simp (maxSteps := 4000000) only [hop1, hgd, List.getElem_toArray, List.getElem_cons_zero, List.getElem_cons_succ, ↓sP, sA, tyS, simprocAttr, gone_at, rb_getA, rb_getD, rb_getF, hq, hqb.1, hqb.2]
  refine call_pure (args := [_, _]) (has_ok j.d w (by omega)) ⟨rfl, rfl, rfl, rfl⟩ ?_
  rintro u rfl
  rw [hrep.2.1]
  repeat refine AI ?_
  refine hK' _ _ ?_
  clear hK' K'
  iterate 4
    (refine hlex_step (g := some (47, false)) rfl rfl fun K' hK' => ?_; simp (maxSteps := 4000000) only [hop1, hgd, List.getElem_toArray, List.getElem_cons_zero, List.getElem_cons_succ, ↓sP, sA, tyS, simprocAttr, gone_at, rb_getA, rb_getD, rb_getF, hq, hqb.1, hqb.2]; (repeat refine AI ?_); refine hK' _ _ ?_; clear hK' K')
  iterate 2
    (refine hlex_step (g := none) rfl rfl fun K' hK' => ?_; simp (maxSteps := 4000000) only [hop1, hgd, List.getElem_toArray, List.getElem_cons_zero, List.getElem_cons_succ, ↓sP, sA, tyS, simprocAttr, gone_at, rb_getA, rb_getD, rb_getF, hq, hqb.1, hqb.2]; (repeat refine AI ?_); refine hK' _ _ ?_; clear hK' K')
  iterate 3
    (refine hlex_step (g := some (57, false)) rfl rfl fun K' hK' => ?_; simp (maxSteps := 4000000) only [hop1, hgd, List.getElem_toArray, List.getElem_cons_zero, List.getElem_cons_succ, ↓sP, sA, tyS, simprocAttr, gone_at, rb_getA, rb_getD, rb_getF, hq, hqb.1, hqb.2]; (repeat refine AI ?_); refine hK' _ _ ?_; clear hK' K')
  refine hlex_step (g := some (57, false)) rfl rfl fun K' hK' => ?_
  simp (maxSteps := 4000000) only [hop1, hgd, List.getElem_toArray, List.getElem_cons_zero, List.getElem_cons_succ, ↓sP, sA, tyS, simprocAttr, gone_at, rb_getA, rb_getD, rb_getF, hq, hqb.1, hqb.2]
  refine call_pure (args := [_, _]) (has_ok j.f w (by omega)) ⟨rfl, rfl, rfl, rfl⟩ ?_
  rintro u rfl
  rw [hrep.2.2]
  repeat refine AI ?_
  refine hK' _ _ ?_
  clear hK' K'
  refine hlex_step (g := none) rfl rfl fun K' hK' => ?_
  simp (maxSteps := 4000000) only [hop1, hgd, List.getElem_toArray, List.getElem_cons_zero, List.getElem_cons_succ, ↓sP, sA, tyS, simprocAttr, gone_at, rb_getA, rb_getD, rb_getF, hq, hqb.1, hqb.2]
  repeat refine AI ?_
  refine hK' _ _ ?_
  clear hK' K'
  simp only [hlex, hwalk2, hthen, hblk, ↓reduceIte, reduceCtorEq, Nat.reduceEqDiff, List.size_toArray, List.length_cons, List.length_nil, Nat.reduceAdd, Nat.reduceMul, Nat.zero_add]
  repeat refine AI ?_
  refine hK _ _ _ ?_
  clear hK K
  refine hw_cond (b := false) rfl (fun hb => ?_) (fun hb => ?_)
  · cases hb
  · refine hw_skip ?_
    simp (maxSteps := 4000000) only [↓sP, sA, tyS, simprocAttr]
    repeat refine AI ?_
    refine hK _ _ _ ?_
    clear hK K
    refine hw_seq fun K hK => ?_
    refine hw_seq fun K hK => hw_region (by kernel_rfl) ?_
    simp only [List.range, List.range.loop, List.size_toArray, List.length_cons, List.length_nil, Nat.reduceAdd, Nat.reduceMul, Nat.zero_add, Nat.add_zero]
    refine hlex_step (g := none) rfl rfl fun K' hK' => ?_
    simp (maxSteps := 4000000) only [hop1, hgd, List.getElem_toArray, List.getElem_cons_zero, List.getElem_cons_succ, ↓sP, sA, tyS, simprocAttr]
    refine call_pure (args := []) owners_ok ⟨rfl, rfl, rfl, rfl⟩ ?_
    rintro u rfl
    repeat refine AI ?_
    refine hK' _ _ ?_
    clear hK' K'
    iterate 2
      (refine hlex_step (g := none) rfl rfl fun K' hK' => ?_; simp (maxSteps := 4000000) only [hop1, hgd, List.getElem_toArray, List.getElem_cons_zero, List.getElem_cons_succ, ↓sP, sA, tyS, simprocAttr]; (repeat refine AI ?_); refine hK' _ _ ?_; clear hK' K')
    simp only [hlex, hwalk2, hthen, hblk, ↓reduceIte, reduceCtorEq, Nat.reduceEqDiff, List.size_toArray, List.length_cons, List.length_nil, Nat.reduceAdd, Nat.reduceMul, Nat.zero_add]
    repeat refine AI ?_
    refine hK _ _ _ ?_
    clear hK K
    refine hw_block ?_
    refine hw_loop (α := {n : Nat // n ≤ owners.length}) (fun n => (fin [(7, .c (.str w)), (9, .ptr 96 0), (10, .ptr 140 0), (63, .c (.slc (owners.map .str))), (64, .c (.int .i64 owners.length)), (65, .c (.int .i64 n.1))], fob [(96, .box 30 (.c (rb 0 i.a i.d i.f))), (140, .box 30 (.c (rb 0 j.a j.d j.f)))])) 260 (fun n => owners.length - n.1) ⟨0, by omega⟩ (fits_fin (by omega) (by simp [FinOk, fin_at, finA_at, upd_at, HV.men]) (by simp [FobOk, fob_at, upd_at, none0_at, gone_at, HO.men, HV.men])) ?_
    rintro ⟨n, hn⟩
    refine hw_seq fun K hK => hw_region (by kernel_rfl) ?_
    simp (maxSteps := 4000000) only [↓sP, sA, tyS, simprocAttr]
    repeat refine AI ?_
    refine hK _ _ _ ?_
    clear hK K
    refine hw_seq fun K hK => ?_
    refine hw_cond (b := decide ((n : Int) < owners.length)) rfl (fun hb => ?_) (fun hb => ?_)
    · have hlt : n < owners.length := by simpa using hb
      have hn5 : n + 1 < 5 := by have : n < 4 := hlt; omega
      refine hw_skip ?_
      simp (maxSteps := 4000000) only [↓sP, sA, tyS, simprocAttr]
      repeat refine AI ?_
      refine hK _ _ _ ?_
      clear hK K
      refine hw_seq fun K hK => ?_
      refine hw_block ?_
      refine hw_seq fun K hK => hw_region (by kernel_rfl) ?_
      simp (maxSteps := 4000000) only [↓sP, sA, tyS, simprocAttr, Int.natCast_nonneg, Int.ofNat_lt, hlt, nth_map hlt]
      repeat refine AI ?_
      refine hK _ _ _ ?_
      clear hK K
      refine hw_seq fun K hK => ?_
      have key : ∀ fr ob nx, fr 104 = .c (.bool false) → Fits 0 fr ob (fin [(7, .c (.str w)), (9, .ptr 96 0), (10, .ptr 140 0), (63, .c (.slc (owners.map .str))), (64, .c (.int .i64 owners.length)), (65, .c (.int .i64 n)), (104, .c (.bool false))]) (fob [(96, .box 30 (.c (rb 0 i.a i.d i.f))), (140, .box 30 (.c (rb 0 j.a j.d j.f)))]) 900 → K fr ob nx := by
        rintro fr ob nx - hf
        refine hK _ _ _ (hw_fits hf ?_)
        clear hf hK K
        refine hw_cond (b := false) rfl (fun hb => ?_) (fun hb => ?_)
        · cases hb
        · refine hw_skip ?_
          simp (maxSteps := 4000000) only [↓sP, sA, tyS, simprocAttr]
          repeat refine AI ?_
          refine hK _ _ _ ?_
          clear hK K
          refine hw_region (by kernel_rfl) ?_
          simp (maxSteps := 4000000) only [↓sP, sA, tyS, simprocAttr, IntWalk.i64_in _ (show -9223372036854775808 ≤ (n : Int) + 1 ∧ (n : Int) + 1 ≤ 9223372036854775807 by omega)]
          refine ⟨⟨n + 1, hlt⟩, fits_fin (by omega) (by simp [FinOk, fin_at, finA_at, upd_at, HV.men, HV.menL, HV.norm, HV.toC, HV.toCL]) (by simp [FobOk, fob_at, upd_at, none0_at, HO.men, HV.men, HV.menL, HV.norm, HV.toC, HV.toCL]), ?_⟩
          show owners.length - (n + 1) < owners.length - n
          omega
      cases hpw : (owners[n] == w)
      · have hne : owners[n] ≠ w := by simpa using hpw
        obtain ⟨o1, o2, o3⟩ := hoth _ hne
        refine hw_draw2 mixed [(0, [], []), (1, [], []), (2, [], []), (3, [], []), (4, [], []), (5, [], []), (6, [], []), (8, [], []), (9, [], []), (10, [], []), (7, [], [8, 9, 10]), (11, [], []), (12, [], []), (13, [], []), (14, [], []), (15, [], []), (16, [], []), (18, [], []), (19, [], []), (20, [], []), (17, [], [18, 19, 20]), (21, [], []), (22, [], []), (23, [], []), (24, [], []), (25, [], []), (26, [], []), (27, [], []), (29, [], []), (30, [], []), (31, [], []), (28, [], [29, 30, 31]), (32, [], []), (33, [], []), (34, [], []), (35, [], [])] [0, 0, 3, 7, 15, 31, 15, 127, 15, 271, 15, 2047, 4095, 8191, 16383, 32767, 16383, 131071, 16383, 278527, 16383, 2097151, 4194303, 8388607, 16777215, 33554431, 67108863, 33554431, 268435455, 33554431, 570425343, 33554431, 4294967295, 8589934591, 17179869183, 34359738367] (by kernel_rfl) (by kernel_rfl) (by kernel_rfl) (by kernel_rfl) rfl (by kernel_rfl) ?_
        iterate 4
          (refine hwalk2_step (g := none) rfl rfl fun K' hK' => ?_; simp (maxSteps := 4000000) only [hop1, hgd, List.getElem_toArray, List.getElem_cons_zero, List.getElem_cons_succ, ↓sP, sA, tyS, simprocAttr, hpw, rb_getA, rb_getD, rb_getF]; (repeat refine AI ?_); refine hK' _ _ ?_; clear hK' K')
        iterate 6
          (refine hwalk2_step (g := some (72, true)) rfl rfl fun K' hK' => ?_; simp (maxSteps := 4000000) only [hop1, hgd, List.getElem_toArray, List.getElem_cons_zero, List.getElem_cons_succ, ↓sP, sA, tyS, simprocAttr, hpw, rb_getA, rb_getD, rb_getF]; (repeat refine AI ?_); refine hK' _ _ ?_; clear hK' K')
        refine hwalk2_step (g := some (72, true)) rfl rfl fun K' hK' => ?_
        simp (maxSteps := 4000000) only [hop1, hgd, List.getElem_toArray, List.getElem_cons_zero, List.getElem_cons_succ, ↓sP, sA, tyS, simprocAttr, hpw, rb_getA, rb_getD, rb_getF]
        refine call_pure (args := [_, _]) (has_ok i.a owners[n] (by omega)) ⟨rfl, rfl, rfl, rfl⟩ ?_
        rintro u rfl
        repeat refine AI ?_
        refine hK' _ _ ?_
        clear hK' K'
        refine hwalk2_step (g := some (72, true)) rfl rfl fun K' hK' => ?_
        simp (maxSteps := 4000000) only [hop1, hgd, List.getElem_toArray, List.getElem_cons_zero, List.getElem_cons_succ, ↓sP, sA, tyS, simprocAttr, hpw, rb_getA, rb_getD, rb_getF]
        refine call_pure (args := [_, _]) (has_ok j.a owners[n] (by omega)) ⟨rfl, rfl, rfl, rfl⟩ ?_
        rintro u rfl
        rw [o1]
        repeat refine AI ?_
        refine hK' _ _ ?_
        clear hK' K'
        iterate 2
          (refine hwalk2_step (g := some (72, true)) rfl rfl fun K' hK' => ?_; simp (maxSteps := 4000000) only [hop1, hgd, List.getElem_toArray, List.getElem_cons_zero, List.getElem_cons_succ, ↓sP, sA, tyS, simprocAttr, hpw, rb_getA, rb_getD, rb_getF]; (repeat refine AI ?_); refine hK' _ _ ?_; clear hK' K')
        iterate 6
          (refine hwalk2_step (g := some (82, false)) rfl rfl fun K' hK' => ?_; simp (maxSteps := 4000000) only [hop1, hgd, List.getElem_toArray, List.getElem_cons_zero, List.getElem_cons_succ, ↓sP, sA, tyS, simprocAttr, hpw, rb_getA, rb_getD, rb_getF]; (repeat refine AI ?_); refine hK' _ _ ?_; clear hK' K')
        refine hwalk2_step (g := some (82, false)) rfl rfl fun K' hK' => ?_
        simp (maxSteps := 4000000) only [hop1, hgd, List.getElem_toArray, List.getElem_cons_zero, List.getElem_cons_succ, ↓sP, sA, tyS, simprocAttr, hpw, rb_getA, rb_getD, rb_getF]
        refine call_pure (args := [_, _]) (has_ok i.d owners[n] (by omega)) ⟨rfl, rfl, rfl, rfl⟩ ?_
        rintro u rfl
        repeat refine AI ?_
        refine hK' _ _ ?_
        clear hK' K'
        refine hwalk2_step (g := some (82, false)) rfl rfl fun K' hK' => ?_
        simp (maxSteps := 4000000) only [hop1, hgd, List.getElem_toArray, List.getElem_cons_zero, List.getElem_cons_succ, ↓sP, sA, tyS, simprocAttr, hpw, rb_getA, rb_getD, rb_getF]
        refine call_pure (args := [_, _]) (has_ok j.d owners[n] (by omega)) ⟨rfl, rfl, rfl, rfl⟩ ?_
        rintro u rfl
        rw [o2]
        repeat refine AI ?_
        refine hK' _ _ ?_
        clear hK' K'
        refine hwalk2_step (g := some (82, false)) rfl rfl fun K' hK' => ?_
        simp (maxSteps := 4000000) only [hop1, hgd, List.getElem_toArray, List.getElem_cons_zero, List.getElem_cons_succ, ↓sP, sA, tyS, simprocAttr, hpw, rb_getA, rb_getD, rb_getF]
        repeat refine AI ?_
        refine hK' _ _ ?_
        clear hK' K'
        iterate 2
          (refine hwalk2_step (g := some (72, true)) rfl rfl fun K' hK' => ?_; simp (maxSteps := 4000000) only [hop1, hgd, List.getElem_toArray, List.getElem_cons_zero, List.getElem_cons_succ, ↓sP, sA, tyS, simprocAttr, hpw, rb_getA, rb_getD, rb_getF]; (repeat refine AI ?_); refine hK' _ _ ?_; clear hK' K')
        iterate 6
          (refine hwalk2_step (g := some (93, false)) rfl rfl fun K' hK' => ?_; simp (maxSteps := 4000000) only [hop1, hgd, List.getElem_toArray, List.getElem_cons_zero, List.getElem_cons_succ, ↓sP, sA, tyS, simprocAttr, hpw, rb_getA, rb_getD, rb_getF]; (repeat refine AI ?_); refine hK' _ _ ?_; clear hK' K')
        refine hwalk2_step (g := some (93, false)) rfl rfl fun K' hK' => ?_
        simp (maxSteps := 4000000) only [hop1, hgd, List.getElem_toArray, List.getElem_cons_zero, List.getElem_cons_succ, ↓sP, sA, tyS, simprocAttr, hpw, rb_getA, rb_getD, rb_getF]
        refine call_pure (args := [_, _]) (has_ok i.f owners[n] (by omega)) ⟨rfl, rfl, rfl, rfl⟩ ?_
        rintro u rfl
        repeat refine AI ?_
        refine hK' _ _ ?_
        clear hK' K'
        refine hwalk2_step (g := some (93, false)) rfl rfl fun K' hK' => ?_
        simp (maxSteps := 4000000) only [hop1, hgd, List.getElem_toArray, List.getElem_cons_zero, List.getElem_cons_succ, ↓sP, sA, tyS, simprocAttr, hpw, rb_getA, rb_getD, rb_getF]
        refine call_pure (args := [_, _]) (has_ok j.f owners[n] (by omega)) ⟨rfl, rfl, rfl, rfl⟩ ?_
        rintro u rfl
        rw [o3]
        repeat refine AI ?_
        refine hK' _ _ ?_
        clear hK' K'
        refine hwalk2_step (g := some (93, false)) rfl rfl fun K' hK' => ?_
        simp (maxSteps := 4000000) only [hop1, hgd, List.getElem_toArray, List.getElem_cons_zero, List.getElem_cons_succ, ↓sP, sA, tyS, simprocAttr, hpw, rb_getA, rb_getD, rb_getF]
        repeat refine AI ?_
        refine hK' _ _ ?_
        clear hK' K'
        refine hwalk2_step (g := some (72, true)) rfl rfl fun K' hK' => ?_
        simp (maxSteps := 4000000) only [hop1, hgd, List.getElem_toArray, List.getElem_cons_zero, List.getElem_cons_succ, ↓sP, sA, tyS, simprocAttr, hpw, rb_getA, rb_getD, rb_getF]
        repeat refine AI ?_
        refine hK' _ _ ?_
        clear hK' K'
        refine hwalk2_step (g := none) rfl rfl fun K' hK' => ?_
        simp (maxSteps := 4000000) only [hop1, hgd, List.getElem_toArray, List.getElem_cons_zero, List.getElem_cons_succ, ↓sP, sA, tyS, simprocAttr, hpw, rb_getA, rb_getD, rb_getF]
        repeat refine AI ?_
        refine hK' _ _ ?_
        clear hK' K'
        simp only [hlex, hwalk2, hthen, hblk, ↓reduceIte, reduceCtorEq, Nat.reduceEqDiff, List.size_toArray, List.length_cons, List.length_nil, Nat.reduceAdd, Nat.reduceMul, Nat.zero_add]
        exact key _ _ _ rfl (fits_fin (by omega) (by simp [FinOk, fin_at, finA_at, upd_at, HV.men, HV.menL, HV.norm, HV.toC, HV.toCL]) (by simp [FobOk, fob_at, upd_at, none0_at, HO.men, HV.men, HV.menL, HV.norm, HV.toC, HV.toCL]))
      · refine hw_draw2 mixed [(0, [], []), (1, [], []), (2, [], []), (3, [], []), (4, [], []), (5, [], []), (6, [], []), (8, [], []), (9, [], []), (10, [], []), (7, [], [8, 9, 10]), (11, [], []), (12, [], []), (13, [], []), (14, [], []), (15, [], []), (16, [], []), (18, [], []), (19, [], []), (20, [], []), (17, [], [18, 19, 20]), (21, [], []), (22, [], []), (23, [], []), (24, [], []), (25, [], []), (26, [], []), (27, [], []), (29, [], []), (30, [], []), (31, [], []), (28, [], [29, 30, 31]), (32, [], []), (33, [], []), (34, [], []), (35, [], [])] [0, 0, 3, 7, 15, 31, 15, 127, 15, 271, 15, 2047, 4095, 8191, 16383, 32767, 16383, 131071, 16383, 278527, 16383, 2097151, 4194303, 8388607, 16777215, 33554431, 67108863, 33554431, 268435455, 33554431, 570425343, 33554431, 4294967295, 8589934591, 17179869183, 34359738367] (by kernel_rfl) (by kernel_rfl) (by kernel_rfl) (by kernel_rfl) rfl (by kernel_rfl) ?_
        iterate 4
          (refine hwalk2_step (g := none) rfl rfl fun K' hK' => ?_; simp (maxSteps := 4000000) only [hop1, hgd, List.getElem_toArray, List.getElem_cons_zero, List.getElem_cons_succ, ↓sP, sA, tyS, simprocAttr, hpw]; (repeat refine AI ?_); refine hK' _ _ ?_; clear hK' K')
        iterate 10
          (refine hwalk2_step (g := some (72, true)) rfl rfl fun K' hK' => ?_; simp (maxSteps := 4000000) only [hop1, hgd, List.getElem_toArray, List.getElem_cons_zero, List.getElem_cons_succ, ↓sP, sA, tyS, simprocAttr, hpw]; (repeat refine AI ?_); refine hK' _ _ ?_; clear hK' K')
        iterate 9
          (refine hwalk2_step (g := some (82, false)) rfl rfl fun K' hK' => ?_; simp (maxSteps := 4000000) only [hop1, hgd, List.getElem_toArray, List.getElem_cons_zero, List.getElem_cons_succ, ↓sP, sA, tyS, simprocAttr, hpw]; (repeat refine AI ?_); refine hK' _ _ ?_; clear hK' K')
        iterate 2
          (refine hwalk2_step (g := some (72, true)) rfl rfl fun K' hK' => ?_; simp (maxSteps := 4000000) only [hop1, hgd, List.getElem_toArray, List.getElem_cons_zero, List.getElem_cons_succ, ↓sP, sA, tyS, simprocAttr, hpw]; (repeat refine AI ?_); refine hK' _ _ ?_; clear hK' K')
        iterate 9
          (refine hwalk2_step (g := some (93, false)) rfl rfl fun K' hK' => ?_; simp (maxSteps := 4000000) only [hop1, hgd, List.getElem_toArray, List.getElem_cons_zero, List.getElem_cons_succ, ↓sP, sA, tyS, simprocAttr, hpw]; (repeat refine AI ?_); refine hK' _ _ ?_; clear hK' K')
        refine hwalk2_step (g := some (72, true)) rfl rfl fun K' hK' => ?_
        simp (maxSteps := 4000000) only [hop1, hgd, List.getElem_toArray, List.getElem_cons_zero, List.getElem_cons_succ, ↓sP, sA, tyS, simprocAttr, hpw]
        repeat refine AI ?_
        refine hK' _ _ ?_
        clear hK' K'
        refine hwalk2_step (g := none) rfl rfl fun K' hK' => ?_
        simp (maxSteps := 4000000) only [hop1, hgd, List.getElem_toArray, List.getElem_cons_zero, List.getElem_cons_succ, ↓sP, sA, tyS, simprocAttr, hpw]
        repeat refine AI ?_
        refine hK' _ _ ?_
        clear hK' K'
        simp only [hlex, hwalk2, hthen, hblk, ↓reduceIte, reduceCtorEq, Nat.reduceEqDiff, List.size_toArray, List.length_cons, List.length_nil, Nat.reduceAdd, Nat.reduceMul, Nat.zero_add]
        exact key _ _ _ rfl (fits_fin (by omega) (by simp [FinOk, fin_at, finA_at, upd_at, HV.men, HV.menL, HV.norm, HV.toC, HV.toCL]) (by simp [FobOk, fob_at, upd_at, none0_at, HO.men, HV.men, HV.menL, HV.norm, HV.toC, HV.toCL]))
    · refine hw_exit ?_
      simp (maxSteps := 4000000) only [↓sP, sA, tyS, simprocAttr]
      clear hK K
      repeat refine AI ?_
      refine hK _ _ _ ?_
      clear hK K
      refine hw_seq fun K hK => hw_region (by kernel_rfl) ?_
      simp only [List.range, List.range.loop, List.size_toArray, List.length_cons, List.length_nil, Nat.reduceAdd, Nat.reduceMul, Nat.zero_add, Nat.add_zero]
      refine hlex_step (g := none) rfl rfl fun K' hK' => ?_
      simp (maxSteps := 4000000) only [hop1, hgd, List.getElem_toArray, List.getElem_cons_zero, List.getElem_cons_succ, ↓sP, sA, tyS, simprocAttr]
      refine call_pure (args := []) awake_ok ⟨rfl, rfl, rfl, rfl⟩ ?_
      rintro u rfl
      repeat refine AI ?_
      refine hK' _ _ ?_
      clear hK' K'
      refine hlex_step (g := none) rfl rfl fun K' hK' => ?_
      simp (maxSteps := 4000000) only [hop1, hgd, List.getElem_toArray, List.getElem_cons_zero, List.getElem_cons_succ, ↓sP, sA, tyS, simprocAttr]
      repeat refine AI ?_
      refine hK' _ _ ?_
      clear hK' K'
      simp only [hlex, hwalk2, hthen, hblk, ↓reduceIte, reduceCtorEq, Nat.reduceEqDiff, List.size_toArray, List.length_cons, List.length_nil, Nat.reduceAdd, Nat.reduceMul, Nat.zero_add]
      repeat refine AI ?_
      refine hK _ _ _ ?_
      clear hK K
      refine hw_ret ?_
      simp (maxSteps := 4000000) only [hpost, Try.results6, hresL, hres1, tupOf, ↓sP, sA, tyS, simprocAttr]
      exact hret_pure [] (.bool true) rfl rfl

end Go.Proofs.Ytbmeabkgdpfpbaa
