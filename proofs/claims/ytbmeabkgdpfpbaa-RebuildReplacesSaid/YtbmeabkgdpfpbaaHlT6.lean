/- Part of a proof: walks of functions of the program, by contracts. By an AI agent. -/
import Derived.Test.YtbmeabkgdpfpbaaHlT5
import Derived.Test.YtbmeabkgdpfpbaaHlSb
set_option linter.unusedSimpArgs false
set_option linter.unusedVariables false
namespace Go.Proofs.Ytbmeabkgdpfpbaa
open Go Go.Hl Go.Pl
set_option maxRecDepth 10000
set_option linter.unusedSimpArgs false
set_option linter.unusedVariables false
attribute [local simp] tp

def MadeOk (m : List Rb) : Prop := m.length ≤ 8 ∧ ∀ x ∈ m, x.w ∈ owners ∧ 0 ≤ x.p.at_ ∧ x.p.at_ < 6

theorem made_ok (L : List Int) (a : Nat) (ha : a < 2 ^ 29) : HBox Try.prog 14 39 (tp L a) [] (fun u v' => ∃ (m : List Rb) (a' : Nat), u = .slc (m.map Rb.cv) ∧ MadeOk m ∧ v' = tp L a' ∧ a' ≤ a + 100) := by
  refine hfn_walk Try.func14 rfl (by kernel_rfl) (locOk_box _ _ _) (Nat.le_of_ble_eq_true rfl) ?_
  refine hw_seq fun K hK => hw_region (by kernel_rfl) ?_
  simp (maxSteps := 4000000) only [↓sP, sA, tyS, Nat.reducePow, Nat.reduceLeDiff, reduceCtorEq, Nat.reduceEqDiff, ↓reduceIte, Nat.reduceAdd, Nat.reduceMul, Nat.reduceSub, Nat.reduceLT]
  repeat refine And.intro (by first | omega | (simp only [maxLen]; omega) | assumption | (simp [CV.cells]; done) | (simp [CV.cells, maxLen]; omega)) ?_
  refine hK _ _ _ ?_
  clear hK K
  refine hw_seq fun K hK => hw_region (by kernel_rfl) ?_
  simp (maxSteps := 4000000) only [↓sP, sA, tyS, Nat.reducePow, Nat.reduceLeDiff, reduceCtorEq, Nat.reduceEqDiff, ↓reduceIte, Nat.reduceAdd, Nat.reduceMul, Nat.reduceSub, Nat.reduceLT]
  repeat refine And.intro (by first | omega | (simp only [maxLen]; omega) | assumption | (simp [CV.cells]; done) | (simp [CV.cells, maxLen]; omega)) ?_
  refine hK _ _ _ ?_
  clear hK K
  refine hw_seq fun K hK => ?_
  refine hw_seq fun K hK => hw_region (by kernel_rfl) ?_
  simp (maxSteps := 4000000) only [↓sP, sA, tyS, Nat.reducePow, Nat.reduceLeDiff, reduceCtorEq, Nat.reduceEqDiff, ↓reduceIte, Nat.reduceAdd, Nat.reduceMul, Nat.reduceSub, Nat.reduceLT]
  refine call_box (args := [_]) (next_ok L a 9 (by omega) (by omega)) rfl (by simp) ⟨rfl, rfl, rfl, rfl⟩ ?_
  rintro u v' ⟨x, a1, rfl, rfl, h1, h2, h3, h4⟩
  obtain ⟨j0, rfl⟩ : ∃ i : Nat, x = i := ⟨x.toNat, by omega⟩
  simp only [↓sP, sA, tyS, Nat.reducePow, Nat.reduceLeDiff, reduceCtorEq, Nat.reduceEqDiff, ↓reduceIte, Nat.reduceAdd, Nat.reduceMul, Nat.reduceSub, Nat.reduceLT]
  repeat refine And.intro (by first | omega | (simp only [maxLen]; omega) | assumption | (simp [CV.cells]; done) | (simp [CV.cells, maxLen]; omega)) ?_
  refine hK _ _ _ ?_
  clear hK K
  refine hw_block ?_
  refine hw_own 3 0 46 98 rfl rfl rfl rfl ?_
  refine hw_loop (α := {s : List Rb × Nat × Nat // s.1.length + s.2.1 ≤ 8 ∧ s.2.2 + 6 * s.2.1 ≤ a + 60 ∧ ∀ x ∈ s.1, x.w ∈ owners ∧ 0 ≤ x.p.at_ ∧ x.p.at_ < 6}) (fun s => (fin [(0, .ptr 0 0), (3, .own 21 s.1.1.length), (4, .c (.int .i64 s.1.2.1))], fob [(0, .box 39 (.c (tp L s.1.2.2))), (21, .row 46 98 (s.1.1.map Rb.cv))])) 22 (fun s => s.1.2.1) ⟨([], j0, a1), by simp; omega, by simp; omega, by simp⟩ (fits_fin (by omega) (by simp [FinOk, fin_at, finA_at, upd_at, HV.men, HV.menL, HV.norm, HV.toC, HV.toCL]) (by simp [FobOk, fob_at, upd_at, none0_at, HO.men, HV.men, HV.menL, HV.norm, HV.toC, HV.toCL])) ?_
  rintro ⟨⟨m, j, a2⟩, g1, g2, g3⟩
  simp only at g1 g2 g3
  refine hw_seq fun K hK => ?_
  refine hw_seq fun K hK => hw_region (by kernel_rfl) ?_
  simp (maxSteps := 4000000) only [↓sP, sA, tyS, Nat.reducePow, Nat.reduceLeDiff, reduceCtorEq, Nat.reduceEqDiff, ↓reduceIte, Nat.reduceAdd, Nat.reduceMul, Nat.reduceSub, Nat.reduceLT]
  repeat refine And.intro (by first | omega | (simp only [maxLen]; omega) | assumption | (simp [CV.cells]; done) | (simp [CV.cells, maxLen]; omega)) ?_
  refine hK _ _ _ ?_
  clear hK K
  refine hw_cond (b := decide ((0 : Int) < j)) rfl (fun hb => ?_) (fun hb => ?_)
  · refine hw_skip ?_
    simp (maxSteps := 4000000) only [↓sP, sA, tyS, Nat.reducePow, Nat.reduceLeDiff, reduceCtorEq, Nat.reduceEqDiff, ↓reduceIte, Nat.reduceAdd, Nat.reduceMul, Nat.reduceSub, Nat.reduceLT]
    repeat refine And.intro (by first | omega | (simp only [maxLen]; omega) | assumption | (simp [CV.cells]; done) | (simp [CV.cells, maxLen]; omega)) ?_
    refine hK _ _ _ ?_
    clear hK K
    refine hw_seq fun K hK => ?_
    refine hw_block ?_
    have hj : 0 < j := by simpa using hb
    refine hw_region (by kernel_rfl) ?_
    simp (maxSteps := 4000000) only [↓sP, sA, tyS, Nat.reducePow, Nat.reduceLeDiff, reduceCtorEq, Nat.reduceEqDiff, ↓reduceIte, Nat.reduceAdd, Nat.reduceMul, Nat.reduceSub, Nat.reduceLT]
    refine call_pure (args := []) owners_ok ⟨rfl, rfl, rfl, rfl⟩ ?_
    rintro v rfl
    simp only [↓sP, sA, tyS, Nat.reducePow, Nat.reduceLeDiff, reduceCtorEq, Nat.reduceEqDiff, ↓reduceIte, Nat.reduceAdd, Nat.reduceMul, Nat.reduceSub, Nat.reduceLT]
    refine call_box (args := [_]) (pick_ok L a2 owners (by omega) (by decide)) rfl (by simp) ⟨rfl, rfl, rfl, rfl⟩ ?_
    rintro u v' ⟨w, a3, rfl, hw, rfl, k1⟩
    simp only [↓sP, sA, tyS, Nat.reducePow, Nat.reduceLeDiff, reduceCtorEq, Nat.reduceEqDiff, ↓reduceIte, Nat.reduceAdd, Nat.reduceMul, Nat.reduceSub, Nat.reduceLT]
    refine call_box (args := []) (report_ok L a3 (by omega)) rfl (by simp) ⟨rfl, rfl, rfl, rfl⟩ ?_
    rintro u v' ⟨p, a4, rfl, p1, p2, rfl, k2⟩
    simp only [↓sP, sA, tyS, Nat.reducePow, Nat.reduceLeDiff, reduceCtorEq, Nat.reduceEqDiff, ↓reduceIte, Nat.reduceAdd, Nat.reduceMul, Nat.reduceSub, Nat.reduceLT]
    repeat refine And.intro (by first | omega | (simp only [maxLen]; omega) | assumption | (simp [CV.cells]; done) | (simp [CV.cells, maxLen]; omega)) ?_
    refine hK _ _ _ ?_
    clear hK K
    refine hw_region (by kernel_rfl) ?_
    simp (maxSteps := 4000000) only [↓sP, sA, tyS, Nat.reducePow, Nat.reduceLeDiff, reduceCtorEq, Nat.reduceEqDiff, ↓reduceIte, Nat.reduceAdd, Nat.reduceMul, Nat.reduceSub, Nat.reduceLT]
    have e1 : IntKind.i64.wrap ((j : Int) - 1) = ((j - 1 : Nat) : Int) := by rw [IntWalk.i64_in _ (by omega)]; omega
    refine ⟨⟨(m ++ [⟨w, p⟩], j - 1, a4), by simp; omega, by simp only; omega, ?_⟩, fits_fin (by omega) ?_ ?_, ?_⟩
    · intro y hy
      rcases List.mem_append.1 hy with hy | hy
      · exact g3 y hy
      · rw [List.mem_singleton.1 hy]; exact ⟨hw, p1, p2⟩
    · simp [FinOk, upd_at, fin_at, HV.men, e1]
    · simp [FobOk, upd_at, fob_at, HO.men, HV.men, Rb.cv]
    · show j - 1 < j
      omega
  · refine hw_exit ?_
    simp (maxSteps := 4000000) only [↓sP, sA, tyS, Nat.reducePow, Nat.reduceLeDiff, reduceCtorEq, Nat.reduceEqDiff, ↓reduceIte, Nat.reduceAdd, Nat.reduceMul, Nat.reduceSub, Nat.reduceLT]
    clear hK K
    repeat refine And.intro (by first | omega | (simp only [maxLen]; omega) | assumption | (simp [CV.cells]; done) | (simp [CV.cells, maxLen]; omega)) ?_
    refine hK _ _ _ ?_
    clear hK K
    refine hw_seq fun K hK => hw_region (by kernel_rfl) ?_
    simp (maxSteps := 4000000) only [↓sP, sA, tyS, Nat.reducePow, Nat.reduceLeDiff, reduceCtorEq, Nat.reduceEqDiff, ↓reduceIte, Nat.reduceAdd, Nat.reduceMul, Nat.reduceSub, Nat.reduceLT]
    repeat refine And.intro (by first | omega | (simp only [maxLen]; omega) | assumption | (simp [CV.cells]; done) | (simp [CV.cells, maxLen]; omega)) ?_
    refine hK _ _ _ ?_
    clear hK K
    refine hw_ret ?_
    simp (maxSteps := 4000000) only [hpost, Try.results14, hresL, hres1, tupOf, ↓sP, sA, tyS, Nat.reducePow, Nat.reduceLeDiff, reduceCtorEq, Nat.reduceEqDiff, ↓reduceIte, Nat.reduceAdd, Nat.reduceMul, Nat.reduceSub, Nat.reduceLT]
    refine hret_box [21] (.slc (m.map Rb.cv)) (tp L a2) ?_ rfl ?_ (by simp) ⟨m, a2, rfl, ⟨by omega, g3⟩, rfl, by omega⟩
    · simp [HV.close, HV.norm, HV.toC, fob_at]
    · simp [HV.close, HV.closeL, tp, CV.denil, CV.denilL, denilL_int, HV.norm, HV.toC, HV.toCL]

end Go.Proofs.Ytbmeabkgdpfpbaa
