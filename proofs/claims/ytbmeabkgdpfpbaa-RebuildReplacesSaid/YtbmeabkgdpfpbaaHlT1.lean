/- Contracts of admissionref02's small functions. By an AI agent. -/
import Derived.Test.YtbmeabkgdpfpbaaHlTy
import Derived.Test.YtbmeabkgdpfpbaaHlSb
set_option linter.unusedSimpArgs false
set_option linter.unusedVariables false
namespace Go.Proofs.Ytbmeabkgdpfpbaa
open Go Go.Hl Go.Pl
set_option maxRecDepth 10000
set_option linter.unusedSimpArgs false
set_option linter.unusedVariables false

theorem has_ok (l : List (List UInt8)) (w : List UInt8) (hl : l.length < 2 ^ 62) : HPure Try.prog 16 [.slc (l.map .str), .str w] (fun v => v = .bool (l.contains w)) := by
  refine hfn_walk Try.func16 rfl (by kernel_rfl) (locOk_nil _) (Nat.le_of_ble_eq_true rfl) ?_
  refine hw_seq fun K hK => hw_region (by kernel_rfl) ?_
  simp (maxSteps := 4000000) only [↓sP, sA, tyS, Nat.reducePow, Nat.reduceLeDiff, reduceCtorEq, Nat.reduceEqDiff, ↓reduceIte, Nat.reduceAdd, Nat.reduceMul, Nat.reduceSub, Nat.reduceLT]
  repeat refine And.intro (by first | omega | (simp only [maxLen]; omega) | assumption | (simp [CV.cells]; done) | (simp [CV.cells, maxLen]; omega)) ?_
  refine hK _ _ _ ?_
  clear hK K
  refine hw_seq fun K hK => ?_
  refine hw_seq fun K hK => hw_region (by kernel_rfl) ?_
  simp (maxSteps := 4000000) only [↓sP, sA, tyS, Nat.reducePow, Nat.reduceLeDiff, reduceCtorEq, Nat.reduceEqDiff, ↓reduceIte, Nat.reduceAdd, Nat.reduceMul, Nat.reduceSub, Nat.reduceLT]
  repeat refine And.intro (by first | omega | (simp only [maxLen]; omega) | assumption | (simp [CV.cells]; done) | (simp [CV.cells, maxLen]; omega)) ?_
  refine hK _ _ _ ?_
  clear hK K
  refine hw_block ?_
  refine hw_loop (α := {i : Nat // i ≤ l.length ∧ w ∉ l.take i}) (fun i => (fin [(0, .c (.slc (l.map .str))), (1, .c (.str w)), (5, .c (.int .i64 i.1))], fob [])) 0 (fun i => l.length - i.1) ⟨0, by omega, by simp⟩ (fits_fin (by omega) (by simp [FinOk, fin_at, finA_at, upd_at, HV.men, HV.menL, HV.norm, HV.toC, HV.toCL]) (by simp [FobOk, fob_at, upd_at, none0_at, HO.men, HV.men, HV.menL, HV.norm, HV.toC, HV.toCL])) ?_
  rintro ⟨i, hi, hni⟩
  refine hw_seq fun K hK => ?_
  refine hw_seq fun K hK => hw_region (by kernel_rfl) ?_
  simp (maxSteps := 4000000) only [↓sP, sA, tyS, Nat.reducePow, Nat.reduceLeDiff, reduceCtorEq, Nat.reduceEqDiff, ↓reduceIte, Nat.reduceAdd, Nat.reduceMul, Nat.reduceSub, Nat.reduceLT]
  repeat refine And.intro (by first | omega | (simp only [maxLen]; omega) | assumption | (simp [CV.cells]; done) | (simp [CV.cells, maxLen]; omega)) ?_
  refine hK _ _ _ ?_
  clear hK K
  refine hw_cond (b := decide ((i : Int) < l.length)) rfl (fun hb => ?_) (fun hb => ?_)
  · have hlt : i < l.length := by simpa using hb
    refine hw_skip ?_
    simp (maxSteps := 4000000) only [↓sP, sA, tyS, Nat.reducePow, Nat.reduceLeDiff, reduceCtorEq, Nat.reduceEqDiff, ↓reduceIte, Nat.reduceAdd, Nat.reduceMul, Nat.reduceSub, Nat.reduceLT]
    repeat refine And.intro (by first | omega | (simp only [maxLen]; omega) | assumption | (simp [CV.cells]; done) | (simp [CV.cells, maxLen]; omega)) ?_
    refine hK _ _ _ ?_
    clear hK K
    refine hw_seq fun K hK => hw_block ?_
    refine hw_seq fun K hK => hw_region (by kernel_rfl) ?_
    simp (maxSteps := 4000000) only [↓sP, sA, tyS, Nat.reducePow, Nat.reduceLeDiff, reduceCtorEq, Nat.reduceEqDiff, ↓reduceIte, Nat.reduceAdd, Nat.reduceMul, Nat.reduceSub, Nat.reduceLT, Int.natCast_nonneg, Int.ofNat_lt, hlt, nth_map hlt]
    repeat refine And.intro (by first | omega | (simp only [maxLen]; omega) | assumption | (simp [CV.cells]; done) | (simp [CV.cells, maxLen]; omega)) ?_
    refine hK _ _ _ ?_
    clear hK K
    refine hw_cond (b := l[i] == w) rfl (fun hb => ?_) (fun hb => ?_)
    · refine hw_seq fun K hK => hw_region (by kernel_rfl) ?_
      simp (maxSteps := 4000000) only [↓sP, sA, tyS, Nat.reducePow, Nat.reduceLeDiff, reduceCtorEq, Nat.reduceEqDiff, ↓reduceIte, Nat.reduceAdd, Nat.reduceMul, Nat.reduceSub, Nat.reduceLT]
      repeat refine And.intro (by first | omega | (simp only [maxLen]; omega) | assumption | (simp [CV.cells]; done) | (simp [CV.cells, maxLen]; omega)) ?_
      refine hK _ _ _ ?_
      clear hK K
      refine hw_ret ?_
      simp (maxSteps := 4000000) only [hpost, Try.results16, hresL, hres1, tupOf, ↓sP, sA, tyS, Nat.reducePow, Nat.reduceLeDiff, reduceCtorEq, Nat.reduceEqDiff, ↓reduceIte, Nat.reduceAdd, Nat.reduceMul, Nat.reduceSub, Nat.reduceLT]
      refine hret_pure [] (.bool true) rfl ?_
      have : l[i] ∈ l := List.getElem_mem _
      simp_all
    · refine hw_skip ?_
      simp (maxSteps := 4000000) only [↓sP, sA, tyS, Nat.reducePow, Nat.reduceLeDiff, reduceCtorEq, Nat.reduceEqDiff, ↓reduceIte, Nat.reduceAdd, Nat.reduceMul, Nat.reduceSub, Nat.reduceLT]
      repeat refine And.intro (by first | omega | (simp only [maxLen]; omega) | assumption | (simp [CV.cells]; done) | (simp [CV.cells, maxLen]; omega)) ?_
      refine hK _ _ _ ?_
      clear hK K
      refine hw_region (by kernel_rfl) ?_
      simp (maxSteps := 4000000) only [↓sP, sA, tyS, Nat.reducePow, Nat.reduceLeDiff, reduceCtorEq, Nat.reduceEqDiff, ↓reduceIte, Nat.reduceAdd, Nat.reduceMul, Nat.reduceSub, Nat.reduceLT, IntWalk.i64_in _ (show -9223372036854775808 ≤ (i : Int) + 1 ∧ (i : Int) + 1 ≤ 9223372036854775807 by omega)]
      refine ⟨⟨i + 1, hlt, ?_⟩, fits_fin (by omega) (by simp [FinOk, fin_at, finA_at, upd_at, HV.men, HV.menL, HV.norm, HV.toC, HV.toCL]) (by simp [FobOk, fob_at, upd_at, none0_at, HO.men, HV.men, HV.menL, HV.norm, HV.toC, HV.toCL]), ?_⟩
      · rw [List.take_succ_eq_append_getElem hlt]
        intro hm
        rcases List.mem_append.1 hm with hm | hm
        · exact hni hm
        · simp_all
      · show l.length - (i + 1) < l.length - i
        omega
  · refine hw_exit ?_
    simp (maxSteps := 4000000) only [↓sP, sA, tyS, Nat.reducePow, Nat.reduceLeDiff, reduceCtorEq, Nat.reduceEqDiff, ↓reduceIte, Nat.reduceAdd, Nat.reduceMul, Nat.reduceSub, Nat.reduceLT]
    clear hK K
    repeat refine And.intro (by first | omega | (simp only [maxLen]; omega) | assumption | (simp [CV.cells]; done) | (simp [CV.cells, maxLen]; omega)) ?_
    refine hK _ _ _ ?_
    clear hK K
    refine hw_seq fun K hK => hw_region (by kernel_rfl) ?_
    simp (maxSteps := 4000000) only [↓sP, sA, tyS, Nat.reducePow, Nat.reduceLeDiff, reduceCtorEq, Nat.reduceEqDiff, ↓reduceIte, Nat.reduceAdd, Nat.reduceMul, Nat.reduceSub, Nat.reduceLT]
    repeat refine And.intro (by first | omega | (simp only [maxLen]; omega) | assumption | (simp [CV.cells]; done) | (simp [CV.cells, maxLen]; omega)) ?_
    refine hK _ _ _ ?_
    clear hK K
    refine hw_ret ?_
    simp (maxSteps := 4000000) only [hpost, Try.results16, hresL, hres1, tupOf, ↓sP, sA, tyS, Nat.reducePow, Nat.reduceLeDiff, reduceCtorEq, Nat.reduceEqDiff, ↓reduceIte, Nat.reduceAdd, Nat.reduceMul, Nat.reduceSub, Nat.reduceLT]
    refine hret_pure [] (.bool false) rfl ?_
    have : i = l.length := by simp at hb; omega
    subst this
    simpa using hni

theorem ascending_ok (l : List Word) (hl : l.length < 2 ^ 62) : HPure Try.prog 17 [.slc (l.map .str)] (fun v => v = .bool (ascB l)) := by
  refine hfn_walk Try.func17 rfl (by kernel_rfl) (locOk_nil _) (Nat.le_of_ble_eq_true rfl) ?_
  refine hw_seq fun K hK => hw_region (by kernel_rfl) ?_
  simp (maxSteps := 4000000) only [↓sP, sA, tyS, Nat.reducePow, Nat.reduceLeDiff, reduceCtorEq, Nat.reduceEqDiff, ↓reduceIte, Nat.reduceAdd, Nat.reduceMul, Nat.reduceSub, Nat.reduceLT]
  repeat refine And.intro (by first | omega | (simp only [maxLen]; omega) | assumption | (simp [CV.cells]; done) | (simp [CV.cells, maxLen]; omega)) ?_
  refine hK _ _ _ ?_
  clear hK K
  refine hw_seq fun K hK => ?_
  refine hw_seq fun K hK => hw_region (by kernel_rfl) ?_
  simp (maxSteps := 4000000) only [↓sP, sA, tyS, Nat.reducePow, Nat.reduceLeDiff, reduceCtorEq, Nat.reduceEqDiff, ↓reduceIte, Nat.reduceAdd, Nat.reduceMul, Nat.reduceSub, Nat.reduceLT]
  repeat refine And.intro (by first | omega | (simp only [maxLen]; omega) | assumption | (simp [CV.cells]; done) | (simp [CV.cells, maxLen]; omega)) ?_
  refine hK _ _ _ ?_
  clear hK K
  refine hw_block ?_
  refine hw_loop (α := {i : Nat // 1 ≤ i ∧ (i ≤ l.length ∨ i = 1) ∧ ∀ j (h : j + 1 < i) (h' : j + 1 < l.length), slt l[j] l[j + 1] = true}) (fun i => (fin [(0, .c (.slc (l.map .str))), (3, .c (.int .i64 i.1))], fob [])) 0 (fun i => l.length - i.1) ⟨1, by omega, by simp, fun j h => by omega⟩ (fits_fin (by omega) (by simp [FinOk, fin_at, finA_at, upd_at, HV.men, HV.menL, HV.norm, HV.toC, HV.toCL]) (by simp [FobOk, fob_at, upd_at, none0_at, HO.men, HV.men, HV.menL, HV.norm, HV.toC, HV.toCL])) ?_
  rintro ⟨i, h1, hi, hni⟩
  refine hw_seq fun K hK => ?_
  refine hw_seq fun K hK => hw_region (by kernel_rfl) ?_
  simp (maxSteps := 4000000) only [↓sP, sA, tyS, Nat.reducePow, Nat.reduceLeDiff, reduceCtorEq, Nat.reduceEqDiff, ↓reduceIte, Nat.reduceAdd, Nat.reduceMul, Nat.reduceSub, Nat.reduceLT]
  repeat refine And.intro (by first | omega | (simp only [maxLen]; omega) | assumption | (simp [CV.cells]; done) | (simp [CV.cells, maxLen]; omega)) ?_
  refine hK _ _ _ ?_
  clear hK K
  refine hw_cond (b := decide ((i : Int) < l.length)) rfl (fun hb => ?_) (fun hb => ?_)
  · have hlt : i < l.length := by simpa using hb
    have e1 : IntKind.i64.wrap ((i : Int) - 1) = ((i - 1 : Nat) : Int) := by rw [IntWalk.i64_in _ (by omega)]; omega
    have hlt1 : i - 1 < l.length := by omega
    refine hw_skip ?_
    simp (maxSteps := 4000000) only [↓sP, sA, tyS, Nat.reducePow, Nat.reduceLeDiff, reduceCtorEq, Nat.reduceEqDiff, ↓reduceIte, Nat.reduceAdd, Nat.reduceMul, Nat.reduceSub, Nat.reduceLT]
    repeat refine And.intro (by first | omega | (simp only [maxLen]; omega) | assumption | (simp [CV.cells]; done) | (simp [CV.cells, maxLen]; omega)) ?_
    refine hK _ _ _ ?_
    clear hK K
    refine hw_seq fun K hK => hw_block ?_
    refine hw_seq fun K hK => hw_quiet mixed (by kernel_rfl) (by kernel_rfl) (by kernel_rfl) ?_
    simp (maxSteps := 4000000) only [↓sP, sA, tyS, Nat.reducePow, Nat.reduceLeDiff, reduceCtorEq, Nat.reduceEqDiff, ↓reduceIte, Nat.reduceAdd, Nat.reduceMul, Nat.reduceSub, Nat.reduceLT, Int.natCast_nonneg, Int.ofNat_lt, hlt, e1, hlt1, nth_map hlt, nth_map hlt1]
    repeat refine And.intro (by first | omega | (simp only [maxLen]; omega) | assumption | (simp [CV.cells]; done) | (simp [CV.cells, maxLen]; omega)) ?_
    refine hK _ _ _ ?_
    clear hK K
    refine hw_cond (b := !slt l[i - 1] l[i]) rfl (fun hb => ?_) (fun hb => ?_)
    · refine hw_seq fun K hK => hw_region (by kernel_rfl) ?_
      simp (maxSteps := 4000000) only [↓sP, sA, tyS, Nat.reducePow, Nat.reduceLeDiff, reduceCtorEq, Nat.reduceEqDiff, ↓reduceIte, Nat.reduceAdd, Nat.reduceMul, Nat.reduceSub, Nat.reduceLT]
      repeat refine And.intro (by first | omega | (simp only [maxLen]; omega) | assumption | (simp [CV.cells]; done) | (simp [CV.cells, maxLen]; omega)) ?_
      refine hK _ _ _ ?_
      clear hK K
      refine hw_ret ?_
      simp (maxSteps := 4000000) only [hpost, Try.results17, hresL, hres1, tupOf, ↓sP, sA, tyS, Nat.reducePow, Nat.reduceLeDiff, reduceCtorEq, Nat.reduceEqDiff, ↓reduceIte, Nat.reduceAdd, Nat.reduceMul, Nat.reduceSub, Nat.reduceLT]
      refine hret_pure [] (.bool false) rfl ?_
      congr 1
      refine (Bool.not_eq_true _ ▸ fun h => ?_ : ascB l = false).symm
      have := ascB_iff.1 h (i - 1) (by omega)
      simp only [show i - 1 + 1 = i by omega] at this
      simp [this] at hb
    · refine hw_skip ?_
      simp (maxSteps := 4000000) only [↓sP, sA, tyS, Nat.reducePow, Nat.reduceLeDiff, reduceCtorEq, Nat.reduceEqDiff, ↓reduceIte, Nat.reduceAdd, Nat.reduceMul, Nat.reduceSub, Nat.reduceLT]
      repeat refine And.intro (by first | omega | (simp only [maxLen]; omega) | assumption | (simp [CV.cells]; done) | (simp [CV.cells, maxLen]; omega)) ?_
      refine hK _ _ _ ?_
      clear hK K
      refine hw_region (by kernel_rfl) ?_
      simp (maxSteps := 4000000) only [↓sP, sA, tyS, Nat.reducePow, Nat.reduceLeDiff, reduceCtorEq, Nat.reduceEqDiff, ↓reduceIte, Nat.reduceAdd, Nat.reduceMul, Nat.reduceSub, Nat.reduceLT, IntWalk.i64_in _ (show -9223372036854775808 ≤ (i : Int) + 1 ∧ (i : Int) + 1 ≤ 9223372036854775807 by omega)]
      refine ⟨⟨i + 1, by omega, by omega, fun j h h' => ?_⟩, fits_fin (by omega) (by simp [FinOk, fin_at, finA_at, upd_at, HV.men, HV.menL, HV.norm, HV.toC, HV.toCL]) (by simp [FobOk, fob_at, upd_at, none0_at, HO.men, HV.men, HV.menL, HV.norm, HV.toC, HV.toCL]), ?_⟩
      · by_cases e : j + 1 = i
        · subst e
          simpa using hb
        · exact hni j (by omega) h'
      · show l.length - (i + 1) < l.length - i
        omega
  · refine hw_exit ?_
    simp (maxSteps := 4000000) only [↓sP, sA, tyS, Nat.reducePow, Nat.reduceLeDiff, reduceCtorEq, Nat.reduceEqDiff, ↓reduceIte, Nat.reduceAdd, Nat.reduceMul, Nat.reduceSub, Nat.reduceLT]
    clear hK K
    repeat refine And.intro (by first | omega | (simp only [maxLen]; omega) | assumption | (simp [CV.cells]; done) | (simp [CV.cells, maxLen]; omega)) ?_
    refine hK _ _ _ ?_
    clear hK K
    refine hw_seq fun K hK => hw_region (by kernel_rfl) ?_
    simp (maxSteps := 4000000) only [↓sP, sA, tyS, Nat.reducePow, Nat.reduceLeDiff, reduceCtorEq, Nat.reduceEqDiff, ↓reduceIte, Nat.reduceAdd, Nat.reduceMul, Nat.reduceSub, Nat.reduceLT]
    repeat refine And.intro (by first | omega | (simp only [maxLen]; omega) | assumption | (simp [CV.cells]; done) | (simp [CV.cells, maxLen]; omega)) ?_
    refine hK _ _ _ ?_
    clear hK K
    refine hw_ret ?_
    simp (maxSteps := 4000000) only [hpost, Try.results17, hresL, hres1, tupOf, ↓sP, sA, tyS, Nat.reducePow, Nat.reduceLeDiff, reduceCtorEq, Nat.reduceEqDiff, ↓reduceIte, Nat.reduceAdd, Nat.reduceMul, Nat.reduceSub, Nat.reduceLT]
    refine hret_pure [] (.bool true) rfl ?_
    have : l.length ≤ i := by simp at hb; omega
    exact congrArg _ (ascB_iff.2 fun j h => hni j (by omega) h).symm

theorem same_ok (l m : List Word) (hl : l.length < 2 ^ 62) : HPure Try.prog 28 [.slc (l.map .str), .slc (m.map .str)] (fun v => v = .bool (l == m)) := by
  refine hfn_walk Try.func28 rfl (by kernel_rfl) (locOk_nil _) (Nat.le_of_ble_eq_true rfl) ?_
  refine hw_seq fun K hK => hw_region (by kernel_rfl) ?_
  simp (maxSteps := 4000000) only [↓sP, sA, tyS, Nat.reducePow, Nat.reduceLeDiff, reduceCtorEq, Nat.reduceEqDiff, ↓reduceIte, Nat.reduceAdd, Nat.reduceMul, Nat.reduceSub, Nat.reduceLT]
  repeat refine And.intro (by first | omega | (simp only [maxLen]; omega) | assumption | (simp [CV.cells]; done) | (simp [CV.cells, maxLen]; omega)) ?_
  refine hK _ _ _ ?_
  clear hK K
  refine hw_seq fun K hK => ?_
  refine hw_seq fun K hK => hw_region (by kernel_rfl) ?_
  simp (maxSteps := 4000000) only [↓sP, sA, tyS, Nat.reducePow, Nat.reduceLeDiff, reduceCtorEq, Nat.reduceEqDiff, ↓reduceIte, Nat.reduceAdd, Nat.reduceMul, Nat.reduceSub, Nat.reduceLT]
  repeat refine And.intro (by first | omega | (simp only [maxLen]; omega) | assumption | (simp [CV.cells]; done) | (simp [CV.cells, maxLen]; omega)) ?_
  refine hK _ _ _ ?_
  clear hK K
  refine hw_cond (b := (l.length : Int) != m.length) rfl (fun hb => ?_) (fun hb => ?_)
  · refine hw_seq fun K hK => hw_region (by kernel_rfl) ?_
    simp (maxSteps := 4000000) only [↓sP, sA, tyS, Nat.reducePow, Nat.reduceLeDiff, reduceCtorEq, Nat.reduceEqDiff, ↓reduceIte, Nat.reduceAdd, Nat.reduceMul, Nat.reduceSub, Nat.reduceLT]
    repeat refine And.intro (by first | omega | (simp only [maxLen]; omega) | assumption | (simp [CV.cells]; done) | (simp [CV.cells, maxLen]; omega)) ?_
    refine hK _ _ _ ?_
    clear hK K
    refine hw_ret ?_
    simp (maxSteps := 4000000) only [hpost, Try.results28, hresL, hres1, tupOf, ↓sP, sA, tyS, Nat.reducePow, Nat.reduceLeDiff, reduceCtorEq, Nat.reduceEqDiff, ↓reduceIte, Nat.reduceAdd, Nat.reduceMul, Nat.reduceSub, Nat.reduceLT]
    refine hret_pure [] (.bool false) rfl ?_
    congr 1
    have : ¬ l = m := by rintro rfl; simp at hb
    simp [this]
  have hlen : l.length = m.length := by simp at hb; omega
  refine hw_skip ?_
  simp (maxSteps := 4000000) only [↓sP, sA, tyS, Nat.reducePow, Nat.reduceLeDiff, reduceCtorEq, Nat.reduceEqDiff, ↓reduceIte, Nat.reduceAdd, Nat.reduceMul, Nat.reduceSub, Nat.reduceLT]
  repeat refine And.intro (by first | omega | (simp only [maxLen]; omega) | assumption | (simp [CV.cells]; done) | (simp [CV.cells, maxLen]; omega)) ?_
  refine hK _ _ _ ?_
  clear hK K
  refine hw_seq fun K hK => ?_
  refine hw_seq fun K hK => hw_region (by kernel_rfl) ?_
  simp (maxSteps := 4000000) only [↓sP, sA, tyS, Nat.reducePow, Nat.reduceLeDiff, reduceCtorEq, Nat.reduceEqDiff, ↓reduceIte, Nat.reduceAdd, Nat.reduceMul, Nat.reduceSub, Nat.reduceLT]
  repeat refine And.intro (by first | omega | (simp only [maxLen]; omega) | assumption | (simp [CV.cells]; done) | (simp [CV.cells, maxLen]; omega)) ?_
  refine hK _ _ _ ?_
  clear hK K
  refine hw_block ?_
  refine hw_loop (α := {i : Nat // i ≤ l.length ∧ l.take i = m.take i}) (fun i => (fin [(0, .c (.slc (l.map .str))), (1, .c (.slc (m.map .str))), (5, .c (.int .i64 i.1))], fob [])) 0 (fun i => l.length - i.1) ⟨0, by omega, by simp⟩ (fits_fin (by omega) (by simp [FinOk, fin_at, finA_at, upd_at, HV.men, HV.menL, HV.norm, HV.toC, HV.toCL]) (by simp [FobOk, fob_at, upd_at, none0_at, HO.men, HV.men, HV.menL, HV.norm, HV.toC, HV.toCL])) ?_
  rintro ⟨i, hi, hni⟩
  refine hw_seq fun K hK => ?_
  refine hw_seq fun K hK => hw_region (by kernel_rfl) ?_
  simp (maxSteps := 4000000) only [↓sP, sA, tyS, Nat.reducePow, Nat.reduceLeDiff, reduceCtorEq, Nat.reduceEqDiff, ↓reduceIte, Nat.reduceAdd, Nat.reduceMul, Nat.reduceSub, Nat.reduceLT]
  repeat refine And.intro (by first | omega | (simp only [maxLen]; omega) | assumption | (simp [CV.cells]; done) | (simp [CV.cells, maxLen]; omega)) ?_
  refine hK _ _ _ ?_
  clear hK K
  refine hw_cond (b := decide ((i : Int) < l.length)) rfl (fun hb => ?_) (fun hb => ?_)
  · have hlt : i < l.length := by simpa using hb
    have hlt1 : i < m.length := by omega
    refine hw_skip ?_
    simp (maxSteps := 4000000) only [↓sP, sA, tyS, Nat.reducePow, Nat.reduceLeDiff, reduceCtorEq, Nat.reduceEqDiff, ↓reduceIte, Nat.reduceAdd, Nat.reduceMul, Nat.reduceSub, Nat.reduceLT]
    repeat refine And.intro (by first | omega | (simp only [maxLen]; omega) | assumption | (simp [CV.cells]; done) | (simp [CV.cells, maxLen]; omega)) ?_
    refine hK _ _ _ ?_
    clear hK K
    refine hw_seq fun K hK => hw_block ?_
    refine hw_seq fun K hK => hw_quiet mixed (by kernel_rfl) (by kernel_rfl) (by kernel_rfl) ?_
    simp (maxSteps := 4000000) only [↓sP, sA, tyS, Nat.reducePow, Nat.reduceLeDiff, reduceCtorEq, Nat.reduceEqDiff, ↓reduceIte, Nat.reduceAdd, Nat.reduceMul, Nat.reduceSub, Nat.reduceLT, Int.natCast_nonneg, Int.ofNat_lt, hlt, hlt1, nth_map hlt, nth_map hlt1]
    repeat refine And.intro (by first | omega | (simp only [maxLen]; omega) | assumption | (simp [CV.cells]; done) | (simp [CV.cells, maxLen]; omega)) ?_
    refine hK _ _ _ ?_
    clear hK K
    refine hw_cond (b := !(l[i] == m[i])) rfl (fun hb => ?_) (fun hb => ?_)
    · refine hw_seq fun K hK => hw_region (by kernel_rfl) ?_
      simp (maxSteps := 4000000) only [↓sP, sA, tyS, Nat.reducePow, Nat.reduceLeDiff, reduceCtorEq, Nat.reduceEqDiff, ↓reduceIte, Nat.reduceAdd, Nat.reduceMul, Nat.reduceSub, Nat.reduceLT]
      repeat refine And.intro (by first | omega | (simp only [maxLen]; omega) | assumption | (simp [CV.cells]; done) | (simp [CV.cells, maxLen]; omega)) ?_
      refine hK _ _ _ ?_
      clear hK K
      refine hw_ret ?_
      simp (maxSteps := 4000000) only [hpost, Try.results28, hresL, hres1, tupOf, ↓sP, sA, tyS, Nat.reducePow, Nat.reduceLeDiff, reduceCtorEq, Nat.reduceEqDiff, ↓reduceIte, Nat.reduceAdd, Nat.reduceMul, Nat.reduceSub, Nat.reduceLT]
      refine hret_pure [] (.bool false) rfl ?_
      congr 1
      have : ¬ l = m := by rintro rfl; simp at hb
      simp [this]
    · refine hw_skip ?_
      simp (maxSteps := 4000000) only [↓sP, sA, tyS, Nat.reducePow, Nat.reduceLeDiff, reduceCtorEq, Nat.reduceEqDiff, ↓reduceIte, Nat.reduceAdd, Nat.reduceMul, Nat.reduceSub, Nat.reduceLT]
      repeat refine And.intro (by first | omega | (simp only [maxLen]; omega) | assumption | (simp [CV.cells]; done) | (simp [CV.cells, maxLen]; omega)) ?_
      refine hK _ _ _ ?_
      clear hK K
      refine hw_region (by kernel_rfl) ?_
      simp (maxSteps := 4000000) only [↓sP, sA, tyS, Nat.reducePow, Nat.reduceLeDiff, reduceCtorEq, Nat.reduceEqDiff, ↓reduceIte, Nat.reduceAdd, Nat.reduceMul, Nat.reduceSub, Nat.reduceLT, IntWalk.i64_in _ (show -9223372036854775808 ≤ (i : Int) + 1 ∧ (i : Int) + 1 ≤ 9223372036854775807 by omega)]
      refine ⟨⟨i + 1, by omega, ?_⟩, fits_fin (by omega) (by simp [FinOk, fin_at, finA_at, upd_at, HV.men, HV.menL, HV.norm, HV.toC, HV.toCL]) (by simp [FobOk, fob_at, upd_at, none0_at, HO.men, HV.men, HV.menL, HV.norm, HV.toC, HV.toCL]), ?_⟩
      · rw [List.take_succ_eq_append_getElem hlt, List.take_succ_eq_append_getElem hlt1, hni]
        simp at hb
        rw [hb]
      · show l.length - (i + 1) < l.length - i
        omega
  · refine hw_exit ?_
    simp (maxSteps := 4000000) only [↓sP, sA, tyS, Nat.reducePow, Nat.reduceLeDiff, reduceCtorEq, Nat.reduceEqDiff, ↓reduceIte, Nat.reduceAdd, Nat.reduceMul, Nat.reduceSub, Nat.reduceLT]
    clear hK K
    repeat refine And.intro (by first | omega | (simp only [maxLen]; omega) | assumption | (simp [CV.cells]; done) | (simp [CV.cells, maxLen]; omega)) ?_
    refine hK _ _ _ ?_
    clear hK K
    refine hw_seq fun K hK => hw_region (by kernel_rfl) ?_
    simp (maxSteps := 4000000) only [↓sP, sA, tyS, Nat.reducePow, Nat.reduceLeDiff, reduceCtorEq, Nat.reduceEqDiff, ↓reduceIte, Nat.reduceAdd, Nat.reduceMul, Nat.reduceSub, Nat.reduceLT]
    repeat refine And.intro (by first | omega | (simp only [maxLen]; omega) | assumption | (simp [CV.cells]; done) | (simp [CV.cells, maxLen]; omega)) ?_
    refine hK _ _ _ ?_
    clear hK K
    refine hw_ret ?_
    simp (maxSteps := 4000000) only [hpost, Try.results28, hresL, hres1, tupOf, ↓sP, sA, tyS, Nat.reducePow, Nat.reduceLeDiff, reduceCtorEq, Nat.reduceEqDiff, ↓reduceIte, Nat.reduceAdd, Nat.reduceMul, Nat.reduceSub, Nat.reduceLT]
    refine hret_pure [] (.bool true) rfl ?_
    have : l.length ≤ i := by simp at hb; omega
    rw [List.take_of_length_le this, List.take_of_length_le (by omega)] at hni
    simp [hni]
end Go.Proofs.Ytbmeabkgdpfpbaa
