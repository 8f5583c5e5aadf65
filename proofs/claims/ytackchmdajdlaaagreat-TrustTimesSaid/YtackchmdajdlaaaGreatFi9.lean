/- TrustTimes: for any root document, any keys and any tape of numbers the law returns true and leaves them as they were: the times at which keys can begin or cease to count. No condition. By an AI agent. -/
import Derived.Test.YtackchmdajdlaaaGreatHwTl
import Derived.Test.YtackchmdajdlaaaGreatHwSb
import Derived.Test.YtackchmdajdlaaaGreatHwT1
import Derived.Test.YtackchmdajdlaaaGreatRows
set_option linter.unusedSimpArgs false
set_option linter.unusedVariables false
set_option linter.defProp false
namespace Go.Proofs.YtackchmdajdlaaaGreat
open Go Go.Hl Go.Pl
set_option maxRecDepth 10000
set_option maxHeartbeats 8000000
set_option linter.unusedSimpArgs false
set_option linter.unusedVariables false
attribute [local simp] tp

theorem cells_dgs {l : List (List Dig)} : (∀ v ∈ l.map (fun x => CV.slc (x.map dg)), v.cells = 1) ↔ True := iff_true_intro fun v h => by obtain ⟨d, _, rfl⟩ := List.mem_map.1 h; rfl
theorem addt_ok (l : List Int) (t : Int) (hl : l.length < 2 ^ 40) : HPure Tryz.prog 49 [.slc (l.map (.int .i64)), .int .i64 t] (fun v => v = .slc ((addT l t).map (.int .i64))) := by
 refine hfn_walk Tryz.func49 rfl (by kernel_rfl) (locOk_nil _) (Nat.le_of_ble_eq_true rfl) ?_
 refine hw_seq fun K hK => hw_region (by kernel_rfl) ?_
 simp (maxSteps := 4000000) only [↓sP, sA, tyS, simprocAttr]
 repeat refine AI ?_
 refine hK _ _ _ ?_
 clear hK K
 refine hw_seq fun K hK => hw_region (by kernel_rfl) ?_
 simp (maxSteps := 4000000) only [↓sP, sA, tyS, simprocAttr]
 repeat refine AI ?_
 refine hK _ _ _ ?_
 clear hK K
 refine hw_seq fun K hK => hw_region (by kernel_rfl) ?_
 simp (maxSteps := 4000000) only [↓sP, sA, tyS, simprocAttr]
 repeat refine AI ?_
 refine hK _ _ _ ?_
 clear hK K
 refine hw_seq fun K hK => ?_
 refine hw_block ?_
 refine hw_own 5 0 2 1 rfl rfl rfl rfl ?_
 refine hw_loop (α := {i : Nat // i ≤ l.length ∧ ∀ j (h : j < i) (h' : j < l.length), l[j] < t}) (fun i => (fin [(0, .c (.slc (l.map (.int .i64)))), (1, .c (.int .i64 t)), (5, .own 12 i.1), (6, .c (.int .i64 i.1))], fob [(12, .row 2 1 ((l.take i.1).map (.int .i64)))])) 100 (fun i => l.length - i.1) ⟨0, by omega, fun j h => by omega⟩ (fits_fin (by omega) (by simp [FinOk, fin_at, finA_at, upd_at, HV.men, HV.menL, HV.norm, HV.toC, HV.toCL]) (by simp [FobOk, fob_at, upd_at, none0_at, gone, HO.men, HV.men, HV.menL, HV.norm, HV.toC, HV.toCL])) ?_
 rintro ⟨i, hi, hni⟩
 have hti : (l.take i).length = i := by simp; omega
 refine hw_seq fun K hK => ?_
 by_cases hlt : i < l.length
 ·
  refine hw_seq fun K hK => hw_region (by kernel_rfl) ?_
  simp only [sR, simprocAttr]
  iterate 5
   (refine hlex_step (g := none) rfl rfl fun K' hK' => ?_; simp only [sH, ↓sP, sA, tyS, simprocAttr, Int.natCast_nonneg, Int.ofNat_lt, hlt, nth_map hlt]; (repeat refine AI ?_); refine hK' _ _ ?_; clear hK' K')
  iterate 6
   (refine hlex_step (g := some (11, true)) rfl rfl fun K' hK' => ?_; simp only [sH, ↓sP, sA, tyS, simprocAttr, Int.natCast_nonneg, Int.ofNat_lt, hlt, nth_map hlt]; (repeat refine AI ?_); refine hK' _ _ ?_; clear hK' K')
  refine hlex_step (g := none) rfl rfl fun K' hK' => ?_
  simp (maxSteps := 4000000) only [sH, ↓sP, sA, tyS, simprocAttr, Int.natCast_nonneg, Int.ofNat_lt, hlt, nth_map hlt]
  repeat refine AI ?_
  refine hK' _ _ ?_
  clear hK' K'
  simp only [sE, ↓reduceIte, simprocAttr]
  repeat refine AI ?_
  refine hK _ _ _ ?_
  clear hK K
  refine hw_cond (b := decide (l[i] < t)) rfl (fun hb => ?_) (fun hb => ?_)
  ·
   refine hw_skip ?_
   simp (maxSteps := 4000000) only [↓sP, sA, tyS, simprocAttr]
   repeat refine AI ?_
   refine hK _ _ _ ?_
   clear hK K
   refine hw_block ?_
   refine hw_seq fun K hK => hw_region (by kernel_rfl) ?_
   simp only [sR, simprocAttr]
   iterate 8
    (refine hlex_step (g := none) rfl rfl fun K' hK' => ?_; simp only [sH, ↓sP, sA, tyS, simprocAttr, Int.natCast_nonneg, Int.ofNat_lt, hlt, nth_map hlt, hti, List.length_append]; (repeat refine AI ?_); refine hK' _ _ ?_; clear hK' K')
   simp only [sE, ↓reduceIte, simprocAttr]
   repeat refine AI ?_
   refine hK _ _ _ ?_
   clear hK K
   refine hw_region (by kernel_rfl) ?_
   simp (maxSteps := 4000000) only [↓sP, sA, tyS, simprocAttr, IntWalk.i64_in _ (show -9223372036854775808 ≤ (i : Int) + 1 ∧ (i : Int) + 1 ≤ 9223372036854775807 by omega)]
   refine ⟨⟨i + 1, by omega, fun j h h' => ?_⟩, fits_fin (by omega) ?_ ?_, ?_⟩
   ·
    by_cases e : j = i
    ·
     subst e; simpa using hb
    ·
     exact hni j (by omega) h'
   ·
    simp [FinOk, upd_at, fin_at, HV.men]
   ·
    refine ⟨?_, by omega, trivial, trivial⟩
    simp only [List.take_succ_eq_append_getElem hlt, List.map_append]
    rfl
   ·
    show l.length - (i + 1) < l.length - i
    omega
  ·
   have hge := hb
   clear hb
   refine hw_exit ?_
   simp (maxSteps := 4000000) only [↓sP, sA, tyS, simprocAttr]
   clear hK K
   repeat refine AI ?_
   refine hK _ _ _ ?_
   clear hK K
   refine hw_seq fun K hK => ?_
   refine hw_seq fun K hK => hw_region (by kernel_rfl) ?_
   simp only [sR, simprocAttr]
   iterate 5
    (refine hlex_step (g := none) rfl rfl fun K' hK' => ?_; simp only [sH, ↓sP, sA, tyS, simprocAttr, Int.natCast_nonneg, Int.ofNat_lt, hlt, nth_map hlt]; (repeat refine AI ?_); refine hK' _ _ ?_; clear hK' K')
   iterate 6
    (refine hlex_step (g := some (32, true)) rfl rfl fun K' hK' => ?_; simp only [sH, ↓sP, sA, tyS, simprocAttr, Int.natCast_nonneg, Int.ofNat_lt, hlt, nth_map hlt]; (repeat refine AI ?_); refine hK' _ _ ?_; clear hK' K')
   refine hlex_step (g := none) rfl rfl fun K' hK' => ?_
   simp (maxSteps := 4000000) only [sH, ↓sP, sA, tyS, simprocAttr, Int.natCast_nonneg, Int.ofNat_lt, hlt, nth_map hlt]
   repeat refine AI ?_
   refine hK' _ _ ?_
   clear hK' K'
   simp only [sE, ↓reduceIte, simprocAttr]
   repeat refine AI ?_
   refine hK _ _ _ ?_
   clear hK K
   refine hw_cond (b := l[i] == t) rfl (fun hb => ?_) (fun hb => ?_)
   ·
    refine hw_seq fun K hK => hw_region (by kernel_rfl) ?_
    simp (maxSteps := 4000000) only [↓sP, sA, tyS, simprocAttr]
    repeat refine AI ?_
    refine hK _ _ _ ?_
    clear hK K
    refine hw_ret ?_
    simp (maxSteps := 4000000) only [hpost, Tryz.results49, hresL, hres1, tupOf, ↓sP, sA, tyS, simprocAttr]
    exact hret_pure [] (.slc (l.map (.int .i64))) (by simp [HV.close, CV.denil, denilL_int, HV.norm, HV.toC]) (by rw [addT_same hlt (fun j h => hni j h (by omega)) (by simpa using hb)])
   ·
    refine hw_skip ?_
    simp (maxSteps := 4000000) only [↓sP, sA, tyS, simprocAttr]
    repeat refine AI ?_
    refine hK _ _ _ ?_
    clear hK K
    refine hw_seq fun K hK => hw_draw2 mixed [(0, [], []), (1, [], []), (2, [], []), (4, [2], []), (5, [2], []), (6, [2], []), (3, [], [4, 5, 6]), (7, [], []), (8, [], [])] [0, 0, 2, 7, 0, 0, 48, 127, 255] (by kernel_rfl) (by kernel_rfl) (by kernel_rfl) (by kernel_rfl) rfl (by kernel_rfl) ?_
    iterate 9
     (refine hwalk2_step (g := none) rfl rfl fun K' hK' => ?_; simp only [sH, ↓sP, sA, tyS, simprocAttr, hti, ← List.map_drop, ← List.map_take, cells_i64]; (repeat refine AI ?_); refine hK' _ _ ?_; clear hK' K')
    simp only [sE, ↓reduceIte, simprocAttr]
    repeat refine AI ?_
    refine hK _ _ _ ?_
    clear hK K
    refine hw_ret ?_
    simp (maxSteps := 4000000) only [hpost, Tryz.results49, hresL, hres1, tupOf, ↓sP, sA, tyS, simprocAttr]
    refine hret_pure [12] (.slc ((l.take i ++ t :: l.drop i).map (.int .i64))) ?_ ?_
    ·
     simp [HV.close, upd_at, HV.norm, HV.toC, List.take_of_length_le]
    ·
     rw [addT_new hi hni (fun _ => ⟨by simpa using hge, by simpa using hb⟩)]
 ·
  refine hw_seq fun K hK => hw_region (by kernel_rfl) ?_
  simp only [sR, simprocAttr]
  iterate 5
   (refine hlex_step (g := none) rfl rfl fun K' hK' => ?_; simp only [sH, ↓sP, sA, tyS, simprocAttr, Int.ofNat_lt, hlt]; (repeat refine AI ?_); refine hK' _ _ ?_; clear hK' K')
  iterate 6
   (refine hlex_step (g := some (11, true)) rfl rfl fun K' hK' => ?_; simp only [sH, ↓sP, sA, tyS, simprocAttr, Int.ofNat_lt, hlt]; (repeat refine AI ?_); refine hK' _ _ ?_; clear hK' K')
  refine hlex_step (g := none) rfl rfl fun K' hK' => ?_
  simp (maxSteps := 4000000) only [sH, ↓sP, sA, tyS, simprocAttr, Int.ofNat_lt, hlt]
  repeat refine AI ?_
  refine hK' _ _ ?_
  clear hK' K'
  simp only [sE, ↓reduceIte, simprocAttr]
  repeat refine AI ?_
  refine hK _ _ _ ?_
  clear hK K
  refine hw_cond (b := _) rfl (fun hb => ?_) (fun hb => ?_)
  ·
   cases hb
  ·
   refine hw_exit ?_
   simp (maxSteps := 4000000) only [↓sP, sA, tyS, simprocAttr]
   clear hK K
   repeat refine AI ?_
   refine hK _ _ _ ?_
   clear hK K
   refine hw_seq fun K hK => ?_
   refine hw_seq fun K hK => hw_region (by kernel_rfl) ?_
   simp only [sR, simprocAttr]
   iterate 5
    (refine hlex_step (g := none) rfl rfl fun K' hK' => ?_; simp only [sH, ↓sP, sA, tyS, simprocAttr, Int.ofNat_lt, hlt]; (repeat refine AI ?_); refine hK' _ _ ?_; clear hK' K')
   iterate 6
    (refine hlex_step (g := some (32, true)) rfl rfl fun K' hK' => ?_; simp only [sH, ↓sP, sA, tyS, simprocAttr, Int.ofNat_lt, hlt]; (repeat refine AI ?_); refine hK' _ _ ?_; clear hK' K')
   refine hlex_step (g := none) rfl rfl fun K' hK' => ?_
   simp (maxSteps := 4000000) only [sH, ↓sP, sA, tyS, simprocAttr, Int.ofNat_lt, hlt]
   repeat refine AI ?_
   refine hK' _ _ ?_
   clear hK' K'
   simp only [sE, ↓reduceIte, simprocAttr]
   repeat refine AI ?_
   refine hK _ _ _ ?_
   clear hK K
   refine hw_cond (b := _) rfl (fun hb => ?_) (fun hb => ?_)
   ·
    cases hb
   ·
    refine hw_skip ?_
    simp (maxSteps := 4000000) only [↓sP, sA, tyS, simprocAttr]
    repeat refine AI ?_
    refine hK _ _ _ ?_
    clear hK K
    refine hw_seq fun K hK => hw_draw2 mixed [(0, [], []), (1, [], []), (2, [], []), (4, [2], []), (5, [2], []), (6, [2], []), (3, [], [4, 5, 6]), (7, [], []), (8, [], [])] [0, 0, 2, 7, 0, 0, 48, 127, 255] (by kernel_rfl) (by kernel_rfl) (by kernel_rfl) (by kernel_rfl) rfl (by kernel_rfl) ?_
    iterate 9
     (refine hwalk2_step (g := none) rfl rfl fun K' hK' => ?_; simp only [sH, ↓sP, sA, tyS, simprocAttr, hti, ← List.map_drop, ← List.map_take, cells_i64]; (repeat refine AI ?_); refine hK' _ _ ?_; clear hK' K')
    simp only [sE, ↓reduceIte, simprocAttr]
    repeat refine AI ?_
    refine hK _ _ _ ?_
    clear hK K
    refine hw_ret ?_
    simp (maxSteps := 4000000) only [hpost, Tryz.results49, hresL, hres1, tupOf, ↓sP, sA, tyS, simprocAttr]
    refine hret_pure [12] (.slc ((l.take i ++ t :: l.drop i).map (.int .i64))) ?_ ?_
    ·
     simp [HV.close, upd_at, HV.norm, HV.toC, List.take_of_length_le]
    ·
     rw [addT_new hi hni (fun h => absurd h hlt)]


theorem rtimes_ok (r : Rt) (l : List Dig) (hr : rSz r) (hl : l.length < 2 ^ 30) : HPure Tryz.prog 25 [r.cv, .slc (l.map dg)] (fun v => v = .slc ((timesV r l).map (.int .i64))) := by
 refine hfn_walk Tryz.func25 rfl (by kernel_rfl) (locOk_nil _) (Nat.le_of_ble_eq_true rfl) ?_
 refine hw_seq fun K hK => hw_region (by kernel_rfl) ?_
 simp (maxSteps := 4000000) only [↓sP, sA, tyS, simprocAttr]
 repeat refine AI ?_
 refine hK _ _ _ ?_
 clear hK K
 refine hw_seq fun K hK => ?_
 refine hw_seq fun K hK => hw_region (by kernel_rfl) ?_
 simp only [sR, simprocAttr]
 refine hlex_step (g := none) rfl rfl fun K' hK' => ?_
 simp (maxSteps := 4000000) only [sH, ↓sP, sA, tyS, simprocAttr]
 repeat refine AI ?_
 refine hK' _ _ ?_
 clear hK' K'
 refine hlex_step (g := none) rfl rfl fun K' hK' => ?_
 simp (maxSteps := 4000000) only [sH, ↓sP, sA, tyS, simprocAttr]
 refine call_pure (args := [_]) (rvalid_ok r hr) ⟨rfl, rfl, rfl, rfl⟩ ?_
 rintro u rfl
 repeat refine AI ?_
 refine hK' _ _ ?_
 clear hK' K'
 refine hlex_step (g := none) rfl rfl fun K' hK' => ?_
 simp (maxSteps := 4000000) only [sH, ↓sP, sA, tyS, simprocAttr]
 repeat refine AI ?_
 refine hK' _ _ ?_
 clear hK' K'
 simp only [sE, ↓reduceIte, simprocAttr]
 repeat refine AI ?_
 refine hK _ _ _ ?_
 clear hK K
 refine hw_cond (b := !validR r) rfl (fun hb => ?_) (fun hb => ?_)
 ·
  refine hw_seq fun K hK => hw_region (by kernel_rfl) ?_
  simp (maxSteps := 4000000) only [↓sP, sA, tyS, simprocAttr]
  repeat refine AI ?_
  refine hK _ _ _ ?_
  clear hK K
  refine hw_ret ?_
  simp (maxSteps := 4000000) only [hpost, Tryz.results25, hresL, hres1, tupOf, ↓sP, sA, tyS, simprocAttr]
  exact hret_pure [] (.slc []) rfl (by unfold timesV; rw [if_neg (by simpa using hb)]; rfl)
 ·
  refine hw_skip ?_
  simp (maxSteps := 4000000) only [↓sP, sA, tyS, simprocAttr]
  repeat refine AI ?_
  refine hK _ _ _ ?_
  clear hK K
  refine hw_seq fun K hK => hw_region (by kernel_rfl) ?_
  simp only [sR, simprocAttr]
  iterate 4
   (refine hlex_step (g := none) rfl rfl fun K' hK' => ?_; simp only [sH, ↓sP, sA, tyS, simprocAttr]; (repeat refine AI ?_); refine hK' _ _ ?_; clear hK' K')
  simp only [sE, ↓reduceIte, simprocAttr]
  repeat refine AI ?_
  refine hK _ _ _ ?_
  clear hK K
  refine hw_seq fun K hK => ?_
  refine hw_seq fun K hK => hw_region (by kernel_rfl) ?_
  simp (maxSteps := 4000000) only [↓sP, sA, tyS, simprocAttr]
  repeat refine AI ?_
  refine hK _ _ _ ?_
  clear hK K
  refine hw_block ?_
  have hv : validR r = true := by simpa using hb
  clear hb
  refine hw_close [28] ?_
  refine hw_loop (α := {i : Nat // i ≤ l.length}) (fun i => (fin [(1, .c (.slc (l.map dg))), (2, .ptr 0 0), (5, .c (.slc ((rtL r (l.take i.1)).map (.int .i64)))), (6, .c (.int .i64 i.1))], fob [(0, .box 26 (.c r.cv))])) 100 (fun i => l.length - i.1) ⟨0, by omega⟩ (fits_fin (by omega) (by simp [FinOk, clF_at, fin_at, finA_at, upd_at, fob_at, HV.close, CV.denil, denilL_int, denilL_dg, HV.men, HV.menL, HV.norm, HV.toC, HV.toCL, rtL]) (by simp [FobOk, clO_at, fob_at, upd_at, none0_at, gone, HO.close, HV.close, HO.men, HV.men, HV.menL, HV.norm, HV.toC, HV.toCL, Rt.denil])) ?_
  rintro ⟨i, hi⟩
  have hrl := rtL_len r (l.take i)
  have hti : (l.take i).length = i := by simp; omega
  refine hw_seq fun K hK => ?_
  refine hw_seq fun K hK => hw_region (by kernel_rfl) ?_
  simp only [sR, simprocAttr]
  iterate 4
   (refine hlex_step (g := none) rfl rfl fun K' hK' => ?_; simp only [sH, ↓sP, sA, tyS, simprocAttr]; (repeat refine AI ?_); refine hK' _ _ ?_; clear hK' K')
  simp only [sE, ↓reduceIte, simprocAttr]
  repeat refine AI ?_
  refine hK _ _ _ ?_
  clear hK K
  refine hw_cond (b := decide ((i : Int) < l.length)) rfl (fun hb => ?_) (fun hb => ?_)
  ·
   have hlt : i < l.length := by simpa using hb
   clear hb
   have f1 := addT_len (rtL r (l.take i)) ((findK r.k l[i]).getD k0).fr
   have f2 := addT_len (addT (rtL r (l.take i)) ((findK r.k l[i]).getD k0).fr) ((findK r.k l[i]).getD k0).un
   refine hw_skip ?_
   simp (maxSteps := 4000000) only [↓sP, sA, tyS, simprocAttr]
   repeat refine AI ?_
   refine hK _ _ _ ?_
   clear hK K
   refine hw_seq fun K hK => ?_
   have key : ∀ (m : List Int) fr ob nx, m = rtL r (l.take (i + 1)) → Fits 0 fr ob (fin [(1, .c (.slc (l.map dg))), (2, .ptr 0 0), (5, .c (.slc (m.map (.int .i64)))), (6, .c (.int .i64 i))]) (fob [(0, .box 26 (.c r.cv))]) 500 → K fr ob nx := by
    rintro m fr ob nx rfl hf
    refine hK _ _ _ (hw_fits hf ?_)
    clear hf hK K
    refine hw_region (by kernel_rfl) ?_
    simp (maxSteps := 4000000) only [↓sP, sA, tyS, simprocAttr, IntWalk.i64_in _ (show -9223372036854775808 ≤ (i : Int) + 1 ∧ (i : Int) + 1 ≤ 9223372036854775807 by omega)]
    refine ⟨⟨i + 1, hlt⟩, fits_fin (by omega) (by simp [FinOk, fin_at, finA_at, upd_at, HV.men, HV.menL, HV.norm, HV.toC, HV.toCL]) (by simp [FobOk, fob_at, upd_at, none0_at, gone, HO.men, HV.men, HV.menL, HV.norm, HV.toC, HV.toCL]), ?_⟩
    show l.length - (i + 1) < l.length - i
    omega
   refine hw_block ?_
   refine hw_seq fun K hK => hw_draw2 mixed [(0, [], []), (1, [], []), (2, [], []), (3, [], []), (4, [], []), (9, [], []), (5, [9], [9]), (6, [9], []), (7, [9], []), (8, [9], []), (10, [], [8]), (11, [], [])] [0, 0, 0, 6, 14, 31, 63, 127, 127, 0, 767, 2047] (by kernel_rfl) (by kernel_rfl) (by kernel_rfl) (by kernel_rfl) rfl (by kernel_rfl) ?_
   iterate 6
    (refine hwalk2_step (g := none) rfl rfl fun K' hK' => ?_; simp only [sH, ↓sP, sA, tyS, simprocAttr, Int.natCast_nonneg, Int.ofNat_lt, hlt, nth_map hlt]; (repeat refine AI ?_); refine hK' _ _ ?_; clear hK' K')
   refine hwalk2_step (g := none) rfl rfl fun K' hK' => ?_
   simp (maxSteps := 4000000) only [sH, ↓sP, sA, tyS, simprocAttr, Int.natCast_nonneg, Int.ofNat_lt, hlt, nth_map hlt]
   refine call_pure2 (args := [_, _]) (rfind_ok r l[i] hr) ⟨rfl, rfl, rfl, rfl⟩ ?_
   rintro u v ⟨rfl, rfl⟩
   repeat refine AI ?_
   refine hK' _ _ ?_
   clear hK' K'
   iterate 5
    (refine hwalk2_step (g := none) rfl rfl fun K' hK' => ?_; simp only [sH, ↓sP, sA, tyS, simprocAttr, Int.natCast_nonneg, Int.ofNat_lt, hlt, nth_map hlt]; (repeat refine AI ?_); refine hK' _ _ ?_; clear hK' K')
   simp only [sE, ↓reduceIte, simprocAttr]
   repeat refine AI ?_
   refine hK _ _ _ ?_
   clear hK K
   refine hw_seq fun K hK => ?_
   refine hw_seq fun K hK => hw_region (by kernel_rfl) ?_
   simp (maxSteps := 4000000) only [↓sP, sA, tyS, simprocAttr]
   repeat refine AI ?_
   refine hK _ _ _ ?_
   clear hK K
   refine hw_cond (b := !(findK r.k l[i]).isSome) rfl (fun hb => ?_) (fun hb => ?_)
   ·
    refine hw_exit ?_
    simp (maxSteps := 4000000) only [↓sP, sA, tyS, simprocAttr]
    clear hK K
    have hn : (findK r.k l[i]).isSome = false := by simpa using hb
    exact key (rtL r (l.take i)) _ _ _ (by rw [rtL_take hlt]; unfold tms; rw [hn]; rfl) (fits_fin (by omega) (by simp [FinOk, fin_at, finA_at, upd_at, HV.men, HV.menL, HV.norm, HV.toC, HV.toCL]) (by simp [FobOk, fob_at, upd_at, none0_at, gone, HO.men, HV.men, HV.menL, HV.norm, HV.toC, HV.toCL]))
   ·
    have hn : (findK r.k l[i]).isSome = true := by simpa using hb
    clear hb
    refine hw_skip ?_
    simp (maxSteps := 4000000) only [↓sP, sA, tyS, simprocAttr]
    repeat refine AI ?_
    refine hK _ _ _ ?_
    clear hK K
    refine hw_seq fun K hK => hw_draw2 mixed [(0, [], []), (1, [], []), (2, [], []), (4, [], []), (5, [], []), (3, [], [4, 5]), (6, [], []), (7, [], [])] [0, 0, 2, 7, 0, 16, 63, 127] (by kernel_rfl) (by kernel_rfl) (by kernel_rfl) (by kernel_rfl) rfl (by kernel_rfl) ?_
    iterate 5
     (refine hwalk2_step (g := none) rfl rfl fun K' hK' => ?_; simp only [sH, ↓sP, sA, tyS, simprocAttr]; (repeat refine AI ?_); refine hK' _ _ ?_; clear hK' K')
    refine hwalk2_step (g := none) rfl rfl fun K' hK' => ?_
    simp (maxSteps := 4000000) only [sH, ↓sP, sA, tyS, simprocAttr]
    refine call_pure (args := [_, _]) (addt_ok (rtL r (l.take i)) ((findK r.k l[i]).getD k0).fr (by omega)) ⟨rfl, rfl, rfl, rfl⟩ ?_
    rintro u rfl
    repeat refine AI ?_
    refine hK' _ _ ?_
    clear hK' K'
    refine hwalk2_step (g := none) rfl rfl fun K' hK' => ?_
    simp (maxSteps := 4000000) only [sH, ↓sP, sA, tyS, simprocAttr]
    refine call_pure (args := [_, _]) (addt_ok (addT (rtL r (l.take i)) ((findK r.k l[i]).getD k0).fr) ((findK r.k l[i]).getD k0).un (by omega)) ⟨rfl, rfl, rfl, rfl⟩ ?_
    rintro u rfl
    repeat refine AI ?_
    refine hK' _ _ ?_
    clear hK' K'
    refine hwalk2_step (g := none) rfl rfl fun K' hK' => ?_
    simp (maxSteps := 4000000) only [sH, ↓sP, sA, tyS, simprocAttr]
    repeat refine AI ?_
    refine hK' _ _ ?_
    clear hK' K'
    simp only [sE, ↓reduceIte, simprocAttr]
    repeat refine AI ?_
    refine hK _ _ _ ?_
    clear hK K
    refine hw_seq fun K hK => hw_draw2 mixed [(0, [], []), (1, [], []), (2, [], []), (3, [], []), (4, [], []), (5, [], []), (6, [], []), (7, [], []), (8, [], []), (9, [], []), (10, [], [])] [0, 0, 0, 6, 14, 31, 63, 127, 127, 255, 1023] (by kernel_rfl) (by kernel_rfl) (by kernel_rfl) (by kernel_rfl) rfl (by kernel_rfl) ?_
    iterate 5
     (refine hwalk2_step (g := none) rfl rfl fun K' hK' => ?_; simp only [sH, ↓sP, sA, tyS, simprocAttr, Int.natCast_nonneg, Int.ofNat_lt, hlt, nth_map hlt]; (repeat refine AI ?_); refine hK' _ _ ?_; clear hK' K')
    refine hwalk2_step (g := none) rfl rfl fun K' hK' => ?_
    simp (maxSteps := 4000000) only [sH, ↓sP, sA, tyS, simprocAttr, Int.natCast_nonneg, Int.ofNat_lt, hlt, nth_map hlt]
    refine call_pure2 (args := [_, _]) (rrevoked_ok r l[i] hr.2.2) ⟨rfl, rfl, rfl, rfl⟩ ?_
    rintro u v ⟨rfl, rfl⟩
    repeat refine AI ?_
    refine hK' _ _ ?_
    clear hK' K'
    iterate 5
     (refine hwalk2_step (g := none) rfl rfl fun K' hK' => ?_; simp only [sH, ↓sP, sA, tyS, simprocAttr, Int.natCast_nonneg, Int.ofNat_lt, hlt, nth_map hlt]; (repeat refine AI ?_); refine hK' _ _ ?_; clear hK' K')
    simp only [sE, ↓reduceIte, simprocAttr]
    repeat refine AI ?_
    refine hK _ _ _ ?_
    clear hK K
    refine hw_seq fun K hK => hw_region (by kernel_rfl) ?_
    simp (maxSteps := 4000000) only [↓sP, sA, tyS, simprocAttr]
    repeat refine AI ?_
    refine hK _ _ _ ?_
    clear hK K
    refine hw_cond (b := revS r.x l[i]) rfl (fun hb => ?_) (fun hb => ?_)
    ·
     refine hw_region (by kernel_rfl) ?_
     simp only [sR, simprocAttr]
     iterate 2
      (refine hlex_step (g := none) rfl rfl fun K' hK' => ?_; simp only [sH, ↓sP, sA, tyS, simprocAttr]; (repeat refine AI ?_); refine hK' _ _ ?_; clear hK' K')
     refine hlex_step (g := none) rfl rfl fun K' hK' => ?_
     simp (maxSteps := 4000000) only [sH, ↓sP, sA, tyS, simprocAttr]
     refine call_pure (args := [_, _]) (addt_ok (addT (addT (rtL r (l.take i)) ((findK r.k l[i]).getD k0).fr) ((findK r.k l[i]).getD k0).un) (revZ r.x l[i]) (by omega)) ⟨rfl, rfl, rfl, rfl⟩ ?_
     rintro u rfl
     repeat refine AI ?_
     refine hK' _ _ ?_
     clear hK' K'
     refine hlex_step (g := none) rfl rfl fun K' hK' => ?_
     simp (maxSteps := 4000000) only [sH, ↓sP, sA, tyS, simprocAttr]
     repeat refine AI ?_
     refine hK' _ _ ?_
     clear hK' K'
     simp only [sE, ↓reduceIte, simprocAttr]
     exact key (addT (addT (addT (rtL r (l.take i)) ((findK r.k l[i]).getD k0).fr) ((findK r.k l[i]).getD k0).un) (revZ r.x l[i])) _ _ _ (by rw [rtL_take hlt]; unfold tms; rw [hn, hb]; rfl) (fits_fin (by omega) (by simp [FinOk, fin_at, finA_at, upd_at, HV.men, HV.menL, HV.norm, HV.toC, HV.toCL]) (by simp [FobOk, fob_at, upd_at, none0_at, gone, HO.men, HV.men, HV.menL, HV.norm, HV.toC, HV.toCL]))
    ·
     refine hw_skip ?_
     simp (maxSteps := 4000000) only [↓sP, sA, tyS, simprocAttr]
     exact key (addT (addT (rtL r (l.take i)) ((findK r.k l[i]).getD k0).fr) ((findK r.k l[i]).getD k0).un) _ _ _ (by rw [rtL_take hlt]; unfold tms; rw [hn, hb]; rfl) (fits_fin (by omega) (by simp [FinOk, fin_at, finA_at, upd_at, HV.men, HV.menL, HV.norm, HV.toC, HV.toCL]) (by simp [FobOk, fob_at, upd_at, none0_at, gone, HO.men, HV.men, HV.menL, HV.norm, HV.toC, HV.toCL]))
  ·
   refine hw_exit ?_
   simp (maxSteps := 4000000) only [↓sP, sA, tyS, simprocAttr]
   clear hK K
   repeat refine AI ?_
   refine hK _ _ _ ?_
   clear hK K
   refine hw_seq fun K hK => hw_region (by kernel_rfl) ?_
   simp (maxSteps := 4000000) only [↓sP, sA, tyS, simprocAttr]
   repeat refine AI ?_
   refine hK _ _ _ ?_
   clear hK K
   refine hw_ret ?_
   simp (maxSteps := 4000000) only [hpost, Tryz.results25, hresL, hres1, tupOf, ↓sP, sA, tyS, simprocAttr]
   have hei : i = l.length := by simp at hb; omega
   subst hei
   rw [List.take_length]
   exact hret_pure [] (.slc ((rtL r l).map (.int .i64))) (close_c (by simp only [CV.denil, denilL_int])) (by rw [← rtimes_eq]; unfold rtimes; rw [if_pos hv])


theorem sametimes_ok (l : List Int) (hl : l.length < 2 ^ 40) : HPure Tryz.prog 23 [.slc (l.map (.int .i64)), .slc (l.map (.int .i64))] (fun v => v = .bool true) := by
 refine hfn_walk Tryz.func23 rfl (by kernel_rfl) (locOk_nil _) (Nat.le_of_ble_eq_true rfl) ?_
 refine hw_seq fun K hK => hw_region (by kernel_rfl) ?_
 simp (maxSteps := 4000000) only [↓sP, sA, tyS, simprocAttr]
 repeat refine AI ?_
 refine hK _ _ _ ?_
 clear hK K
 refine hw_seq fun K hK => ?_
 refine hw_seq fun K hK => hw_region (by kernel_rfl) ?_
 simp only [sR, simprocAttr]
 iterate 5
  (refine hlex_step (g := none) rfl rfl fun K' hK' => ?_; simp only [sH, ↓sP, sA, tyS, simprocAttr, bne_self_eq_false]; (repeat refine AI ?_); refine hK' _ _ ?_; clear hK' K')
 simp only [sE, ↓reduceIte, simprocAttr]
 repeat refine AI ?_
 refine hK _ _ _ ?_
 clear hK K
 refine hw_cond (b := false) rfl (fun hb => ?_) (fun hb => ?_)
 ·
  cases hb
 ·
  refine hw_skip ?_
  simp (maxSteps := 4000000) only [↓sP, sA, tyS, simprocAttr]
  repeat refine AI ?_
  refine hK _ _ _ ?_
  clear hK K
  refine hw_seq fun K hK => ?_
  refine hw_seq fun K hK => hw_region (by kernel_rfl) ?_
  simp (maxSteps := 4000000) only [↓sP, sA, tyS, simprocAttr]
  repeat refine AI ?_
  refine hK _ _ _ ?_
  clear hK K
  refine hw_block ?_
  refine hw_loop (α := {i : Nat // i ≤ l.length}) (fun i => (fin [(0, .c (.slc (l.map (.int .i64)))), (1, .c (.slc (l.map (.int .i64)))), (5, .c (.int .i64 i.1))], fob [])) 100 (fun i => l.length - i.1) ⟨0, by omega⟩ (fits_fin (by omega) (by simp [FinOk, fin_at, finA_at, upd_at, HV.men, HV.menL, HV.norm, HV.toC, HV.toCL]) (by simp [FobOk, fob_at, upd_at, none0_at, gone, HO.men, HV.men, HV.menL, HV.norm, HV.toC, HV.toCL])) ?_
  rintro ⟨i, hi⟩
  refine hw_seq fun K hK => ?_
  refine hw_seq fun K hK => hw_region (by kernel_rfl) ?_
  simp only [sR, simprocAttr]
  iterate 4
   (refine hlex_step (g := none) rfl rfl fun K' hK' => ?_; simp only [sH, ↓sP, sA, tyS, simprocAttr]; (repeat refine AI ?_); refine hK' _ _ ?_; clear hK' K')
  simp only [sE, ↓reduceIte, simprocAttr]
  repeat refine AI ?_
  refine hK _ _ _ ?_
  clear hK K
  refine hw_cond (b := decide ((i : Int) < l.length)) rfl (fun hb => ?_) (fun hb => ?_)
  ·
   have hlt : i < l.length := by simpa using hb
   clear hb
   refine hw_skip ?_
   simp (maxSteps := 4000000) only [↓sP, sA, tyS, simprocAttr]
   repeat refine AI ?_
   refine hK _ _ _ ?_
   clear hK K
   refine hw_seq fun K hK => ?_
   refine hw_block ?_
   refine hw_seq fun K hK => hw_quiet mixed (by kernel_rfl) (by kernel_rfl) (by kernel_rfl) ?_
   simp only [sR, simprocAttr]
   iterate 9
    (refine hlex_step (g := none) rfl rfl fun K' hK' => ?_; simp only [sH, ↓sP, sA, tyS, simprocAttr, Int.natCast_nonneg, Int.ofNat_lt, hlt, nth_map hlt, bne_self_eq_false]; (repeat refine AI ?_); refine hK' _ _ ?_; clear hK' K')
   simp only [sE, ↓reduceIte, simprocAttr]
   repeat refine AI ?_
   refine hK _ _ _ ?_
   clear hK K
   refine hw_cond (b := false) rfl (fun hb => ?_) (fun hb => ?_)
   ·
    cases hb
   ·
    refine hw_skip ?_
    simp (maxSteps := 4000000) only [↓sP, sA, tyS, simprocAttr]
    repeat refine AI ?_
    refine hK _ _ _ ?_
    clear hK K
    refine hw_region (by kernel_rfl) ?_
    simp (maxSteps := 4000000) only [↓sP, sA, tyS, simprocAttr, IntWalk.i64_in _ (show -9223372036854775808 ≤ (i : Int) + 1 ∧ (i : Int) + 1 ≤ 9223372036854775807 by omega)]
    refine ⟨⟨i + 1, hlt⟩, fits_fin (by omega) (by simp [FinOk, fin_at, finA_at, upd_at, HV.men, HV.menL, HV.norm, HV.toC, HV.toCL]) (by simp [FobOk, fob_at, upd_at, none0_at, gone, HO.men, HV.men, HV.menL, HV.norm, HV.toC, HV.toCL]), ?_⟩
    show l.length - (i + 1) < l.length - i
    omega
  ·
   refine hw_exit ?_
   simp (maxSteps := 4000000) only [↓sP, sA, tyS, simprocAttr]
   clear hK K
   repeat refine AI ?_
   refine hK _ _ _ ?_
   clear hK K
   refine hw_seq fun K hK => hw_region (by kernel_rfl) ?_
   simp (maxSteps := 4000000) only [↓sP, sA, tyS, simprocAttr]
   repeat refine AI ?_
   refine hK _ _ _ ?_
   clear hK K
   refine hw_ret ?_
   simp (maxSteps := 4000000) only [hpost, Tryz.results23, hresL, hres1, tupOf, ↓sP, sA, tyS, simprocAttr]
   exact hret_pure [] (.bool true) rfl rfl


theorem times_law (raw : Rt) (hraw : rRaw raw) (l : List Dig) (L : List Int) : HPure Tryz.prog 4 [raw.cv, .slc (l.map dg), .slc (L.map (.int .i64))] (fun v => v = .bool true) := by
 refine hfn_walk Tryz.func4 rfl (by kernel_rfl) (locOk_nil _) (Nat.le_of_ble_eq_true rfl) ?_
 refine hw_seq fun K hK => hw_region (by kernel_rfl) ?_
 simp (maxSteps := 4000000) only [↓sP, sA, tyS, simprocAttr]
 repeat refine AI ?_
 refine hK _ _ _ ?_
 clear hK K
 refine hw_seq fun K hK => ?_
 refine hw_seq fun K hK => hw_region (by kernel_rfl) ?_
 simp (maxSteps := 4000000) only [↓sP, sA, tyS, simprocAttr]
 repeat refine AI ?_
 refine hK _ _ _ ?_
 clear hK K
 refine hw_cond (b := decide ((50 : Int) < l.length)) rfl (fun hb => ?_) (fun hb => ?_)
 ·
  refine hw_seq fun K hK => hw_region (by kernel_rfl) ?_
  simp (maxSteps := 4000000) only [↓sP, sA, tyS, simprocAttr]
  repeat refine AI ?_
  refine hK _ _ _ ?_
  clear hK K
  refine hw_ret ?_
  simp (maxSteps := 4000000) only [hpost, Tryz.results4, hresL, hres1, tupOf, ↓sP, sA, tyS, simprocAttr]
  exact hret_pure [] (.bool true) rfl rfl
 ·
  have hlk : l.length ≤ 50 := by simp at hb; omega
  clear hb
  refine hw_skip ?_
  simp (maxSteps := 4000000) only [↓sP, sA, tyS, simprocAttr]
  repeat refine AI ?_
  refine hK _ _ _ ?_
  clear hK K
  refine hw_seq fun K hK => hw_region (by kernel_rfl) ?_
  simp only [sR, simprocAttr]
  iterate 4
   (refine hlex_step (g := none) rfl rfl fun K' hK' => ?_; simp only [sH, ↓sP, sA, tyS, simprocAttr, denilL_int]; (repeat refine AI ?_); refine hK' _ _ ?_; clear hK' K')
  simp only [sE, ↓reduceIte, simprocAttr]
  repeat refine AI ?_
  refine hK _ _ _ ?_
  clear hK K
  refine hw_seq fun K hK => hw_region (by kernel_rfl) ?_
  simp only [sR, simprocAttr]
  refine hlex_step (g := none) rfl rfl fun K' hK' => ?_
  simp (maxSteps := 4000000) only [sH, ↓sP, sA, tyS, simprocAttr]
  repeat refine AI ?_
  refine hK' _ _ ?_
  clear hK' K'
  refine hlex_step (g := none) rfl rfl fun K' hK' => ?_
  simp (maxSteps := 4000000) only [sH, ↓sP, sA, tyS, simprocAttr]
  refine call_box (args := []) (mkeys_ok L 0 (by omega)) rfl (by simp) ⟨rfl, rfl, rfl, rfl⟩ ?_
  rintro u v' ⟨D, a1, rfl, rfl, k1, hD⟩
  repeat refine AI ?_
  refine hK' _ _ ?_
  clear hK' K'
  refine hlex_step (g := none) rfl rfl fun K' hK' => ?_
  simp (maxSteps := 4000000) only [sH, ↓sP, sA, tyS, simprocAttr]
  repeat refine AI ?_
  refine hK' _ _ ?_
  clear hK' K'
  simp only [sE, ↓reduceIte, simprocAttr]
  repeat refine AI ?_
  refine hK _ _ _ ?_
  clear hK K
  refine hw_seq fun K hK => ?_
  refine hw_seq fun K hK => hw_region (by kernel_rfl) ?_
  simp only [sR, simprocAttr]
  iterate 2
   (refine hlex_step (g := none) rfl rfl fun K' hK' => ?_; simp only [sH, ↓sP, sA, tyS, simprocAttr]; (repeat refine AI ?_); refine hK' _ _ ?_; clear hK' K')
  refine hlex_step (g := none) rfl rfl fun K' hK' => ?_
  simp (maxSteps := 4000000) only [sH, ↓sP, sA, tyS, simprocAttr]
  refine call_pure (args := [_, _]) (roots_ok raw L hraw) ⟨rfl, rfl, rfl, rfl⟩ ?_
  rintro u ⟨rs, rfl, hr3, hrs⟩
  repeat refine AI ?_
  refine hK' _ _ ?_
  clear hK' K'
  iterate 2
   (refine hlex_step (g := none) rfl rfl fun K' hK' => ?_; simp only [sH, ↓sP, sA, tyS, simprocAttr]; (repeat refine AI ?_); refine hK' _ _ ?_; clear hK' K')
  simp only [sE, ↓reduceIte, simprocAttr]
  repeat refine AI ?_
  refine hK _ _ _ ?_
  clear hK K
  refine hw_block ?_
  obtain ⟨ls, hls⟩ : ∃ ls : List (List Dig), ls = [l, D] := ⟨_, rfl⟩
  have hq : ∀ q ∈ ls, q.length ≤ 50 := by
   rw [hls]; intro z hz
   simp only [List.mem_cons, List.not_mem_nil, or_false] at hz
   rcases hz with rfl | rfl <;> omega
  have hql : ls.length = 2 := by rw [hls]; rfl
  refine hw_loop (α := {i : Nat // i ≤ rs.length}) (fun i => (fin [(1, .c (.slc (l.map dg))), (8, .c (.slc (D.map dg))), (23, .c (.slc (rs.map Rt.cv))), (24, .c (.int .i64 rs.length)), (25, .c (.int .i64 i.1))], fob [])) 300 (fun i => rs.length - i.1) ⟨0, by omega⟩ (fits_fin (by omega) (by simp [FinOk, fin_at, finA_at, upd_at, HV.men, HV.menL, HV.norm, HV.toC, HV.toCL]) (by simp [FobOk, fob_at, upd_at, none0_at, gone, HO.men, HV.men, HV.menL, HV.norm, HV.toC, HV.toCL])) ?_
  rintro ⟨i, hi⟩
  refine hw_seq fun K hK => hw_region (by kernel_rfl) ?_
  simp (maxSteps := 4000000) only [↓sP, sA, tyS, simprocAttr]
  repeat refine AI ?_
  refine hK _ _ _ ?_
  clear hK K
  refine hw_seq fun K hK => ?_
  refine hw_cond (b := decide ((i : Int) < rs.length)) rfl (fun hb => ?_) (fun hb => ?_)
  ·
   have hlt : i < rs.length := by simpa using hb
   have hr := hrs _ (List.getElem_mem hlt)
   clear hb
   refine hw_skip ?_
   simp (maxSteps := 4000000) only [↓sP, sA, tyS, simprocAttr]
   repeat refine AI ?_
   refine hK _ _ _ ?_
   clear hK K
   refine hw_seq fun K hK => ?_
   refine hw_block ?_
   refine hw_seq fun K hK => hw_region (by kernel_rfl) ?_
   simp only [sR, simprocAttr]
   iterate 4
    (refine hlex_step (g := none) rfl rfl fun K' hK' => ?_; simp only [sH, ↓sP, sA, tyS, simprocAttr, Int.natCast_nonneg, Int.ofNat_lt, hlt, nth_map hlt, cells_rt]; (repeat refine AI ?_); refine hK' _ _ ?_; clear hK' K')
   simp only [sE, ↓reduceIte, simprocAttr]
   repeat refine AI ?_
   refine hK _ _ _ ?_
   clear hK K
   refine hw_seq fun K hK => hw_region (by kernel_rfl) ?_
   simp only [sR, simprocAttr]
   iterate 5
    (refine hlex_step (g := none) rfl rfl fun K' hK' => ?_; simp only [sH, ↓sP, sA, tyS, simprocAttr, denilL_dg]; (repeat refine AI ?_); refine hK' _ _ ?_; clear hK' K')
   simp only [sE, ↓reduceIte, simprocAttr]
   repeat refine AI ?_
   refine hK _ _ _ ?_
   clear hK K
   refine hw_block ?_
   refine hw_close [328] ?_
   refine hw_loop (α := {j : Nat // j ≤ ls.length}) (fun j => (fin [(1, .c (.slc (l.map dg))), (8, .c (.slc (D.map dg))), (10, .ptr 312 0), (23, .c (.slc (rs.map Rt.cv))), (24, .c (.int .i64 rs.length)), (25, .c (.int .i64 i)), (31, .c (.slc (ls.map (fun x => CV.slc (x.map dg))))), (32, .c (.int .i64 ls.length)), (33, .c (.int .i64 j.1))], fob [(312, .box 26 (.c rs[i].cv))])) 400 (fun j => ls.length - j.1) ⟨0, by omega⟩ (fits_fin (by omega) (by simp [FinOk, clF_at, fin_at, finA_at, upd_at, fob_at, HV.close, HV.closeL, CV.denil, CV.denilL, denilL_int, denilL_dg, denilL_Rt, HV.men, HV.menL, HV.norm, HV.toC, HV.toCL, Rt.denil, hls]) (by simp [FobOk, clO_at, fob_at, upd_at, none0_at, gone, HO.close, HV.close, HO.men, HV.men, HV.menL, HV.norm, HV.toC, HV.toCL, Rt.denil])) ?_
   rintro ⟨j, hj⟩
   refine hw_seq fun K hK => hw_region (by kernel_rfl) ?_
   simp (maxSteps := 4000000) only [↓sP, sA, tyS, simprocAttr]
   repeat refine AI ?_
   refine hK _ _ _ ?_
   clear hK K
   refine hw_seq fun K hK => ?_
   refine hw_cond (b := decide ((j : Int) < ls.length)) rfl (fun hb => ?_) (fun hb => ?_)
   ·
    have hjt : j < ls.length := by simpa using hb
    have hqj := hq _ (List.getElem_mem hjt)
    clear hb
    refine hw_skip ?_
    simp (maxSteps := 4000000) only [↓sP, sA, tyS, simprocAttr]
    repeat refine AI ?_
    refine hK _ _ _ ?_
    clear hK K
    refine hw_seq fun K hK => ?_
    refine hw_block ?_
    refine hw_seq fun K hK => hw_region (by kernel_rfl) ?_
    simp (maxSteps := 4000000) only [↓sP, sA, tyS, simprocAttr, Int.natCast_nonneg, Int.ofNat_lt, hjt, nth_map hjt, cells_dgs]
    repeat refine AI ?_
    refine hK _ _ _ ?_
    clear hK K
    refine hw_seq fun K hK => hw_draw2 mixed [(0, [], []), (1, [], []), (3, [], []), (4, [], []), (2, [], [3, 4]), (5, [], []), (6, [], []), (7, [], [])] [0, 0, 3, 0, 0, 31, 63, 127] (by kernel_rfl) (by kernel_rfl) (by kernel_rfl) (by kernel_rfl) rfl (by kernel_rfl) ?_
    iterate 4
     (refine hwalk2_step (g := none) rfl rfl fun K' hK' => ?_; simp only [sH, ↓sP, sA, tyS, simprocAttr, denilL_dg, Bool.not_true, Bool.not_false]; (repeat refine AI ?_); refine hK' _ _ ?_; clear hK' K')
    refine hwalk2_step (g := none) rfl rfl fun K' hK' => ?_
    simp (maxSteps := 4000000) only [sH, ↓sP, sA, tyS, simprocAttr, denilL_dg, Bool.not_true, Bool.not_false]
    refine call_pure (args := [_, _]) (times_ok rs[i] ls[j] hr (by omega)) ⟨rfl, rfl, rfl, rfl⟩ ?_
    rintro u rfl
    repeat refine AI ?_
    refine hK' _ _ ?_
    clear hK' K'
    refine hwalk2_step (g := none) rfl rfl fun K' hK' => ?_
    simp (maxSteps := 4000000) only [sH, ↓sP, sA, tyS, simprocAttr, denilL_dg, Bool.not_true, Bool.not_false]
    refine call_pure (args := [_, _]) (rtimes_ok rs[i] ls[j] hr (by omega)) ⟨rfl, rfl, rfl, rfl⟩ ?_
    rintro u rfl
    repeat refine AI ?_
    refine hK' _ _ ?_
    clear hK' K'
    refine hwalk2_step (g := none) rfl rfl fun K' hK' => ?_
    simp (maxSteps := 4000000) only [sH, ↓sP, sA, tyS, simprocAttr, denilL_dg, Bool.not_true, Bool.not_false]
    refine call_pure (args := [_, _]) (sametimes_ok (timesV rs[i] ls[j]) (by have := timesV_len rs[i] ls[j]; omega)) ⟨rfl, rfl, rfl, rfl⟩ ?_
    rintro u rfl
    repeat refine AI ?_
    refine hK' _ _ ?_
    clear hK' K'
    refine hwalk2_step (g := none) rfl rfl fun K' hK' => ?_
    simp (maxSteps := 4000000) only [sH, ↓sP, sA, tyS, simprocAttr, denilL_dg, Bool.not_true, Bool.not_false]
    repeat refine AI ?_
    refine hK' _ _ ?_
    clear hK' K'
    simp only [sE, ↓reduceIte, simprocAttr]
    repeat refine AI ?_
    refine hK _ _ _ ?_
    clear hK K
    refine hw_cond (b := false) rfl (fun hb => ?_) (fun hb => ?_)
    ·
     cases hb
    ·
     refine hw_skip ?_
     simp (maxSteps := 4000000) only [↓sP, sA, tyS, simprocAttr]
     repeat refine AI ?_
     refine hK _ _ _ ?_
     clear hK K
     refine hw_region (by kernel_rfl) ?_
     simp (maxSteps := 4000000) only [↓sP, sA, tyS, simprocAttr, IntWalk.i64_in _ (show -9223372036854775808 ≤ (j : Int) + 1 ∧ (j : Int) + 1 ≤ 9223372036854775807 by omega)]
     refine ⟨⟨j + 1, hjt⟩, fits_fin (by omega) (by simp [FinOk, fin_at, finA_at, upd_at, HV.men, HV.menL, HV.norm, HV.toC, HV.toCL]) (by simp [FobOk, fob_at, upd_at, none0_at, gone, HO.men, HV.men, HV.menL, HV.norm, HV.toC, HV.toCL]), ?_⟩
     show ls.length - (j + 1) < ls.length - j
     omega
   ·
    refine hw_exit ?_
    simp (maxSteps := 4000000) only [↓sP, sA, tyS, simprocAttr]
    clear hK K
    repeat refine AI ?_
    refine hK _ _ _ ?_
    clear hK K
    refine hw_region (by kernel_rfl) ?_
    simp (maxSteps := 4000000) only [↓sP, sA, tyS, simprocAttr, IntWalk.i64_in _ (show -9223372036854775808 ≤ (i : Int) + 1 ∧ (i : Int) + 1 ≤ 9223372036854775807 by omega)]
    refine ⟨⟨i + 1, hlt⟩, fits_fin (by omega) (by simp [FinOk, fin_at, finA_at, upd_at, HV.men, HV.menL, HV.norm, HV.toC, HV.toCL]) (by simp [FobOk, fob_at, upd_at, none0_at, gone, HO.men, HV.men, HV.menL, HV.norm, HV.toC, HV.toCL]), ?_⟩
    show rs.length - (i + 1) < rs.length - i
    omega
  ·
   refine hw_exit ?_
   simp (maxSteps := 4000000) only [↓sP, sA, tyS, simprocAttr]
   clear hK K
   repeat refine AI ?_
   refine hK _ _ _ ?_
   clear hK K
   refine hw_seq fun K hK => hw_region (by kernel_rfl) ?_
   simp only [sR, simprocAttr]
   refine hlex_step (g := none) rfl rfl fun K' hK' => ?_
   simp (maxSteps := 4000000) only [sH, ↓sP, sA, tyS, simprocAttr]
   refine call_pure (args := []) awake_ok ⟨rfl, rfl, rfl, rfl⟩ ?_
   rintro u rfl
   repeat refine AI ?_
   refine hK' _ _ ?_
   clear hK' K'
   refine hlex_step (g := none) rfl rfl fun K' hK' => ?_
   simp (maxSteps := 4000000) only [sH, ↓sP, sA, tyS, simprocAttr]
   repeat refine AI ?_
   refine hK' _ _ ?_
   clear hK' K'
   simp only [sE, ↓reduceIte, simprocAttr]
   repeat refine AI ?_
   refine hK _ _ _ ?_
   clear hK K
   refine hw_ret ?_
   simp (maxSteps := 4000000) only [hpost, Tryz.results4, hresL, hres1, tupOf, ↓sP, sA, tyS, simprocAttr]
   exact hret_pure [] (.bool true) rfl rfl

end Go.Proofs.YtackchmdajdlaaaGreat

namespace Go.Proofs.YtackchmdajdlaaaGreat
open Go Go.Hl Go.Pl
set_option linter.unusedVariables false
set_option maxRecDepth 100000

theorem trustTimes_contract (H : Type) (enc : TypeId × Value → H) (W : World) (base : Nat) (args : Array Value) (ds gs : List (DataW H)) (before : List MemPlace)
    (hval : ∀ (j : Nat) t v, Tryz.f4.params[j]? = some t → args[j]? = some v → Value.okWide Tryz.prog W .any base t v)
    (hW : DataW.Whole enc Tryz.prog Tryz.f4.params.toList Rows.trustTimesSpec.vars false W args.toList ds gs before) :
    Calls Tryz.prog 4 args W fun e W' => ∃ v, e = .returned v ∧ Rows.trustTimesSpec.post enc Tryz.prog Tryz.f4 false true false false W args v W' := by
  refine law_post (mm := 6) (tb := 4) (by kernel_rfl) kids slicesFull rfl (by kernel_rfl) Tryz.underlying4 ?_ ?_ ?_ (fun j t v h1 h2 => ?_) hW
  · rw [Tryz.params4]
    intro H ds h
    match ds, h with
    | [c0, c1, c2], _ => exact ⟨rfl, rfl, rfl⟩
  · rw [Tryz.params4]
    intro t ht
    simp only [List.mem_cons, List.not_mem_nil, or_false] at ht
    rcases ht with rfl | rfl | rfl
    · exact ⟨by kernel_rfl, of_decide_eq_true (by kernel_rfl)⟩
    · exact ⟨by kernel_rfl, of_decide_eq_true (by kernel_rfl)⟩
    · exact ⟨by kernel_rfl, of_decide_eq_true (by kernel_rfl)⟩
  · rw [Tryz.params4]
    intro cs hn hty
    match cs, hn, hty with
    | [c0, c1, c2], _, hty =>
      obtain ⟨raw, rfl, hraw⟩ := of_root (hty 0 _ c0 rfl rfl)
      obtain ⟨l, rfl, _⟩ := of_digs (hty 1 _ c1 rfl rfl)
      obtain ⟨L, rfl, hw, hl⟩ := of_ints (hty 2 _ c2 rfl rfl)
      exact times_law raw hraw l L
  · exact hval j t v h1 h2

open Go.ChangeShapes Go.WideShapes Go.ChangeAt Go.RowKit in
set_option maxRecDepth 100000 in
theorem trustTimes_lifted (os : Os) (started : os.Started) (H : Type) (enc : TypeId × Value → H) :
    ReturnsInHanded {} Tryz.checked os 4 .any (Rows.trustTimesSpec.pre6 enc Tryz.prog Tryz.f4 Rows.trustTimesRow.domain false) (Rows.trustTimesSpec.post enc Tryz.prog Tryz.f4 false true false false) := by
  refine returnsInHanded_of_change (C := Tryz.checked) own started (by kernel_rfl) Tryz.func4
    (ChangeSpec.witness6 (enc := enc) (C := Tryz.checked) false ⟨#[], #[.agg #[.int .i64 0, .int .i64 0, .slice none 0 0, .slice none 0 0, .slice none 0 0], .slice none 0 0, .slice none 0 0], []⟩ 8 (by kernel_rfl) (by kernel_rfl) (by kernel_rfl) (by kernel_rfl)) ?_
  intro W base args ds gs before hval hW _ _
  exact trustTimes_contract H enc W base args ds gs before hval hW

theorem trustTimes_said : Rows.TrustTimesSaid :=
  OpenClaim.holds_of_wide 4 Tryz.f4 rfl rfl rfl rfl rfl rfl rfl ⟨rfl, rfl, rfl, rfl, rfl⟩ rfl rfl rfl rfl rfl (by kernel_rfl) Tryz.func4 (by kernel_rfl)
    (of_decide_eq_true (by kernel_rfl)) (by unfold Func.isWrapper; first | (rw [if_pos (by decide +kernel)]; kernel_rfl) | (rw [if_neg (by decide +kernel)]; exact ⟨rfl, rfl⟩))
    (fun os started H enc _ => trustTimes_lifted os started H enc)
#print axioms trustTimes_said
end Go.Proofs.YtackchmdajdlaaaGreat
