/- Part of a proof: walks of functions of the program, by contracts, and the rules they use. By an AI agent. -/
import Derived.Test.YtenbfeemmpjdhaaGreatPl11m
import Derived.Test.YtenbfeemmpjdhaaGreatHxSb
set_option linter.unusedSimpArgs false
set_option linter.unusedVariables false
set_option linter.defProp false
namespace Go.Proofs.YtenbfeemmpjdhaaGreat
open Go Go.Hl Go.Pl
set_option maxRecDepth 10000
set_option maxHeartbeats 8000000
set_option linter.unusedSimpArgs false
set_option linter.unusedVariables false

theorem rowners_ok (r : Rt) (role : Word) (hr : rSz r) : HPure Tryz.prog 53 [r.cv, .str role] (fun v => v = .slc ((ownB r.k role fun _ => true).map .str)) := by
 have hlk : r.k.length < 2 ^ 40 := hr.2.1.1
 refine hfn_walk Tryz.func53 rfl (by kernel_rfl) (locOk_nil _) (Nat.le_of_ble_eq_true rfl) ?_
 refine hw_seq fun K hK => hw_region (by kernel_rfl) ?_
 simp (maxSteps := 4000000) only [↓sP, sA, tyS, simprocAttr]
 repeat refine AI ?_
 refine hK _ _ _ ?_
 clear hK K
 refine hw_seq fun K hK => hw_region (by kernel_rfl) ?_
 simp (maxSteps := 4000000) only [↓sP, sA, tyS, simprocAttr]
 repeat refine AI ?_
 refine hK _ _ _ ?_
 clear hK K
 refine hw_seq fun K hK => ?_
 refine hw_seq fun K hK => hw_region (by kernel_rfl) ?_
 simp (maxSteps := 4000000) only [↓sP, sA, tyS, simprocAttr]
 repeat refine AI ?_
 refine hK _ _ _ ?_
 clear hK K
 refine hw_block ?_
 refine hw_close [] ?_
 refine hw_loop (α := {i : Nat // i ≤ r.k.length}) (fun i => (fin [(1, .c (.str role)), (2, .ptr 0 0), (5, .c (.slc ((setW (ownF (r.k.take i.1) role fun _ => true)).map .str))), (6, .c (.int .i64 i.1))], fob [(0, .box 30 (.c r.cv))])) 100 (fun i => r.k.length - i.1) ⟨0, by omega⟩ (fits_fin (by omega) (by simp [FinOk, clF_at, fin_at, finA_at, upd_at, fob_at, HV.close, CV.denil, denilL_str, HV.men, HV.menL, HV.norm, HV.toC, HV.toCL, ownF, setW]) (by simp [FobOk, clO_at, fob_at, upd_at, none0_at, gone, HO.close, HV.close, HO.men, HV.men, HV.menL, HV.norm, HV.toC, HV.toCL, Rt.denil])) ?_
 rintro ⟨i, hi⟩
 have hof := ownF_len (r.k.take i) role fun _ => true
 have hti : (r.k.take i).length = i := by simp; omega
 have hsl := setW_len (ownF (r.k.take i) role fun _ => true)
 refine hw_seq fun K hK => ?_
 refine hw_seq fun K hK => hw_region (by kernel_rfl) ?_
 simp only [sR, simprocAttr]
 iterate 5
  (refine hlex_step (g := none) rfl rfl fun K' hK' => ?_; simp only [sH, ↓sP, sA, tyS, simprocAttr]; (repeat refine AI ?_); refine hK' _ _ ?_; clear hK' K')
 simp only [sE, ↓reduceIte, simprocAttr]
 repeat refine AI ?_
 refine hK _ _ _ ?_
 clear hK K
 refine hw_cond (b := decide ((i : Int) < r.k.length)) rfl (fun hb => ?_) (fun hb => ?_)
 ·
  have hlt : i < r.k.length := by simpa using hb
  have hk := hr.2.1.2 _ (List.getElem_mem hlt)
  refine hw_skip ?_
  simp (maxSteps := 4000000) only [↓sP, sA, tyS, simprocAttr]
  repeat refine AI ?_
  refine hK _ _ _ ?_
  clear hK K
  refine hw_seq fun K hK => ?_
  have key : ∀ (m : List Word) fr ob nx, m = setW (ownF (r.k.take (i + 1)) role fun _ => true) → Fits 0 fr ob (fin [(1, .c (.str role)), (2, .ptr 0 0), (5, .c (.slc (m.map .str))), (6, .c (.int .i64 i))]) (fob [(0, .box 30 (.c r.cv))]) 500 → K fr ob nx := by
   rintro m fr ob nx rfl hf
   refine hK _ _ _ (hw_fits hf ?_)
   clear hf hK K
   refine hw_region (by kernel_rfl) ?_
   simp (maxSteps := 4000000) only [↓sP, sA, tyS, simprocAttr, IntWalk.i64_in _ (show -9223372036854775808 ≤ (i : Int) + 1 ∧ (i : Int) + 1 ≤ 9223372036854775807 by omega)]
   refine ⟨⟨i + 1, hlt⟩, fits_fin (by omega) (by simp [FinOk, fin_at, finA_at, upd_at, HV.men, HV.menL, HV.norm, HV.toC, HV.toCL]) (by simp [FobOk, fob_at, upd_at, none0_at, gone, HO.men, HV.men, HV.menL, HV.norm, HV.toC, HV.toCL]), ?_⟩
   show r.k.length - (i + 1) < r.k.length - i
   omega
  refine hw_block ?_
  refine hw_seq fun K hK => hw_region (by kernel_rfl) ?_
  simp only [sR, simprocAttr]
  iterate 7
   (refine hlex_step (g := none) rfl rfl fun K' hK' => ?_; simp only [sH, ↓sP, sA, tyS, simprocAttr, Int.natCast_nonneg, Int.ofNat_lt, hlt, nth_map hlt]; (repeat refine AI ?_); refine hK' _ _ ?_; clear hK' K')
  refine hlex_step (g := none) rfl rfl fun K' hK' => ?_
  simp (maxSteps := 4000000) only [sH, ↓sP, sA, tyS, simprocAttr, Int.natCast_nonneg, Int.ofNat_lt, hlt, nth_map hlt]
  refine call_pure (args := [_, _]) (has_ok r.k[i].rs role (by have := hk.2.1; omega)) ⟨rfl, rfl, rfl, rfl⟩ ?_
  rintro u rfl
  repeat refine AI ?_
  refine hK' _ _ ?_
  clear hK' K'
  simp only [sE, ↓reduceIte, simprocAttr]
  repeat refine AI ?_
  refine hK _ _ _ ?_
  clear hK K
  refine hw_cond (b := r.k[i].rs.contains role) rfl (fun hb => ?_) (fun hb => ?_)
  ·
   refine hw_region (by kernel_rfl) ?_
   simp only [sR, simprocAttr]
   iterate 7
    (refine hlex_step (g := none) rfl rfl fun K' hK' => ?_; simp only [sH, ↓sP, sA, tyS, simprocAttr, Int.natCast_nonneg, Int.ofNat_lt, hlt, nth_map hlt]; (repeat refine AI ?_); refine hK' _ _ ?_; clear hK' K')
   refine hlex_step (g := none) rfl rfl fun K' hK' => ?_
   simp (maxSteps := 4000000) only [sH, ↓sP, sA, tyS, simprocAttr, Int.natCast_nonneg, Int.ofNat_lt, hlt, nth_map hlt]
   refine call_pure (args := [_, _]) (add_ok (setW (ownF (r.k.take i) role fun _ => true)) r.k[i].o (by omega)) ⟨rfl, rfl, rfl, rfl⟩ ?_
   rintro u rfl
   repeat refine AI ?_
   refine hK' _ _ ?_
   clear hK' K'
   refine hlex_step (g := none) rfl rfl fun K' hK' => ?_
   simp (maxSteps := 4000000) only [sH, ↓sP, sA, tyS, simprocAttr, Int.natCast_nonneg, Int.ofNat_lt, hlt, nth_map hlt]
   repeat refine AI ?_
   refine hK' _ _ ?_
   clear hK' K'
   simp only [sE, ↓reduceIte, simprocAttr]
   exact key (addW (setW (ownF (r.k.take i) role fun _ => true)) r.k[i].o) _ _ _ (by rw [ownF_take hlt, hb]; simp only [Bool.and_true, if_true]; rw [setW_snoc]) (fits_fin (by omega) (by simp [FinOk, fin_at, finA_at, upd_at, HV.men, HV.menL, HV.norm, HV.toC, HV.toCL]) (by simp [FobOk, fob_at, upd_at, none0_at, gone, HO.men, HV.men, HV.menL, HV.norm, HV.toC, HV.toCL]))
  refine hw_skip ?_
  simp (maxSteps := 4000000) only [↓sP, sA, tyS, simprocAttr]
  exact key (setW (ownF (r.k.take i) role fun _ => true)) _ _ _ (by rw [ownF_take hlt, hb]; simp) (fits_fin (by omega) (by simp [FinOk, fin_at, finA_at, upd_at, HV.men, HV.menL, HV.norm, HV.toC, HV.toCL]) (by simp [FobOk, fob_at, upd_at, none0_at, gone, HO.men, HV.men, HV.menL, HV.norm, HV.toC, HV.toCL]))
 refine hw_exit ?_
 simp (maxSteps := 4000000) only [↓sP, sA, tyS, simprocAttr]
 clear hK K
 repeat refine AI ?_
 refine hK _ _ _ ?_
 clear hK K
 refine hw_seq fun K hK => hw_region (by kernel_rfl) ?_
 simp (maxSteps := 4000000) only [↓sP, sA, tyS, simprocAttr]
 repeat refine AI ?_
 refine hK _ _ _ ?_
 clear hK K
 refine hw_ret ?_
 simp (maxSteps := 4000000) only [hpost, Tryz.results53, hresL, hres1, tupOf, ↓sP, sA, tyS, simprocAttr]
 have hei : i = r.k.length := by simp at hb; omega
 subst hei
 rw [List.take_length]
 exact hret_pure [] (.slc ((ownB r.k role fun _ => true).map .str)) (close_c (by simp only [CV.denil, denilL_str])) rfl


theorem rvalid_ok (r : Rt) (hr : rSz r) : HPure Tryz.prog 24 [r.cv] (fun v => v = .bool (validR r)) := by
 have hlq : r.q.length < 2 ^ 40 := hr.1.1
 have hlk : r.k.length < 2 ^ 40 := hr.2.1.1
 have hlx : r.x.length < 2 ^ 40 := hr.2.2
 refine hfn_walk Tryz.func24 rfl (by kernel_rfl) (locOk_nil _) (Nat.le_of_ble_eq_true rfl) ?_
 refine hw_seq fun K hK => hw_region (by kernel_rfl) ?_
 simp (maxSteps := 4000000) only [↓sP, sA, tyS, simprocAttr]
 repeat refine AI ?_
 refine hK _ _ _ ?_
 clear hK K
 refine hw_seq fun K hK => ?_
 refine hw_seq fun K hK => hw_region (by kernel_rfl) ?_
 simp only [sR, simprocAttr]
 iterate 4
  (refine hlex_step (g := none) rfl rfl fun K' hK' => ?_; simp only [sH, ↓sP, sA, tyS, simprocAttr]; (repeat refine AI ?_); refine hK' _ _ ?_; clear hK' K')
 refine hlex_cases 10 rfl (fun h1_10 => ?_) (fun h1_10 => ?_)
 ·
  iterate 3
   (refine hlex_step (g := some (11, false)) rfl rfl fun K' hK' => ?_; simp only [sH, ↓sP, sA, tyS, simprocAttr, h1_10]; (repeat refine AI ?_); refine hK' _ _ ?_; clear hK' K')
  iterate 2
   (refine hlex_step (g := none) rfl rfl fun K' hK' => ?_; simp only [sH, ↓sP, sA, tyS, simprocAttr, h1_10]; (repeat refine AI ?_); refine hK' _ _ ?_; clear hK' K')
  iterate 4
   (refine hlex_step (g := some (16, false)) rfl rfl fun K' hK' => ?_; simp only [sH, ↓sP, sA, tyS, simprocAttr, h1_10]; (repeat refine AI ?_); refine hK' _ _ ?_; clear hK' K')
  iterate 2
   (refine hlex_step (g := none) rfl rfl fun K' hK' => ?_; simp only [sH, ↓sP, sA, tyS, simprocAttr, h1_10]; (repeat refine AI ?_); refine hK' _ _ ?_; clear hK' K')
  iterate 4
   (refine hlex_step (g := some (22, false)) rfl rfl fun K' hK' => ?_; simp only [sH, ↓sP, sA, tyS, simprocAttr, h1_10]; (repeat refine AI ?_); refine hK' _ _ ?_; clear hK' K')
  iterate 2
   (refine hlex_step (g := none) rfl rfl fun K' hK' => ?_; simp only [sH, ↓sP, sA, tyS, simprocAttr, h1_10]; (repeat refine AI ?_); refine hK' _ _ ?_; clear hK' K')
  iterate 4
   (refine hlex_step (g := some (28, false)) rfl rfl fun K' hK' => ?_; simp only [sH, ↓sP, sA, tyS, simprocAttr, h1_10]; (repeat refine AI ?_); refine hK' _ _ ?_; clear hK' K')
  iterate 2
   (refine hlex_step (g := none) rfl rfl fun K' hK' => ?_; simp only [sH, ↓sP, sA, tyS, simprocAttr, h1_10]; (repeat refine AI ?_); refine hK' _ _ ?_; clear hK' K')
  iterate 4
   (refine hlex_step (g := some (34, false)) rfl rfl fun K' hK' => ?_; simp only [sH, ↓sP, sA, tyS, simprocAttr, h1_10]; (repeat refine AI ?_); refine hK' _ _ ?_; clear hK' K')
  refine hlex_step (g := none) rfl rfl fun K' hK' => ?_
  simp (maxSteps := 4000000) only [sH, ↓sP, sA, tyS, simprocAttr, h1_10]
  repeat refine AI ?_
  refine hK' _ _ ?_
  clear hK' K'
  simp only [sE, ↓reduceIte, simprocAttr]
  repeat refine AI ?_
  refine hK _ _ _ ?_
  clear hK K
  refine hw_cond (b := true) rfl (fun hb => ?_) (fun hb => ?_)
  ·
   refine hw_seq fun K hK => hw_region (by kernel_rfl) ?_
   simp (maxSteps := 4000000) only [↓sP, sA, tyS, simprocAttr]
   repeat refine AI ?_
   refine hK _ _ _ ?_
   clear hK K
   refine hw_ret ?_
   simp (maxSteps := 4000000) only [hpost, Tryz.results24, hresL, hres1, tupOf, ↓sP, sA, tyS, simprocAttr]
   exact hret_pure [] (.bool false) rfl (by simp only [valid_ref, quotasB_big, keysB_big, revsB_big, h1_10, Bool.not_true, Bool.not_false, Bool.and_true, Bool.and_false, Bool.true_and, Bool.false_and])
  cases hb
 iterate 3
  (refine hlex_step (g := some (11, false)) rfl rfl fun K' hK' => ?_; simp only [sH, ↓sP, sA, tyS, simprocAttr, h1_10]; (repeat refine AI ?_); refine hK' _ _ ?_; clear hK' K')
 iterate 2
  (refine hlex_step (g := none) rfl rfl fun K' hK' => ?_; simp only [sH, ↓sP, sA, tyS, simprocAttr, h1_10]; (repeat refine AI ?_); refine hK' _ _ ?_; clear hK' K')
 refine hlex_cases 14 rfl (fun h1_14 => ?_) (fun h1_14 => ?_)
 ·
  iterate 4
   (refine hlex_step (g := some (16, false)) rfl rfl fun K' hK' => ?_; simp only [sH, ↓sP, sA, tyS, simprocAttr, h1_10, h1_14]; (repeat refine AI ?_); refine hK' _ _ ?_; clear hK' K')
  iterate 2
   (refine hlex_step (g := none) rfl rfl fun K' hK' => ?_; simp only [sH, ↓sP, sA, tyS, simprocAttr, h1_10, h1_14]; (repeat refine AI ?_); refine hK' _ _ ?_; clear hK' K')
  iterate 4
   (refine hlex_step (g := some (22, false)) rfl rfl fun K' hK' => ?_; simp only [sH, ↓sP, sA, tyS, simprocAttr, h1_10, h1_14]; (repeat refine AI ?_); refine hK' _ _ ?_; clear hK' K')
  iterate 2
   (refine hlex_step (g := none) rfl rfl fun K' hK' => ?_; simp only [sH, ↓sP, sA, tyS, simprocAttr, h1_10, h1_14]; (repeat refine AI ?_); refine hK' _ _ ?_; clear hK' K')
  iterate 4
   (refine hlex_step (g := some (28, false)) rfl rfl fun K' hK' => ?_; simp only [sH, ↓sP, sA, tyS, simprocAttr, h1_10, h1_14]; (repeat refine AI ?_); refine hK' _ _ ?_; clear hK' K')
  iterate 2
   (refine hlex_step (g := none) rfl rfl fun K' hK' => ?_; simp only [sH, ↓sP, sA, tyS, simprocAttr, h1_10, h1_14]; (repeat refine AI ?_); refine hK' _ _ ?_; clear hK' K')
  iterate 4
   (refine hlex_step (g := some (34, false)) rfl rfl fun K' hK' => ?_; simp only [sH, ↓sP, sA, tyS, simprocAttr, h1_10, h1_14]; (repeat refine AI ?_); refine hK' _ _ ?_; clear hK' K')
  refine hlex_step (g := none) rfl rfl fun K' hK' => ?_
  simp (maxSteps := 4000000) only [sH, ↓sP, sA, tyS, simprocAttr, h1_10, h1_14]
  repeat refine AI ?_
  refine hK' _ _ ?_
  clear hK' K'
  simp only [sE, ↓reduceIte, simprocAttr]
  repeat refine AI ?_
  refine hK _ _ _ ?_
  clear hK K
  refine hw_cond (b := true) rfl (fun hb => ?_) (fun hb => ?_)
  ·
   refine hw_seq fun K hK => hw_region (by kernel_rfl) ?_
   simp (maxSteps := 4000000) only [↓sP, sA, tyS, simprocAttr]
   repeat refine AI ?_
   refine hK _ _ _ ?_
   clear hK K
   refine hw_ret ?_
   simp (maxSteps := 4000000) only [hpost, Tryz.results24, hresL, hres1, tupOf, ↓sP, sA, tyS, simprocAttr]
   exact hret_pure [] (.bool false) rfl (by simp only [valid_ref, quotasB_big, keysB_big, revsB_big, h1_10, h1_14, Bool.not_true, Bool.not_false, Bool.and_true, Bool.and_false, Bool.true_and, Bool.false_and])
  cases hb
 iterate 2
  (refine hlex_step (g := some (16, false)) rfl rfl fun K' hK' => ?_; simp only [sH, ↓sP, sA, tyS, simprocAttr, h1_10, h1_14]; (repeat refine AI ?_); refine hK' _ _ ?_; clear hK' K')
 refine hlex_step (g := some (16, false)) rfl rfl fun K' hK' => ?_
 simp (maxSteps := 4000000) only [sH, ↓sP, sA, tyS, simprocAttr, h1_10, h1_14]
 refine call_pure (args := [_]) (instant_ok r.e) ⟨rfl, rfl, rfl, rfl⟩ ?_
 rintro u rfl
 repeat refine AI ?_
 refine hK' _ _ ?_
 clear hK' K'
 refine hlex_step (g := some (16, false)) rfl rfl fun K' hK' => ?_
 simp (maxSteps := 4000000) only [sH, ↓sP, sA, tyS, simprocAttr, h1_10, h1_14]
 repeat refine AI ?_
 refine hK' _ _ ?_
 clear hK' K'
 iterate 2
  (refine hlex_step (g := none) rfl rfl fun K' hK' => ?_; simp only [sH, ↓sP, sA, tyS, simprocAttr, h1_10, h1_14]; (repeat refine AI ?_); refine hK' _ _ ?_; clear hK' K')
 refine hlex_cases 19 rfl (fun h1_19 => ?_) (fun h1_19 => ?_)
 ·
  iterate 4
   (refine hlex_step (g := some (22, false)) rfl rfl fun K' hK' => ?_; simp only [sH, ↓sP, sA, tyS, simprocAttr, h1_10, h1_14, h1_19]; (repeat refine AI ?_); refine hK' _ _ ?_; clear hK' K')
  iterate 2
   (refine hlex_step (g := none) rfl rfl fun K' hK' => ?_; simp only [sH, ↓sP, sA, tyS, simprocAttr, h1_10, h1_14, h1_19]; (repeat refine AI ?_); refine hK' _ _ ?_; clear hK' K')
  refine hlex_cases 26 rfl (fun h1_26 => ?_) (fun h1_26 => ?_)
  ·
   iterate 4
    (refine hlex_step (g := some (28, false)) rfl rfl fun K' hK' => ?_; simp only [sH, ↓sP, sA, tyS, simprocAttr, h1_10, h1_14, h1_19, h1_26]; (repeat refine AI ?_); refine hK' _ _ ?_; clear hK' K')
   iterate 2
    (refine hlex_step (g := none) rfl rfl fun K' hK' => ?_; simp only [sH, ↓sP, sA, tyS, simprocAttr, h1_10, h1_14, h1_19, h1_26]; (repeat refine AI ?_); refine hK' _ _ ?_; clear hK' K')
   iterate 4
    (refine hlex_step (g := some (34, false)) rfl rfl fun K' hK' => ?_; simp only [sH, ↓sP, sA, tyS, simprocAttr, h1_10, h1_14, h1_19, h1_26]; (repeat refine AI ?_); refine hK' _ _ ?_; clear hK' K')
   refine hlex_step (g := none) rfl rfl fun K' hK' => ?_
   simp (maxSteps := 4000000) only [sH, ↓sP, sA, tyS, simprocAttr, h1_10, h1_14, h1_19, h1_26]
   repeat refine AI ?_
   refine hK' _ _ ?_
   clear hK' K'
   simp only [sE, ↓reduceIte, simprocAttr]
   repeat refine AI ?_
   refine hK _ _ _ ?_
   clear hK K
   refine hw_cond (b := true) rfl (fun hb => ?_) (fun hb => ?_)
   ·
    refine hw_seq fun K hK => hw_region (by kernel_rfl) ?_
    simp (maxSteps := 4000000) only [↓sP, sA, tyS, simprocAttr]
    repeat refine AI ?_
    refine hK _ _ _ ?_
    clear hK K
    refine hw_ret ?_
    simp (maxSteps := 4000000) only [hpost, Tryz.results24, hresL, hres1, tupOf, ↓sP, sA, tyS, simprocAttr]
    exact hret_pure [] (.bool false) rfl (by simp only [valid_ref, quotasB_big, keysB_big, revsB_big, h1_10, h1_14, h1_19, h1_26, Bool.not_true, Bool.not_false, Bool.and_true, Bool.and_false, Bool.true_and, Bool.false_and])
   cases hb
  iterate 4
   (refine hlex_step (g := some (28, false)) rfl rfl fun K' hK' => ?_; simp only [sH, ↓sP, sA, tyS, simprocAttr, h1_10, h1_14, h1_19, h1_26]; (repeat refine AI ?_); refine hK' _ _ ?_; clear hK' K')
  iterate 2
   (refine hlex_step (g := none) rfl rfl fun K' hK' => ?_; simp only [sH, ↓sP, sA, tyS, simprocAttr, h1_10, h1_14, h1_19, h1_26]; (repeat refine AI ?_); refine hK' _ _ ?_; clear hK' K')
  refine hlex_cases 32 rfl (fun h1_32 => ?_) (fun h1_32 => ?_)
  ·
   iterate 4
    (refine hlex_step (g := some (34, false)) rfl rfl fun K' hK' => ?_; simp only [sH, ↓sP, sA, tyS, simprocAttr, h1_10, h1_14, h1_19, h1_26, h1_32]; (repeat refine AI ?_); refine hK' _ _ ?_; clear hK' K')
   refine hlex_step (g := none) rfl rfl fun K' hK' => ?_
   simp (maxSteps := 4000000) only [sH, ↓sP, sA, tyS, simprocAttr, h1_10, h1_14, h1_19, h1_26, h1_32]
   repeat refine AI ?_
   refine hK' _ _ ?_
   clear hK' K'
   simp only [sE, ↓reduceIte, simprocAttr]
   repeat refine AI ?_
   refine hK _ _ _ ?_
   clear hK K
   refine hw_cond (b := true) rfl (fun hb => ?_) (fun hb => ?_)
   ·
    refine hw_seq fun K hK => hw_region (by kernel_rfl) ?_
    simp (maxSteps := 4000000) only [↓sP, sA, tyS, simprocAttr]
    repeat refine AI ?_
    refine hK _ _ _ ?_
    clear hK K
    refine hw_ret ?_
    simp (maxSteps := 4000000) only [hpost, Tryz.results24, hresL, hres1, tupOf, ↓sP, sA, tyS, simprocAttr]
    exact hret_pure [] (.bool false) rfl (by simp only [valid_ref, quotasB_big, keysB_big, revsB_big, h1_10, h1_14, h1_19, h1_26, h1_32, Bool.not_true, Bool.not_false, Bool.and_true, Bool.and_false, Bool.true_and, Bool.false_and])
   cases hb
  iterate 4
   (refine hlex_step (g := some (34, false)) rfl rfl fun K' hK' => ?_; simp only [sH, ↓sP, sA, tyS, simprocAttr, h1_10, h1_14, h1_19, h1_26, h1_32]; (repeat refine AI ?_); refine hK' _ _ ?_; clear hK' K')
  refine hlex_step (g := none) rfl rfl fun K' hK' => ?_
  simp (maxSteps := 4000000) only [sH, ↓sP, sA, tyS, simprocAttr, h1_10, h1_14, h1_19, h1_26, h1_32]
  repeat refine AI ?_
  refine hK' _ _ ?_
  clear hK' K'
  refine hlex_cases 38 rfl (fun h1_38 => ?_) (fun h1_38 => ?_)
  ·
   simp only [h1_38]
   simp only [sE, ↓reduceIte, simprocAttr]
   repeat refine AI ?_
   refine hK _ _ _ ?_
   clear hK K
   refine hw_cond (b := true) rfl (fun hb => ?_) (fun hb => ?_)
   ·
    refine hw_seq fun K hK => hw_region (by kernel_rfl) ?_
    simp (maxSteps := 4000000) only [↓sP, sA, tyS, simprocAttr]
    repeat refine AI ?_
    refine hK _ _ _ ?_
    clear hK K
    refine hw_ret ?_
    simp (maxSteps := 4000000) only [hpost, Tryz.results24, hresL, hres1, tupOf, ↓sP, sA, tyS, simprocAttr]
    exact hret_pure [] (.bool false) rfl (by simp only [valid_ref, quotasB_big, keysB_big, revsB_big, h1_10, h1_14, h1_19, h1_26, h1_32, h1_38, Bool.not_true, Bool.not_false, Bool.and_true, Bool.and_false, Bool.true_and, Bool.false_and])
   cases hb
  simp only [h1_38]
  simp only [sE, ↓reduceIte, simprocAttr]
  repeat refine AI ?_
  refine hK _ _ _ ?_
  clear hK K
  refine hw_cond (b := false) rfl (fun hb => ?_) (fun hb => ?_)
  ·
   cases hb
  refine hw_skip ?_
  simp (maxSteps := 4000000) only [↓sP, sA, tyS, simprocAttr]
  repeat refine AI ?_
  refine hK _ _ _ ?_
  clear hK K
  refine hw_seq fun K hK => ?_
  refine hw_seq fun K hK => hw_region (by kernel_rfl) ?_
  simp (maxSteps := 4000000) only [↓sP, sA, tyS, simprocAttr]
  repeat refine AI ?_
  refine hK _ _ _ ?_
  clear hK K
  refine hw_block ?_
  refine hw_loop (α := {i : Nat // i ≤ r.q.length ∧ GoodTo quotaB (fun a b => slt a.r b.r) r.q i}) (fun i => (fin [(1, .ptr 0 0), (3, .c (.int .i64 i.1))], fob [(0, .box 30 (.c r.cv))])) 200 (fun i => r.q.length - i.1) ⟨0, by omega, GoodTo.zero⟩ (fits_fin (by omega) (by simp [FinOk, fin_at, finA_at, upd_at, HV.men, HV.menL, HV.norm, HV.toC, HV.toCL]) (by simp [FobOk, fob_at, upd_at, none0_at, gone, HO.men, HV.men, HV.menL, HV.norm, HV.toC, HV.toCL])) ?_
  rintro ⟨i, hi, h0⟩
  refine hw_seq fun K hK => ?_
  refine hw_seq fun K hK => hw_region (by kernel_rfl) ?_
  simp only [sR, simprocAttr]
  iterate 5
   (refine hlex_step (g := none) rfl rfl fun K' hK' => ?_; simp only [sH, ↓sP, sA, tyS, simprocAttr, h1_10, h1_14, h1_19, h1_26, h1_32, h1_38]; (repeat refine AI ?_); refine hK' _ _ ?_; clear hK' K')
  simp only [sE, ↓reduceIte, simprocAttr]
  repeat refine AI ?_
  refine hK _ _ _ ?_
  clear hK K
  refine hw_cond (b := decide ((i : Int) < r.q.length)) rfl (fun hb => ?_) (fun hb => ?_)
  ·
   have hlt : i < r.q.length := by simpa using hb
   have hi1 : i - 1 < r.q.length := by omega
   have hm : decide ((0 : Int) < (i : Int)) = true → IntKind.i64.wrap ((i : Int) - 1) = ((i - 1 : Nat) : Int) := fun h => by
    have : 0 < i := by simpa using h
    rw [IntWalk.i64_in _ (by omega)]; omega
   refine hw_skip ?_
   simp (maxSteps := 4000000) only [↓sP, sA, tyS, simprocAttr]
   repeat refine AI ?_
   refine hK _ _ _ ?_
   clear hK K
   refine hw_seq fun K hK => ?_
   refine hw_block ?_
   refine hw_seq fun K hK => hw_region (by kernel_rfl) ?_
   simp only [sR, simprocAttr]
   iterate 7
    (refine hlex_step (g := none) rfl rfl fun K' hK' => ?_; simp only [sH, ↓sP, sA, tyS, simprocAttr, Int.natCast_nonneg, Int.ofNat_lt, hlt, nth_map hlt, h1_10, h1_14, h1_19, h1_26, h1_32, h1_38]; (repeat refine AI ?_); refine hK' _ _ ?_; clear hK' K')
   simp only [sE, ↓reduceIte, simprocAttr]
   repeat refine AI ?_
   refine hK _ _ _ ?_
   clear hK K
   refine hw_seq fun K hK => hw_draw2 mixed [(0, [], []), (1, [], []), (2, [], []), (3, [], []), (4, [], []), (5, [], []), (6, [], []), (7, [], []), (8, [], []), (9, [], []), (10, [], []), (11, [], []), (12, [], []), (13, [], []), (14, [], []), (15, [], []), (16, [], []), (17, [], []), (18, [], []), (19, [], []), (20, [], []), (21, [], []), (22, [], []), (23, [], []), (24, [], []), (25, [], []), (26, [], []), (27, [], []), (28, [], []), (29, [], [])] [0, 1, 3, 7, 15, 31, 63, 127, 255, 511, 1023, 2047, 4095, 8191, 16383, 32767, 65535, 131071, 262143, 524287, 262143, 1310719, 4194303, 8388607, 16777215, 262143, 33816575, 134217727, 268435455, 536870911] (by kernel_rfl) (by kernel_rfl) (by kernel_rfl) (by kernel_rfl) rfl (by kernel_rfl) ?_
   iterate 2
    (refine hwalk2_step (g := none) rfl rfl fun K' hK' => ?_; simp only [sH, ↓sP, sA, tyS, simprocAttr, hm, Int.natCast_nonneg, Int.ofNat_lt, hi1, nth_map hi1, h1_10, h1_14, h1_19, h1_26, h1_32, h1_38]; (repeat refine AI ?_); refine hK' _ _ ?_; clear hK' K')
   refine hwalk2_step (g := none) rfl rfl fun K' hK' => ?_
   simp (maxSteps := 4000000) only [sH, ↓sP, sA, tyS, simprocAttr, hm, Int.natCast_nonneg, Int.ofNat_lt, hi1, nth_map hi1, h1_10, h1_14, h1_19, h1_26, h1_32, h1_38]
   refine call_pure (args := [_]) (rname_ok r.q[i].r (hr.1.2 _ (List.getElem_mem hlt))) ⟨rfl, rfl, rfl, rfl⟩ ?_
   rintro u rfl
   repeat refine AI ?_
   refine hK' _ _ ?_
   clear hK' K'
   iterate 2
    (refine hwalk2_step (g := none) rfl rfl fun K' hK' => ?_; simp only [sH, ↓sP, sA, tyS, simprocAttr, hm, Int.natCast_nonneg, Int.ofNat_lt, hi1, nth_map hi1, h1_10, h1_14, h1_19, h1_26, h1_32, h1_38]; (repeat refine AI ?_); refine hK' _ _ ?_; clear hK' K')
   refine hwalk2_cases 54 rfl (fun h7_54 => ?_) (fun h7_54 => ?_)
   ·
    iterate 3
     (refine hwalk2_step (g := some (56, false)) rfl rfl fun K' hK' => ?_; simp only [sH, ↓sP, sA, tyS, simprocAttr, hm, Int.natCast_nonneg, Int.ofNat_lt, hi1, nth_map hi1, h1_10, h1_14, h1_19, h1_26, h1_32, h1_38, h7_54]; (repeat refine AI ?_); refine hK' _ _ ?_; clear hK' K')
    iterate 2
     (refine hwalk2_step (g := none) rfl rfl fun K' hK' => ?_; simp only [sH, ↓sP, sA, tyS, simprocAttr, hm, Int.natCast_nonneg, Int.ofNat_lt, hi1, nth_map hi1, h1_10, h1_14, h1_19, h1_26, h1_32, h1_38, h7_54]; (repeat refine AI ?_); refine hK' _ _ ?_; clear hK' K')
    refine hwalk2_cases 59 rfl (fun h7_59 => ?_) (fun h7_59 => ?_)
    ·
     iterate 3
      (refine hwalk2_step (g := some (61, false)) rfl rfl fun K' hK' => ?_; simp only [sH, ↓sP, sA, tyS, simprocAttr, hm, Int.natCast_nonneg, Int.ofNat_lt, hi1, nth_map hi1, h1_10, h1_14, h1_19, h1_26, h1_32, h1_38, h7_54, h7_59]; (repeat refine AI ?_); refine hK' _ _ ?_; clear hK' K')
     iterate 2
      (refine hwalk2_step (g := none) rfl rfl fun K' hK' => ?_; simp only [sH, ↓sP, sA, tyS, simprocAttr, hm, Int.natCast_nonneg, Int.ofNat_lt, hi1, nth_map hi1, h1_10, h1_14, h1_19, h1_26, h1_32, h1_38, h7_54, h7_59]; (repeat refine AI ?_); refine hK' _ _ ?_; clear hK' K')
     iterate 3
      (refine hwalk2_step (g := some (66, false)) rfl rfl fun K' hK' => ?_; simp only [sH, ↓sP, sA, tyS, simprocAttr, hm, Int.natCast_nonneg, Int.ofNat_lt, hi1, nth_map hi1, h1_10, h1_14, h1_19, h1_26, h1_32, h1_38, h7_54, h7_59]; (repeat refine AI ?_); refine hK' _ _ ?_; clear hK' K')
     iterate 10
      (refine hwalk2_step (g := some (69, true)) rfl rfl fun K' hK' => ?_; simp only [sH, ↓sP, sA, tyS, simprocAttr, hm, Int.natCast_nonneg, Int.ofNat_lt, hi1, nth_map hi1, h1_10, h1_14, h1_19, h1_26, h1_32, h1_38, h7_54, h7_59]; (repeat refine AI ?_); refine hK' _ _ ?_; clear hK' K')
     refine hwalk2_step (g := some (66, false)) rfl rfl fun K' hK' => ?_
     simp (maxSteps := 4000000) only [sH, ↓sP, sA, tyS, simprocAttr, hm, Int.natCast_nonneg, Int.ofNat_lt, hi1, nth_map hi1, h1_10, h1_14, h1_19, h1_26, h1_32, h1_38, h7_54, h7_59]
     repeat refine AI ?_
     refine hK' _ _ ?_
     clear hK' K'
     refine hwalk2_step (g := none) rfl rfl fun K' hK' => ?_
     simp (maxSteps := 4000000) only [sH, ↓sP, sA, tyS, simprocAttr, hm, Int.natCast_nonneg, Int.ofNat_lt, hi1, nth_map hi1, h1_10, h1_14, h1_19, h1_26, h1_32, h1_38, h7_54, h7_59]
     repeat refine AI ?_
     refine hK' _ _ ?_
     clear hK' K'
     simp only [sE, ↓reduceIte, simprocAttr]
     repeat refine AI ?_
     refine hK _ _ _ ?_
     clear hK K
     refine hw_cond (b := true) rfl (fun hb => ?_) (fun hb => ?_)
     ·
      refine hw_seq fun K hK => hw_region (by kernel_rfl) ?_
      simp (maxSteps := 4000000) only [↓sP, sA, tyS, simprocAttr]
      repeat refine AI ?_
      refine hK _ _ _ ?_
      clear hK K
      refine hw_ret ?_
      simp (maxSteps := 4000000) only [hpost, Tryz.results24, hresL, hres1, tupOf, ↓sP, sA, tyS, simprocAttr]
      have hbad : quotasB r.q = false := by rw [quotasB_eq, bad_one hlt (by simp only [quotaB_code, h1_10, h1_14, h1_19, h1_26, h1_32, h1_38, h7_54, h7_59, Bool.not_true, Bool.not_false, Bool.false_and, Bool.and_false]), Bool.false_and]
      exact hret_pure [] (.bool false) rfl (by simp only [valid_ref, hbad, Bool.and_false, Bool.false_and])
     cases hb
    iterate 3
     (refine hwalk2_step (g := some (61, false)) rfl rfl fun K' hK' => ?_; simp only [sH, ↓sP, sA, tyS, simprocAttr, hm, Int.natCast_nonneg, Int.ofNat_lt, hi1, nth_map hi1, h1_10, h1_14, h1_19, h1_26, h1_32, h1_38, h7_54, h7_59]; (repeat refine AI ?_); refine hK' _ _ ?_; clear hK' K')
    iterate 2
     (refine hwalk2_step (g := none) rfl rfl fun K' hK' => ?_; simp only [sH, ↓sP, sA, tyS, simprocAttr, hm, Int.natCast_nonneg, Int.ofNat_lt, hi1, nth_map hi1, h1_10, h1_14, h1_19, h1_26, h1_32, h1_38, h7_54, h7_59]; (repeat refine AI ?_); refine hK' _ _ ?_; clear hK' K')
    refine hwalk2_cases 64 rfl (fun h7_64 => ?_) (fun h7_64 => ?_)
    ·
     iterate 3
      (refine hwalk2_step (g := some (66, false)) rfl rfl fun K' hK' => ?_; simp only [sH, ↓sP, sA, tyS, simprocAttr, hm, Int.natCast_nonneg, Int.ofNat_lt, hi1, nth_map hi1, h1_10, h1_14, h1_19, h1_26, h1_32, h1_38, h7_54, h7_59, h7_64]; (repeat refine AI ?_); refine hK' _ _ ?_; clear hK' K')
     iterate 10
      (refine hwalk2_step (g := some (69, true)) rfl rfl fun K' hK' => ?_; simp only [sH, ↓sP, sA, tyS, simprocAttr, hm, Int.natCast_nonneg, Int.ofNat_lt, hi1, nth_map hi1, h1_10, h1_14, h1_19, h1_26, h1_32, h1_38, h7_54, h7_59, h7_64]; (repeat refine AI ?_); refine hK' _ _ ?_; clear hK' K')
     refine hwalk2_step (g := some (66, false)) rfl rfl fun K' hK' => ?_
     simp (maxSteps := 4000000) only [sH, ↓sP, sA, tyS, simprocAttr, hm, Int.natCast_nonneg, Int.ofNat_lt, hi1, nth_map hi1, h1_10, h1_14, h1_19, h1_26, h1_32, h1_38, h7_54, h7_59, h7_64]
     repeat refine AI ?_
     refine hK' _ _ ?_
     clear hK' K'
     refine hwalk2_step (g := none) rfl rfl fun K' hK' => ?_
     simp (maxSteps := 4000000) only [sH, ↓sP, sA, tyS, simprocAttr, hm, Int.natCast_nonneg, Int.ofNat_lt, hi1, nth_map hi1, h1_10, h1_14, h1_19, h1_26, h1_32, h1_38, h7_54, h7_59, h7_64]
     repeat refine AI ?_
     refine hK' _ _ ?_
     clear hK' K'
     simp only [sE, ↓reduceIte, simprocAttr]
     repeat refine AI ?_
     refine hK _ _ _ ?_
     clear hK K
     refine hw_cond (b := true) rfl (fun hb => ?_) (fun hb => ?_)
     ·
      refine hw_seq fun K hK => hw_region (by kernel_rfl) ?_
      simp (maxSteps := 4000000) only [↓sP, sA, tyS, simprocAttr]
      repeat refine AI ?_
      refine hK _ _ _ ?_
      clear hK K
      refine hw_ret ?_
      simp (maxSteps := 4000000) only [hpost, Tryz.results24, hresL, hres1, tupOf, ↓sP, sA, tyS, simprocAttr]
      have hbad : quotasB r.q = false := by rw [quotasB_eq, bad_one hlt (by simp only [quotaB_code, h1_10, h1_14, h1_19, h1_26, h1_32, h1_38, h7_54, h7_59, h7_64, Bool.not_true, Bool.not_false, Bool.false_and, Bool.and_false]), Bool.false_and]
      exact hret_pure [] (.bool false) rfl (by simp only [valid_ref, hbad, Bool.and_false, Bool.false_and])
     cases hb
    iterate 3
     (refine hwalk2_step (g := some (66, false)) rfl rfl fun K' hK' => ?_; simp only [sH, ↓sP, sA, tyS, simprocAttr, hm, Int.natCast_nonneg, Int.ofNat_lt, hi1, nth_map hi1, h1_10, h1_14, h1_19, h1_26, h1_32, h1_38, h7_54, h7_59, h7_64]; (repeat refine AI ?_); refine hK' _ _ ?_; clear hK' K')
    refine hwalk2_cases 68 rfl (fun h7_68 => ?_) (fun h7_68 => ?_)
    ·
     iterate 10
      (refine hwalk2_step (g := some (69, true)) rfl rfl fun K' hK' => ?_; simp only [sH, ↓sP, sA, tyS, simprocAttr, hm, Int.natCast_nonneg, Int.ofNat_lt, hi1, nth_map hi1, h1_10, h1_14, h1_19, h1_26, h1_32, h1_38, h7_54, h7_59, h7_64, h7_68]; (repeat refine AI ?_); refine hK' _ _ ?_; clear hK' K')
     refine hwalk2_step (g := some (66, false)) rfl rfl fun K' hK' => ?_
     simp (maxSteps := 4000000) only [sH, ↓sP, sA, tyS, simprocAttr, hm, Int.natCast_nonneg, Int.ofNat_lt, hi1, nth_map hi1, h1_10, h1_14, h1_19, h1_26, h1_32, h1_38, h7_54, h7_59, h7_64, h7_68]
     repeat refine AI ?_
     refine hK' _ _ ?_
     clear hK' K'
     refine hwalk2_step (g := none) rfl rfl fun K' hK' => ?_
     simp (maxSteps := 4000000) only [sH, ↓sP, sA, tyS, simprocAttr, hm, Int.natCast_nonneg, Int.ofNat_lt, hi1, nth_map hi1, h1_10, h1_14, h1_19, h1_26, h1_32, h1_38, h7_54, h7_59, h7_64, h7_68]
     repeat refine AI ?_
     refine hK' _ _ ?_
     clear hK' K'
     refine hwalk2_cases 79 rfl (fun h7_79 => ?_) (fun h7_79 => ?_)
     ·
      simp only [h7_79]
      simp only [sE, ↓reduceIte, simprocAttr]
      repeat refine AI ?_
      refine hK _ _ _ ?_
      clear hK K
      refine hw_cond (b := true) rfl (fun hb => ?_) (fun hb => ?_)
      ·
       refine hw_seq fun K hK => hw_region (by kernel_rfl) ?_
       simp (maxSteps := 4000000) only [↓sP, sA, tyS, simprocAttr]
       repeat refine AI ?_
       refine hK _ _ _ ?_
       clear hK K
       refine hw_ret ?_
       simp (maxSteps := 4000000) only [hpost, Tryz.results24, hresL, hres1, tupOf, ↓sP, sA, tyS, simprocAttr]
       obtain ⟨j, rfl⟩ : ∃ j, i = j + 1 := ⟨i - 1, by simp at h7_68; omega⟩
       have hbad : quotasB r.q = false := by rw [quotasB_eq, bad_two (i := j) hlt (by simpa using h7_79), Bool.false_and]
       exact hret_pure [] (.bool false) rfl (by simp only [valid_ref, hbad, Bool.and_false, Bool.false_and])
      cases hb
     simp only [h7_79]
     simp only [sE, ↓reduceIte, simprocAttr]
     repeat refine AI ?_
     refine hK _ _ _ ?_
     clear hK K
     refine hw_cond (b := false) rfl (fun hb => ?_) (fun hb => ?_)
     ·
      cases hb
     refine hw_skip ?_
     simp (maxSteps := 4000000) only [↓sP, sA, tyS, simprocAttr]
     repeat refine AI ?_
     refine hK _ _ _ ?_
     clear hK K
     refine hw_region (by kernel_rfl) ?_
     simp (maxSteps := 4000000) only [↓sP, sA, tyS, simprocAttr, IntWalk.i64_in _ (show -9223372036854775808 ≤ (i : Int) + 1 ∧ (i : Int) + 1 ≤ 9223372036854775807 by omega)]
     obtain ⟨j, rfl⟩ : ∃ j, i = j + 1 := ⟨i - 1, by simp at h7_68; omega⟩
     refine ⟨⟨j + 1 + 1, hlt, h0.succ hlt (by simp only [quotaB_code, h1_10, h1_14, h1_19, h1_26, h1_32, h1_38, h7_54, h7_59, h7_64, h7_68, h7_79]; rfl) (by simpa using h7_79)⟩, fits_fin (by omega) (by simp [FinOk, fin_at, finA_at, upd_at, HV.men, HV.menL, HV.norm, HV.toC, HV.toCL]) (by simp [FobOk, fob_at, upd_at, none0_at, gone, HO.men, HV.men, HV.menL, HV.norm, HV.toC, HV.toCL]), ?_⟩
     show r.q.length - (j + 1 + 1) < r.q.length - (j + 1)
     omega
    iterate 10
     (refine hwalk2_step (g := some (69, true)) rfl rfl fun K' hK' => ?_; simp only [sH, ↓sP, sA, tyS, simprocAttr, hm, Int.natCast_nonneg, Int.ofNat_lt, hi1, nth_map hi1, h1_10, h1_14, h1_19, h1_26, h1_32, h1_38, h7_54, h7_59, h7_64, h7_68]; (repeat refine AI ?_); refine hK' _ _ ?_; clear hK' K')
    refine hwalk2_step (g := some (66, false)) rfl rfl fun K' hK' => ?_
    simp (maxSteps := 4000000) only [sH, ↓sP, sA, tyS, simprocAttr, hm, Int.natCast_nonneg, Int.ofNat_lt, hi1, nth_map hi1, h1_10, h1_14, h1_19, h1_26, h1_32, h1_38, h7_54, h7_59, h7_64, h7_68]
    repeat refine AI ?_
    refine hK' _ _ ?_
    clear hK' K'
    refine hwalk2_step (g := none) rfl rfl fun K' hK' => ?_
    simp (maxSteps := 4000000) only [sH, ↓sP, sA, tyS, simprocAttr, hm, Int.natCast_nonneg, Int.ofNat_lt, hi1, nth_map hi1, h1_10, h1_14, h1_19, h1_26, h1_32, h1_38, h7_54, h7_59, h7_64, h7_68]
    repeat refine AI ?_
    refine hK' _ _ ?_
    clear hK' K'
    simp only [sE, ↓reduceIte, simprocAttr]
    repeat refine AI ?_
    refine hK _ _ _ ?_
    clear hK K
    refine hw_cond (b := false) rfl (fun hb => ?_) (fun hb => ?_)
    ·
     cases hb
    refine hw_skip ?_
    simp (maxSteps := 4000000) only [↓sP, sA, tyS, simprocAttr]
    repeat refine AI ?_
    refine hK _ _ _ ?_
    clear hK K
    refine hw_region (by kernel_rfl) ?_
    simp (maxSteps := 4000000) only [↓sP, sA, tyS, simprocAttr, IntWalk.i64_in _ (show -9223372036854775808 ≤ (i : Int) + 1 ∧ (i : Int) + 1 ≤ 9223372036854775807 by omega)]
    obtain rfl : i = 0 := by simp at h7_68; omega
    refine ⟨⟨1, hlt, GoodTo.one hlt (by simp only [quotaB_code, h1_10, h1_14, h1_19, h1_26, h1_32, h1_38, h7_54, h7_59, h7_64, h7_68]; rfl)⟩, fits_fin (by omega) (by simp [FinOk, fin_at, finA_at, upd_at, HV.men, HV.menL, HV.norm, HV.toC, HV.toCL]) (by simp [FobOk, fob_at, upd_at, none0_at, gone, HO.men, HV.men, HV.menL, HV.norm, HV.toC, HV.toCL]), ?_⟩
    show r.q.length - 1 < r.q.length - 0
    omega
   iterate 3
    (refine hwalk2_step (g := some (56, false)) rfl rfl fun K' hK' => ?_; simp only [sH, ↓sP, sA, tyS, simprocAttr, hm, Int.natCast_nonneg, Int.ofNat_lt, hi1, nth_map hi1, h1_10, h1_14, h1_19, h1_26, h1_32, h1_38, h7_54]; (repeat refine AI ?_); refine hK' _ _ ?_; clear hK' K')
   iterate 2
    (refine hwalk2_step (g := none) rfl rfl fun K' hK' => ?_; simp only [sH, ↓sP, sA, tyS, simprocAttr, hm, Int.natCast_nonneg, Int.ofNat_lt, hi1, nth_map hi1, h1_10, h1_14, h1_19, h1_26, h1_32, h1_38, h7_54]; (repeat refine AI ?_); refine hK' _ _ ?_; clear hK' K')
   iterate 3
    (refine hwalk2_step (g := some (61, false)) rfl rfl fun K' hK' => ?_; simp only [sH, ↓sP, sA, tyS, simprocAttr, hm, Int.natCast_nonneg, Int.ofNat_lt, hi1, nth_map hi1, h1_10, h1_14, h1_19, h1_26, h1_32, h1_38, h7_54]; (repeat refine AI ?_); refine hK' _ _ ?_; clear hK' K')
   iterate 2
    (refine hwalk2_step (g := none) rfl rfl fun K' hK' => ?_; simp only [sH, ↓sP, sA, tyS, simprocAttr, hm, Int.natCast_nonneg, Int.ofNat_lt, hi1, nth_map hi1, h1_10, h1_14, h1_19, h1_26, h1_32, h1_38, h7_54]; (repeat refine AI ?_); refine hK' _ _ ?_; clear hK' K')
   iterate 3
    (refine hwalk2_step (g := some (66, false)) rfl rfl fun K' hK' => ?_; simp only [sH, ↓sP, sA, tyS, simprocAttr, hm, Int.natCast_nonneg, Int.ofNat_lt, hi1, nth_map hi1, h1_10, h1_14, h1_19, h1_26, h1_32, h1_38, h7_54]; (repeat refine AI ?_); refine hK' _ _ ?_; clear hK' K')
   iterate 10
    (refine hwalk2_step (g := some (69, true)) rfl rfl fun K' hK' => ?_; simp only [sH, ↓sP, sA, tyS, simprocAttr, hm, Int.natCast_nonneg, Int.ofNat_lt, hi1, nth_map hi1, h1_10, h1_14, h1_19, h1_26, h1_32, h1_38, h7_54]; (repeat refine AI ?_); refine hK' _ _ ?_; clear hK' K')
   refine hwalk2_step (g := some (66, false)) rfl rfl fun K' hK' => ?_
   simp (maxSteps := 4000000) only [sH, ↓sP, sA, tyS, simprocAttr, hm, Int.natCast_nonneg, Int.ofNat_lt, hi1, nth_map hi1, h1_10, h1_14, h1_19, h1_26, h1_32, h1_38, h7_54]
   repeat refine AI ?_
   refine hK' _ _ ?_
   clear hK' K'
   refine hwalk2_step (g := none) rfl rfl fun K' hK' => ?_
   simp (maxSteps := 4000000) only [sH, ↓sP, sA, tyS, simprocAttr, hm, Int.natCast_nonneg, Int.ofNat_lt, hi1, nth_map hi1, h1_10, h1_14, h1_19, h1_26, h1_32, h1_38, h7_54]
   repeat refine AI ?_
   refine hK' _ _ ?_
   clear hK' K'
   simp only [sE, ↓reduceIte, simprocAttr]
   repeat refine AI ?_
   refine hK _ _ _ ?_
   clear hK K
   refine hw_cond (b := true) rfl (fun hb => ?_) (fun hb => ?_)
   ·
    refine hw_seq fun K hK => hw_region (by kernel_rfl) ?_
    simp (maxSteps := 4000000) only [↓sP, sA, tyS, simprocAttr]
    repeat refine AI ?_
    refine hK _ _ _ ?_
    clear hK K
    refine hw_ret ?_
    simp (maxSteps := 4000000) only [hpost, Tryz.results24, hresL, hres1, tupOf, ↓sP, sA, tyS, simprocAttr]
    have hbad : quotasB r.q = false := by rw [quotasB_eq, bad_one hlt (by simp only [quotaB_code, h1_10, h1_14, h1_19, h1_26, h1_32, h1_38, h7_54, Bool.not_true, Bool.not_false, Bool.false_and, Bool.and_false]), Bool.false_and]
    exact hret_pure [] (.bool false) rfl (by simp only [valid_ref, hbad, Bool.and_false, Bool.false_and])
   cases hb
  refine hw_exit ?_
  simp (maxSteps := 4000000) only [↓sP, sA, tyS, simprocAttr]
  clear hK K
  repeat refine AI ?_
  refine hK _ _ _ ?_
  clear hK K
  refine hw_seq fun K hK => ?_
  refine hw_seq fun K hK => hw_region (by kernel_rfl) ?_
  simp (maxSteps := 4000000) only [↓sP, sA, tyS, simprocAttr]
  repeat refine AI ?_
  refine hK _ _ _ ?_
  clear hK K
  refine hw_block ?_
  have hei : i = r.q.length := by simp at hb; omega
  subst hei
  have hq := quotasB_ok h1_26 h0
  clear hb h0 hi
  refine hw_loop (α := {i : Nat // i ≤ r.k.length ∧ GoodTo keyB (fun a b => dlt (kid a) (kid b)) r.k i}) (fun i => (fin [(1, .ptr 0 0), (5, .c (.int .i64 i.1))], fob [(0, .box 30 (.c r.cv))])) 300 (fun i => r.k.length - i.1) ⟨0, by omega, GoodTo.zero⟩ (fits_fin (by omega) (by simp [FinOk, fin_at, finA_at, upd_at, HV.men, HV.menL, HV.norm, HV.toC, HV.toCL]) (by simp [FobOk, fob_at, upd_at, none0_at, gone, HO.men, HV.men, HV.menL, HV.norm, HV.toC, HV.toCL])) ?_
  rintro ⟨i, hi, h0⟩
  refine hw_seq fun K hK => ?_
  refine hw_seq fun K hK => hw_region (by kernel_rfl) ?_
  simp only [sR, simprocAttr]
  iterate 5
   (refine hlex_step (g := none) rfl rfl fun K' hK' => ?_; simp only [sH, ↓sP, sA, tyS, simprocAttr, h1_10, h1_14, h1_19, h1_26, h1_32, h1_38]; (repeat refine AI ?_); refine hK' _ _ ?_; clear hK' K')
  simp only [sE, ↓reduceIte, simprocAttr]
  repeat refine AI ?_
  refine hK _ _ _ ?_
  clear hK K
  refine hw_cond (b := decide ((i : Int) < r.k.length)) rfl (fun hb => ?_) (fun hb => ?_)
  ·
   have hlt : i < r.k.length := by simpa using hb
   have hk := hr.2.1.2 _ (List.getElem_mem hlt)
   have hi1 : i - 1 < r.k.length := by omega
   have hm : decide ((0 : Int) < (i : Int)) = true → IntKind.i64.wrap ((i : Int) - 1) = ((i - 1 : Nat) : Int) := fun h => by
    have : 0 < i := by simpa using h
    rw [IntWalk.i64_in _ (by omega)]; omega
   refine hw_skip ?_
   simp (maxSteps := 4000000) only [↓sP, sA, tyS, simprocAttr]
   repeat refine AI ?_
   refine hK _ _ _ ?_
   clear hK K
   refine hw_seq fun K hK => ?_
   refine hw_block ?_
   refine hw_seq fun K hK => hw_draw2 mixed [(0, [], []), (1, [], []), (2, [], []), (3, [], []), (4, [], []), (5, [], []), (6, [], []), (7, [], []), (8, [], []), (9, [], []), (10, [], []), (11, [], []), (12, [], []), (13, [], []), (14, [], []), (15, [], []), (16, [], []), (17, [], []), (19, [], []), (20, [], []), (21, [], []), (22, [], []), (23, [], []), (24, [], []), (18, [], [19, 20, 21, 22, 23, 24]), (25, [], []), (26, [], []), (27, [], []), (28, [], []), (29, [], [])] [0, 1, 0, 7, 15, 31, 63, 127, 255, 511, 1023, 2047, 4095, 2047, 10239, 32767, 65535, 131071, 262143, 2047, 526335, 2047, 3672063, 7866367, 16254975, 33554431, 67108863, 134217727, 268435455, 536870911] (by kernel_rfl) (by kernel_rfl) (by kernel_rfl) (by kernel_rfl) rfl (by kernel_rfl) ?_
   iterate 5
    (refine hwalk2_step (g := none) rfl rfl fun K' hK' => ?_; simp only [sH, ↓sP, sA, tyS, simprocAttr, hm, Int.natCast_nonneg, Int.ofNat_lt, hlt, nth_map hlt, hi1, nth_map hi1, h1_10, h1_14, h1_19, h1_26, h1_32, h1_38]; (repeat refine AI ?_); refine hK' _ _ ?_; clear hK' K')
   refine hwalk2_step (g := none) rfl rfl fun K' hK' => ?_
   simp (maxSteps := 4000000) only [sH, ↓sP, sA, tyS, simprocAttr, hm, Int.natCast_nonneg, Int.ofNat_lt, hlt, nth_map hlt, hi1, nth_map hi1, h1_10, h1_14, h1_19, h1_26, h1_32, h1_38]
   refine call_pure (args := [_]) (rkey_ok r.k[i] hk) ⟨rfl, rfl, rfl, rfl⟩ ?_
   rintro u rfl
   repeat refine AI ?_
   refine hK' _ _ ?_
   clear hK' K'
   iterate 2
    (refine hwalk2_step (g := none) rfl rfl fun K' hK' => ?_; simp only [sH, ↓sP, sA, tyS, simprocAttr, hm, Int.natCast_nonneg, Int.ofNat_lt, hlt, nth_map hlt, hi1, nth_map hi1, h1_10, h1_14, h1_19, h1_26, h1_32, h1_38]; (repeat refine AI ?_); refine hK' _ _ ?_; clear hK' K')
   refine hwalk2_cases 94 rfl (fun h12_94 => ?_) (fun h12_94 => ?_)
   ·
    iterate 3
     (refine hwalk2_step (g := some (96, false)) rfl rfl fun K' hK' => ?_; simp only [sH, ↓sP, sA, tyS, simprocAttr, hm, Int.natCast_nonneg, Int.ofNat_lt, hlt, nth_map hlt, hi1, nth_map hi1, h1_10, h1_14, h1_19, h1_26, h1_32, h1_38, h12_94]; (repeat refine AI ?_); refine hK' _ _ ?_; clear hK' K')
    refine hwalk2_cases 98 rfl (fun h12_98 => ?_) (fun h12_98 => ?_)
    ·
     iterate 13
      (refine hwalk2_step (g := some (99, true)) rfl rfl fun K' hK' => ?_; simp only [sH, ↓sP, sA, tyS, simprocAttr, hm, Int.natCast_nonneg, Int.ofNat_lt, hlt, nth_map hlt, hi1, nth_map hi1, h1_10, h1_14, h1_19, h1_26, h1_32, h1_38, h12_94, h12_98]; (repeat refine AI ?_); refine hK' _ _ ?_; clear hK' K')
     refine hwalk2_step (g := some (99, true)) rfl rfl fun K' hK' => ?_
     simp (maxSteps := 4000000) only [sH, ↓sP, sA, tyS, simprocAttr, hm, Int.natCast_nonneg, Int.ofNat_lt, hlt, nth_map hlt, hi1, nth_map hi1, h1_10, h1_14, h1_19, h1_26, h1_32, h1_38, h12_94, h12_98]
     refine call_pure (args := [_]) (rid_ok r.k[i - 1].p) ⟨rfl, rfl, rfl, rfl⟩ ?_
     rintro u rfl
     repeat refine AI ?_
     refine hK' _ _ ?_
     clear hK' K'
     refine hwalk2_step (g := some (99, true)) rfl rfl fun K' hK' => ?_
     simp (maxSteps := 4000000) only [sH, ↓sP, sA, tyS, simprocAttr, hm, Int.natCast_nonneg, Int.ofNat_lt, hlt, nth_map hlt, hi1, nth_map hi1, h1_10, h1_14, h1_19, h1_26, h1_32, h1_38, h12_94, h12_98]
     refine call_pure (args := [_]) (rid_ok r.k[i].p) ⟨rfl, rfl, rfl, rfl⟩ ?_
     rintro u rfl
     repeat refine AI ?_
     refine hK' _ _ ?_
     clear hK' K'
     refine hwalk2_step (g := some (99, true)) rfl rfl fun K' hK' => ?_
     simp (maxSteps := 4000000) only [sH, ↓sP, sA, tyS, simprocAttr, hm, Int.natCast_nonneg, Int.ofNat_lt, hlt, nth_map hlt, hi1, nth_map hi1, h1_10, h1_14, h1_19, h1_26, h1_32, h1_38, h12_94, h12_98]
     refine call_pure (args := [_, _]) (less_ok (pid r.k[i - 1].p) (pid r.k[i].p)) ⟨rfl, rfl, rfl, rfl⟩ ?_
     rintro u rfl
     repeat refine AI ?_
     refine hK' _ _ ?_
     clear hK' K'
     refine hwalk2_step (g := some (99, true)) rfl rfl fun K' hK' => ?_
     simp (maxSteps := 4000000) only [sH, ↓sP, sA, tyS, simprocAttr, hm, Int.natCast_nonneg, Int.ofNat_lt, hlt, nth_map hlt, hi1, nth_map hi1, h1_10, h1_14, h1_19, h1_26, h1_32, h1_38, h12_94, h12_98]
     repeat refine AI ?_
     refine hK' _ _ ?_
     clear hK' K'
     refine hwalk2_step (g := some (96, false)) rfl rfl fun K' hK' => ?_
     simp (maxSteps := 4000000) only [sH, ↓sP, sA, tyS, simprocAttr, hm, Int.natCast_nonneg, Int.ofNat_lt, hlt, nth_map hlt, hi1, nth_map hi1, h1_10, h1_14, h1_19, h1_26, h1_32, h1_38, h12_94, h12_98]
     repeat refine AI ?_
     refine hK' _ _ ?_
     clear hK' K'
     refine hwalk2_step (g := none) rfl rfl fun K' hK' => ?_
     simp (maxSteps := 4000000) only [sH, ↓sP, sA, tyS, simprocAttr, hm, Int.natCast_nonneg, Int.ofNat_lt, hlt, nth_map hlt, hi1, nth_map hi1, h1_10, h1_14, h1_19, h1_26, h1_32, h1_38, h12_94, h12_98]
     repeat refine AI ?_
     refine hK' _ _ ?_
     clear hK' K'
     refine hwalk2_cases 115 rfl (fun h12_115 => ?_) (fun h12_115 => ?_)
     ·
      simp only [h12_115]
      simp only [sE, ↓reduceIte, simprocAttr]
      repeat refine AI ?_
      refine hK _ _ _ ?_
      clear hK K
      refine hw_cond (b := false) rfl (fun hb => ?_) (fun hb => ?_)
      ·
       cases hb
      refine hw_skip ?_
      simp (maxSteps := 4000000) only [↓sP, sA, tyS, simprocAttr]
      repeat refine AI ?_
      refine hK _ _ _ ?_
      clear hK K
      refine hw_region (by kernel_rfl) ?_
      simp (maxSteps := 4000000) only [↓sP, sA, tyS, simprocAttr, IntWalk.i64_in _ (show -9223372036854775808 ≤ (i : Int) + 1 ∧ (i : Int) + 1 ≤ 9223372036854775807 by omega)]
      obtain ⟨j, rfl⟩ : ∃ j, i = j + 1 := ⟨i - 1, by simp at h12_98; omega⟩
      refine ⟨⟨j + 1 + 1, hlt, h0.succ hlt (h12_94) (h12_115)⟩, fits_fin (by omega) (by simp [FinOk, fin_at, finA_at, upd_at, HV.men, HV.menL, HV.norm, HV.toC, HV.toCL]) (by simp [FobOk, fob_at, upd_at, none0_at, gone, HO.men, HV.men, HV.menL, HV.norm, HV.toC, HV.toCL]), ?_⟩
      show r.k.length - (j + 1 + 1) < r.k.length - (j + 1)
      omega
     simp only [h12_115]
     simp only [sE, ↓reduceIte, simprocAttr]
     repeat refine AI ?_
     refine hK _ _ _ ?_
     clear hK K
     refine hw_cond (b := true) rfl (fun hb => ?_) (fun hb => ?_)
     ·
      refine hw_seq fun K hK => hw_region (by kernel_rfl) ?_
      simp (maxSteps := 4000000) only [↓sP, sA, tyS, simprocAttr]
      repeat refine AI ?_
      refine hK _ _ _ ?_
      clear hK K
      refine hw_ret ?_
      simp (maxSteps := 4000000) only [hpost, Tryz.results24, hresL, hres1, tupOf, ↓sP, sA, tyS, simprocAttr]
      obtain ⟨j, rfl⟩ : ∃ j, i = j + 1 := ⟨i - 1, by simp at h12_98; omega⟩
      have hbad : keysB r.k = false := by rw [keysB_eq, bad_two (i := j) hlt h12_115, Bool.false_and]
      exact hret_pure [] (.bool false) rfl (by simp only [valid_ref, hbad, Bool.and_false, Bool.false_and])
     cases hb
    iterate 17
     (refine hwalk2_step (g := some (99, true)) rfl rfl fun K' hK' => ?_; simp only [sH, ↓sP, sA, tyS, simprocAttr, hm, Int.natCast_nonneg, Int.ofNat_lt, hlt, nth_map hlt, hi1, nth_map hi1, h1_10, h1_14, h1_19, h1_26, h1_32, h1_38, h12_94, h12_98]; (repeat refine AI ?_); refine hK' _ _ ?_; clear hK' K')
    refine hwalk2_step (g := some (96, false)) rfl rfl fun K' hK' => ?_
    simp (maxSteps := 4000000) only [sH, ↓sP, sA, tyS, simprocAttr, hm, Int.natCast_nonneg, Int.ofNat_lt, hlt, nth_map hlt, hi1, nth_map hi1, h1_10, h1_14, h1_19, h1_26, h1_32, h1_38, h12_94, h12_98]
    repeat refine AI ?_
    refine hK' _ _ ?_
    clear hK' K'
    refine hwalk2_step (g := none) rfl rfl fun K' hK' => ?_
    simp (maxSteps := 4000000) only [sH, ↓sP, sA, tyS, simprocAttr, hm, Int.natCast_nonneg, Int.ofNat_lt, hlt, nth_map hlt, hi1, nth_map hi1, h1_10, h1_14, h1_19, h1_26, h1_32, h1_38, h12_94, h12_98]
    repeat refine AI ?_
    refine hK' _ _ ?_
    clear hK' K'
    simp only [sE, ↓reduceIte, simprocAttr]
    repeat refine AI ?_
    refine hK _ _ _ ?_
    clear hK K
    refine hw_cond (b := false) rfl (fun hb => ?_) (fun hb => ?_)
    ·
     cases hb
    refine hw_skip ?_
    simp (maxSteps := 4000000) only [↓sP, sA, tyS, simprocAttr]
    repeat refine AI ?_
    refine hK _ _ _ ?_
    clear hK K
    refine hw_region (by kernel_rfl) ?_
    simp (maxSteps := 4000000) only [↓sP, sA, tyS, simprocAttr, IntWalk.i64_in _ (show -9223372036854775808 ≤ (i : Int) + 1 ∧ (i : Int) + 1 ≤ 9223372036854775807 by omega)]
    obtain rfl : i = 0 := by simp at h12_98; omega
    refine ⟨⟨1, hlt, GoodTo.one hlt (h12_94)⟩, fits_fin (by omega) (by simp [FinOk, fin_at, finA_at, upd_at, HV.men, HV.menL, HV.norm, HV.toC, HV.toCL]) (by simp [FobOk, fob_at, upd_at, none0_at, gone, HO.men, HV.men, HV.menL, HV.norm, HV.toC, HV.toCL]), ?_⟩
    show r.k.length - 1 < r.k.length - 0
    omega
   iterate 3
    (refine hwalk2_step (g := some (96, false)) rfl rfl fun K' hK' => ?_; simp only [sH, ↓sP, sA, tyS, simprocAttr, hm, Int.natCast_nonneg, Int.ofNat_lt, hlt, nth_map hlt, hi1, nth_map hi1, h1_10, h1_14, h1_19, h1_26, h1_32, h1_38, h12_94]; (repeat refine AI ?_); refine hK' _ _ ?_; clear hK' K')
   iterate 17
    (refine hwalk2_step (g := some (99, true)) rfl rfl fun K' hK' => ?_; simp only [sH, ↓sP, sA, tyS, simprocAttr, hm, Int.natCast_nonneg, Int.ofNat_lt, hlt, nth_map hlt, hi1, nth_map hi1, h1_10, h1_14, h1_19, h1_26, h1_32, h1_38, h12_94]; (repeat refine AI ?_); refine hK' _ _ ?_; clear hK' K')
   refine hwalk2_step (g := some (96, false)) rfl rfl fun K' hK' => ?_
   simp (maxSteps := 4000000) only [sH, ↓sP, sA, tyS, simprocAttr, hm, Int.natCast_nonneg, Int.ofNat_lt, hlt, nth_map hlt, hi1, nth_map hi1, h1_10, h1_14, h1_19, h1_26, h1_32, h1_38, h12_94]
   repeat refine AI ?_
   refine hK' _ _ ?_
   clear hK' K'
   refine hwalk2_step (g := none) rfl rfl fun K' hK' => ?_
   simp (maxSteps := 4000000) only [sH, ↓sP, sA, tyS, simprocAttr, hm, Int.natCast_nonneg, Int.ofNat_lt, hlt, nth_map hlt, hi1, nth_map hi1, h1_10, h1_14, h1_19, h1_26, h1_32, h1_38, h12_94]
   repeat refine AI ?_
   refine hK' _ _ ?_
   clear hK' K'
   simp only [sE, ↓reduceIte, simprocAttr]
   repeat refine AI ?_
   refine hK _ _ _ ?_
   clear hK K
   refine hw_cond (b := true) rfl (fun hb => ?_) (fun hb => ?_)
   ·
    refine hw_seq fun K hK => hw_region (by kernel_rfl) ?_
    simp (maxSteps := 4000000) only [↓sP, sA, tyS, simprocAttr]
    repeat refine AI ?_
    refine hK _ _ _ ?_
    clear hK K
    refine hw_ret ?_
    simp (maxSteps := 4000000) only [hpost, Tryz.results24, hresL, hres1, tupOf, ↓sP, sA, tyS, simprocAttr]
    have hbad : keysB r.k = false := by rw [keysB_eq, bad_one hlt h12_94, Bool.false_and]
    exact hret_pure [] (.bool false) rfl (by simp only [valid_ref, hbad, Bool.and_false, Bool.false_and])
   cases hb
  refine hw_exit ?_
  simp (maxSteps := 4000000) only [↓sP, sA, tyS, simprocAttr]
  clear hK K
  repeat refine AI ?_
  refine hK _ _ _ ?_
  clear hK K
  refine hw_seq fun K hK => ?_
  refine hw_seq fun K hK => hw_region (by kernel_rfl) ?_
  simp (maxSteps := 4000000) only [↓sP, sA, tyS, simprocAttr]
  repeat refine AI ?_
  refine hK _ _ _ ?_
  clear hK K
  refine hw_block ?_
  have hei : i = r.k.length := by simp at hb; omega
  subst hei
  have hkk := keysB_ok h1_32 h0
  clear hb h0 hi
  refine hw_loop (α := {i : Nat // i ≤ r.x.length ∧ GoodTo (fun x : Rv => inN x.t) (fun a b => dlt a.k b.k) r.x i}) (fun i => (fin [(1, .ptr 0 0), (6, .c (.int .i64 i.1))], fob [(0, .box 30 (.c r.cv))])) 400 (fun i => r.x.length - i.1) ⟨0, by omega, GoodTo.zero⟩ (fits_fin (by omega) (by simp [FinOk, fin_at, finA_at, upd_at, HV.men, HV.menL, HV.norm, HV.toC, HV.toCL]) (by simp [FobOk, fob_at, upd_at, none0_at, gone, HO.men, HV.men, HV.menL, HV.norm, HV.toC, HV.toCL])) ?_
  rintro ⟨i, hi, h0⟩
  refine hw_seq fun K hK => ?_
  refine hw_seq fun K hK => hw_region (by kernel_rfl) ?_
  simp only [sR, simprocAttr]
  iterate 5
   (refine hlex_step (g := none) rfl rfl fun K' hK' => ?_; simp only [sH, ↓sP, sA, tyS, simprocAttr, h1_10, h1_14, h1_19, h1_26, h1_32, h1_38]; (repeat refine AI ?_); refine hK' _ _ ?_; clear hK' K')
  simp only [sE, ↓reduceIte, simprocAttr]
  repeat refine AI ?_
  refine hK _ _ _ ?_
  clear hK K
  refine hw_cond (b := decide ((i : Int) < r.x.length)) rfl (fun hb => ?_) (fun hb => ?_)
  ·
   have hlt : i < r.x.length := by simpa using hb
   have hi1 : i - 1 < r.x.length := by omega
   have hm : decide ((0 : Int) < (i : Int)) = true → IntKind.i64.wrap ((i : Int) - 1) = ((i - 1 : Nat) : Int) := fun h => by
    have : 0 < i := by simpa using h
    rw [IntWalk.i64_in _ (by omega)]; omega
   refine hw_skip ?_
   simp (maxSteps := 4000000) only [↓sP, sA, tyS, simprocAttr]
   repeat refine AI ?_
   refine hK _ _ _ ?_
   clear hK K
   refine hw_seq fun K hK => ?_
   refine hw_block ?_
   refine hw_seq fun K hK => hw_draw2 mixed [(0, [], []), (1, [], []), (2, [], []), (3, [], []), (4, [], []), (5, [], []), (6, [], []), (7, [], []), (8, [], []), (9, [], []), (10, [], []), (11, [], []), (12, [], []), (13, [], []), (14, [], []), (15, [], []), (16, [], []), (17, [], []), (18, [], []), (19, [], []), (20, [], []), (21, [], []), (22, [], []), (23, [], []), (24, [], []), (25, [], []), (26, [], []), (27, [], []), (28, [], [])] [0, 1, 0, 7, 15, 31, 63, 127, 255, 511, 1023, 2047, 4095, 8191, 4095, 20479, 65535, 131071, 262143, 4095, 528383, 4095, 3674111, 7868415, 16257023, 33554431, 67108863, 134217727, 268435455] (by kernel_rfl) (by kernel_rfl) (by kernel_rfl) (by kernel_rfl) rfl (by kernel_rfl) ?_
   iterate 6
    (refine hwalk2_step (g := none) rfl rfl fun K' hK' => ?_; simp only [sH, ↓sP, sA, tyS, simprocAttr, hm, Int.natCast_nonneg, Int.ofNat_lt, hlt, nth_map hlt, hi1, nth_map hi1, h1_10, h1_14, h1_19, h1_26, h1_32, h1_38]; (repeat refine AI ?_); refine hK' _ _ ?_; clear hK' K')
   refine hwalk2_step (g := none) rfl rfl fun K' hK' => ?_
   simp (maxSteps := 4000000) only [sH, ↓sP, sA, tyS, simprocAttr, hm, Int.natCast_nonneg, Int.ofNat_lt, hlt, nth_map hlt, hi1, nth_map hi1, h1_10, h1_14, h1_19, h1_26, h1_32, h1_38]
   refine call_pure (args := [_]) (instant_ok r.x[i].t) ⟨rfl, rfl, rfl, rfl⟩ ?_
   rintro u rfl
   repeat refine AI ?_
   refine hK' _ _ ?_
   clear hK' K'
   iterate 2
    (refine hwalk2_step (g := none) rfl rfl fun K' hK' => ?_; simp only [sH, ↓sP, sA, tyS, simprocAttr, hm, Int.natCast_nonneg, Int.ofNat_lt, hlt, nth_map hlt, hi1, nth_map hi1, h1_10, h1_14, h1_19, h1_26, h1_32, h1_38]; (repeat refine AI ?_); refine hK' _ _ ?_; clear hK' K')
   refine hwalk2_cases 132 rfl (fun h17_132 => ?_) (fun h17_132 => ?_)
   ·
    iterate 3
     (refine hwalk2_step (g := some (134, false)) rfl rfl fun K' hK' => ?_; simp only [sH, ↓sP, sA, tyS, simprocAttr, hm, Int.natCast_nonneg, Int.ofNat_lt, hlt, nth_map hlt, hi1, nth_map hi1, h1_10, h1_14, h1_19, h1_26, h1_32, h1_38, h17_132]; (repeat refine AI ?_); refine hK' _ _ ?_; clear hK' K')
    refine hwalk2_cases 136 rfl (fun h17_136 => ?_) (fun h17_136 => ?_)
    ·
     iterate 13
      (refine hwalk2_step (g := some (137, true)) rfl rfl fun K' hK' => ?_; simp only [sH, ↓sP, sA, tyS, simprocAttr, hm, Int.natCast_nonneg, Int.ofNat_lt, hlt, nth_map hlt, hi1, nth_map hi1, h1_10, h1_14, h1_19, h1_26, h1_32, h1_38, h17_132, h17_136]; (repeat refine AI ?_); refine hK' _ _ ?_; clear hK' K')
     refine hwalk2_step (g := some (137, true)) rfl rfl fun K' hK' => ?_
     simp (maxSteps := 4000000) only [sH, ↓sP, sA, tyS, simprocAttr, hm, Int.natCast_nonneg, Int.ofNat_lt, hlt, nth_map hlt, hi1, nth_map hi1, h1_10, h1_14, h1_19, h1_26, h1_32, h1_38, h17_132, h17_136]
     refine call_pure (args := [_, _]) (less_ok r.x[i - 1].k r.x[i].k) ⟨rfl, rfl, rfl, rfl⟩ ?_
     rintro u rfl
     repeat refine AI ?_
     refine hK' _ _ ?_
     clear hK' K'
     refine hwalk2_step (g := some (137, true)) rfl rfl fun K' hK' => ?_
     simp (maxSteps := 4000000) only [sH, ↓sP, sA, tyS, simprocAttr, hm, Int.natCast_nonneg, Int.ofNat_lt, hlt, nth_map hlt, hi1, nth_map hi1, h1_10, h1_14, h1_19, h1_26, h1_32, h1_38, h17_132, h17_136]
     repeat refine AI ?_
     refine hK' _ _ ?_
     clear hK' K'
     refine hwalk2_step (g := some (134, false)) rfl rfl fun K' hK' => ?_
     simp (maxSteps := 4000000) only [sH, ↓sP, sA, tyS, simprocAttr, hm, Int.natCast_nonneg, Int.ofNat_lt, hlt, nth_map hlt, hi1, nth_map hi1, h1_10, h1_14, h1_19, h1_26, h1_32, h1_38, h17_132, h17_136]
     repeat refine AI ?_
     refine hK' _ _ ?_
     clear hK' K'
     refine hwalk2_step (g := none) rfl rfl fun K' hK' => ?_
     simp (maxSteps := 4000000) only [sH, ↓sP, sA, tyS, simprocAttr, hm, Int.natCast_nonneg, Int.ofNat_lt, hlt, nth_map hlt, hi1, nth_map hi1, h1_10, h1_14, h1_19, h1_26, h1_32, h1_38, h17_132, h17_136]
     repeat refine AI ?_
     refine hK' _ _ ?_
     clear hK' K'
     refine hwalk2_cases 151 rfl (fun h17_151 => ?_) (fun h17_151 => ?_)
     ·
      simp only [h17_151]
      simp only [sE, ↓reduceIte, simprocAttr]
      repeat refine AI ?_
      refine hK _ _ _ ?_
      clear hK K
      refine hw_cond (b := false) rfl (fun hb => ?_) (fun hb => ?_)
      ·
       cases hb
      refine hw_skip ?_
      simp (maxSteps := 4000000) only [↓sP, sA, tyS, simprocAttr]
      repeat refine AI ?_
      refine hK _ _ _ ?_
      clear hK K
      refine hw_region (by kernel_rfl) ?_
      simp (maxSteps := 4000000) only [↓sP, sA, tyS, simprocAttr, IntWalk.i64_in _ (show -9223372036854775808 ≤ (i : Int) + 1 ∧ (i : Int) + 1 ≤ 9223372036854775807 by omega)]
      obtain ⟨j, rfl⟩ : ∃ j, i = j + 1 := ⟨i - 1, by simp at h17_136; omega⟩
      refine ⟨⟨j + 1 + 1, hlt, h0.succ hlt (h17_132) (h17_151)⟩, fits_fin (by omega) (by simp [FinOk, fin_at, finA_at, upd_at, HV.men, HV.menL, HV.norm, HV.toC, HV.toCL]) (by simp [FobOk, fob_at, upd_at, none0_at, gone, HO.men, HV.men, HV.menL, HV.norm, HV.toC, HV.toCL]), ?_⟩
      show r.x.length - (j + 1 + 1) < r.x.length - (j + 1)
      omega
     simp only [h17_151]
     simp only [sE, ↓reduceIte, simprocAttr]
     repeat refine AI ?_
     refine hK _ _ _ ?_
     clear hK K
     refine hw_cond (b := true) rfl (fun hb => ?_) (fun hb => ?_)
     ·
      refine hw_seq fun K hK => hw_region (by kernel_rfl) ?_
      simp (maxSteps := 4000000) only [↓sP, sA, tyS, simprocAttr]
      repeat refine AI ?_
      refine hK _ _ _ ?_
      clear hK K
      refine hw_ret ?_
      simp (maxSteps := 4000000) only [hpost, Tryz.results24, hresL, hres1, tupOf, ↓sP, sA, tyS, simprocAttr]
      obtain ⟨j, rfl⟩ : ∃ j, i = j + 1 := ⟨i - 1, by simp at h17_136; omega⟩
      have hbad : revsB r.x = false := by rw [revsB_eq, bad_two (i := j) hlt h17_151, Bool.false_and]
      exact hret_pure [] (.bool false) rfl (by simp only [valid_ref, hbad, Bool.and_false, Bool.false_and])
     cases hb
    iterate 15
     (refine hwalk2_step (g := some (137, true)) rfl rfl fun K' hK' => ?_; simp only [sH, ↓sP, sA, tyS, simprocAttr, hm, Int.natCast_nonneg, Int.ofNat_lt, hlt, nth_map hlt, hi1, nth_map hi1, h1_10, h1_14, h1_19, h1_26, h1_32, h1_38, h17_132, h17_136]; (repeat refine AI ?_); refine hK' _ _ ?_; clear hK' K')
    refine hwalk2_step (g := some (134, false)) rfl rfl fun K' hK' => ?_
    simp (maxSteps := 4000000) only [sH, ↓sP, sA, tyS, simprocAttr, hm, Int.natCast_nonneg, Int.ofNat_lt, hlt, nth_map hlt, hi1, nth_map hi1, h1_10, h1_14, h1_19, h1_26, h1_32, h1_38, h17_132, h17_136]
    repeat refine AI ?_
    refine hK' _ _ ?_
    clear hK' K'
    refine hwalk2_step (g := none) rfl rfl fun K' hK' => ?_
    simp (maxSteps := 4000000) only [sH, ↓sP, sA, tyS, simprocAttr, hm, Int.natCast_nonneg, Int.ofNat_lt, hlt, nth_map hlt, hi1, nth_map hi1, h1_10, h1_14, h1_19, h1_26, h1_32, h1_38, h17_132, h17_136]
    repeat refine AI ?_
    refine hK' _ _ ?_
    clear hK' K'
    simp only [sE, ↓reduceIte, simprocAttr]
    repeat refine AI ?_
    refine hK _ _ _ ?_
    clear hK K
    refine hw_cond (b := false) rfl (fun hb => ?_) (fun hb => ?_)
    ·
     cases hb
    refine hw_skip ?_
    simp (maxSteps := 4000000) only [↓sP, sA, tyS, simprocAttr]
    repeat refine AI ?_
    refine hK _ _ _ ?_
    clear hK K
    refine hw_region (by kernel_rfl) ?_
    simp (maxSteps := 4000000) only [↓sP, sA, tyS, simprocAttr, IntWalk.i64_in _ (show -9223372036854775808 ≤ (i : Int) + 1 ∧ (i : Int) + 1 ≤ 9223372036854775807 by omega)]
    obtain rfl : i = 0 := by simp at h17_136; omega
    refine ⟨⟨1, hlt, GoodTo.one hlt (h17_132)⟩, fits_fin (by omega) (by simp [FinOk, fin_at, finA_at, upd_at, HV.men, HV.menL, HV.norm, HV.toC, HV.toCL]) (by simp [FobOk, fob_at, upd_at, none0_at, gone, HO.men, HV.men, HV.menL, HV.norm, HV.toC, HV.toCL]), ?_⟩
    show r.x.length - 1 < r.x.length - 0
    omega
   iterate 3
    (refine hwalk2_step (g := some (134, false)) rfl rfl fun K' hK' => ?_; simp only [sH, ↓sP, sA, tyS, simprocAttr, hm, Int.natCast_nonneg, Int.ofNat_lt, hlt, nth_map hlt, hi1, nth_map hi1, h1_10, h1_14, h1_19, h1_26, h1_32, h1_38, h17_132]; (repeat refine AI ?_); refine hK' _ _ ?_; clear hK' K')
   iterate 15
    (refine hwalk2_step (g := some (137, true)) rfl rfl fun K' hK' => ?_; simp only [sH, ↓sP, sA, tyS, simprocAttr, hm, Int.natCast_nonneg, Int.ofNat_lt, hlt, nth_map hlt, hi1, nth_map hi1, h1_10, h1_14, h1_19, h1_26, h1_32, h1_38, h17_132]; (repeat refine AI ?_); refine hK' _ _ ?_; clear hK' K')
   refine hwalk2_step (g := some (134, false)) rfl rfl fun K' hK' => ?_
   simp (maxSteps := 4000000) only [sH, ↓sP, sA, tyS, simprocAttr, hm, Int.natCast_nonneg, Int.ofNat_lt, hlt, nth_map hlt, hi1, nth_map hi1, h1_10, h1_14, h1_19, h1_26, h1_32, h1_38, h17_132]
   repeat refine AI ?_
   refine hK' _ _ ?_
   clear hK' K'
   refine hwalk2_step (g := none) rfl rfl fun K' hK' => ?_
   simp (maxSteps := 4000000) only [sH, ↓sP, sA, tyS, simprocAttr, hm, Int.natCast_nonneg, Int.ofNat_lt, hlt, nth_map hlt, hi1, nth_map hi1, h1_10, h1_14, h1_19, h1_26, h1_32, h1_38, h17_132]
   repeat refine AI ?_
   refine hK' _ _ ?_
   clear hK' K'
   simp only [sE, ↓reduceIte, simprocAttr]
   repeat refine AI ?_
   refine hK _ _ _ ?_
   clear hK K
   refine hw_cond (b := true) rfl (fun hb => ?_) (fun hb => ?_)
   ·
    refine hw_seq fun K hK => hw_region (by kernel_rfl) ?_
    simp (maxSteps := 4000000) only [↓sP, sA, tyS, simprocAttr]
    repeat refine AI ?_
    refine hK _ _ _ ?_
    clear hK K
    refine hw_ret ?_
    simp (maxSteps := 4000000) only [hpost, Tryz.results24, hresL, hres1, tupOf, ↓sP, sA, tyS, simprocAttr]
    have hbad : revsB r.x = false := by rw [revsB_eq, bad_one hlt h17_132, Bool.false_and]
    exact hret_pure [] (.bool false) rfl (by simp only [valid_ref, hbad, Bool.and_false, Bool.false_and])
   cases hb
  refine hw_exit ?_
  simp (maxSteps := 4000000) only [↓sP, sA, tyS, simprocAttr]
  clear hK K
  repeat refine AI ?_
  refine hK _ _ _ ?_
  clear hK K
  have hei : i = r.x.length := by simp at hb; omega
  subst hei
  have hxx := revsB_ok h1_38 h0
  clear hb h0 hi
  refine hw_seq fun K hK => hw_region (by kernel_rfl) ?_
  simp only [sR, simprocAttr]
  refine hlex_step (g := none) rfl rfl fun K' hK' => ?_
  simp (maxSteps := 4000000) only [sH, ↓sP, sA, tyS, simprocAttr, h1_10, h1_14, h1_19, h1_26, h1_32, h1_38]
  repeat refine AI ?_
  refine hK' _ _ ?_
  clear hK' K'
  refine hlex_step (g := none) rfl rfl fun K' hK' => ?_
  simp (maxSteps := 4000000) only [sH, ↓sP, sA, tyS, simprocAttr, h1_10, h1_14, h1_19, h1_26, h1_32, h1_38]
  refine call_pure (args := [_, _]) (quota_ok r wRoot hlq) ⟨rfl, rfl, rfl, rfl⟩ ?_
  rintro u rfl
  repeat refine AI ?_
  refine hK' _ _ ?_
  clear hK' K'
  refine hlex_step (g := none) rfl rfl fun K' hK' => ?_
  simp (maxSteps := 4000000) only [sH, ↓sP, sA, tyS, simprocAttr, h1_10, h1_14, h1_19, h1_26, h1_32, h1_38]
  repeat refine AI ?_
  refine hK' _ _ ?_
  clear hK' K'
  simp only [sE, ↓reduceIte, simprocAttr]
  repeat refine AI ?_
  refine hK _ _ _ ?_
  clear hK K
  refine hw_seq fun K hK => hw_region (by kernel_rfl) ?_
  simp only [sR, simprocAttr]
  iterate 3
   (refine hlex_step (g := none) rfl rfl fun K' hK' => ?_; simp only [sH, ↓sP, sA, tyS, simprocAttr, h1_10, h1_14, h1_19, h1_26, h1_32, h1_38]; (repeat refine AI ?_); refine hK' _ _ ?_; clear hK' K')
  refine hlex_cases 158 rfl (fun h20_158 => ?_) (fun h20_158 => ?_)
  ·
   refine hlex_step (g := some (159, true)) rfl rfl fun K' hK' => ?_
   simp (maxSteps := 4000000) only [sH, ↓sP, sA, tyS, simprocAttr, h1_10, h1_14, h1_19, h1_26, h1_32, h1_38, h20_158]
   repeat refine AI ?_
   refine hK' _ _ ?_
   clear hK' K'
   refine hlex_step (g := some (159, true)) rfl rfl fun K' hK' => ?_
   simp (maxSteps := 4000000) only [sH, ↓sP, sA, tyS, simprocAttr, h1_10, h1_14, h1_19, h1_26, h1_32, h1_38, h20_158]
   refine call_pure (args := [_, _]) (rowners_ok r wRoot hr) ⟨rfl, rfl, rfl, rfl⟩ ?_
   rintro u rfl
   repeat refine AI ?_
   refine hK' _ _ ?_
   clear hK' K'
   iterate 3
    (refine hlex_step (g := some (159, true)) rfl rfl fun K' hK' => ?_; simp only [sH, ↓sP, sA, tyS, simprocAttr, h1_10, h1_14, h1_19, h1_26, h1_32, h1_38, h20_158]; (repeat refine AI ?_); refine hK' _ _ ?_; clear hK' K')
   iterate 2
    (refine hlex_step (g := none) rfl rfl fun K' hK' => ?_; simp only [sH, ↓sP, sA, tyS, simprocAttr, h1_10, h1_14, h1_19, h1_26, h1_32, h1_38, h20_158]; (repeat refine AI ?_); refine hK' _ _ ?_; clear hK' K')
   refine hlex_cases 164 rfl (fun h20_164 => ?_) (fun h20_164 => ?_)
   ·
    simp only [h20_164]
    simp only [sE, ↓reduceIte, simprocAttr]
    repeat refine AI ?_
    refine hK _ _ _ ?_
    clear hK K
    refine hw_ret ?_
    simp (maxSteps := 4000000) only [hpost, Tryz.results24, hresL, hres1, tupOf, ↓sP, sA, tyS, simprocAttr]
    exact hret_pure [] (.bool true) rfl (by simp only [valid_ref, hq, hkk, hxx, h1_10, h1_14, h1_19, h1_26, h1_32, h1_38, h20_158, h20_164, Bool.not_true, Bool.not_false, Bool.and_true, Bool.and_false, Bool.true_and, Bool.false_and])
   simp only [h20_164]
   simp only [sE, ↓reduceIte, simprocAttr]
   repeat refine AI ?_
   refine hK _ _ _ ?_
   clear hK K
   refine hw_ret ?_
   simp (maxSteps := 4000000) only [hpost, Tryz.results24, hresL, hres1, tupOf, ↓sP, sA, tyS, simprocAttr]
   exact hret_pure [] (.bool false) rfl (by simp only [valid_ref, hq, hkk, hxx, h1_10, h1_14, h1_19, h1_26, h1_32, h1_38, h20_158, h20_164, Bool.not_true, Bool.not_false, Bool.and_true, Bool.and_false, Bool.true_and, Bool.false_and])
  iterate 5
   (refine hlex_step (g := some (159, true)) rfl rfl fun K' hK' => ?_; simp only [sH, ↓sP, sA, tyS, simprocAttr, h1_10, h1_14, h1_19, h1_26, h1_32, h1_38, h20_158]; (repeat refine AI ?_); refine hK' _ _ ?_; clear hK' K')
  iterate 2
   (refine hlex_step (g := none) rfl rfl fun K' hK' => ?_; simp only [sH, ↓sP, sA, tyS, simprocAttr, h1_10, h1_14, h1_19, h1_26, h1_32, h1_38, h20_158]; (repeat refine AI ?_); refine hK' _ _ ?_; clear hK' K')
  simp only [sE, ↓reduceIte, simprocAttr]
  repeat refine AI ?_
  refine hK _ _ _ ?_
  clear hK K
  refine hw_ret ?_
  simp (maxSteps := 4000000) only [hpost, Tryz.results24, hresL, hres1, tupOf, ↓sP, sA, tyS, simprocAttr]
  exact hret_pure [] (.bool false) rfl (by simp only [valid_ref, hq, hkk, hxx, h1_10, h1_14, h1_19, h1_26, h1_32, h1_38, h20_158, Bool.not_true, Bool.not_false, Bool.and_true, Bool.and_false, Bool.true_and, Bool.false_and])
 iterate 4
  (refine hlex_step (g := some (22, false)) rfl rfl fun K' hK' => ?_; simp only [sH, ↓sP, sA, tyS, simprocAttr, h1_10, h1_14, h1_19]; (repeat refine AI ?_); refine hK' _ _ ?_; clear hK' K')
 iterate 2
  (refine hlex_step (g := none) rfl rfl fun K' hK' => ?_; simp only [sH, ↓sP, sA, tyS, simprocAttr, h1_10, h1_14, h1_19]; (repeat refine AI ?_); refine hK' _ _ ?_; clear hK' K')
 iterate 4
  (refine hlex_step (g := some (28, false)) rfl rfl fun K' hK' => ?_; simp only [sH, ↓sP, sA, tyS, simprocAttr, h1_10, h1_14, h1_19]; (repeat refine AI ?_); refine hK' _ _ ?_; clear hK' K')
 iterate 2
  (refine hlex_step (g := none) rfl rfl fun K' hK' => ?_; simp only [sH, ↓sP, sA, tyS, simprocAttr, h1_10, h1_14, h1_19]; (repeat refine AI ?_); refine hK' _ _ ?_; clear hK' K')
 iterate 4
  (refine hlex_step (g := some (34, false)) rfl rfl fun K' hK' => ?_; simp only [sH, ↓sP, sA, tyS, simprocAttr, h1_10, h1_14, h1_19]; (repeat refine AI ?_); refine hK' _ _ ?_; clear hK' K')
 refine hlex_step (g := none) rfl rfl fun K' hK' => ?_
 simp (maxSteps := 4000000) only [sH, ↓sP, sA, tyS, simprocAttr, h1_10, h1_14, h1_19]
 repeat refine AI ?_
 refine hK' _ _ ?_
 clear hK' K'
 simp only [sE, ↓reduceIte, simprocAttr]
 repeat refine AI ?_
 refine hK _ _ _ ?_
 clear hK K
 refine hw_cond (b := true) rfl (fun hb => ?_) (fun hb => ?_)
 ·
  refine hw_seq fun K hK => hw_region (by kernel_rfl) ?_
  simp (maxSteps := 4000000) only [↓sP, sA, tyS, simprocAttr]
  repeat refine AI ?_
  refine hK _ _ _ ?_
  clear hK K
  refine hw_ret ?_
  simp (maxSteps := 4000000) only [hpost, Tryz.results24, hresL, hres1, tupOf, ↓sP, sA, tyS, simprocAttr]
  exact hret_pure [] (.bool false) rfl (by simp only [valid_ref, quotasB_big, keysB_big, revsB_big, h1_10, h1_14, h1_19, Bool.not_true, Bool.not_false, Bool.and_true, Bool.and_false, Bool.true_and, Bool.false_and])
 cases hb

end Go.Proofs.YtenbfeemmpjdhaaGreat
