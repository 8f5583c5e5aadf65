/- Part of a proof: walks of functions of the program, by contracts, and the rules they use. By an AI agent. -/
import Derived.Test.YtenbfeemmpjdhaaGreatHxT5
import Derived.Test.YtenbfeemmpjdhaaGreatHxSb
set_option linter.unusedSimpArgs false
set_option linter.unusedVariables false
set_option linter.defProp false
namespace Go.Proofs.YtenbfeemmpjdhaaGreat
open Go Go.Hl Go.Pl
set_option maxRecDepth 10000
set_option maxHeartbeats 4000000
set_option linter.unusedSimpArgs false
set_option linter.unusedVariables false

theorem quotas_ok (l : List Qt) (hl : l.length < 2 ^ 40) (hw : ∀ q ∈ l, q.r.length < 2 ^ 63) : HPure Tryz.prog 55 [.slc (l.map Qt.cv)] (fun v => v = .bool (quotasB l)) := by
 refine hfn_walk Tryz.func55 rfl (by kernel_rfl) (locOk_nil _) (Nat.le_of_ble_eq_true rfl) ?_
 refine hw_seq fun K hK => hw_region (by kernel_rfl) ?_
 simp (maxSteps := 4000000) only [↓sP, sA, tyS, simprocAttr]
 repeat refine AI ?_
 refine hK _ _ _ ?_
 clear hK K
 refine hw_seq fun K hK => ?_
 refine hw_seq fun K hK => hw_region (by kernel_rfl) ?_
 simp (maxSteps := 4000000) only [↓sP, sA, tyS, simprocAttr]
 repeat refine AI ?_
 refine hK _ _ _ ?_
 clear hK K
 refine hw_block ?_
 refine hw_loop (α := {i : Nat // i ≤ l.length ∧ GoodTo quotaB (fun a b => slt a.r b.r) l i}) (fun i => (fin [(0, .c (.slc (l.map Qt.cv))), (5, .c (.slc (l.map Qt.cv))), (6, .c (.int .i64 l.length)), (7, .c (.int .i64 i.1))], fob [])) 100 (fun i => l.length - i.1) ⟨0, by omega, GoodTo.zero⟩ (fits_fin (by omega) (by simp [FinOk, fin_at, finA_at, upd_at, HV.men, HV.menL, HV.norm, HV.toC, HV.toCL]) (by simp [FobOk, fob_at, upd_at, none0_at, gone, HO.men, HV.men, HV.menL, HV.norm, HV.toC, HV.toCL])) ?_
 rintro ⟨i, hi, h0⟩
 refine hw_seq fun K hK => hw_region (by kernel_rfl) ?_
 simp (maxSteps := 4000000) only [↓sP, sA, tyS, simprocAttr]
 repeat refine AI ?_
 refine hK _ _ _ ?_
 clear hK K
 refine hw_seq fun K hK => ?_
 refine hw_cond (b := decide ((i : Int) < l.length)) rfl (fun hb => ?_) (fun hb => ?_)
 ·
  have hlt : i < l.length := by simpa using hb
  have hi1 : i - 1 < l.length := by omega
  have hm : decide ((0 : Int) < (i : Int)) = true → IntKind.i64.wrap ((i : Int) - 1) = ((i - 1 : Nat) : Int) := fun h => by
   have : 0 < i := by simpa using h
   rw [IntWalk.i64_in _ (by omega)]; omega
  refine hw_skip ?_
  simp (maxSteps := 4000000) only [↓sP, sA, tyS, simprocAttr]
  repeat refine AI ?_
  refine hK _ _ _ ?_
  clear hK K
  refine hw_seq fun K hK => ?_
  refine hw_block ?_
  refine hw_seq fun K hK => hw_region (by kernel_rfl) ?_
  simp only [sR, simprocAttr]
  iterate 6
   (refine hlex_step (g := none) rfl rfl fun K' hK' => ?_; simp only [sH, ↓sP, sA, tyS, simprocAttr, Int.natCast_nonneg, Int.ofNat_lt, hlt, nth_map hlt]; (repeat refine AI ?_); refine hK' _ _ ?_; clear hK' K')
  simp only [sE, ↓reduceIte, simprocAttr]
  repeat refine AI ?_
  refine hK _ _ _ ?_
  clear hK K
  refine hw_seq fun K hK => hw_draw2 mixed [(0, [], []), (1, [], []), (2, [], []), (3, [], []), (4, [], []), (5, [], []), (6, [], []), (7, [], []), (8, [], []), (9, [], []), (10, [], []), (11, [], []), (12, [], []), (13, [], []), (14, [], []), (15, [], []), (16, [], []), (17, [], []), (18, [], []), (19, [], []), (20, [], []), (21, [], []), (22, [], []), (23, [], []), (24, [], []), (25, [], []), (26, [], []), (27, [], []), (28, [], [])] [0, 1, 3, 7, 15, 31, 63, 127, 255, 511, 1023, 2047, 4095, 8191, 16383, 32767, 65535, 131071, 262143, 262143, 786431, 2097151, 4194303, 8388607, 262143, 17039359, 67108863, 134217727, 268435455] (by kernel_rfl) (by kernel_rfl) (by kernel_rfl) (by kernel_rfl) rfl (by kernel_rfl) ?_
  iterate 2
   (refine hwalk2_step (g := none) rfl rfl fun K' hK' => ?_; simp only [sH, ↓sP, sA, tyS, simprocAttr, hm, Int.natCast_nonneg, Int.ofNat_lt, hi1, nth_map hi1]; (repeat refine AI ?_); refine hK' _ _ ?_; clear hK' K')
  refine hwalk2_step (g := none) rfl rfl fun K' hK' => ?_
  simp (maxSteps := 4000000) only [sH, ↓sP, sA, tyS, simprocAttr, hm, Int.natCast_nonneg, Int.ofNat_lt, hi1, nth_map hi1]
  refine call_pure (args := [_]) (name_ok l[i].r (hw _ (List.getElem_mem hlt))) ⟨rfl, rfl, rfl, rfl⟩ ?_
  rintro u rfl
  repeat refine AI ?_
  refine hK' _ _ ?_
  clear hK' K'
  iterate 2
   (refine hwalk2_step (g := none) rfl rfl fun K' hK' => ?_; simp only [sH, ↓sP, sA, tyS, simprocAttr, hm, Int.natCast_nonneg, Int.ofNat_lt, hi1, nth_map hi1]; (repeat refine AI ?_); refine hK' _ _ ?_; clear hK' K')
  refine hwalk2_cases 14 rfl (fun h4_14 => ?_) (fun h4_14 => ?_)
  ·
   iterate 3
    (refine hwalk2_step (g := some (16, false)) rfl rfl fun K' hK' => ?_; simp only [sH, ↓sP, sA, tyS, simprocAttr, hm, Int.natCast_nonneg, Int.ofNat_lt, hi1, nth_map hi1, h4_14]; (repeat refine AI ?_); refine hK' _ _ ?_; clear hK' K')
   iterate 2
    (refine hwalk2_step (g := none) rfl rfl fun K' hK' => ?_; simp only [sH, ↓sP, sA, tyS, simprocAttr, hm, Int.natCast_nonneg, Int.ofNat_lt, hi1, nth_map hi1, h4_14]; (repeat refine AI ?_); refine hK' _ _ ?_; clear hK' K')
   refine hwalk2_cases 19 rfl (fun h4_19 => ?_) (fun h4_19 => ?_)
   ·
    iterate 3
     (refine hwalk2_step (g := some (21, false)) rfl rfl fun K' hK' => ?_; simp only [sH, ↓sP, sA, tyS, simprocAttr, hm, Int.natCast_nonneg, Int.ofNat_lt, hi1, nth_map hi1, h4_14, h4_19]; (repeat refine AI ?_); refine hK' _ _ ?_; clear hK' K')
    iterate 2
     (refine hwalk2_step (g := none) rfl rfl fun K' hK' => ?_; simp only [sH, ↓sP, sA, tyS, simprocAttr, hm, Int.natCast_nonneg, Int.ofNat_lt, hi1, nth_map hi1, h4_14, h4_19]; (repeat refine AI ?_); refine hK' _ _ ?_; clear hK' K')
    iterate 3
     (refine hwalk2_step (g := some (26, false)) rfl rfl fun K' hK' => ?_; simp only [sH, ↓sP, sA, tyS, simprocAttr, hm, Int.natCast_nonneg, Int.ofNat_lt, hi1, nth_map hi1, h4_14, h4_19]; (repeat refine AI ?_); refine hK' _ _ ?_; clear hK' K')
    iterate 9
     (refine hwalk2_step (g := some (29, true)) rfl rfl fun K' hK' => ?_; simp only [sH, ↓sP, sA, tyS, simprocAttr, hm, Int.natCast_nonneg, Int.ofNat_lt, hi1, nth_map hi1, h4_14, h4_19]; (repeat refine AI ?_); refine hK' _ _ ?_; clear hK' K')
    refine hwalk2_step (g := some (26, false)) rfl rfl fun K' hK' => ?_
    simp (maxSteps := 4000000) only [sH, ↓sP, sA, tyS, simprocAttr, hm, Int.natCast_nonneg, Int.ofNat_lt, hi1, nth_map hi1, h4_14, h4_19]
    repeat refine AI ?_
    refine hK' _ _ ?_
    clear hK' K'
    refine hwalk2_step (g := none) rfl rfl fun K' hK' => ?_
    simp (maxSteps := 4000000) only [sH, ↓sP, sA, tyS, simprocAttr, hm, Int.natCast_nonneg, Int.ofNat_lt, hi1, nth_map hi1, h4_14, h4_19]
    repeat refine AI ?_
    refine hK' _ _ ?_
    clear hK' K'
    simp only [sE, ↓reduceIte, simprocAttr]
    repeat refine AI ?_
    refine hK _ _ _ ?_
    clear hK K
    refine hw_cond (b := true) rfl (fun hb => ?_) (fun hb => ?_)
    ·
     refine hw_seq fun K hK => hw_region (by kernel_rfl) ?_
     simp (maxSteps := 4000000) only [↓sP, sA, tyS, simprocAttr]
     repeat refine AI ?_
     refine hK _ _ _ ?_
     clear hK K
     refine hw_ret ?_
     simp (maxSteps := 4000000) only [hpost, Tryz.results55, hresL, hres1, tupOf, ↓sP, sA, tyS, simprocAttr]
     exact hret_pure [] (.bool false) rfl (by rw [quotasB_eq, bad_one hlt (by simp only [quotaB_code, h4_14, h4_19, Bool.not_true, Bool.not_false, Bool.false_and, Bool.and_false]), Bool.false_and])
    cases hb
   iterate 3
    (refine hwalk2_step (g := some (21, false)) rfl rfl fun K' hK' => ?_; simp only [sH, ↓sP, sA, tyS, simprocAttr, hm, Int.natCast_nonneg, Int.ofNat_lt, hi1, nth_map hi1, h4_14, h4_19]; (repeat refine AI ?_); refine hK' _ _ ?_; clear hK' K')
   iterate 2
    (refine hwalk2_step (g := none) rfl rfl fun K' hK' => ?_; simp only [sH, ↓sP, sA, tyS, simprocAttr, hm, Int.natCast_nonneg, Int.ofNat_lt, hi1, nth_map hi1, h4_14, h4_19]; (repeat refine AI ?_); refine hK' _ _ ?_; clear hK' K')
   refine hwalk2_cases 24 rfl (fun h4_24 => ?_) (fun h4_24 => ?_)
   ·
    iterate 3
     (refine hwalk2_step (g := some (26, false)) rfl rfl fun K' hK' => ?_; simp only [sH, ↓sP, sA, tyS, simprocAttr, hm, Int.natCast_nonneg, Int.ofNat_lt, hi1, nth_map hi1, h4_14, h4_19, h4_24]; (repeat refine AI ?_); refine hK' _ _ ?_; clear hK' K')
    iterate 9
     (refine hwalk2_step (g := some (29, true)) rfl rfl fun K' hK' => ?_; simp only [sH, ↓sP, sA, tyS, simprocAttr, hm, Int.natCast_nonneg, Int.ofNat_lt, hi1, nth_map hi1, h4_14, h4_19, h4_24]; (repeat refine AI ?_); refine hK' _ _ ?_; clear hK' K')
    refine hwalk2_step (g := some (26, false)) rfl rfl fun K' hK' => ?_
    simp (maxSteps := 4000000) only [sH, ↓sP, sA, tyS, simprocAttr, hm, Int.natCast_nonneg, Int.ofNat_lt, hi1, nth_map hi1, h4_14, h4_19, h4_24]
    repeat refine AI ?_
    refine hK' _ _ ?_
    clear hK' K'
    refine hwalk2_step (g := none) rfl rfl fun K' hK' => ?_
    simp (maxSteps := 4000000) only [sH, ↓sP, sA, tyS, simprocAttr, hm, Int.natCast_nonneg, Int.ofNat_lt, hi1, nth_map hi1, h4_14, h4_19, h4_24]
    repeat refine AI ?_
    refine hK' _ _ ?_
    clear hK' K'
    simp only [sE, ↓reduceIte, simprocAttr]
    repeat refine AI ?_
    refine hK _ _ _ ?_
    clear hK K
    refine hw_cond (b := true) rfl (fun hb => ?_) (fun hb => ?_)
    ·
     refine hw_seq fun K hK => hw_region (by kernel_rfl) ?_
     simp (maxSteps := 4000000) only [↓sP, sA, tyS, simprocAttr]
     repeat refine AI ?_
     refine hK _ _ _ ?_
     clear hK K
     refine hw_ret ?_
     simp (maxSteps := 4000000) only [hpost, Tryz.results55, hresL, hres1, tupOf, ↓sP, sA, tyS, simprocAttr]
     exact hret_pure [] (.bool false) rfl (by rw [quotasB_eq, bad_one hlt (by simp only [quotaB_code, h4_14, h4_19, h4_24, Bool.not_true, Bool.not_false, Bool.false_and, Bool.and_false]), Bool.false_and])
    cases hb
   iterate 3
    (refine hwalk2_step (g := some (26, false)) rfl rfl fun K' hK' => ?_; simp only [sH, ↓sP, sA, tyS, simprocAttr, hm, Int.natCast_nonneg, Int.ofNat_lt, hi1, nth_map hi1, h4_14, h4_19, h4_24]; (repeat refine AI ?_); refine hK' _ _ ?_; clear hK' K')
   refine hwalk2_cases 28 rfl (fun h4_28 => ?_) (fun h4_28 => ?_)
   ·
    iterate 9
     (refine hwalk2_step (g := some (29, true)) rfl rfl fun K' hK' => ?_; simp only [sH, ↓sP, sA, tyS, simprocAttr, hm, Int.natCast_nonneg, Int.ofNat_lt, hi1, nth_map hi1, h4_14, h4_19, h4_24, h4_28]; (repeat refine AI ?_); refine hK' _ _ ?_; clear hK' K')
    refine hwalk2_step (g := some (26, false)) rfl rfl fun K' hK' => ?_
    simp (maxSteps := 4000000) only [sH, ↓sP, sA, tyS, simprocAttr, hm, Int.natCast_nonneg, Int.ofNat_lt, hi1, nth_map hi1, h4_14, h4_19, h4_24, h4_28]
    repeat refine AI ?_
    refine hK' _ _ ?_
    clear hK' K'
    refine hwalk2_step (g := none) rfl rfl fun K' hK' => ?_
    simp (maxSteps := 4000000) only [sH, ↓sP, sA, tyS, simprocAttr, hm, Int.natCast_nonneg, Int.ofNat_lt, hi1, nth_map hi1, h4_14, h4_19, h4_24, h4_28]
    repeat refine AI ?_
    refine hK' _ _ ?_
    clear hK' K'
    refine hwalk2_cases 38 rfl (fun h4_38 => ?_) (fun h4_38 => ?_)
    ·
     simp only [h4_38]
     simp only [sE, ↓reduceIte, simprocAttr]
     repeat refine AI ?_
     refine hK _ _ _ ?_
     clear hK K
     refine hw_cond (b := true) rfl (fun hb => ?_) (fun hb => ?_)
     ·
      refine hw_seq fun K hK => hw_region (by kernel_rfl) ?_
      simp (maxSteps := 4000000) only [↓sP, sA, tyS, simprocAttr]
      repeat refine AI ?_
      refine hK _ _ _ ?_
      clear hK K
      refine hw_ret ?_
      simp (maxSteps := 4000000) only [hpost, Tryz.results55, hresL, hres1, tupOf, ↓sP, sA, tyS, simprocAttr]
      obtain ⟨j, rfl⟩ : ∃ j, i = j + 1 := ⟨i - 1, by simp at h4_28; omega⟩
      exact hret_pure [] (.bool false) rfl (by rw [quotasB_eq, bad_two (i := j) hlt (by simpa using h4_38), Bool.false_and])
     cases hb
    simp only [h4_38]
    simp only [sE, ↓reduceIte, simprocAttr]
    repeat refine AI ?_
    refine hK _ _ _ ?_
    clear hK K
    refine hw_cond (b := false) rfl (fun hb => ?_) (fun hb => ?_)
    ·
     cases hb
    refine hw_skip ?_
    simp (maxSteps := 4000000) only [↓sP, sA, tyS, simprocAttr]
    repeat refine AI ?_
    refine hK _ _ _ ?_
    clear hK K
    refine hw_region (by kernel_rfl) ?_
    simp (maxSteps := 4000000) only [↓sP, sA, tyS, simprocAttr, IntWalk.i64_in _ (show -9223372036854775808 ≤ (i : Int) + 1 ∧ (i : Int) + 1 ≤ 9223372036854775807 by omega)]
    obtain ⟨j, rfl⟩ : ∃ j, i = j + 1 := ⟨i - 1, by simp at h4_28; omega⟩
    refine ⟨⟨j + 1 + 1, hlt, h0.succ hlt (by simp only [quotaB_code, h4_14, h4_19, h4_24, h4_28, h4_38]; rfl) (by simpa using h4_38)⟩, fits_fin (by omega) (by simp [FinOk, fin_at, finA_at, upd_at, HV.men, HV.menL, HV.norm, HV.toC, HV.toCL]) (by simp [FobOk, fob_at, upd_at, none0_at, gone, HO.men, HV.men, HV.menL, HV.norm, HV.toC, HV.toCL]), ?_⟩
    show l.length - (j + 1 + 1) < l.length - (j + 1)
    omega
   iterate 9
    (refine hwalk2_step (g := some (29, true)) rfl rfl fun K' hK' => ?_; simp only [sH, ↓sP, sA, tyS, simprocAttr, hm, Int.natCast_nonneg, Int.ofNat_lt, hi1, nth_map hi1, h4_14, h4_19, h4_24, h4_28]; (repeat refine AI ?_); refine hK' _ _ ?_; clear hK' K')
   refine hwalk2_step (g := some (26, false)) rfl rfl fun K' hK' => ?_
   simp (maxSteps := 4000000) only [sH, ↓sP, sA, tyS, simprocAttr, hm, Int.natCast_nonneg, Int.ofNat_lt, hi1, nth_map hi1, h4_14, h4_19, h4_24, h4_28]
   repeat refine AI ?_
   refine hK' _ _ ?_
   clear hK' K'
   refine hwalk2_step (g := none) rfl rfl fun K' hK' => ?_
   simp (maxSteps := 4000000) only [sH, ↓sP, sA, tyS, simprocAttr, hm, Int.natCast_nonneg, Int.ofNat_lt, hi1, nth_map hi1, h4_14, h4_19, h4_24, h4_28]
   repeat refine AI ?_
   refine hK' _ _ ?_
   clear hK' K'
   simp only [sE, ↓reduceIte, simprocAttr]
   repeat refine AI ?_
   refine hK _ _ _ ?_
   clear hK K
   refine hw_cond (b := false) rfl (fun hb => ?_) (fun hb => ?_)
   ·
    cases hb
   refine hw_skip ?_
   simp (maxSteps := 4000000) only [↓sP, sA, tyS, simprocAttr]
   repeat refine AI ?_
   refine hK _ _ _ ?_
   clear hK K
   refine hw_region (by kernel_rfl) ?_
   simp (maxSteps := 4000000) only [↓sP, sA, tyS, simprocAttr, IntWalk.i64_in _ (show -9223372036854775808 ≤ (i : Int) + 1 ∧ (i : Int) + 1 ≤ 9223372036854775807 by omega)]
   obtain rfl : i = 0 := by simp at h4_28; omega
   refine ⟨⟨1, hlt, GoodTo.one hlt (by simp only [quotaB_code, h4_14, h4_19, h4_24, h4_28]; rfl)⟩, fits_fin (by omega) (by simp [FinOk, fin_at, finA_at, upd_at, HV.men, HV.menL, HV.norm, HV.toC, HV.toCL]) (by simp [FobOk, fob_at, upd_at, none0_at, gone, HO.men, HV.men, HV.menL, HV.norm, HV.toC, HV.toCL]), ?_⟩
   show l.length - 1 < l.length - 0
   omega
  iterate 3
   (refine hwalk2_step (g := some (16, false)) rfl rfl fun K' hK' => ?_; simp only [sH, ↓sP, sA, tyS, simprocAttr, hm, Int.natCast_nonneg, Int.ofNat_lt, hi1, nth_map hi1, h4_14]; (repeat refine AI ?_); refine hK' _ _ ?_; clear hK' K')
  iterate 2
   (refine hwalk2_step (g := none) rfl rfl fun K' hK' => ?_; simp only [sH, ↓sP, sA, tyS, simprocAttr, hm, Int.natCast_nonneg, Int.ofNat_lt, hi1, nth_map hi1, h4_14]; (repeat refine AI ?_); refine hK' _ _ ?_; clear hK' K')
  iterate 3
   (refine hwalk2_step (g := some (21, false)) rfl rfl fun K' hK' => ?_; simp only [sH, ↓sP, sA, tyS, simprocAttr, hm, Int.natCast_nonneg, Int.ofNat_lt, hi1, nth_map hi1, h4_14]; (repeat refine AI ?_); refine hK' _ _ ?_; clear hK' K')
  iterate 2
   (refine hwalk2_step (g := none) rfl rfl fun K' hK' => ?_; simp only [sH, ↓sP, sA, tyS, simprocAttr, hm, Int.natCast_nonneg, Int.ofNat_lt, hi1, nth_map hi1, h4_14]; (repeat refine AI ?_); refine hK' _ _ ?_; clear hK' K')
  iterate 3
   (refine hwalk2_step (g := some (26, false)) rfl rfl fun K' hK' => ?_; simp only [sH, ↓sP, sA, tyS, simprocAttr, hm, Int.natCast_nonneg, Int.ofNat_lt, hi1, nth_map hi1, h4_14]; (repeat refine AI ?_); refine hK' _ _ ?_; clear hK' K')
  iterate 9
   (refine hwalk2_step (g := some (29, true)) rfl rfl fun K' hK' => ?_; simp only [sH, ↓sP, sA, tyS, simprocAttr, hm, Int.natCast_nonneg, Int.ofNat_lt, hi1, nth_map hi1, h4_14]; (repeat refine AI ?_); refine hK' _ _ ?_; clear hK' K')
  refine hwalk2_step (g := some (26, false)) rfl rfl fun K' hK' => ?_
  simp (maxSteps := 4000000) only [sH, ↓sP, sA, tyS, simprocAttr, hm, Int.natCast_nonneg, Int.ofNat_lt, hi1, nth_map hi1, h4_14]
  repeat refine AI ?_
  refine hK' _ _ ?_
  clear hK' K'
  refine hwalk2_step (g := none) rfl rfl fun K' hK' => ?_
  simp (maxSteps := 4000000) only [sH, ↓sP, sA, tyS, simprocAttr, hm, Int.natCast_nonneg, Int.ofNat_lt, hi1, nth_map hi1, h4_14]
  repeat refine AI ?_
  refine hK' _ _ ?_
  clear hK' K'
  simp only [sE, ↓reduceIte, simprocAttr]
  repeat refine AI ?_
  refine hK _ _ _ ?_
  clear hK K
  refine hw_cond (b := true) rfl (fun hb => ?_) (fun hb => ?_)
  ·
   refine hw_seq fun K hK => hw_region (by kernel_rfl) ?_
   simp (maxSteps := 4000000) only [↓sP, sA, tyS, simprocAttr]
   repeat refine AI ?_
   refine hK _ _ _ ?_
   clear hK K
   refine hw_ret ?_
   simp (maxSteps := 4000000) only [hpost, Tryz.results55, hresL, hres1, tupOf, ↓sP, sA, tyS, simprocAttr]
   exact hret_pure [] (.bool false) rfl (by rw [quotasB_eq, bad_one hlt (by simp only [quotaB_code, h4_14, Bool.not_true, Bool.not_false, Bool.false_and, Bool.and_false]), Bool.false_and])
  cases hb
 refine hw_exit ?_
 simp (maxSteps := 4000000) only [↓sP, sA, tyS, simprocAttr]
 clear hK K
 repeat refine AI ?_
 refine hK _ _ _ ?_
 clear hK K
 refine hw_seq fun K hK => hw_region (by kernel_rfl) ?_
 simp only [sR, simprocAttr]
 iterate 4
  (refine hlex_step (g := none) rfl rfl fun K' hK' => ?_; simp only [sH, ↓sP, sA, tyS, simprocAttr]; (repeat refine AI ?_); refine hK' _ _ ?_; clear hK' K')
 simp only [sE, ↓reduceIte, simprocAttr]
 repeat refine AI ?_
 refine hK _ _ _ ?_
 clear hK K
 refine hw_ret ?_
 simp (maxSteps := 4000000) only [hpost, Tryz.results55, hresL, hres1, tupOf, ↓sP, sA, tyS, simprocAttr]
 have hei : i = l.length := by simp at hb; omega
 subst hei
 refine hret_pure [] (.bool _) rfl ?_
 rw [quotasB_eq, h0.all, Bool.true_and]
 congr 1
 exact decide_eq_decide.2 (by omega)


theorem revocations_ok (l : List Rv) (hl : l.length < 2 ^ 40) : HPure Tryz.prog 57 [.slc (l.map Rv.cv)] (fun v => v = .bool (revsB l)) := by
 refine hfn_walk Tryz.func57 rfl (by kernel_rfl) (locOk_nil _) (Nat.le_of_ble_eq_true rfl) ?_
 refine hw_seq fun K hK => hw_region (by kernel_rfl) ?_
 simp (maxSteps := 4000000) only [↓sP, sA, tyS, simprocAttr]
 repeat refine AI ?_
 refine hK _ _ _ ?_
 clear hK K
 refine hw_seq fun K hK => ?_
 refine hw_seq fun K hK => hw_region (by kernel_rfl) ?_
 simp (maxSteps := 4000000) only [↓sP, sA, tyS, simprocAttr]
 repeat refine AI ?_
 refine hK _ _ _ ?_
 clear hK K
 refine hw_block ?_
 refine hw_loop (α := {i : Nat // i ≤ l.length ∧ GoodTo (fun x => inN x.t) (fun a b => dlt a.k b.k) l i}) (fun i => (fin [(0, .c (.slc (l.map Rv.cv))), (5, .c (.slc (l.map Rv.cv))), (6, .c (.int .i64 l.length)), (7, .c (.int .i64 i.1))], fob [])) 100 (fun i => l.length - i.1) ⟨0, by omega, GoodTo.zero⟩ (fits_fin (by omega) (by simp [FinOk, fin_at, finA_at, upd_at, HV.men, HV.menL, HV.norm, HV.toC, HV.toCL]) (by simp [FobOk, fob_at, upd_at, none0_at, gone, HO.men, HV.men, HV.menL, HV.norm, HV.toC, HV.toCL])) ?_
 rintro ⟨i, hi, h0⟩
 refine hw_seq fun K hK => hw_region (by kernel_rfl) ?_
 simp (maxSteps := 4000000) only [↓sP, sA, tyS, simprocAttr]
 repeat refine AI ?_
 refine hK _ _ _ ?_
 clear hK K
 refine hw_seq fun K hK => ?_
 refine hw_cond (b := decide ((i : Int) < l.length)) rfl (fun hb => ?_) (fun hb => ?_)
 ·
  have hlt : i < l.length := by simpa using hb
  have hi1 : i - 1 < l.length := by omega
  have hm : decide ((0 : Int) < (i : Int)) = true → IntKind.i64.wrap ((i : Int) - 1) = ((i - 1 : Nat) : Int) := fun h => by
   have : 0 < i := by simpa using h
   rw [IntWalk.i64_in _ (by omega)]; omega
  refine hw_skip ?_
  simp (maxSteps := 4000000) only [↓sP, sA, tyS, simprocAttr]
  repeat refine AI ?_
  refine hK _ _ _ ?_
  clear hK K
  refine hw_seq fun K hK => ?_
  refine hw_block ?_
  refine hw_seq fun K hK => hw_region (by kernel_rfl) ?_
  simp only [sR, simprocAttr]
  iterate 6
   (refine hlex_step (g := none) rfl rfl fun K' hK' => ?_; simp only [sH, ↓sP, sA, tyS, simprocAttr, Int.natCast_nonneg, Int.ofNat_lt, hlt, nth_map hlt]; (repeat refine AI ?_); refine hK' _ _ ?_; clear hK' K')
  simp only [sE, ↓reduceIte, simprocAttr]
  repeat refine AI ?_
  refine hK _ _ _ ?_
  clear hK K
  refine hw_seq fun K hK => hw_draw2 mixed [(0, [], []), (1, [], []), (2, [], []), (3, [], []), (4, [], []), (5, [], []), (6, [], []), (7, [], []), (8, [], []), (9, [], []), (10, [], []), (11, [], []), (12, [], []), (13, [], []), (14, [], []), (15, [], []), (16, [], []), (17, [], []), (18, [], []), (19, [], [])] [0, 1, 3, 7, 15, 31, 63, 127, 255, 255, 767, 2047, 4095, 8191, 255, 16639, 65535, 131071, 262143, 524287] (by kernel_rfl) (by kernel_rfl) (by kernel_rfl) (by kernel_rfl) rfl (by kernel_rfl) ?_
  iterate 2
   (refine hwalk2_step (g := none) rfl rfl fun K' hK' => ?_; simp only [sH, ↓sP, sA, tyS, simprocAttr, hm, Int.natCast_nonneg, Int.ofNat_lt, hi1, nth_map hi1]; (repeat refine AI ?_); refine hK' _ _ ?_; clear hK' K')
  refine hwalk2_step (g := none) rfl rfl fun K' hK' => ?_
  simp (maxSteps := 4000000) only [sH, ↓sP, sA, tyS, simprocAttr, hm, Int.natCast_nonneg, Int.ofNat_lt, hi1, nth_map hi1]
  refine call_pure (args := [_, _]) (within_ok 0 l[i].t) ⟨rfl, rfl, rfl, rfl⟩ ?_
  rintro u rfl
  repeat refine AI ?_
  refine hK' _ _ ?_
  clear hK' K'
  iterate 2
   (refine hwalk2_step (g := none) rfl rfl fun K' hK' => ?_; simp only [sH, ↓sP, sA, tyS, simprocAttr, hm, Int.natCast_nonneg, Int.ofNat_lt, hi1, nth_map hi1]; (repeat refine AI ?_); refine hK' _ _ ?_; clear hK' K')
  refine hwalk2_cases 14 rfl (fun h4_14 => ?_) (fun h4_14 => ?_)
  ·
   iterate 3
    (refine hwalk2_step (g := some (16, false)) rfl rfl fun K' hK' => ?_; simp only [sH, ↓sP, sA, tyS, simprocAttr, hm, Int.natCast_nonneg, Int.ofNat_lt, hi1, nth_map hi1, h4_14]; (repeat refine AI ?_); refine hK' _ _ ?_; clear hK' K')
   refine hwalk2_cases 18 rfl (fun h4_18 => ?_) (fun h4_18 => ?_)
   ·
    iterate 8
     (refine hwalk2_step (g := some (19, true)) rfl rfl fun K' hK' => ?_; simp only [sH, ↓sP, sA, tyS, simprocAttr, hm, Int.natCast_nonneg, Int.ofNat_lt, hi1, nth_map hi1, h4_14, h4_18]; (repeat refine AI ?_); refine hK' _ _ ?_; clear hK' K')
    refine hwalk2_step (g := some (19, true)) rfl rfl fun K' hK' => ?_
    simp (maxSteps := 4000000) only [sH, ↓sP, sA, tyS, simprocAttr, hm, Int.natCast_nonneg, Int.ofNat_lt, hi1, nth_map hi1, h4_14, h4_18]
    refine call_pure (args := [_, _]) (order_ok l[i - 1].k l[i].k) ⟨rfl, rfl, rfl, rfl⟩ ?_
    rintro u rfl
    repeat refine AI ?_
    refine hK' _ _ ?_
    clear hK' K'
    refine hwalk2_step (g := some (19, true)) rfl rfl fun K' hK' => ?_
    simp (maxSteps := 4000000) only [sH, ↓sP, sA, tyS, simprocAttr, hm, Int.natCast_nonneg, Int.ofNat_lt, hi1, nth_map hi1, h4_14, h4_18]
    repeat refine AI ?_
    refine hK' _ _ ?_
    clear hK' K'
    refine hwalk2_step (g := some (16, false)) rfl rfl fun K' hK' => ?_
    simp (maxSteps := 4000000) only [sH, ↓sP, sA, tyS, simprocAttr, hm, Int.natCast_nonneg, Int.ofNat_lt, hi1, nth_map hi1, h4_14, h4_18]
    repeat refine AI ?_
    refine hK' _ _ ?_
    clear hK' K'
    refine hwalk2_step (g := none) rfl rfl fun K' hK' => ?_
    simp (maxSteps := 4000000) only [sH, ↓sP, sA, tyS, simprocAttr, hm, Int.natCast_nonneg, Int.ofNat_lt, hi1, nth_map hi1, h4_14, h4_18]
    repeat refine AI ?_
    refine hK' _ _ ?_
    clear hK' K'
    refine hwalk2_cases 29 rfl (fun h4_29 => ?_) (fun h4_29 => ?_)
    ·
     simp only [h4_29]
     simp only [sE, ↓reduceIte, simprocAttr]
     repeat refine AI ?_
     refine hK _ _ _ ?_
     clear hK K
     refine hw_cond (b := true) rfl (fun hb => ?_) (fun hb => ?_)
     ·
      refine hw_seq fun K hK => hw_region (by kernel_rfl) ?_
      simp (maxSteps := 4000000) only [↓sP, sA, tyS, simprocAttr]
      repeat refine AI ?_
      refine hK _ _ _ ?_
      clear hK K
      refine hw_ret ?_
      simp (maxSteps := 4000000) only [hpost, Tryz.results57, hresL, hres1, tupOf, ↓sP, sA, tyS, simprocAttr]
      obtain ⟨j, rfl⟩ : ∃ j, i = j + 1 := ⟨i - 1, by simp at h4_18; omega⟩
      exact hret_pure [] (.bool false) rfl (by rw [revsB_eq, bad_two (i := j) hlt (by rw [cmp_dlt] at h4_29; simpa using h4_29), Bool.false_and])
     cases hb
    simp only [h4_29]
    simp only [sE, ↓reduceIte, simprocAttr]
    repeat refine AI ?_
    refine hK _ _ _ ?_
    clear hK K
    refine hw_cond (b := false) rfl (fun hb => ?_) (fun hb => ?_)
    ·
     cases hb
    refine hw_skip ?_
    simp (maxSteps := 4000000) only [↓sP, sA, tyS, simprocAttr]
    repeat refine AI ?_
    refine hK _ _ _ ?_
    clear hK K
    refine hw_region (by kernel_rfl) ?_
    simp (maxSteps := 4000000) only [↓sP, sA, tyS, simprocAttr, IntWalk.i64_in _ (show -9223372036854775808 ≤ (i : Int) + 1 ∧ (i : Int) + 1 ≤ 9223372036854775807 by omega)]
    obtain ⟨j, rfl⟩ : ∃ j, i = j + 1 := ⟨i - 1, by simp at h4_18; omega⟩
    refine ⟨⟨j + 1 + 1, hlt, h0.succ hlt h4_14 (by rw [cmp_dlt] at h4_29; simpa using h4_29)⟩, fits_fin (by omega) (by simp [FinOk, fin_at, finA_at, upd_at, HV.men, HV.menL, HV.norm, HV.toC, HV.toCL]) (by simp [FobOk, fob_at, upd_at, none0_at, gone, HO.men, HV.men, HV.menL, HV.norm, HV.toC, HV.toCL]), ?_⟩
    show l.length - (j + 1 + 1) < l.length - (j + 1)
    omega
   iterate 10
    (refine hwalk2_step (g := some (19, true)) rfl rfl fun K' hK' => ?_; simp only [sH, ↓sP, sA, tyS, simprocAttr, hm, Int.natCast_nonneg, Int.ofNat_lt, hi1, nth_map hi1, h4_14, h4_18]; (repeat refine AI ?_); refine hK' _ _ ?_; clear hK' K')
   refine hwalk2_step (g := some (16, false)) rfl rfl fun K' hK' => ?_
   simp (maxSteps := 4000000) only [sH, ↓sP, sA, tyS, simprocAttr, hm, Int.natCast_nonneg, Int.ofNat_lt, hi1, nth_map hi1, h4_14, h4_18]
   repeat refine AI ?_
   refine hK' _ _ ?_
   clear hK' K'
   refine hwalk2_step (g := none) rfl rfl fun K' hK' => ?_
   simp (maxSteps := 4000000) only [sH, ↓sP, sA, tyS, simprocAttr, hm, Int.natCast_nonneg, Int.ofNat_lt, hi1, nth_map hi1, h4_14, h4_18]
   repeat refine AI ?_
   refine hK' _ _ ?_
   clear hK' K'
   simp only [sE, ↓reduceIte, simprocAttr]
   repeat refine AI ?_
   refine hK _ _ _ ?_
   clear hK K
   refine hw_cond (b := false) rfl (fun hb => ?_) (fun hb => ?_)
   ·
    cases hb
   refine hw_skip ?_
   simp (maxSteps := 4000000) only [↓sP, sA, tyS, simprocAttr]
   repeat refine AI ?_
   refine hK _ _ _ ?_
   clear hK K
   refine hw_region (by kernel_rfl) ?_
   simp (maxSteps := 4000000) only [↓sP, sA, tyS, simprocAttr, IntWalk.i64_in _ (show -9223372036854775808 ≤ (i : Int) + 1 ∧ (i : Int) + 1 ≤ 9223372036854775807 by omega)]
   obtain rfl : i = 0 := by simp at h4_18; omega
   refine ⟨⟨1, hlt, GoodTo.one hlt h4_14⟩, fits_fin (by omega) (by simp [FinOk, fin_at, finA_at, upd_at, HV.men, HV.menL, HV.norm, HV.toC, HV.toCL]) (by simp [FobOk, fob_at, upd_at, none0_at, gone, HO.men, HV.men, HV.menL, HV.norm, HV.toC, HV.toCL]), ?_⟩
   show l.length - 1 < l.length - 0
   omega
  iterate 3
   (refine hwalk2_step (g := some (16, false)) rfl rfl fun K' hK' => ?_; simp only [sH, ↓sP, sA, tyS, simprocAttr, hm, Int.natCast_nonneg, Int.ofNat_lt, hi1, nth_map hi1, h4_14]; (repeat refine AI ?_); refine hK' _ _ ?_; clear hK' K')
  iterate 10
   (refine hwalk2_step (g := some (19, true)) rfl rfl fun K' hK' => ?_; simp only [sH, ↓sP, sA, tyS, simprocAttr, hm, Int.natCast_nonneg, Int.ofNat_lt, hi1, nth_map hi1, h4_14]; (repeat refine AI ?_); refine hK' _ _ ?_; clear hK' K')
  refine hwalk2_step (g := some (16, false)) rfl rfl fun K' hK' => ?_
  simp (maxSteps := 4000000) only [sH, ↓sP, sA, tyS, simprocAttr, hm, Int.natCast_nonneg, Int.ofNat_lt, hi1, nth_map hi1, h4_14]
  repeat refine AI ?_
  refine hK' _ _ ?_
  clear hK' K'
  refine hwalk2_step (g := none) rfl rfl fun K' hK' => ?_
  simp (maxSteps := 4000000) only [sH, ↓sP, sA, tyS, simprocAttr, hm, Int.natCast_nonneg, Int.ofNat_lt, hi1, nth_map hi1, h4_14]
  repeat refine AI ?_
  refine hK' _ _ ?_
  clear hK' K'
  simp only [sE, ↓reduceIte, simprocAttr]
  repeat refine AI ?_
  refine hK _ _ _ ?_
  clear hK K
  refine hw_cond (b := true) rfl (fun hb => ?_) (fun hb => ?_)
  ·
   refine hw_seq fun K hK => hw_region (by kernel_rfl) ?_
   simp (maxSteps := 4000000) only [↓sP, sA, tyS, simprocAttr]
   repeat refine AI ?_
   refine hK _ _ _ ?_
   clear hK K
   refine hw_ret ?_
   simp (maxSteps := 4000000) only [hpost, Tryz.results57, hresL, hres1, tupOf, ↓sP, sA, tyS, simprocAttr]
   exact hret_pure [] (.bool false) rfl (by rw [revsB_eq, bad_one hlt h4_14, Bool.false_and])
  cases hb
 refine hw_exit ?_
 simp (maxSteps := 4000000) only [↓sP, sA, tyS, simprocAttr]
 clear hK K
 repeat refine AI ?_
 refine hK _ _ _ ?_
 clear hK K
 refine hw_seq fun K hK => hw_region (by kernel_rfl) ?_
 simp only [sR, simprocAttr]
 iterate 4
  (refine hlex_step (g := none) rfl rfl fun K' hK' => ?_; simp only [sH, ↓sP, sA, tyS, simprocAttr]; (repeat refine AI ?_); refine hK' _ _ ?_; clear hK' K')
 simp only [sE, ↓reduceIte, simprocAttr]
 repeat refine AI ?_
 refine hK _ _ _ ?_
 clear hK K
 refine hw_ret ?_
 simp (maxSteps := 4000000) only [hpost, Tryz.results57, hresL, hres1, tupOf, ↓sP, sA, tyS, simprocAttr]
 have hei : i = l.length := by simp at hb; omega
 subst hei
 refine hret_pure [] (.bool _) rfl ?_
 rw [revsB_eq, h0.all, Bool.true_and]
 congr 1
 exact decide_eq_decide.2 (by omega)


theorem rkey_ok (k : Ky) (hk : kSz k) : HPure Tryz.prog 51 [k.cv] (fun v => v = .bool (keyB k)) := by
 refine hfn_walk Tryz.func51 rfl (by kernel_rfl) (locOk_nil _) (Nat.le_of_ble_eq_true rfl) ?_
 refine hw_seq fun K hK => hw_region (by kernel_rfl) ?_
 simp (maxSteps := 4000000) only [↓sP, sA, tyS, simprocAttr]
 repeat refine AI ?_
 refine hK _ _ _ ?_
 clear hK K
 refine hw_seq fun K hK => hw_region (by kernel_rfl) ?_
 simp only [sR, simprocAttr]
 iterate 2
  (refine hlex_step (g := none) rfl rfl fun K' hK' => ?_; simp only [sH, ↓sP, sA, tyS, simprocAttr]; (repeat refine AI ?_); refine hK' _ _ ?_; clear hK' K')
 refine hlex_step (g := none) rfl rfl fun K' hK' => ?_
 simp (maxSteps := 4000000) only [sH, ↓sP, sA, tyS, simprocAttr]
 refine call_pure (args := [_]) (pvalid9_ok k.p) ⟨rfl, rfl, rfl, rfl⟩ ?_
 rintro u rfl
 repeat refine AI ?_
 refine hK' _ _ ?_
 clear hK' K'
 refine hlex_step (g := none) rfl rfl fun K' hK' => ?_
 simp (maxSteps := 4000000) only [sH, ↓sP, sA, tyS, simprocAttr]
 repeat refine AI ?_
 refine hK' _ _ ?_
 clear hK' K'
 refine hlex_cases 5 rfl (fun h1_5 => ?_) (fun h1_5 => ?_)
 ·
  iterate 2
   (refine hlex_step (g := some (6, true)) rfl rfl fun K' hK' => ?_; simp only [sH, ↓sP, sA, tyS, simprocAttr, h1_5]; (repeat refine AI ?_); refine hK' _ _ ?_; clear hK' K')
  refine hlex_step (g := some (6, true)) rfl rfl fun K' hK' => ?_
  simp (maxSteps := 4000000) only [sH, ↓sP, sA, tyS, simprocAttr, h1_5]
  refine call_pure (args := [_]) (rname_ok k.o hk.1) ⟨rfl, rfl, rfl, rfl⟩ ?_
  rintro u rfl
  repeat refine AI ?_
  refine hK' _ _ ?_
  clear hK' K'
  iterate 2
   (refine hlex_step (g := none) rfl rfl fun K' hK' => ?_; simp only [sH, ↓sP, sA, tyS, simprocAttr, h1_5]; (repeat refine AI ?_); refine hK' _ _ ?_; clear hK' K')
  refine hlex_cases 9 rfl (fun h1_9 => ?_) (fun h1_9 => ?_)
  ·
   iterate 4
    (refine hlex_step (g := some (11, true)) rfl rfl fun K' hK' => ?_; simp only [sH, ↓sP, sA, tyS, simprocAttr, h1_5, h1_9]; (repeat refine AI ?_); refine hK' _ _ ?_; clear hK' K')
   iterate 2
    (refine hlex_step (g := none) rfl rfl fun K' hK' => ?_; simp only [sH, ↓sP, sA, tyS, simprocAttr, h1_5, h1_9]; (repeat refine AI ?_); refine hK' _ _ ?_; clear hK' K')
   refine hlex_cases 15 rfl (fun h1_15 => ?_) (fun h1_15 => ?_)
   ·
    iterate 4
     (refine hlex_step (g := some (17, true)) rfl rfl fun K' hK' => ?_; simp only [sH, ↓sP, sA, tyS, simprocAttr, h1_5, h1_9, h1_15]; (repeat refine AI ?_); refine hK' _ _ ?_; clear hK' K')
    iterate 2
     (refine hlex_step (g := none) rfl rfl fun K' hK' => ?_; simp only [sH, ↓sP, sA, tyS, simprocAttr, h1_5, h1_9, h1_15]; (repeat refine AI ?_); refine hK' _ _ ?_; clear hK' K')
    refine hlex_cases 21 rfl (fun h1_21 => ?_) (fun h1_21 => ?_)
    ·
     iterate 2
      (refine hlex_step (g := some (23, true)) rfl rfl fun K' hK' => ?_; simp only [sH, ↓sP, sA, tyS, simprocAttr, h1_5, h1_9, h1_15, h1_21]; (repeat refine AI ?_); refine hK' _ _ ?_; clear hK' K')
     refine hlex_step (g := some (23, true)) rfl rfl fun K' hK' => ?_
     simp (maxSteps := 4000000) only [sH, ↓sP, sA, tyS, simprocAttr, h1_5, h1_9, h1_15, h1_21]
     refine call_pure (args := [_]) (rnames_ok k.rs hk.2.1 hk.2.2) ⟨rfl, rfl, rfl, rfl⟩ ?_
     rintro u rfl
     repeat refine AI ?_
     refine hK' _ _ ?_
     clear hK' K'
     iterate 2
      (refine hlex_step (g := none) rfl rfl fun K' hK' => ?_; simp only [sH, ↓sP, sA, tyS, simprocAttr, h1_5, h1_9, h1_15, h1_21]; (repeat refine AI ?_); refine hK' _ _ ?_; clear hK' K')
     refine hlex_cases 26 rfl (fun h1_26 => ?_) (fun h1_26 => ?_)
     ·
      iterate 3
       (refine hlex_step (g := some (28, true)) rfl rfl fun K' hK' => ?_; simp only [sH, ↓sP, sA, tyS, simprocAttr, h1_5, h1_9, h1_15, h1_21, h1_26]; (repeat refine AI ?_); refine hK' _ _ ?_; clear hK' K')
      iterate 2
       (refine hlex_step (g := none) rfl rfl fun K' hK' => ?_; simp only [sH, ↓sP, sA, tyS, simprocAttr, h1_5, h1_9, h1_15, h1_21, h1_26]; (repeat refine AI ?_); refine hK' _ _ ?_; clear hK' K')
      refine hlex_cases 31 rfl (fun h1_31 => ?_) (fun h1_31 => ?_)
      ·
       iterate 5
        (refine hlex_step (g := some (33, true)) rfl rfl fun K' hK' => ?_; simp only [sH, ↓sP, sA, tyS, simprocAttr, h1_5, h1_9, h1_15, h1_21, h1_26, h1_31]; (repeat refine AI ?_); refine hK' _ _ ?_; clear hK' K')
       iterate 2
        (refine hlex_step (g := none) rfl rfl fun K' hK' => ?_; simp only [sH, ↓sP, sA, tyS, simprocAttr, h1_5, h1_9, h1_15, h1_21, h1_26, h1_31]; (repeat refine AI ?_); refine hK' _ _ ?_; clear hK' K')
       refine hlex_cases 38 rfl (fun h1_38 => ?_) (fun h1_38 => ?_)
       ·
        iterate 3
         (refine hlex_step (g := some (40, true)) rfl rfl fun K' hK' => ?_; simp only [sH, ↓sP, sA, tyS, simprocAttr, h1_5, h1_9, h1_15, h1_21, h1_26, h1_31, h1_38]; (repeat refine AI ?_); refine hK' _ _ ?_; clear hK' K')
        iterate 2
         (refine hlex_step (g := none) rfl rfl fun K' hK' => ?_; simp only [sH, ↓sP, sA, tyS, simprocAttr, h1_5, h1_9, h1_15, h1_21, h1_26, h1_31, h1_38]; (repeat refine AI ?_); refine hK' _ _ ?_; clear hK' K')
        refine hlex_cases 43 rfl (fun h1_43 => ?_) (fun h1_43 => ?_)
        ·
         simp only [h1_43]
         simp only [sE, ↓reduceIte, simprocAttr]
         repeat refine AI ?_
         refine hK _ _ _ ?_
         clear hK K
         refine hw_ret ?_
         simp (maxSteps := 4000000) only [hpost, Tryz.results51, hresL, hres1, tupOf, ↓sP, sA, tyS, simprocAttr]
         exact hret_pure [] (.bool true) rfl (by simp only [keyB_ref, maxN, h1_5, h1_9, h1_15, h1_21, h1_26, h1_31, h1_38, h1_43, Bool.and_true, Bool.and_false, Bool.true_and, Bool.false_and]; try exact congrArg CV.bool h1_43.symm)
        simp only [h1_43]
        simp only [sE, ↓reduceIte, simprocAttr]
        repeat refine AI ?_
        refine hK _ _ _ ?_
        clear hK K
        refine hw_ret ?_
        simp (maxSteps := 4000000) only [hpost, Tryz.results51, hresL, hres1, tupOf, ↓sP, sA, tyS, simprocAttr]
        exact hret_pure [] (.bool false) rfl (by simp only [keyB_ref, maxN, h1_5, h1_9, h1_15, h1_21, h1_26, h1_31, h1_38, h1_43, Bool.and_true, Bool.and_false, Bool.true_and, Bool.false_and]; try exact congrArg CV.bool h1_43.symm)
       iterate 3
        (refine hlex_step (g := some (40, true)) rfl rfl fun K' hK' => ?_; simp only [sH, ↓sP, sA, tyS, simprocAttr, h1_5, h1_9, h1_15, h1_21, h1_26, h1_31, h1_38]; (repeat refine AI ?_); refine hK' _ _ ?_; clear hK' K')
       iterate 2
        (refine hlex_step (g := none) rfl rfl fun K' hK' => ?_; simp only [sH, ↓sP, sA, tyS, simprocAttr, h1_5, h1_9, h1_15, h1_21, h1_26, h1_31, h1_38]; (repeat refine AI ?_); refine hK' _ _ ?_; clear hK' K')
       simp only [sE, ↓reduceIte, simprocAttr]
       repeat refine AI ?_
       refine hK _ _ _ ?_
       clear hK K
       refine hw_ret ?_
       simp (maxSteps := 4000000) only [hpost, Tryz.results51, hresL, hres1, tupOf, ↓sP, sA, tyS, simprocAttr]
       exact hret_pure [] (.bool false) rfl (by simp only [keyB_ref, maxN, h1_5, h1_9, h1_15, h1_21, h1_26, h1_31, h1_38, Bool.and_true, Bool.and_false, Bool.true_and, Bool.false_and]; try exact congrArg CV.bool h1_43.symm)
      iterate 5
       (refine hlex_step (g := some (33, true)) rfl rfl fun K' hK' => ?_; simp only [sH, ↓sP, sA, tyS, simprocAttr, h1_5, h1_9, h1_15, h1_21, h1_26, h1_31]; (repeat refine AI ?_); refine hK' _ _ ?_; clear hK' K')
      iterate 2
       (refine hlex_step (g := none) rfl rfl fun K' hK' => ?_; simp only [sH, ↓sP, sA, tyS, simprocAttr, h1_5, h1_9, h1_15, h1_21, h1_26, h1_31]; (repeat refine AI ?_); refine hK' _ _ ?_; clear hK' K')
      iterate 3
       (refine hlex_step (g := some (40, true)) rfl rfl fun K' hK' => ?_; simp only [sH, ↓sP, sA, tyS, simprocAttr, h1_5, h1_9, h1_15, h1_21, h1_26, h1_31]; (repeat refine AI ?_); refine hK' _ _ ?_; clear hK' K')
      iterate 2
       (refine hlex_step (g := none) rfl rfl fun K' hK' => ?_; simp only [sH, ↓sP, sA, tyS, simprocAttr, h1_5, h1_9, h1_15, h1_21, h1_26, h1_31]; (repeat refine AI ?_); refine hK' _ _ ?_; clear hK' K')
      simp only [sE, ↓reduceIte, simprocAttr]
      repeat refine AI ?_
      refine hK _ _ _ ?_
      clear hK K
      refine hw_ret ?_
      simp (maxSteps := 4000000) only [hpost, Tryz.results51, hresL, hres1, tupOf, ↓sP, sA, tyS, simprocAttr]
      exact hret_pure [] (.bool false) rfl (by simp only [keyB_ref, maxN, h1_5, h1_9, h1_15, h1_21, h1_26, h1_31, Bool.and_true, Bool.and_false, Bool.true_and, Bool.false_and]; try exact congrArg CV.bool h1_43.symm)
     iterate 3
      (refine hlex_step (g := some (28, true)) rfl rfl fun K' hK' => ?_; simp only [sH, ↓sP, sA, tyS, simprocAttr, h1_5, h1_9, h1_15, h1_21, h1_26]; (repeat refine AI ?_); refine hK' _ _ ?_; clear hK' K')
     iterate 2
      (refine hlex_step (g := none) rfl rfl fun K' hK' => ?_; simp only [sH, ↓sP, sA, tyS, simprocAttr, h1_5, h1_9, h1_15, h1_21, h1_26]; (repeat refine AI ?_); refine hK' _ _ ?_; clear hK' K')
     iterate 5
      (refine hlex_step (g := some (33, true)) rfl rfl fun K' hK' => ?_; simp only [sH, ↓sP, sA, tyS, simprocAttr, h1_5, h1_9, h1_15, h1_21, h1_26]; (repeat refine AI ?_); refine hK' _ _ ?_; clear hK' K')
     iterate 2
      (refine hlex_step (g := none) rfl rfl fun K' hK' => ?_; simp only [sH, ↓sP, sA, tyS, simprocAttr, h1_5, h1_9, h1_15, h1_21, h1_26]; (repeat refine AI ?_); refine hK' _ _ ?_; clear hK' K')
     iterate 3
      (refine hlex_step (g := some (40, true)) rfl rfl fun K' hK' => ?_; simp only [sH, ↓sP, sA, tyS, simprocAttr, h1_5, h1_9, h1_15, h1_21, h1_26]; (repeat refine AI ?_); refine hK' _ _ ?_; clear hK' K')
     iterate 2
      (refine hlex_step (g := none) rfl rfl fun K' hK' => ?_; simp only [sH, ↓sP, sA, tyS, simprocAttr, h1_5, h1_9, h1_15, h1_21, h1_26]; (repeat refine AI ?_); refine hK' _ _ ?_; clear hK' K')
     simp only [sE, ↓reduceIte, simprocAttr]
     repeat refine AI ?_
     refine hK _ _ _ ?_
     clear hK K
     refine hw_ret ?_
     simp (maxSteps := 4000000) only [hpost, Tryz.results51, hresL, hres1, tupOf, ↓sP, sA, tyS, simprocAttr]
     exact hret_pure [] (.bool false) rfl (by simp only [keyB_ref, maxN, h1_5, h1_9, h1_15, h1_21, h1_26, Bool.and_true, Bool.and_false, Bool.true_and, Bool.false_and]; try exact congrArg CV.bool h1_43.symm)
    iterate 3
     (refine hlex_step (g := some (23, true)) rfl rfl fun K' hK' => ?_; simp only [sH, ↓sP, sA, tyS, simprocAttr, h1_5, h1_9, h1_15, h1_21]; (repeat refine AI ?_); refine hK' _ _ ?_; clear hK' K')
    iterate 2
     (refine hlex_step (g := none) rfl rfl fun K' hK' => ?_; simp only [sH, ↓sP, sA, tyS, simprocAttr, h1_5, h1_9, h1_15, h1_21]; (repeat refine AI ?_); refine hK' _ _ ?_; clear hK' K')
    iterate 3
     (refine hlex_step (g := some (28, true)) rfl rfl fun K' hK' => ?_; simp only [sH, ↓sP, sA, tyS, simprocAttr, h1_5, h1_9, h1_15, h1_21]; (repeat refine AI ?_); refine hK' _ _ ?_; clear hK' K')
    iterate 2
     (refine hlex_step (g := none) rfl rfl fun K' hK' => ?_; simp only [sH, ↓sP, sA, tyS, simprocAttr, h1_5, h1_9, h1_15, h1_21]; (repeat refine AI ?_); refine hK' _ _ ?_; clear hK' K')
    iterate 5
     (refine hlex_step (g := some (33, true)) rfl rfl fun K' hK' => ?_; simp only [sH, ↓sP, sA, tyS, simprocAttr, h1_5, h1_9, h1_15, h1_21]; (repeat refine AI ?_); refine hK' _ _ ?_; clear hK' K')
    iterate 2
     (refine hlex_step (g := none) rfl rfl fun K' hK' => ?_; simp only [sH, ↓sP, sA, tyS, simprocAttr, h1_5, h1_9, h1_15, h1_21]; (repeat refine AI ?_); refine hK' _ _ ?_; clear hK' K')
    iterate 3
     (refine hlex_step (g := some (40, true)) rfl rfl fun K' hK' => ?_; simp only [sH, ↓sP, sA, tyS, simprocAttr, h1_5, h1_9, h1_15, h1_21]; (repeat refine AI ?_); refine hK' _ _ ?_; clear hK' K')
    iterate 2
     (refine hlex_step (g := none) rfl rfl fun K' hK' => ?_; simp only [sH, ↓sP, sA, tyS, simprocAttr, h1_5, h1_9, h1_15, h1_21]; (repeat refine AI ?_); refine hK' _ _ ?_; clear hK' K')
    simp only [sE, ↓reduceIte, simprocAttr]
    repeat refine AI ?_
    refine hK _ _ _ ?_
    clear hK K
    refine hw_ret ?_
    simp (maxSteps := 4000000) only [hpost, Tryz.results51, hresL, hres1, tupOf, ↓sP, sA, tyS, simprocAttr]
    exact hret_pure [] (.bool false) rfl (by simp only [keyB_ref, maxN, h1_5, h1_9, h1_15, h1_21, Bool.and_true, Bool.and_false, Bool.true_and, Bool.false_and]; try exact congrArg CV.bool h1_43.symm)
   iterate 4
    (refine hlex_step (g := some (17, true)) rfl rfl fun K' hK' => ?_; simp only [sH, ↓sP, sA, tyS, simprocAttr, h1_5, h1_9, h1_15]; (repeat refine AI ?_); refine hK' _ _ ?_; clear hK' K')
   iterate 2
    (refine hlex_step (g := none) rfl rfl fun K' hK' => ?_; simp only [sH, ↓sP, sA, tyS, simprocAttr, h1_5, h1_9, h1_15]; (repeat refine AI ?_); refine hK' _ _ ?_; clear hK' K')
   iterate 3
    (refine hlex_step (g := some (23, true)) rfl rfl fun K' hK' => ?_; simp only [sH, ↓sP, sA, tyS, simprocAttr, h1_5, h1_9, h1_15]; (repeat refine AI ?_); refine hK' _ _ ?_; clear hK' K')
   iterate 2
    (refine hlex_step (g := none) rfl rfl fun K' hK' => ?_; simp only [sH, ↓sP, sA, tyS, simprocAttr, h1_5, h1_9, h1_15]; (repeat refine AI ?_); refine hK' _ _ ?_; clear hK' K')
   iterate 3
    (refine hlex_step (g := some (28, true)) rfl rfl fun K' hK' => ?_; simp only [sH, ↓sP, sA, tyS, simprocAttr, h1_5, h1_9, h1_15]; (repeat refine AI ?_); refine hK' _ _ ?_; clear hK' K')
   iterate 2
    (refine hlex_step (g := none) rfl rfl fun K' hK' => ?_; simp only [sH, ↓sP, sA, tyS, simprocAttr, h1_5, h1_9, h1_15]; (repeat refine AI ?_); refine hK' _ _ ?_; clear hK' K')
   iterate 5
    (refine hlex_step (g := some (33, true)) rfl rfl fun K' hK' => ?_; simp only [sH, ↓sP, sA, tyS, simprocAttr, h1_5, h1_9, h1_15]; (repeat refine AI ?_); refine hK' _ _ ?_; clear hK' K')
   iterate 2
    (refine hlex_step (g := none) rfl rfl fun K' hK' => ?_; simp only [sH, ↓sP, sA, tyS, simprocAttr, h1_5, h1_9, h1_15]; (repeat refine AI ?_); refine hK' _ _ ?_; clear hK' K')
   iterate 3
    (refine hlex_step (g := some (40, true)) rfl rfl fun K' hK' => ?_; simp only [sH, ↓sP, sA, tyS, simprocAttr, h1_5, h1_9, h1_15]; (repeat refine AI ?_); refine hK' _ _ ?_; clear hK' K')
   iterate 2
    (refine hlex_step (g := none) rfl rfl fun K' hK' => ?_; simp only [sH, ↓sP, sA, tyS, simprocAttr, h1_5, h1_9, h1_15]; (repeat refine AI ?_); refine hK' _ _ ?_; clear hK' K')
   simp only [sE, ↓reduceIte, simprocAttr]
   repeat refine AI ?_
   refine hK _ _ _ ?_
   clear hK K
   refine hw_ret ?_
   simp (maxSteps := 4000000) only [hpost, Tryz.results51, hresL, hres1, tupOf, ↓sP, sA, tyS, simprocAttr]
   exact hret_pure [] (.bool false) rfl (by simp only [keyB_ref, maxN, h1_5, h1_9, h1_15, Bool.and_true, Bool.and_false, Bool.true_and, Bool.false_and]; try exact congrArg CV.bool h1_43.symm)
  iterate 4
   (refine hlex_step (g := some (11, true)) rfl rfl fun K' hK' => ?_; simp only [sH, ↓sP, sA, tyS, simprocAttr, h1_5, h1_9]; (repeat refine AI ?_); refine hK' _ _ ?_; clear hK' K')
  iterate 2
   (refine hlex_step (g := none) rfl rfl fun K' hK' => ?_; simp only [sH, ↓sP, sA, tyS, simprocAttr, h1_5, h1_9]; (repeat refine AI ?_); refine hK' _ _ ?_; clear hK' K')
  iterate 4
   (refine hlex_step (g := some (17, true)) rfl rfl fun K' hK' => ?_; simp only [sH, ↓sP, sA, tyS, simprocAttr, h1_5, h1_9]; (repeat refine AI ?_); refine hK' _ _ ?_; clear hK' K')
  iterate 2
   (refine hlex_step (g := none) rfl rfl fun K' hK' => ?_; simp only [sH, ↓sP, sA, tyS, simprocAttr, h1_5, h1_9]; (repeat refine AI ?_); refine hK' _ _ ?_; clear hK' K')
  iterate 3
   (refine hlex_step (g := some (23, true)) rfl rfl fun K' hK' => ?_; simp only [sH, ↓sP, sA, tyS, simprocAttr, h1_5, h1_9]; (repeat refine AI ?_); refine hK' _ _ ?_; clear hK' K')
  iterate 2
   (refine hlex_step (g := none) rfl rfl fun K' hK' => ?_; simp only [sH, ↓sP, sA, tyS, simprocAttr, h1_5, h1_9]; (repeat refine AI ?_); refine hK' _ _ ?_; clear hK' K')
  iterate 3
   (refine hlex_step (g := some (28, true)) rfl rfl fun K' hK' => ?_; simp only [sH, ↓sP, sA, tyS, simprocAttr, h1_5, h1_9]; (repeat refine AI ?_); refine hK' _ _ ?_; clear hK' K')
  iterate 2
   (refine hlex_step (g := none) rfl rfl fun K' hK' => ?_; simp only [sH, ↓sP, sA, tyS, simprocAttr, h1_5, h1_9]; (repeat refine AI ?_); refine hK' _ _ ?_; clear hK' K')
  iterate 5
   (refine hlex_step (g := some (33, true)) rfl rfl fun K' hK' => ?_; simp only [sH, ↓sP, sA, tyS, simprocAttr, h1_5, h1_9]; (repeat refine AI ?_); refine hK' _ _ ?_; clear hK' K')
  iterate 2
   (refine hlex_step (g := none) rfl rfl fun K' hK' => ?_; simp only [sH, ↓sP, sA, tyS, simprocAttr, h1_5, h1_9]; (repeat refine AI ?_); refine hK' _ _ ?_; clear hK' K')
  iterate 3
   (refine hlex_step (g := some (40, true)) rfl rfl fun K' hK' => ?_; simp only [sH, ↓sP, sA, tyS, simprocAttr, h1_5, h1_9]; (repeat refine AI ?_); refine hK' _ _ ?_; clear hK' K')
  iterate 2
   (refine hlex_step (g := none) rfl rfl fun K' hK' => ?_; simp only [sH, ↓sP, sA, tyS, simprocAttr, h1_5, h1_9]; (repeat refine AI ?_); refine hK' _ _ ?_; clear hK' K')
  simp only [sE, ↓reduceIte, simprocAttr]
  repeat refine AI ?_
  refine hK _ _ _ ?_
  clear hK K
  refine hw_ret ?_
  simp (maxSteps := 4000000) only [hpost, Tryz.results51, hresL, hres1, tupOf, ↓sP, sA, tyS, simprocAttr]
  exact hret_pure [] (.bool false) rfl (by simp only [keyB_ref, maxN, h1_5, h1_9, Bool.and_true, Bool.and_false, Bool.true_and, Bool.false_and]; try exact congrArg CV.bool h1_43.symm)
 iterate 3
  (refine hlex_step (g := some (6, true)) rfl rfl fun K' hK' => ?_; simp only [sH, ↓sP, sA, tyS, simprocAttr, h1_5]; (repeat refine AI ?_); refine hK' _ _ ?_; clear hK' K')
 iterate 2
  (refine hlex_step (g := none) rfl rfl fun K' hK' => ?_; simp only [sH, ↓sP, sA, tyS, simprocAttr, h1_5]; (repeat refine AI ?_); refine hK' _ _ ?_; clear hK' K')
 iterate 4
  (refine hlex_step (g := some (11, true)) rfl rfl fun K' hK' => ?_; simp only [sH, ↓sP, sA, tyS, simprocAttr, h1_5]; (repeat refine AI ?_); refine hK' _ _ ?_; clear hK' K')
 iterate 2
  (refine hlex_step (g := none) rfl rfl fun K' hK' => ?_; simp only [sH, ↓sP, sA, tyS, simprocAttr, h1_5]; (repeat refine AI ?_); refine hK' _ _ ?_; clear hK' K')
 iterate 4
  (refine hlex_step (g := some (17, true)) rfl rfl fun K' hK' => ?_; simp only [sH, ↓sP, sA, tyS, simprocAttr, h1_5]; (repeat refine AI ?_); refine hK' _ _ ?_; clear hK' K')
 iterate 2
  (refine hlex_step (g := none) rfl rfl fun K' hK' => ?_; simp only [sH, ↓sP, sA, tyS, simprocAttr, h1_5]; (repeat refine AI ?_); refine hK' _ _ ?_; clear hK' K')
 iterate 3
  (refine hlex_step (g := some (23, true)) rfl rfl fun K' hK' => ?_; simp only [sH, ↓sP, sA, tyS, simprocAttr, h1_5]; (repeat refine AI ?_); refine hK' _ _ ?_; clear hK' K')
 iterate 2
  (refine hlex_step (g := none) rfl rfl fun K' hK' => ?_; simp only [sH, ↓sP, sA, tyS, simprocAttr, h1_5]; (repeat refine AI ?_); refine hK' _ _ ?_; clear hK' K')
 iterate 3
  (refine hlex_step (g := some (28, true)) rfl rfl fun K' hK' => ?_; simp only [sH, ↓sP, sA, tyS, simprocAttr, h1_5]; (repeat refine AI ?_); refine hK' _ _ ?_; clear hK' K')
 iterate 2
  (refine hlex_step (g := none) rfl rfl fun K' hK' => ?_; simp only [sH, ↓sP, sA, tyS, simprocAttr, h1_5]; (repeat refine AI ?_); refine hK' _ _ ?_; clear hK' K')
 iterate 5
  (refine hlex_step (g := some (33, true)) rfl rfl fun K' hK' => ?_; simp only [sH, ↓sP, sA, tyS, simprocAttr, h1_5]; (repeat refine AI ?_); refine hK' _ _ ?_; clear hK' K')
 iterate 2
  (refine hlex_step (g := none) rfl rfl fun K' hK' => ?_; simp only [sH, ↓sP, sA, tyS, simprocAttr, h1_5]; (repeat refine AI ?_); refine hK' _ _ ?_; clear hK' K')
 iterate 3
  (refine hlex_step (g := some (40, true)) rfl rfl fun K' hK' => ?_; simp only [sH, ↓sP, sA, tyS, simprocAttr, h1_5]; (repeat refine AI ?_); refine hK' _ _ ?_; clear hK' K')
 iterate 2
  (refine hlex_step (g := none) rfl rfl fun K' hK' => ?_; simp only [sH, ↓sP, sA, tyS, simprocAttr, h1_5]; (repeat refine AI ?_); refine hK' _ _ ?_; clear hK' K')
 simp only [sE, ↓reduceIte, simprocAttr]
 repeat refine AI ?_
 refine hK _ _ _ ?_
 clear hK K
 refine hw_ret ?_
 simp (maxSteps := 4000000) only [hpost, Tryz.results51, hresL, hres1, tupOf, ↓sP, sA, tyS, simprocAttr]
 exact hret_pure [] (.bool false) rfl (by simp only [keyB_ref, maxN, h1_5, Bool.and_true, Bool.and_false, Bool.true_and, Bool.false_and]; try exact congrArg CV.bool h1_43.symm)


theorem keys_ok (hid : ∀ p : Pk, HPure Tryz.prog 28 [p.cv] (fun v => v = dg (pid p))) (l : List Ky) (hl : l.length < 2 ^ 40) (hw : ∀ k ∈ l, kSz k) : HPure Tryz.prog 56 [.slc (l.map Ky.cv)] (fun v => v = .bool (keysB l)) := by
 refine hfn_walk Tryz.func56 rfl (by kernel_rfl) (locOk_nil _) (Nat.le_of_ble_eq_true rfl) ?_
 refine hw_seq fun K hK => hw_region (by kernel_rfl) ?_
 simp (maxSteps := 4000000) only [↓sP, sA, tyS, simprocAttr]
 repeat refine AI ?_
 refine hK _ _ _ ?_
 clear hK K
 refine hw_seq fun K hK => ?_
 refine hw_seq fun K hK => hw_region (by kernel_rfl) ?_
 simp (maxSteps := 4000000) only [↓sP, sA, tyS, simprocAttr]
 repeat refine AI ?_
 refine hK _ _ _ ?_
 clear hK K
 refine hw_block ?_
 refine hw_loop (α := {i : Nat // i ≤ l.length ∧ GoodTo keyB (fun a b => dlt (kid a) (kid b)) l i}) (fun i => (fin [(0, .c (.slc (l.map Ky.cv))), (5, .c (.slc (l.map Ky.cv))), (6, .c (.int .i64 l.length)), (7, .c (.int .i64 i.1))], fob [])) 100 (fun i => l.length - i.1) ⟨0, by omega, GoodTo.zero⟩ (fits_fin (by omega) (by simp [FinOk, fin_at, finA_at, upd_at, HV.men, HV.menL, HV.norm, HV.toC, HV.toCL]) (by simp [FobOk, fob_at, upd_at, none0_at, gone, HO.men, HV.men, HV.menL, HV.norm, HV.toC, HV.toCL])) ?_
 rintro ⟨i, hi, h0⟩
 refine hw_seq fun K hK => hw_region (by kernel_rfl) ?_
 simp (maxSteps := 4000000) only [↓sP, sA, tyS, simprocAttr]
 repeat refine AI ?_
 refine hK _ _ _ ?_
 clear hK K
 refine hw_seq fun K hK => ?_
 refine hw_cond (b := decide ((i : Int) < l.length)) rfl (fun hb => ?_) (fun hb => ?_)
 ·
  have hlt : i < l.length := by simpa using hb
  have hi1 : i - 1 < l.length := by omega
  have hm : decide ((0 : Int) < (i : Int)) = true → IntKind.i64.wrap ((i : Int) - 1) = ((i - 1 : Nat) : Int) := fun h => by
   have : 0 < i := by simpa using h
   rw [IntWalk.i64_in _ (by omega)]; omega
  have hk := hw _ (List.getElem_mem hlt)
  refine hw_skip ?_
  simp (maxSteps := 4000000) only [↓sP, sA, tyS, simprocAttr]
  repeat refine AI ?_
  refine hK _ _ _ ?_
  clear hK K
  refine hw_seq fun K hK => ?_
  refine hw_block ?_
  refine hw_seq fun K hK => hw_region (by kernel_rfl) ?_
  simp only [sR, simprocAttr]
  iterate 6
   (refine hlex_step (g := none) rfl rfl fun K' hK' => ?_; simp only [sH, ↓sP, sA, tyS, simprocAttr, Int.natCast_nonneg, Int.ofNat_lt, hlt, nth_map hlt]; (repeat refine AI ?_); refine hK' _ _ ?_; clear hK' K')
  simp only [sE, ↓reduceIte, simprocAttr]
  repeat refine AI ?_
  refine hK _ _ _ ?_
  clear hK K
  refine hw_seq fun K hK => ?_
  refine hw_seq fun K hK => hw_region (by kernel_rfl) ?_
  simp only [sR, simprocAttr]
  iterate 2
   (refine hlex_step (g := none) rfl rfl fun K' hK' => ?_; simp only [sH, ↓sP, sA, tyS, simprocAttr]; (repeat refine AI ?_); refine hK' _ _ ?_; clear hK' K')
  refine hlex_step (g := none) rfl rfl fun K' hK' => ?_
  simp (maxSteps := 4000000) only [sH, ↓sP, sA, tyS, simprocAttr]
  refine call_pure (args := [_]) (pvalid_ok l[i].p) ⟨rfl, rfl, rfl, rfl⟩ ?_
  rintro u rfl
  repeat refine AI ?_
  refine hK' _ _ ?_
  clear hK' K'
  iterate 2
   (refine hlex_step (g := none) rfl rfl fun K' hK' => ?_; simp only [sH, ↓sP, sA, tyS, simprocAttr]; (repeat refine AI ?_); refine hK' _ _ ?_; clear hK' K')
  refine hlex_cases 14 rfl (fun h4_14 => ?_) (fun h4_14 => ?_)
  ·
   iterate 2
    (refine hlex_step (g := some (16, false)) rfl rfl fun K' hK' => ?_; simp only [sH, ↓sP, sA, tyS, simprocAttr, h4_14]; (repeat refine AI ?_); refine hK' _ _ ?_; clear hK' K')
   refine hlex_step (g := some (16, false)) rfl rfl fun K' hK' => ?_
   simp (maxSteps := 4000000) only [sH, ↓sP, sA, tyS, simprocAttr, h4_14]
   refine call_pure (args := [_]) (name_ok l[i].o hk.1) ⟨rfl, rfl, rfl, rfl⟩ ?_
   rintro u rfl
   repeat refine AI ?_
   refine hK' _ _ ?_
   clear hK' K'
   refine hlex_step (g := some (16, false)) rfl rfl fun K' hK' => ?_
   simp (maxSteps := 4000000) only [sH, ↓sP, sA, tyS, simprocAttr, h4_14]
   repeat refine AI ?_
   refine hK' _ _ ?_
   clear hK' K'
   iterate 2
    (refine hlex_step (g := none) rfl rfl fun K' hK' => ?_; simp only [sH, ↓sP, sA, tyS, simprocAttr, h4_14]; (repeat refine AI ?_); refine hK' _ _ ?_; clear hK' K')
   refine hlex_cases 19 rfl (fun h4_19 => ?_) (fun h4_19 => ?_)
   ·
    iterate 4
     (refine hlex_step (g := some (22, false)) rfl rfl fun K' hK' => ?_; simp only [sH, ↓sP, sA, tyS, simprocAttr, h4_14, h4_19]; (repeat refine AI ?_); refine hK' _ _ ?_; clear hK' K')
    iterate 2
     (refine hlex_step (g := none) rfl rfl fun K' hK' => ?_; simp only [sH, ↓sP, sA, tyS, simprocAttr, h4_14, h4_19]; (repeat refine AI ?_); refine hK' _ _ ?_; clear hK' K')
    refine hlex_cases 26 rfl (fun h4_26 => ?_) (fun h4_26 => ?_)
    ·
     iterate 4
      (refine hlex_step (g := some (28, false)) rfl rfl fun K' hK' => ?_; simp only [sH, ↓sP, sA, tyS, simprocAttr, h4_14, h4_19, h4_26]; (repeat refine AI ?_); refine hK' _ _ ?_; clear hK' K')
     iterate 2
      (refine hlex_step (g := none) rfl rfl fun K' hK' => ?_; simp only [sH, ↓sP, sA, tyS, simprocAttr, h4_14, h4_19, h4_26]; (repeat refine AI ?_); refine hK' _ _ ?_; clear hK' K')
     iterate 4
      (refine hlex_step (g := some (34, false)) rfl rfl fun K' hK' => ?_; simp only [sH, ↓sP, sA, tyS, simprocAttr, h4_14, h4_19, h4_26]; (repeat refine AI ?_); refine hK' _ _ ?_; clear hK' K')
     refine hlex_step (g := none) rfl rfl fun K' hK' => ?_
     simp (maxSteps := 4000000) only [sH, ↓sP, sA, tyS, simprocAttr, h4_14, h4_19, h4_26]
     repeat refine AI ?_
     refine hK' _ _ ?_
     clear hK' K'
     simp only [sE, ↓reduceIte, simprocAttr]
     repeat refine AI ?_
     refine hK _ _ _ ?_
     clear hK K
     refine hw_cond (b := true) rfl (fun hb => ?_) (fun hb => ?_)
     ·
      refine hw_seq fun K hK => hw_region (by kernel_rfl) ?_
      simp (maxSteps := 4000000) only [↓sP, sA, tyS, simprocAttr]
      repeat refine AI ?_
      refine hK _ _ _ ?_
      clear hK K
      refine hw_ret ?_
      simp (maxSteps := 4000000) only [hpost, Tryz.results56, hresL, hres1, tupOf, ↓sP, sA, tyS, simprocAttr]
      exact hret_pure [] (.bool false) rfl (by rw [keysB_eq, bad_one hlt (by simp only [keyB_code, h4_14, h4_19, h4_26, Bool.not_true, Bool.not_false, Bool.false_and, Bool.and_false]), Bool.false_and])
     cases hb
    iterate 4
     (refine hlex_step (g := some (28, false)) rfl rfl fun K' hK' => ?_; simp only [sH, ↓sP, sA, tyS, simprocAttr, h4_14, h4_19, h4_26]; (repeat refine AI ?_); refine hK' _ _ ?_; clear hK' K')
    iterate 2
     (refine hlex_step (g := none) rfl rfl fun K' hK' => ?_; simp only [sH, ↓sP, sA, tyS, simprocAttr, h4_14, h4_19, h4_26]; (repeat refine AI ?_); refine hK' _ _ ?_; clear hK' K')
    refine hlex_cases 32 rfl (fun h4_32 => ?_) (fun h4_32 => ?_)
    ·
     iterate 4
      (refine hlex_step (g := some (34, false)) rfl rfl fun K' hK' => ?_; simp only [sH, ↓sP, sA, tyS, simprocAttr, h4_14, h4_19, h4_26, h4_32]; (repeat refine AI ?_); refine hK' _ _ ?_; clear hK' K')
     refine hlex_step (g := none) rfl rfl fun K' hK' => ?_
     simp (maxSteps := 4000000) only [sH, ↓sP, sA, tyS, simprocAttr, h4_14, h4_19, h4_26, h4_32]
     repeat refine AI ?_
     refine hK' _ _ ?_
     clear hK' K'
     simp only [sE, ↓reduceIte, simprocAttr]
     repeat refine AI ?_
     refine hK _ _ _ ?_
     clear hK K
     refine hw_cond (b := true) rfl (fun hb => ?_) (fun hb => ?_)
     ·
      refine hw_seq fun K hK => hw_region (by kernel_rfl) ?_
      simp (maxSteps := 4000000) only [↓sP, sA, tyS, simprocAttr]
      repeat refine AI ?_
      refine hK _ _ _ ?_
      clear hK K
      refine hw_ret ?_
      simp (maxSteps := 4000000) only [hpost, Tryz.results56, hresL, hres1, tupOf, ↓sP, sA, tyS, simprocAttr]
      exact hret_pure [] (.bool false) rfl (by rw [keysB_eq, bad_one hlt (by simp only [keyB_code, h4_14, h4_19, h4_26, h4_32, Bool.not_true, Bool.not_false, Bool.false_and, Bool.and_false]), Bool.false_and])
     cases hb
    iterate 2
     (refine hlex_step (g := some (34, false)) rfl rfl fun K' hK' => ?_; simp only [sH, ↓sP, sA, tyS, simprocAttr, h4_14, h4_19, h4_26, h4_32]; (repeat refine AI ?_); refine hK' _ _ ?_; clear hK' K')
    refine hlex_step (g := some (34, false)) rfl rfl fun K' hK' => ?_
    simp (maxSteps := 4000000) only [sH, ↓sP, sA, tyS, simprocAttr, h4_14, h4_19, h4_26, h4_32]
    refine call_pure (args := [_]) (names_ok l[i].rs hk.2.1 hk.2.2) ⟨rfl, rfl, rfl, rfl⟩ ?_
    rintro u rfl
    repeat refine AI ?_
    refine hK' _ _ ?_
    clear hK' K'
    refine hlex_step (g := some (34, false)) rfl rfl fun K' hK' => ?_
    simp (maxSteps := 4000000) only [sH, ↓sP, sA, tyS, simprocAttr, h4_14, h4_19, h4_26, h4_32]
    repeat refine AI ?_
    refine hK' _ _ ?_
    clear hK' K'
    refine hlex_step (g := none) rfl rfl fun K' hK' => ?_
    simp (maxSteps := 4000000) only [sH, ↓sP, sA, tyS, simprocAttr, h4_14, h4_19, h4_26, h4_32]
    repeat refine AI ?_
    refine hK' _ _ ?_
    clear hK' K'
    refine hlex_cases 37 rfl (fun h4_37 => ?_) (fun h4_37 => ?_)
    ·
     simp only [h4_37]
     simp only [sE, ↓reduceIte, simprocAttr]
     repeat refine AI ?_
     refine hK _ _ _ ?_
     clear hK K
     refine hw_cond (b := false) rfl (fun hb => ?_) (fun hb => ?_)
     ·
      cases hb
     refine hw_skip ?_
     simp (maxSteps := 4000000) only [↓sP, sA, tyS, simprocAttr]
     repeat refine AI ?_
     refine hK _ _ _ ?_
     clear hK K
     refine hw_seq fun K hK => ?_
     refine hw_seq fun K hK => hw_region (by kernel_rfl) ?_
     simp only [sR, simprocAttr]
     iterate 2
      (refine hlex_step (g := none) rfl rfl fun K' hK' => ?_; simp only [sH, ↓sP, sA, tyS, simprocAttr, h4_14, h4_19, h4_26, h4_32, h4_37]; (repeat refine AI ?_); refine hK' _ _ ?_; clear hK' K')
     refine hlex_step (g := none) rfl rfl fun K' hK' => ?_
     simp (maxSteps := 4000000) only [sH, ↓sP, sA, tyS, simprocAttr, h4_14, h4_19, h4_26, h4_32, h4_37]
     refine call_pure (args := [_, _]) (within_ok 0 l[i].fr) ⟨rfl, rfl, rfl, rfl⟩ ?_
     rintro u rfl
     repeat refine AI ?_
     refine hK' _ _ ?_
     clear hK' K'
     iterate 2
      (refine hlex_step (g := none) rfl rfl fun K' hK' => ?_; simp only [sH, ↓sP, sA, tyS, simprocAttr, h4_14, h4_19, h4_26, h4_32, h4_37]; (repeat refine AI ?_); refine hK' _ _ ?_; clear hK' K')
     refine hlex_cases 42 rfl (fun h6_42 => ?_) (fun h6_42 => ?_)
     ·
      iterate 2
       (refine hlex_step (g := some (44, false)) rfl rfl fun K' hK' => ?_; simp only [sH, ↓sP, sA, tyS, simprocAttr, h4_14, h4_19, h4_26, h4_32, h4_37, h6_42]; (repeat refine AI ?_); refine hK' _ _ ?_; clear hK' K')
      refine hlex_step (g := some (44, false)) rfl rfl fun K' hK' => ?_
      simp (maxSteps := 4000000) only [sH, ↓sP, sA, tyS, simprocAttr, h4_14, h4_19, h4_26, h4_32, h4_37, h6_42]
      refine call_pure (args := [_, _]) (within_ok 0 l[i].un) ⟨rfl, rfl, rfl, rfl⟩ ?_
      rintro u rfl
      repeat refine AI ?_
      refine hK' _ _ ?_
      clear hK' K'
      refine hlex_step (g := some (44, false)) rfl rfl fun K' hK' => ?_
      simp (maxSteps := 4000000) only [sH, ↓sP, sA, tyS, simprocAttr, h4_14, h4_19, h4_26, h4_32, h4_37, h6_42]
      repeat refine AI ?_
      refine hK' _ _ ?_
      clear hK' K'
      iterate 2
       (refine hlex_step (g := none) rfl rfl fun K' hK' => ?_; simp only [sH, ↓sP, sA, tyS, simprocAttr, h4_14, h4_19, h4_26, h4_32, h4_37, h6_42]; (repeat refine AI ?_); refine hK' _ _ ?_; clear hK' K')
      refine hlex_cases 47 rfl (fun h6_47 => ?_) (fun h6_47 => ?_)
      ·
       iterate 5
        (refine hlex_step (g := some (50, false)) rfl rfl fun K' hK' => ?_; simp only [sH, ↓sP, sA, tyS, simprocAttr, h4_14, h4_19, h4_26, h4_32, h4_37, h6_42, h6_47]; (repeat refine AI ?_); refine hK' _ _ ?_; clear hK' K')
       refine hlex_step (g := none) rfl rfl fun K' hK' => ?_
       simp (maxSteps := 4000000) only [sH, ↓sP, sA, tyS, simprocAttr, h4_14, h4_19, h4_26, h4_32, h4_37, h6_42, h6_47]
       repeat refine AI ?_
       refine hK' _ _ ?_
       clear hK' K'
       refine hlex_cases 55 rfl (fun h6_55 => ?_) (fun h6_55 => ?_)
       ·
        simp only [h6_55]
        simp only [sE, ↓reduceIte, simprocAttr]
        repeat refine AI ?_
        refine hK _ _ _ ?_
        clear hK K
        refine hw_cond (b := true) rfl (fun hb => ?_) (fun hb => ?_)
        ·
         refine hw_seq fun K hK => hw_region (by kernel_rfl) ?_
         simp (maxSteps := 4000000) only [↓sP, sA, tyS, simprocAttr]
         repeat refine AI ?_
         refine hK _ _ _ ?_
         clear hK K
         refine hw_ret ?_
         simp (maxSteps := 4000000) only [hpost, Tryz.results56, hresL, hres1, tupOf, ↓sP, sA, tyS, simprocAttr]
         exact hret_pure [] (.bool false) rfl (by rw [keysB_eq, bad_one hlt (by simp only [keyB_code, h4_14, h4_19, h4_26, h4_32, h4_37, h6_42, h6_47, h6_55, Bool.not_true, Bool.not_false, Bool.false_and, Bool.and_false]), Bool.false_and])
        cases hb
       simp only [h6_55]
       simp only [sE, ↓reduceIte, simprocAttr]
       repeat refine AI ?_
       refine hK _ _ _ ?_
       clear hK K
       refine hw_cond (b := false) rfl (fun hb => ?_) (fun hb => ?_)
       ·
        cases hb
       refine hw_skip ?_
       simp (maxSteps := 4000000) only [↓sP, sA, tyS, simprocAttr]
       repeat refine AI ?_
       refine hK _ _ _ ?_
       clear hK K
       refine hw_seq fun K hK => hw_draw2 mixed [(0, [], []), (1, [], []), (2, [], []), (3, [], []), (4, [], []), (5, [], []), (6, [], []), (7, [], []), (8, [], []), (10, [], []), (11, [], []), (9, [], [10, 11]), (12, [], []), (13, [], []), (14, [], []), (15, [], [])] [0, 1, 3, 7, 7, 23, 63, 127, 255, 511, 7, 1031, 4095, 8191, 16383, 32767] (by kernel_rfl) (by kernel_rfl) (by kernel_rfl) (by kernel_rfl) rfl (by kernel_rfl) ?_
       iterate 3
        (refine hwalk2_step (g := none) rfl rfl fun K' hK' => ?_; simp only [sH, ↓sP, sA, tyS, simprocAttr, hm, Int.natCast_nonneg, Int.ofNat_lt, hi1, nth_map hi1, h4_14, h4_19, h4_26, h4_32, h4_37, h6_42, h6_47, h6_55]; (repeat refine AI ?_); refine hK' _ _ ?_; clear hK' K')
       refine hwalk2_cases 58 rfl (fun h8_58 => ?_) (fun h8_58 => ?_)
       ·
        iterate 8
         (refine hwalk2_step (g := some (59, true)) rfl rfl fun K' hK' => ?_; simp only [sH, ↓sP, sA, tyS, simprocAttr, hm, Int.natCast_nonneg, Int.ofNat_lt, hi1, nth_map hi1, h4_14, h4_19, h4_26, h4_32, h4_37, h6_42, h6_47, h6_55, h8_58]; (repeat refine AI ?_); refine hK' _ _ ?_; clear hK' K')
        refine hwalk2_step (g := some (59, true)) rfl rfl fun K' hK' => ?_
        simp (maxSteps := 4000000) only [sH, ↓sP, sA, tyS, simprocAttr, hm, Int.natCast_nonneg, Int.ofNat_lt, hi1, nth_map hi1, h4_14, h4_19, h4_26, h4_32, h4_37, h6_42, h6_47, h6_55, h8_58]
        refine call_pure (args := [_]) (hid l[i - 1].p) ⟨rfl, rfl, rfl, rfl⟩ ?_
        rintro u rfl
        repeat refine AI ?_
        refine hK' _ _ ?_
        clear hK' K'
        refine hwalk2_step (g := some (59, true)) rfl rfl fun K' hK' => ?_
        simp (maxSteps := 4000000) only [sH, ↓sP, sA, tyS, simprocAttr, hm, Int.natCast_nonneg, Int.ofNat_lt, hi1, nth_map hi1, h4_14, h4_19, h4_26, h4_32, h4_37, h6_42, h6_47, h6_55, h8_58]
        refine call_pure (args := [_]) (hid l[i].p) ⟨rfl, rfl, rfl, rfl⟩ ?_
        rintro u rfl
        repeat refine AI ?_
        refine hK' _ _ ?_
        clear hK' K'
        refine hwalk2_step (g := some (59, true)) rfl rfl fun K' hK' => ?_
        simp (maxSteps := 4000000) only [sH, ↓sP, sA, tyS, simprocAttr, hm, Int.natCast_nonneg, Int.ofNat_lt, hi1, nth_map hi1, h4_14, h4_19, h4_26, h4_32, h4_37, h6_42, h6_47, h6_55, h8_58]
        refine call_pure (args := [_, _]) (order_ok (pid l[i - 1].p) (pid l[i].p)) ⟨rfl, rfl, rfl, rfl⟩ ?_
        rintro u rfl
        repeat refine AI ?_
        refine hK' _ _ ?_
        clear hK' K'
        refine hwalk2_step (g := some (59, true)) rfl rfl fun K' hK' => ?_
        simp (maxSteps := 4000000) only [sH, ↓sP, sA, tyS, simprocAttr, hm, Int.natCast_nonneg, Int.ofNat_lt, hi1, nth_map hi1, h4_14, h4_19, h4_26, h4_32, h4_37, h6_42, h6_47, h6_55, h8_58]
        repeat refine AI ?_
        refine hK' _ _ ?_
        clear hK' K'
        refine hwalk2_step (g := none) rfl rfl fun K' hK' => ?_
        simp (maxSteps := 4000000) only [sH, ↓sP, sA, tyS, simprocAttr, hm, Int.natCast_nonneg, Int.ofNat_lt, hi1, nth_map hi1, h4_14, h4_19, h4_26, h4_32, h4_37, h6_42, h6_47, h6_55, h8_58]
        repeat refine AI ?_
        refine hK' _ _ ?_
        clear hK' K'
        refine hwalk2_cases 71 rfl (fun h8_71 => ?_) (fun h8_71 => ?_)
        ·
         simp only [h8_71]
         simp only [sE, ↓reduceIte, simprocAttr]
         repeat refine AI ?_
         refine hK _ _ _ ?_
         clear hK K
         refine hw_cond (b := true) rfl (fun hb => ?_) (fun hb => ?_)
         ·
          refine hw_seq fun K hK => hw_region (by kernel_rfl) ?_
          simp (maxSteps := 4000000) only [↓sP, sA, tyS, simprocAttr]
          repeat refine AI ?_
          refine hK _ _ _ ?_
          clear hK K
          refine hw_ret ?_
          simp (maxSteps := 4000000) only [hpost, Tryz.results56, hresL, hres1, tupOf, ↓sP, sA, tyS, simprocAttr]
          obtain ⟨j, rfl⟩ : ∃ j, i = j + 1 := ⟨i - 1, by simp at h8_58; omega⟩
          exact hret_pure [] (.bool false) rfl (by rw [keysB_eq, bad_two (i := j) hlt (by rw [cmp_dlt, Bool.not_eq_true'] at h8_71; exact h8_71), Bool.false_and])
         cases hb
        simp only [h8_71]
        simp only [sE, ↓reduceIte, simprocAttr]
        repeat refine AI ?_
        refine hK _ _ _ ?_
        clear hK K
        refine hw_cond (b := false) rfl (fun hb => ?_) (fun hb => ?_)
        ·
         cases hb
        refine hw_skip ?_
        simp (maxSteps := 4000000) only [↓sP, sA, tyS, simprocAttr]
        repeat refine AI ?_
        refine hK _ _ _ ?_
        clear hK K
        refine hw_region (by kernel_rfl) ?_
        simp (maxSteps := 4000000) only [↓sP, sA, tyS, simprocAttr, IntWalk.i64_in _ (show -9223372036854775808 ≤ (i : Int) + 1 ∧ (i : Int) + 1 ≤ 9223372036854775807 by omega)]
        obtain ⟨j, rfl⟩ : ∃ j, i = j + 1 := ⟨i - 1, by simp at h8_58; omega⟩
        refine ⟨⟨j + 1 + 1, hlt, h0.succ hlt (by simp only [keyB_code, h4_14, h4_19, h4_26, h4_32, h4_37, h6_42, h6_47, h6_55, h8_58, h8_71]; rfl) (by rw [cmp_dlt, Bool.not_eq_false'] at h8_71; exact h8_71)⟩, fits_fin (by omega) (by simp [FinOk, fin_at, finA_at, upd_at, HV.men, HV.menL, HV.norm, HV.toC, HV.toCL]) (by simp [FobOk, fob_at, upd_at, none0_at, gone, HO.men, HV.men, HV.menL, HV.norm, HV.toC, HV.toCL]), ?_⟩
        show l.length - (j + 1 + 1) < l.length - (j + 1)
        omega
       iterate 12
        (refine hwalk2_step (g := some (59, true)) rfl rfl fun K' hK' => ?_; simp only [sH, ↓sP, sA, tyS, simprocAttr, hm, Int.natCast_nonneg, Int.ofNat_lt, hi1, nth_map hi1, h4_14, h4_19, h4_26, h4_32, h4_37, h6_42, h6_47, h6_55, h8_58]; (repeat refine AI ?_); refine hK' _ _ ?_; clear hK' K')
       refine hwalk2_step (g := none) rfl rfl fun K' hK' => ?_
       simp (maxSteps := 4000000) only [sH, ↓sP, sA, tyS, simprocAttr, hm, Int.natCast_nonneg, Int.ofNat_lt, hi1, nth_map hi1, h4_14, h4_19, h4_26, h4_32, h4_37, h6_42, h6_47, h6_55, h8_58]
       repeat refine AI ?_
       refine hK' _ _ ?_
       clear hK' K'
       simp only [sE, ↓reduceIte, simprocAttr]
       repeat refine AI ?_
       refine hK _ _ _ ?_
       clear hK K
       refine hw_cond (b := false) rfl (fun hb => ?_) (fun hb => ?_)
       ·
        cases hb
       refine hw_skip ?_
       simp (maxSteps := 4000000) only [↓sP, sA, tyS, simprocAttr]
       repeat refine AI ?_
       refine hK _ _ _ ?_
       clear hK K
       refine hw_region (by kernel_rfl) ?_
       simp (maxSteps := 4000000) only [↓sP, sA, tyS, simprocAttr, IntWalk.i64_in _ (show -9223372036854775808 ≤ (i : Int) + 1 ∧ (i : Int) + 1 ≤ 9223372036854775807 by omega)]
       obtain rfl : i = 0 := by simp at h8_58; omega
       refine ⟨⟨1, hlt, GoodTo.one hlt (by simp only [keyB_code, h4_14, h4_19, h4_26, h4_32, h4_37, h6_42, h6_47, h6_55, h8_58]; rfl)⟩, fits_fin (by omega) (by simp [FinOk, fin_at, finA_at, upd_at, HV.men, HV.menL, HV.norm, HV.toC, HV.toCL]) (by simp [FobOk, fob_at, upd_at, none0_at, gone, HO.men, HV.men, HV.menL, HV.norm, HV.toC, HV.toCL]), ?_⟩
       show l.length - 1 < l.length - 0
       omega
      iterate 5
       (refine hlex_step (g := some (50, false)) rfl rfl fun K' hK' => ?_; simp only [sH, ↓sP, sA, tyS, simprocAttr, h4_14, h4_19, h4_26, h4_32, h4_37, h6_42, h6_47]; (repeat refine AI ?_); refine hK' _ _ ?_; clear hK' K')
      refine hlex_step (g := none) rfl rfl fun K' hK' => ?_
      simp (maxSteps := 4000000) only [sH, ↓sP, sA, tyS, simprocAttr, h4_14, h4_19, h4_26, h4_32, h4_37, h6_42, h6_47]
      repeat refine AI ?_
      refine hK' _ _ ?_
      clear hK' K'
      simp only [sE, ↓reduceIte, simprocAttr]
      repeat refine AI ?_
      refine hK _ _ _ ?_
      clear hK K
      refine hw_cond (b := true) rfl (fun hb => ?_) (fun hb => ?_)
      ·
       refine hw_seq fun K hK => hw_region (by kernel_rfl) ?_
       simp (maxSteps := 4000000) only [↓sP, sA, tyS, simprocAttr]
       repeat refine AI ?_
       refine hK _ _ _ ?_
       clear hK K
       refine hw_ret ?_
       simp (maxSteps := 4000000) only [hpost, Tryz.results56, hresL, hres1, tupOf, ↓sP, sA, tyS, simprocAttr]
       exact hret_pure [] (.bool false) rfl (by rw [keysB_eq, bad_one hlt (by simp only [keyB_code, h4_14, h4_19, h4_26, h4_32, h4_37, h6_42, h6_47, Bool.not_true, Bool.not_false, Bool.false_and, Bool.and_false]), Bool.false_and])
      cases hb
     iterate 4
      (refine hlex_step (g := some (44, false)) rfl rfl fun K' hK' => ?_; simp only [sH, ↓sP, sA, tyS, simprocAttr, h4_14, h4_19, h4_26, h4_32, h4_37, h6_42]; (repeat refine AI ?_); refine hK' _ _ ?_; clear hK' K')
     iterate 2
      (refine hlex_step (g := none) rfl rfl fun K' hK' => ?_; simp only [sH, ↓sP, sA, tyS, simprocAttr, h4_14, h4_19, h4_26, h4_32, h4_37, h6_42]; (repeat refine AI ?_); refine hK' _ _ ?_; clear hK' K')
     iterate 5
      (refine hlex_step (g := some (50, false)) rfl rfl fun K' hK' => ?_; simp only [sH, ↓sP, sA, tyS, simprocAttr, h4_14, h4_19, h4_26, h4_32, h4_37, h6_42]; (repeat refine AI ?_); refine hK' _ _ ?_; clear hK' K')
     refine hlex_step (g := none) rfl rfl fun K' hK' => ?_
     simp (maxSteps := 4000000) only [sH, ↓sP, sA, tyS, simprocAttr, h4_14, h4_19, h4_26, h4_32, h4_37, h6_42]
     repeat refine AI ?_
     refine hK' _ _ ?_
     clear hK' K'
     simp only [sE, ↓reduceIte, simprocAttr]
     repeat refine AI ?_
     refine hK _ _ _ ?_
     clear hK K
     refine hw_cond (b := true) rfl (fun hb => ?_) (fun hb => ?_)
     ·
      refine hw_seq fun K hK => hw_region (by kernel_rfl) ?_
      simp (maxSteps := 4000000) only [↓sP, sA, tyS, simprocAttr]
      repeat refine AI ?_
      refine hK _ _ _ ?_
      clear hK K
      refine hw_ret ?_
      simp (maxSteps := 4000000) only [hpost, Tryz.results56, hresL, hres1, tupOf, ↓sP, sA, tyS, simprocAttr]
      exact hret_pure [] (.bool false) rfl (by rw [keysB_eq, bad_one hlt (by simp only [keyB_code, h4_14, h4_19, h4_26, h4_32, h4_37, h6_42, Bool.not_true, Bool.not_false, Bool.false_and, Bool.and_false]), Bool.false_and])
     cases hb
    simp only [h4_37]
    simp only [sE, ↓reduceIte, simprocAttr]
    repeat refine AI ?_
    refine hK _ _ _ ?_
    clear hK K
    refine hw_cond (b := true) rfl (fun hb => ?_) (fun hb => ?_)
    ·
     refine hw_seq fun K hK => hw_region (by kernel_rfl) ?_
     simp (maxSteps := 4000000) only [↓sP, sA, tyS, simprocAttr]
     repeat refine AI ?_
     refine hK _ _ _ ?_
     clear hK K
     refine hw_ret ?_
     simp (maxSteps := 4000000) only [hpost, Tryz.results56, hresL, hres1, tupOf, ↓sP, sA, tyS, simprocAttr]
     exact hret_pure [] (.bool false) rfl (by rw [keysB_eq, bad_one hlt (by simp only [keyB_code, h4_14, h4_19, h4_26, h4_32, h4_37, Bool.not_true, Bool.not_false, Bool.false_and, Bool.and_false]), Bool.false_and])
    cases hb
   iterate 4
    (refine hlex_step (g := some (22, false)) rfl rfl fun K' hK' => ?_; simp only [sH, ↓sP, sA, tyS, simprocAttr, h4_14, h4_19]; (repeat refine AI ?_); refine hK' _ _ ?_; clear hK' K')
   iterate 2
    (refine hlex_step (g := none) rfl rfl fun K' hK' => ?_; simp only [sH, ↓sP, sA, tyS, simprocAttr, h4_14, h4_19]; (repeat refine AI ?_); refine hK' _ _ ?_; clear hK' K')
   iterate 4
    (refine hlex_step (g := some (28, false)) rfl rfl fun K' hK' => ?_; simp only [sH, ↓sP, sA, tyS, simprocAttr, h4_14, h4_19]; (repeat refine AI ?_); refine hK' _ _ ?_; clear hK' K')
   iterate 2
    (refine hlex_step (g := none) rfl rfl fun K' hK' => ?_; simp only [sH, ↓sP, sA, tyS, simprocAttr, h4_14, h4_19]; (repeat refine AI ?_); refine hK' _ _ ?_; clear hK' K')
   iterate 4
    (refine hlex_step (g := some (34, false)) rfl rfl fun K' hK' => ?_; simp only [sH, ↓sP, sA, tyS, simprocAttr, h4_14, h4_19]; (repeat refine AI ?_); refine hK' _ _ ?_; clear hK' K')
   refine hlex_step (g := none) rfl rfl fun K' hK' => ?_
   simp (maxSteps := 4000000) only [sH, ↓sP, sA, tyS, simprocAttr, h4_14, h4_19]
   repeat refine AI ?_
   refine hK' _ _ ?_
   clear hK' K'
   simp only [sE, ↓reduceIte, simprocAttr]
   repeat refine AI ?_
   refine hK _ _ _ ?_
   clear hK K
   refine hw_cond (b := true) rfl (fun hb => ?_) (fun hb => ?_)
   ·
    refine hw_seq fun K hK => hw_region (by kernel_rfl) ?_
    simp (maxSteps := 4000000) only [↓sP, sA, tyS, simprocAttr]
    repeat refine AI ?_
    refine hK _ _ _ ?_
    clear hK K
    refine hw_ret ?_
    simp (maxSteps := 4000000) only [hpost, Tryz.results56, hresL, hres1, tupOf, ↓sP, sA, tyS, simprocAttr]
    exact hret_pure [] (.bool false) rfl (by rw [keysB_eq, bad_one hlt (by simp only [keyB_code, h4_14, h4_19, Bool.not_true, Bool.not_false, Bool.false_and, Bool.and_false]), Bool.false_and])
   cases hb
  iterate 4
   (refine hlex_step (g := some (16, false)) rfl rfl fun K' hK' => ?_; simp only [sH, ↓sP, sA, tyS, simprocAttr, h4_14]; (repeat refine AI ?_); refine hK' _ _ ?_; clear hK' K')
  iterate 2
   (refine hlex_step (g := none) rfl rfl fun K' hK' => ?_; simp only [sH, ↓sP, sA, tyS, simprocAttr, h4_14]; (repeat refine AI ?_); refine hK' _ _ ?_; clear hK' K')
  iterate 4
   (refine hlex_step (g := some (22, false)) rfl rfl fun K' hK' => ?_; simp only [sH, ↓sP, sA, tyS, simprocAttr, h4_14]; (repeat refine AI ?_); refine hK' _ _ ?_; clear hK' K')
  iterate 2
   (refine hlex_step (g := none) rfl rfl fun K' hK' => ?_; simp only [sH, ↓sP, sA, tyS, simprocAttr, h4_14]; (repeat refine AI ?_); refine hK' _ _ ?_; clear hK' K')
  iterate 4
   (refine hlex_step (g := some (28, false)) rfl rfl fun K' hK' => ?_; simp only [sH, ↓sP, sA, tyS, simprocAttr, h4_14]; (repeat refine AI ?_); refine hK' _ _ ?_; clear hK' K')
  iterate 2
   (refine hlex_step (g := none) rfl rfl fun K' hK' => ?_; simp only [sH, ↓sP, sA, tyS, simprocAttr, h4_14]; (repeat refine AI ?_); refine hK' _ _ ?_; clear hK' K')
  iterate 4
   (refine hlex_step (g := some (34, false)) rfl rfl fun K' hK' => ?_; simp only [sH, ↓sP, sA, tyS, simprocAttr, h4_14]; (repeat refine AI ?_); refine hK' _ _ ?_; clear hK' K')
  refine hlex_step (g := none) rfl rfl fun K' hK' => ?_
  simp (maxSteps := 4000000) only [sH, ↓sP, sA, tyS, simprocAttr, h4_14]
  repeat refine AI ?_
  refine hK' _ _ ?_
  clear hK' K'
  simp only [sE, ↓reduceIte, simprocAttr]
  repeat refine AI ?_
  refine hK _ _ _ ?_
  clear hK K
  refine hw_cond (b := true) rfl (fun hb => ?_) (fun hb => ?_)
  ·
   refine hw_seq fun K hK => hw_region (by kernel_rfl) ?_
   simp (maxSteps := 4000000) only [↓sP, sA, tyS, simprocAttr]
   repeat refine AI ?_
   refine hK _ _ _ ?_
   clear hK K
   refine hw_ret ?_
   simp (maxSteps := 4000000) only [hpost, Tryz.results56, hresL, hres1, tupOf, ↓sP, sA, tyS, simprocAttr]
   exact hret_pure [] (.bool false) rfl (by rw [keysB_eq, bad_one hlt (by simp only [keyB_code, h4_14, Bool.not_true, Bool.not_false, Bool.false_and, Bool.and_false]), Bool.false_and])
  cases hb
 refine hw_exit ?_
 simp (maxSteps := 4000000) only [↓sP, sA, tyS, simprocAttr]
 clear hK K
 repeat refine AI ?_
 refine hK _ _ _ ?_
 clear hK K
 refine hw_seq fun K hK => hw_region (by kernel_rfl) ?_
 simp only [sR, simprocAttr]
 iterate 4
  (refine hlex_step (g := none) rfl rfl fun K' hK' => ?_; simp only [sH, ↓sP, sA, tyS, simprocAttr]; (repeat refine AI ?_); refine hK' _ _ ?_; clear hK' K')
 simp only [sE, ↓reduceIte, simprocAttr]
 repeat refine AI ?_
 refine hK _ _ _ ?_
 clear hK K
 refine hw_ret ?_
 simp (maxSteps := 4000000) only [hpost, Tryz.results56, hresL, hres1, tupOf, ↓sP, sA, tyS, simprocAttr]
 have hei : i = l.length := by simp at hb; omega
 subst hei
 refine hret_pure [] (.bool _) rfl ?_
 rw [keysB_eq, h0.all, Bool.true_and]
 congr 1
 exact decide_eq_decide.2 (by omega)


theorem addd_ok (l : List Dig) (d : Dig) (hl : l.length < 2 ^ 40) : HPure Tryz.prog 26 [.slc (l.map dg), dg d] (fun v => ∃ l' : List Dig, v = .slc (l'.map dg) ∧ l'.length ≤ l.length + 1) := by
 refine hfn_walk Tryz.func26 rfl (by kernel_rfl) (locOk_nil _) (Nat.le_of_ble_eq_true rfl) ?_
 refine hw_seq fun K hK => hw_region (by kernel_rfl) ?_
 simp (maxSteps := 4000000) only [↓sP, sA, tyS, simprocAttr]
 repeat refine AI ?_
 refine hK _ _ _ ?_
 clear hK K
 refine hw_seq fun K hK => ?_
 refine hw_seq fun K hK => hw_region (by kernel_rfl) ?_
 simp only [sR, simprocAttr]
 iterate 2
  (refine hlex_step (g := none) rfl rfl fun K' hK' => ?_; simp only [sH, ↓sP, sA, tyS, simprocAttr]; (repeat refine AI ?_); refine hK' _ _ ?_; clear hK' K')
 refine hlex_step (g := none) rfl rfl fun K' hK' => ?_
 simp (maxSteps := 4000000) only [sH, ↓sP, sA, tyS, simprocAttr]
 refine call_pure (args := [_, _]) (hasd_ok l d hl) ⟨rfl, rfl, rfl, rfl⟩ ?_
 rintro u rfl
 repeat refine AI ?_
 refine hK' _ _ ?_
 clear hK' K'
 simp only [sE, ↓reduceIte, simprocAttr]
 repeat refine AI ?_
 refine hK _ _ _ ?_
 clear hK K
 refine hw_cond (b := l.contains d) rfl (fun hb => ?_) (fun hb => ?_)
 ·
  refine hw_seq fun K hK => hw_region (by kernel_rfl) ?_
  simp (maxSteps := 4000000) only [↓sP, sA, tyS, simprocAttr]
  repeat refine AI ?_
  refine hK _ _ _ ?_
  clear hK K
  refine hw_ret ?_
  simp (maxSteps := 4000000) only [hpost, Tryz.results26, hresL, hres1, tupOf, ↓sP, sA, tyS, simprocAttr]
  exact hret_pure [] (.slc (l.map dg)) (by simp [HV.close, CV.denil, denilL_dg, HV.norm, HV.toC]) ⟨l, rfl, by omega⟩
 refine hw_skip ?_
 simp (maxSteps := 4000000) only [↓sP, sA, tyS, simprocAttr]
 repeat refine AI ?_
 refine hK _ _ _ ?_
 clear hK K
 refine hw_seq fun K hK => hw_region (by kernel_rfl) ?_
 simp (maxSteps := 4000000) only [↓sP, sA, tyS, simprocAttr]
 repeat refine AI ?_
 refine hK _ _ _ ?_
 clear hK K
 refine hw_seq fun K hK => hw_region (by kernel_rfl) ?_
 simp (maxSteps := 4000000) only [↓sP, sA, tyS, simprocAttr]
 repeat refine AI ?_
 refine hK _ _ _ ?_
 clear hK K
 refine hw_seq fun K hK => ?_
 refine hw_block ?_
 refine hw_own 5 0 44 32 rfl rfl rfl rfl ?_
 refine hw_loop (α := {i : Nat // i ≤ l.length}) (fun i => (fin [(0, .c (.slc (l.map dg))), (3, .ptr 0 0), (5, .own 28 i.1), (6, .c (.int .i64 i.1))], fob [(0, .box 44 (.c (dg d))), (28, .row 44 32 ((l.take i.1).map dg))])) 100 (fun i => l.length - i.1) ⟨0, by omega⟩ (fits_fin (by omega) (by simp [FinOk, fin_at, finA_at, upd_at, HV.men, HV.menL, HV.norm, HV.toC, HV.toCL]) (by simp [FobOk, fob_at, upd_at, none0_at, gone, HO.men, HV.men, HV.menL, HV.norm, HV.toC, HV.toCL])) ?_
 rintro ⟨i, hi⟩
 have hti : (l.take i).length = i := by simp; omega
 have hlc : decide ((i : Int) < (l.length : Int)) = true → i < l.length := fun h => by simpa using h
 refine hw_seq fun K hK => ?_
 by_cases hlt : i < l.length
 ·
  refine hw_seq fun K hK => hw_draw2 mixed [(0, [], []), (1, [], []), (2, [], []), (3, [], []), (4, [], []), (5, [], []), (6, [], []), (7, [], []), (8, [], []), (9, [], []), (10, [], []), (11, [], [])] [0, 0, 2, 7, 15, 31, 31, 127, 255, 31, 1023, 2047] (by kernel_rfl) (by kernel_rfl) (by kernel_rfl) (by kernel_rfl) rfl (by kernel_rfl) ?_
  iterate 5
   (refine hwalk2_step (g := none) rfl rfl fun K' hK' => ?_; simp only [sH, ↓sP, sA, tyS, simprocAttr, Int.natCast_nonneg, Int.ofNat_lt, hlt, nth_map hlt]; (repeat refine AI ?_); refine hK' _ _ ?_; clear hK' K')
  iterate 5
   (refine hwalk2_step (g := some (15, true)) rfl rfl fun K' hK' => ?_; simp only [sH, ↓sP, sA, tyS, simprocAttr, Int.natCast_nonneg, Int.ofNat_lt, hlt, nth_map hlt]; (repeat refine AI ?_); refine hK' _ _ ?_; clear hK' K')
  refine hwalk2_step (g := some (15, true)) rfl rfl fun K' hK' => ?_
  simp (maxSteps := 4000000) only [sH, ↓sP, sA, tyS, simprocAttr, Int.natCast_nonneg, Int.ofNat_lt, hlt, nth_map hlt]
  refine call_pure (args := [_, _]) (less_ok l[i] d) ⟨rfl, rfl, rfl, rfl⟩ ?_
  rintro u rfl
  repeat refine AI ?_
  refine hK' _ _ ?_
  clear hK' K'
  refine hwalk2_step (g := none) rfl rfl fun K' hK' => ?_
  simp (maxSteps := 4000000) only [sH, ↓sP, sA, tyS, simprocAttr, Int.natCast_nonneg, Int.ofNat_lt, hlt, nth_map hlt]
  repeat refine AI ?_
  refine hK' _ _ ?_
  clear hK' K'
  simp only [sE, ↓reduceIte, simprocAttr]
  repeat refine AI ?_
  refine hK _ _ _ ?_
  clear hK K
  refine hw_cond (b := dlt l[i] d) rfl (fun hb => ?_) (fun hb => ?_)
  ·
   refine hw_skip ?_
   simp (maxSteps := 4000000) only [↓sP, sA, tyS, simprocAttr]
   repeat refine AI ?_
   refine hK _ _ _ ?_
   clear hK K
   refine hw_block ?_
   refine hw_seq fun K hK => hw_region (by kernel_rfl) ?_
   simp only [sR, simprocAttr]
   iterate 8
    (refine hlex_step (g := none) rfl rfl fun K' hK' => ?_; simp only [sH, ↓sP, sA, tyS, simprocAttr, Int.natCast_nonneg, Int.ofNat_lt, hlt, nth_map hlt, hti, List.length_append]; (repeat refine AI ?_); refine hK' _ _ ?_; clear hK' K')
   simp only [sE, ↓reduceIte, simprocAttr]
   repeat refine AI ?_
   refine hK _ _ _ ?_
   clear hK K
   refine hw_region (by kernel_rfl) ?_
   simp (maxSteps := 4000000) only [↓sP, sA, tyS, simprocAttr, IntWalk.i64_in _ (show -9223372036854775808 ≤ (i : Int) + 1 ∧ (i : Int) + 1 ≤ 9223372036854775807 by omega)]
   refine ⟨⟨i + 1, by omega⟩, fits_fin (by omega) ?_ ?_, ?_⟩
   ·
    simp [FinOk, upd_at, fin_at, HV.men]
   ·
    refine ⟨rfl, by omega, trivial, ?_, by omega, trivial, trivial⟩
    simp only [List.take_succ_eq_append_getElem hlt, List.map_append]
    rfl
   show l.length - (i + 1) < l.length - i
   omega
  refine hw_exit ?_
  simp (maxSteps := 4000000) only [↓sP, sA, tyS, simprocAttr]
  clear hK K
  repeat refine AI ?_
  refine hK _ _ _ ?_
  clear hK K
  refine hw_seq fun K hK => hw_draw2 mixed [(0, [], []), (1, [], []), (2, [], []), (4, [2], []), (5, [2], []), (6, [2], []), (3, [], [4, 5, 6]), (7, [], []), (8, [], [])] [0, 0, 2, 7, 0, 0, 48, 127, 255] (by kernel_rfl) (by kernel_rfl) (by kernel_rfl) (by kernel_rfl) rfl (by kernel_rfl) ?_
  iterate 9
   (refine hwalk2_step (g := none) rfl rfl fun K' hK' => ?_; simp only [sH, ↓sP, sA, tyS, simprocAttr, hti, ← List.map_drop, ← List.map_take, cells_dg]; (repeat refine AI ?_); refine hK' _ _ ?_; clear hK' K')
  simp only [sE, ↓reduceIte, simprocAttr]
  repeat refine AI ?_
  refine hK _ _ _ ?_
  clear hK K
  refine hw_ret ?_
  simp (maxSteps := 4000000) only [hpost, Tryz.results26, hresL, hres1, tupOf, ↓sP, sA, tyS, simprocAttr]
  refine hret_pure [28] (.slc ((l.take i ++ d :: l.drop i).map dg)) ?_ ⟨_, rfl, ?_⟩
  ·
   simp [HV.close, upd_at, HV.norm, HV.toC, List.take_of_length_le]
  simp; omega
 refine hw_seq fun K hK => hw_draw2 mixed [(0, [], []), (1, [], []), (2, [], []), (3, [], []), (4, [], []), (5, [], []), (6, [], []), (7, [], []), (8, [], []), (9, [], []), (10, [], []), (11, [], [])] [0, 0, 2, 7, 15, 31, 31, 127, 255, 31, 1023, 2047] (by kernel_rfl) (by kernel_rfl) (by kernel_rfl) (by kernel_rfl) rfl (by kernel_rfl) ?_
 iterate 5
  (refine hwalk2_step (g := none) rfl rfl fun K' hK' => ?_; simp only [sH, ↓sP, sA, tyS, simprocAttr, Int.ofNat_lt, hlt]; (repeat refine AI ?_); refine hK' _ _ ?_; clear hK' K')
 iterate 6
  (refine hwalk2_step (g := some (15, true)) rfl rfl fun K' hK' => ?_; simp only [sH, ↓sP, sA, tyS, simprocAttr, Int.ofNat_lt, hlt]; (repeat refine AI ?_); refine hK' _ _ ?_; clear hK' K')
 refine hwalk2_step (g := none) rfl rfl fun K' hK' => ?_
 simp (maxSteps := 4000000) only [sH, ↓sP, sA, tyS, simprocAttr, Int.ofNat_lt, hlt]
 repeat refine AI ?_
 refine hK' _ _ ?_
 clear hK' K'
 simp only [sE, ↓reduceIte, simprocAttr]
 repeat refine AI ?_
 refine hK _ _ _ ?_
 clear hK K
 refine hw_cond (b := _) rfl (fun hb => ?_) (fun hb => ?_)
 ·
  cases hb
 refine hw_exit ?_
 simp (maxSteps := 4000000) only [↓sP, sA, tyS, simprocAttr]
 clear hK K
 repeat refine AI ?_
 refine hK _ _ _ ?_
 clear hK K
 refine hw_seq fun K hK => hw_draw2 mixed [(0, [], []), (1, [], []), (2, [], []), (4, [2], []), (5, [2], []), (6, [2], []), (3, [], [4, 5, 6]), (7, [], []), (8, [], [])] [0, 0, 2, 7, 0, 0, 48, 127, 255] (by kernel_rfl) (by kernel_rfl) (by kernel_rfl) (by kernel_rfl) rfl (by kernel_rfl) ?_
 iterate 9
  (refine hwalk2_step (g := none) rfl rfl fun K' hK' => ?_; simp only [sH, ↓sP, sA, tyS, simprocAttr, hti, ← List.map_drop, ← List.map_take, cells_dg]; (repeat refine AI ?_); refine hK' _ _ ?_; clear hK' K')
 simp only [sE, ↓reduceIte, simprocAttr]
 repeat refine AI ?_
 refine hK _ _ _ ?_
 clear hK K
 refine hw_ret ?_
 simp (maxSteps := 4000000) only [hpost, Tryz.results26, hresL, hres1, tupOf, ↓sP, sA, tyS, simprocAttr]
 refine hret_pure [28] (.slc ((l.take i ++ d :: l.drop i).map dg)) ?_ ⟨_, rfl, ?_⟩
 ·
  simp [HV.close, upd_at, HV.norm, HV.toC, List.take_of_length_le]
 simp; omega

end Go.Proofs.YtenbfeemmpjdhaaGreat
