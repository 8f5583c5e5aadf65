/- TrustConstant: for any tape of numbers and any two times the law returns true and leaves the tape as it was: between two neighbouring times the same owners vouch for the same keys. No condition. By an AI agent. -/
import Derived.Test.YtbdgmfbhiihcfaaGreatHvTl
import Derived.Test.YtbdgmfbhiihcfaaGreatHvT1
import Derived.Test.YtbdgmfbhiihcfaaGreatPl18
import Derived.WalkKit
import Derived.ProofKit
import Derived.OpenShut
import Derived.ReadAgain
import Derived.ChangeBears
import Derived.Test.YtbdgmfbhiihcfaaGreatRows
set_option linter.unusedSimpArgs false
set_option linter.unusedVariables false
set_option linter.defProp false
namespace Go.Proofs.YtbdgmfbhiihcfaaGreat
open Go Go.Hl Go.Pl
set_option maxRecDepth 10000
set_option maxHeartbeats 8000000
set_option linter.unusedSimpArgs false
set_option linter.unusedVariables false
attribute [local simp] tp

theorem constant_law (L : List Int) (x y : Int) : HPure Tryz.prog 3 [.slc (L.map (.int .i64)), .int .i64 x, .int .i64 y] (fun v => v = .bool true) := by
 have x0 := Int.tmod_lt_of_pos x (b := 100) (by omega)
 have x1 : -100 < x.tmod 100 := Int.lt_tmod_of_pos x (by omega)
 have y0 := Int.tmod_lt_of_pos y (b := 10) (by omega)
 have y1 : -10 < y.tmod 10 := Int.lt_tmod_of_pos y (by omega)
 have w1 : IntKind.i64.wrap (x.tmod 100 + 100) = x.tmod 100 + 100 := IntWalk.i64_in _ (by omega)
 have w2 : IntKind.i64.wrap (y.tmod 10 + 10) = y.tmod 10 + 10 := IntWalk.i64_in _ (by omega)
 have A0 : 0 ≤ (x.tmod 100 + 100).tmod 100 := Int.tmod_nonneg _ (by omega)
 have A1 : (x.tmod 100 + 100).tmod 100 < 100 := Int.tmod_lt_of_pos _ (by omega)
 have B0 : 0 ≤ (y.tmod 10 + 10).tmod 10 := Int.tmod_nonneg _ (by omega)
 have B1 : (y.tmod 10 + 10).tmod 10 < 10 := Int.tmod_lt_of_pos _ (by omega)
 have w3 : IntKind.i64.wrap ((x.tmod 100 + 100).tmod 100 + (y.tmod 10 + 10).tmod 10) = (x.tmod 100 + 100).tmod 100 + (y.tmod 10 + 10).tmod 10 := IntWalk.i64_in _ (by omega)
 obtain ⟨A, hA⟩ : ∃ A, A = (x.tmod 100 + 100).tmod 100 := ⟨_, rfl⟩
 obtain ⟨B, hB⟩ : ∃ B, B = A + (y.tmod 10 + 10).tmod 10 := ⟨_, rfl⟩
 have hAB : A ≤ B := by omega
 have w4 : IntKind.i64.wrap (A + (y.tmod 10 + 10).tmod 10) = B := by rw [hB, hA, w3]
 refine hfn_walk Tryz.func3 rfl (by kernel_rfl) (locOk_nil _) (Nat.le_of_ble_eq_true rfl) ?_
 refine hw_seq fun K hK => hw_region (by kernel_rfl) ?_
 simp (maxSteps := 4000000) only [↓sP, sA, tyS, simprocAttr]
 repeat refine AI ?_
 refine hK _ _ _ ?_
 clear hK K
 refine hw_seq fun K hK => hw_region (by kernel_rfl) ?_
 simp only [sR, simprocAttr]
 iterate 4
  (refine hlex_step (g := none) rfl rfl fun K' hK' => ?_; simp only [sH, ↓sP, sA, tyS, simprocAttr, denilL_int]; (repeat refine AI ?_); refine hK' _ _ ?_; clear hK' K')
 simp only [sE, ↓reduceIte, simprocAttr]
 repeat refine AI ?_
 refine hK _ _ _ ?_
 clear hK K
 refine hw_seq fun K hK => hw_region (by kernel_rfl) ?_
 simp only [sR, simprocAttr]
 refine hlex_step (g := none) rfl rfl fun K' hK' => ?_
 simp (maxSteps := 4000000) only [sH, ↓sP, sA, tyS, simprocAttr]
 repeat refine AI ?_
 refine hK' _ _ ?_
 clear hK' K'
 refine hlex_step (g := none) rfl rfl fun K' hK' => ?_
 simp (maxSteps := 4000000) only [sH, ↓sP, sA, tyS, simprocAttr]
 refine call_box (args := [_]) (root_ok L 0 1 (by omega)) rfl (by simp) ⟨rfl, rfl, rfl, rfl⟩ ?_
 rintro u v' ⟨r, a1, rfl, rfl, k1, hr, hv⟩
 repeat refine AI ?_
 refine hK' _ _ ?_
 clear hK' K'
 refine hlex_step (g := none) rfl rfl fun K' hK' => ?_
 simp (maxSteps := 4000000) only [sH, ↓sP, sA, tyS, simprocAttr]
 repeat refine AI ?_
 refine hK' _ _ ?_
 clear hK' K'
 refine hlex_step (g := none) rfl rfl fun K' hK' => ?_
 simp (maxSteps := 4000000) only [sH, ↓sP, sA, tyS, simprocAttr]
 refine call_pure (args := []) roles_ok ⟨rfl, rfl, rfl, rfl⟩ ?_
 rintro u rfl
 repeat refine AI ?_
 refine hK' _ _ ?_
 clear hK' K'
 refine hlex_step (g := none) rfl rfl fun K' hK' => ?_
 simp (maxSteps := 4000000) only [sH, ↓sP, sA, tyS, simprocAttr]
 refine call_box (args := [_]) (pick_ok L a1 roles10 (by omega) ⟨by decide, by decide⟩) rfl (by simp) ⟨rfl, rfl, rfl, rfl⟩ ?_
 rintro u v' ⟨role, a2, rfl, hrole, rfl, k2⟩
 repeat refine AI ?_
 refine hK' _ _ ?_
 clear hK' K'
 refine hlex_step (g := none) rfl rfl fun K' hK' => ?_
 simp (maxSteps := 4000000) only [sH, ↓sP, sA, tyS, simprocAttr]
 repeat refine AI ?_
 refine hK' _ _ ?_
 clear hK' K'
 refine hlex_step (g := none) rfl rfl fun K' hK' => ?_
 simp (maxSteps := 4000000) only [sH, ↓sP, sA, tyS, simprocAttr]
 refine call_box (args := []) (mkeys_ok L a2 (by omega)) rfl (by simp) ⟨rfl, rfl, rfl, rfl⟩ ?_
 rintro u v' ⟨D, a3, rfl, rfl, k3, hD⟩
 repeat refine AI ?_
 refine hK' _ _ ?_
 clear hK' K'
 iterate 4
  (refine hlex_step (g := none) rfl rfl fun K' hK' => ?_; simp only [sH, ↓sP, sA, tyS, simprocAttr]; (repeat refine AI ?_); refine hK' _ _ ?_; clear hK' K')
 simp only [sE, ↓reduceIte, simprocAttr]
 repeat refine AI ?_
 refine hK _ _ _ ?_
 clear hK K
 refine hw_seq fun K hK => hw_region (by kernel_rfl) ?_
 simp only [sR, simprocAttr]
 iterate 5
  (refine hlex_step (g := none) rfl rfl fun K' hK' => ?_; simp only [sH, ↓sP, sA, tyS, simprocAttr, w1, ← hA]; (repeat refine AI ?_); refine hK' _ _ ?_; clear hK' K')
 simp only [sE, ↓reduceIte, simprocAttr]
 repeat refine AI ?_
 refine hK _ _ _ ?_
 clear hK K
 refine hw_seq fun K hK => hw_region (by kernel_rfl) ?_
 simp only [sR, simprocAttr]
 iterate 7
  (refine hlex_step (g := none) rfl rfl fun K' hK' => ?_; simp only [sH, ↓sP, sA, tyS, simprocAttr, w2, w4]; (repeat refine AI ?_); refine hK' _ _ ?_; clear hK' K')
 simp only [sE, ↓reduceIte, simprocAttr]
 repeat refine AI ?_
 refine hK _ _ _ ?_
 clear hK K
 refine hw_seq fun K hK => hw_region (by kernel_rfl) ?_
 simp only [sR, simprocAttr]
 iterate 2
  (refine hlex_step (g := none) rfl rfl fun K' hK' => ?_; simp only [sH, ↓sP, sA, tyS, simprocAttr, denilL_dg]; (repeat refine AI ?_); refine hK' _ _ ?_; clear hK' K')
 refine hlex_step (g := none) rfl rfl fun K' hK' => ?_
 simp (maxSteps := 4000000) only [sH, ↓sP, sA, tyS, simprocAttr, denilL_dg]
 refine call_pure (args := [_, _]) (times_ok r D hr.1 (by omega)) ⟨rfl, rfl, rfl, rfl⟩ ?_
 rintro u rfl
 repeat refine AI ?_
 refine hK' _ _ ?_
 clear hK' K'
 refine hlex_step (g := none) rfl rfl fun K' hK' => ?_
 simp (maxSteps := 4000000) only [sH, ↓sP, sA, tyS, simprocAttr, denilL_dg]
 repeat refine AI ?_
 refine hK' _ _ ?_
 clear hK' K'
 simp only [sE, ↓reduceIte, simprocAttr]
 repeat refine AI ?_
 refine hK _ _ _ ?_
 clear hK K
 refine hw_seq fun K hK => ?_
 refine hw_seq fun K hK => hw_region (by kernel_rfl) ?_
 simp (maxSteps := 4000000) only [↓sP, sA, tyS, simprocAttr]
 repeat refine AI ?_
 refine hK _ _ _ ?_
 clear hK K
 refine hw_block ?_
 have hvr : validR r = true := hv (by omega) (by decide)
 have hpos : (0 : Int) < ((timesV r D).length : Int) := by
  have : r.e ∈ timesV r D := by unfold timesV; rw [if_pos hvr]; exact mem_timesL.2 (by simp [rawT])
  have := List.length_pos_of_mem this
  omega
 have hTl : (timesV r D).length < 2 ^ 40 := by
  unfold timesV
  rw [if_pos hvr]
  have h1 := dedupZ_len ((rawT r D).mergeSort leZ)
  have h2 := (List.mergeSort_perm (rawT r D) leZ).length_eq
  have h3 := rawT_len r D
  unfold timesL
  omega
 refine hw_loop (α := {i : Nat // i ≤ (timesV r D).length ∧ ∀ z ∈ (timesV r D).take i, ¬ (A < z ∧ z ≤ B)}) (fun i => (fin [(8, .ptr 48 0), (9, .c (.str role)), (10, .c (.slc (D.map dg))), (11, .c (.int .i64 A)), (12, .c (.int .i64 B)), (13, .c (.slc ((timesV r D).map (.int .i64)))), (14, .c (.int .i64 i.1))], fob [(48, .box 30 (.c r.cv))])) 300 (fun i => (timesV r D).length - i.1) ⟨0, by omega, by simp⟩ (fits_fin (by omega) (by simp [FinOk, fin_at, finA_at, upd_at, HV.men, HV.menL, HV.norm, HV.toC, HV.toCL]) (by simp [FobOk, fob_at, upd_at, none0_at, gone, HO.men, HV.men, HV.menL, HV.norm, HV.toC, HV.toCL])) ?_
 rintro ⟨i, hi, h0⟩
 refine hw_seq fun K hK => ?_
 refine hw_seq fun K hK => hw_region (by kernel_rfl) ?_
 simp only [sR, simprocAttr]
 iterate 4
  (refine hlex_step (g := none) rfl rfl fun K' hK' => ?_; simp only [sH, ↓sP, sA, tyS, simprocAttr]; (repeat refine AI ?_); refine hK' _ _ ?_; clear hK' K')
 simp only [sE, ↓reduceIte, simprocAttr]
 repeat refine AI ?_
 refine hK _ _ _ ?_
 clear hK K
 refine hw_cond (b := decide ((i : Int) < (timesV r D).length)) rfl (fun hb => ?_) (fun hb => ?_)
 ·
  have hlt : i < (timesV r D).length := by simpa using hb
  refine hw_skip ?_
  simp (maxSteps := 4000000) only [↓sP, sA, tyS, simprocAttr]
  repeat refine AI ?_
  refine hK _ _ _ ?_
  clear hK K
  refine hw_seq fun K hK => ?_
  refine hw_block ?_
  refine hw_seq fun K hK => hw_region (by kernel_rfl) ?_
  simp only [sR, simprocAttr]
  iterate 7
   (refine hlex_step (g := none) rfl rfl fun K' hK' => ?_; simp only [sH, ↓sP, sA, tyS, simprocAttr, Int.natCast_nonneg, Int.ofNat_lt, hlt, nth_map hlt]; (repeat refine AI ?_); refine hK' _ _ ?_; clear hK' K')
  refine hlex_cases 49 rfl (fun h9_49 => ?_) (fun h9_49 => ?_)
  ·
   iterate 6
    (refine hlex_step (g := some (50, true)) rfl rfl fun K' hK' => ?_; simp only [sH, ↓sP, sA, tyS, simprocAttr, Int.natCast_nonneg, Int.ofNat_lt, hlt, nth_map hlt, h9_49]; (repeat refine AI ?_); refine hK' _ _ ?_; clear hK' K')
   refine hlex_step (g := none) rfl rfl fun K' hK' => ?_
   simp (maxSteps := 4000000) only [sH, ↓sP, sA, tyS, simprocAttr, Int.natCast_nonneg, Int.ofNat_lt, hlt, nth_map hlt, h9_49]
   repeat refine AI ?_
   refine hK' _ _ ?_
   clear hK' K'
   refine hlex_cases 56 rfl (fun h9_56 => ?_) (fun h9_56 => ?_)
   ·
    simp only [h9_56]
    simp only [sE, ↓reduceIte, simprocAttr]
    repeat refine AI ?_
    refine hK _ _ _ ?_
    clear hK K
    refine hw_cond (b := true) rfl (fun hb => ?_) (fun hb => ?_)
    ·
     refine hw_seq fun K hK => hw_region (by kernel_rfl) ?_
     simp only [sR, simprocAttr]
     refine hlex_step (g := none) rfl rfl fun K' hK' => ?_
     simp (maxSteps := 4000000) only [sH, ↓sP, sA, tyS, simprocAttr, h9_49, h9_56]
     refine call_pure (args := []) awake_ok ⟨rfl, rfl, rfl, rfl⟩ ?_
     rintro u rfl
     repeat refine AI ?_
     refine hK' _ _ ?_
     clear hK' K'
     refine hlex_step (g := none) rfl rfl fun K' hK' => ?_
     simp (maxSteps := 4000000) only [sH, ↓sP, sA, tyS, simprocAttr, h9_49, h9_56]
     repeat refine AI ?_
     refine hK' _ _ ?_
     clear hK' K'
     simp only [sE, ↓reduceIte, simprocAttr]
     repeat refine AI ?_
     refine hK _ _ _ ?_
     clear hK K
     refine hw_ret ?_
     simp (maxSteps := 4000000) only [hpost, Tryz.results3, hresL, hres1, tupOf, ↓sP, sA, tyS, simprocAttr]
     exact hret_pure [] (.bool true) rfl rfl
    ·
     cases hb
   ·
    simp only [h9_56]
    simp only [sE, ↓reduceIte, simprocAttr]
    repeat refine AI ?_
    refine hK _ _ _ ?_
    clear hK K
    refine hw_cond (b := false) rfl (fun hb => ?_) (fun hb => ?_)
    ·
     cases hb
    ·
     refine hw_skip ?_
     simp (maxSteps := 4000000) only [↓sP, sA, tyS, simprocAttr]
     repeat refine AI ?_
     refine hK _ _ _ ?_
     clear hK K
     refine hw_region (by kernel_rfl) ?_
     simp (maxSteps := 4000000) only [↓sP, sA, tyS, simprocAttr, IntWalk.i64_in _ (show -9223372036854775808 ≤ (i : Int) + 1 ∧ (i : Int) + 1 ≤ 9223372036854775807 by omega)]
     refine ⟨⟨i + 1, hlt, fun z hz => ?_⟩, fits_fin (by omega) (by simp [FinOk, fin_at, finA_at, upd_at, HV.men, HV.menL, HV.norm, HV.toC, HV.toCL]) (by simp [FobOk, fob_at, upd_at, none0_at, gone, HO.men, HV.men, HV.menL, HV.norm, HV.toC, HV.toCL]), ?_⟩
     ·
      rw [List.take_succ_eq_append_getElem hlt, List.mem_append, List.mem_singleton] at hz
      rcases hz with hz | rfl
      ·
       exact h0 z hz
      ·
       rintro ⟨_, h2⟩
       simp at h9_56
       omega
     ·
      show (timesV r D).length - (i + 1) < (timesV r D).length - i
      omega
  ·
   iterate 6
    (refine hlex_step (g := some (50, true)) rfl rfl fun K' hK' => ?_; simp only [sH, ↓sP, sA, tyS, simprocAttr, Int.natCast_nonneg, Int.ofNat_lt, hlt, nth_map hlt, h9_49]; (repeat refine AI ?_); refine hK' _ _ ?_; clear hK' K')
   refine hlex_step (g := none) rfl rfl fun K' hK' => ?_
   simp (maxSteps := 4000000) only [sH, ↓sP, sA, tyS, simprocAttr, Int.natCast_nonneg, Int.ofNat_lt, hlt, nth_map hlt, h9_49]
   repeat refine AI ?_
   refine hK' _ _ ?_
   clear hK' K'
   simp only [sE, ↓reduceIte, simprocAttr]
   repeat refine AI ?_
   refine hK _ _ _ ?_
   clear hK K
   refine hw_cond (b := false) rfl (fun hb => ?_) (fun hb => ?_)
   ·
    cases hb
   ·
    refine hw_skip ?_
    simp (maxSteps := 4000000) only [↓sP, sA, tyS, simprocAttr]
    repeat refine AI ?_
    refine hK _ _ _ ?_
    clear hK K
    refine hw_region (by kernel_rfl) ?_
    simp (maxSteps := 4000000) only [↓sP, sA, tyS, simprocAttr, IntWalk.i64_in _ (show -9223372036854775808 ≤ (i : Int) + 1 ∧ (i : Int) + 1 ≤ 9223372036854775807 by omega)]
    refine ⟨⟨i + 1, hlt, fun z hz => ?_⟩, fits_fin (by omega) (by simp [FinOk, fin_at, finA_at, upd_at, HV.men, HV.menL, HV.norm, HV.toC, HV.toCL]) (by simp [FobOk, fob_at, upd_at, none0_at, gone, HO.men, HV.men, HV.menL, HV.norm, HV.toC, HV.toCL]), ?_⟩
    ·
     rw [List.take_succ_eq_append_getElem hlt, List.mem_append, List.mem_singleton] at hz
     rcases hz with hz | rfl
     ·
      exact h0 z hz
     ·
      rintro ⟨h1, _⟩
      simp at h9_49
      omega
    ·
     show (timesV r D).length - (i + 1) < (timesV r D).length - i
     omega
 ·
  refine hw_exit ?_
  simp (maxSteps := 4000000) only [↓sP, sA, tyS, simprocAttr]
  clear hK K
  repeat refine AI ?_
  refine hK _ _ _ ?_
  clear hK K
  have hei : i = (timesV r D).length := by simp at hb; omega
  subst hei
  clear hb
  rw [List.take_length] at h0
  have hc : vouched r role D A = vouched r role D B := vouched_const hAB h0
  have hf : (vouched r role D B).length < 2 ^ 40 := by
   have : (vouched r role D B).length ≤ owners4.length := vouched_few hr.2
   have : owners4.length = 4 := rfl
   omega
  refine hw_seq fun K hK => hw_draw2 mixed [(0, [], []), (1, [], []), (2, [], []), (3, [], []), (4, [], []), (5, [], []), (6, [], []), (7, [], []), (8, [], []), (9, [], []), (10, [], []), (12, [], []), (13, [], []), (14, [], []), (15, [], []), (11, [], [12, 13, 14, 15]), (16, [], []), (17, [], []), (18, [], []), (19, [], [])] [0, 1, 3, 7, 15, 31, 63, 127, 127, 127, 127, 2047, 127, 127, 127, 127, 65535, 131071, 262143, 524287] (by kernel_rfl) (by kernel_rfl) (by kernel_rfl) (by kernel_rfl) rfl (by kernel_rfl) ?_
  refine hwalk2_step (g := none) rfl rfl fun K' hK' => ?_
  simp (maxSteps := 4000000) only [sH, ↓sP, sA, tyS, simprocAttr, hpos, hc, beq_self_eq_true, denilL_dg, denilL_str]
  refine call_pure (args := []) awake_ok ⟨rfl, rfl, rfl, rfl⟩ ?_
  rintro u rfl
  repeat refine AI ?_
  refine hK' _ _ ?_
  clear hK' K'
  refine hwalk2_step (g := none) rfl rfl fun K' hK' => ?_
  simp (maxSteps := 4000000) only [sH, ↓sP, sA, tyS, simprocAttr, hpos, hc, beq_self_eq_true, denilL_dg, denilL_str]
  repeat refine AI ?_
  refine hK' _ _ ?_
  clear hK' K'
  iterate 3
   (refine hwalk2_step (g := some (60, true)) rfl rfl fun K' hK' => ?_; simp only [sH, ↓sP, sA, tyS, simprocAttr, hpos, hc, beq_self_eq_true, denilL_dg, denilL_str]; (repeat refine AI ?_); refine hK' _ _ ?_; clear hK' K')
  iterate 2
   (refine hwalk2_step (g := none) rfl rfl fun K' hK' => ?_; simp only [sH, ↓sP, sA, tyS, simprocAttr, hpos, hc, beq_self_eq_true, denilL_dg, denilL_str]; (repeat refine AI ?_); refine hK' _ _ ?_; clear hK' K')
  iterate 8
   (refine hwalk2_step (g := some (65, true)) rfl rfl fun K' hK' => ?_; simp only [sH, ↓sP, sA, tyS, simprocAttr, hpos, hc, beq_self_eq_true, denilL_dg, denilL_str]; (repeat refine AI ?_); refine hK' _ _ ?_; clear hK' K')
  refine hwalk2_step (g := some (65, true)) rfl rfl fun K' hK' => ?_
  simp (maxSteps := 4000000) only [sH, ↓sP, sA, tyS, simprocAttr, hpos, hc, beq_self_eq_true, denilL_dg, denilL_str]
  refine call_pure (args := [_, _, _, _]) (vouched_ok r role D A hr.1 (by omega)) ⟨rfl, rfl, rfl, rfl⟩ ?_
  rintro u rfl
  rw [hc]
  repeat refine AI ?_
  refine hK' _ _ ?_
  clear hK' K'
  refine hwalk2_step (g := some (65, true)) rfl rfl fun K' hK' => ?_
  simp (maxSteps := 4000000) only [sH, ↓sP, sA, tyS, simprocAttr, hpos, hc, beq_self_eq_true, denilL_dg, denilL_str]
  refine call_pure (args := [_, _, _, _]) (vouched_ok r role D B hr.1 (by omega)) ⟨rfl, rfl, rfl, rfl⟩ ?_
  rintro u rfl
  repeat refine AI ?_
  refine hK' _ _ ?_
  clear hK' K'
  refine hwalk2_step (g := some (65, true)) rfl rfl fun K' hK' => ?_
  simp (maxSteps := 4000000) only [sH, ↓sP, sA, tyS, simprocAttr, hpos, hc, beq_self_eq_true, denilL_dg, denilL_str]
  refine call_pure (args := [_, _]) (same_ok (vouched r role D B) (vouched r role D B) (by omega)) ⟨rfl, rfl, rfl, rfl⟩ ?_
  rintro u rfl
  repeat refine AI ?_
  refine hK' _ _ ?_
  clear hK' K'
  iterate 2
   (refine hwalk2_step (g := none) rfl rfl fun K' hK' => ?_; simp only [sH, ↓sP, sA, tyS, simprocAttr, hpos, hc, beq_self_eq_true, denilL_dg, denilL_str]; (repeat refine AI ?_); refine hK' _ _ ?_; clear hK' K')
  simp only [sE, ↓reduceIte, simprocAttr]
  repeat refine AI ?_
  refine hK _ _ _ ?_
  clear hK K
  refine hw_ret ?_
  simp (maxSteps := 4000000) only [hpost, Tryz.results3, hresL, hres1, tupOf, ↓sP, sA, tyS, simprocAttr]
  exact hret_pure [] (.bool true) rfl rfl

end Go.Proofs.YtbdgmfbhiihcfaaGreat

namespace Go.Hl
open Go

/-- A closed value is of a type. -/
inductive HasTy (P : Program) : TypeId → CV → Prop where
  | bool {t : TypeId} (hu : P.underlying t = some .bool) (b : Bool) : HasTy P t (.bool b)
  | int {t : TypeId} {k : IntKind} (hu : P.underlying t = some (.int k)) {n : Int} (hw : (Lit.int k n).wf = true) : HasTy P t (.int k n)
  | str {t : TypeId} (hu : P.underlying t = some .string) {s : List UInt8} (hs : s.length ≤ maxLen) : HasTy P t (.str s)
  | slc {t e : TypeId} (hu : P.underlying t = some (.slice e)) {l : List CV} (hl : ∀ x ∈ l, HasTy P e x) (hn : l.length ≤ maxLen) : HasTy P t (.slc l)
  | arr {t e : TypeId} {m : Nat} (hu : P.underlying t = some (.array m e)) {l : List CV} (hl : ∀ x ∈ l, HasTy P e x) (hn : l.length = m) : HasTy P t (.agg l)
  | struct {t : TypeId} {fs : Array Field} (hu : P.underlying t = some (.struct fs)) {l : List CV} (hn : l.length = fs.size) (hl : ∀ (i : Nat) (f : Field) (x : CV), fs.toList[i]? = some f → l[i]? = some x → HasTy P f.type x) : HasTy P t (.agg l)

theorem HasTy.of_int {P : Program} {t : TypeId} {k : IntKind} {c : CV} (hu : P.underlying t = some (.int k)) (h : HasTy P t c) : ∃ n, c = .int k n ∧ (Lit.int k n).wf = true := by
  cases h with
  | int h2 hw => rw [hu] at h2; cases h2; exact ⟨_, rfl, hw⟩
  | bool h2 | str h2 | slc h2 | arr h2 | struct h2 => rw [hu] at h2; cases h2
theorem HasTy.of_bool {P : Program} {t : TypeId} {c : CV} (hu : P.underlying t = some .bool) (h : HasTy P t c) : ∃ b, c = .bool b := by
  cases h with
  | bool h2 => exact ⟨_, rfl⟩
  | int h2 | str h2 | slc h2 | arr h2 | struct h2 => rw [hu] at h2; cases h2
theorem HasTy.of_str {P : Program} {t : TypeId} {c : CV} (hu : P.underlying t = some .string) (h : HasTy P t c) : ∃ s, c = .str s ∧ s.length ≤ maxLen := by
  cases h with
  | str h2 hs => exact ⟨_, rfl, hs⟩
  | int h2 | bool h2 | slc h2 | arr h2 | struct h2 => rw [hu] at h2; cases h2
theorem HasTy.of_slc {P : Program} {t e : TypeId} {c : CV} (hu : P.underlying t = some (.slice e)) (h : HasTy P t c) : ∃ l, c = .slc l ∧ (∀ x ∈ l, HasTy P e x) ∧ l.length ≤ maxLen := by
  cases h with
  | slc h2 hl hn => rw [hu] at h2; cases h2; exact ⟨_, rfl, hl, hn⟩
  | int h2 | bool h2 | str h2 | arr h2 | struct h2 => rw [hu] at h2; cases h2
theorem HasTy.of_arr {P : Program} {t e : TypeId} {m : Nat} {c : CV} (hu : P.underlying t = some (.array m e)) (h : HasTy P t c) : ∃ l, c = .agg l ∧ (∀ x ∈ l, HasTy P e x) ∧ l.length = m := by
  cases h with
  | arr h2 hl hn => rw [hu] at h2; cases h2; exact ⟨_, rfl, hl, hn⟩
  | int h2 | bool h2 | str h2 | slc h2 | struct h2 => rw [hu] at h2; cases h2
theorem HasTy.of_struct {P : Program} {t : TypeId} {fs : Array Field} {c : CV} (hu : P.underlying t = some (.struct fs)) (h : HasTy P t c) :
    ∃ l, c = .agg l ∧ l.length = fs.size ∧ ∀ (i : Nat) (f : Field) (x : CV), fs.toList[i]? = some f → l[i]? = some x → HasTy P f.type x := by
  cases h with
  | struct h2 hn hl => rw [hu] at h2; cases h2; exact ⟨_, rfl, hn, hl⟩
  | int h2 | bool h2 | str h2 | slc h2 | arr h2 => rw [hu] at h2; cases h2

/-- Types of closed values. -/
def plainT (P : Program) : Nat → TypeId → Bool
  | 0, _ => false
  | n + 1, t => match P.underlying t with
    | some .bool | some (.int _) | some .string => true
    | some (.slice e) => plainT P n e
    | some (.array _ e) => plainT P n e
    | some (.struct fs) => fs.toList.all fun f => plainT P n f.type
    | _ => false

theorem build_list {α : Type} {w : World} {O : Nat → Prop} {g : α → List Value} {R : α → CV → Prop} : ∀ (l : List α), (∀ a ∈ l, ∃ c, RepC w O c (g a) ∧ R a c) →
    ∃ cl : List CV, RepL w O cl (l.flatMap g) ∧ cl.length = l.length ∧ ∀ (i : Nat) a c, l[i]? = some a → cl[i]? = some c → R a c
  | [], _ => ⟨[], by simp [RepL], rfl, by simp⟩
  | a :: l, h => by
    obtain ⟨c, h1, h2⟩ := h a (by simp)
    obtain ⟨cl, h3, h4, h5⟩ := build_list l (fun x hx => h x (by simp [hx]))
    refine ⟨c :: cl, by simp only [List.flatMap_cons, RepL]; exact ⟨_, _, rfl, h1, h3⟩, by simp [h4], fun i x y hx hy => ?_⟩
    cases i with
    | zero => simp at hx hy; rw [← hx, ← hy]; exact h2
    | succ i => simp at hx hy; exact h5 i x y hx hy

theorem flat_parts {cw : Field → Nat} {cs : List Value} : ∀ (fs : List Field) (k : Nat), (∀ (j : Nat) f, fs[j]? = some f → f.offset = k + ((fs.take j).map cw).sum) →
    fs.flatMap (fun f => (cs.drop f.offset).take (cw f)) = (cs.drop k).take ((fs.map cw).sum)
  | [], k, _ => by simp
  | f :: fs, k, h => by
    have h0 := h 0 f rfl
    simp only [List.take_zero, List.map_nil, List.sum_nil, Nat.add_zero] at h0
    have ih := flat_parts (cw := cw) (cs := cs) fs (k + cw f) (fun j g hg => by
      have := h (j + 1) g (by simpa using hg)
      simp only [List.take_succ_cons, List.map_cons, List.sum_cons] at this
      omega)
    simp only [List.flatMap_cons, List.map_cons, List.sum_cons, ih, h0]
    rw [← List.drop_drop, ← List.take_add]

theorem flat_range {cs : List Value} (c : Nat) : ∀ (m : Nat), (List.range m).flatMap (fun i => (cs.drop (i * c)).take c) = cs.take (m * c)
  | 0 => by simp
  | m + 1 => by
    rw [List.range_succ, List.flatMap_append, flat_range c m]
    simp only [List.flatMap_cons, List.flatMap_nil, List.append_nil]
    rw [← List.take_add, Nat.succ_mul]

theorem flat_cells {w : World} {a : Addr} {c : Nat} {g : Nat → List Value} : ∀ (m : Nat), (∀ i, i < m → (g i).length = c ∧ ∀ r, r < c → w.cell? ((a.add (i * c)).add r) = (g i)[r]?) →
    ((List.range m).flatMap g).length = m * c ∧ ∀ j u, ((List.range m).flatMap g)[j]? = some u → w.cell? (a.add j) = some u
  | 0, _ => by simp
  | m + 1, h => by
    obtain ⟨h1, h2⟩ := flat_cells m (fun i hi => h i (by omega))
    obtain ⟨h3, h4⟩ := h m (by omega)
    rw [List.range_succ, List.flatMap_append]
    simp only [List.flatMap_cons, List.flatMap_nil, List.append_nil]
    refine ⟨by rw [List.length_append, h1, h3, Nat.succ_mul], fun j u hj => ?_⟩
    by_cases hlt : j < m * c
    · rw [List.getElem?_append_left (by omega)] at hj
      exact h2 j u hj
    · rw [List.getElem?_append_right (by omega), h1] at hj
      have hr : j - m * c < c := by
        have := (List.getElem?_eq_some_iff.1 hj).1
        omega
      have := h4 (j - m * c) hr
      rw [Addr.add_add, hj, show m * c + (j - m * c) = j from by omega] at this
      exact this

section
variable {H : Type} {enc : TypeId × Value → H} {P : Program} {T : TypeId → Prop} {w : World} {base : Nat} {sp : Nat → Bool} {held : Bool}

theorem trod_rep (K : Kids P T) : ∀ (m : Nat) (t : TypeId), plainT P m t = true → T t → ∀ (n : Nat) (cs : List Value) (x : DataW H × List MemPlace), DataW.trod enc P w base sp held n t cs = some x →
    ∃ c, RepC w (fun _ => False) c cs ∧ HasTy P t c ∧ cs.length = cs.length
  | 0, t, hp, _, _, _, _, _ => by simp [plainT] at hp
  | m + 1, t, hp, hT, 0, cs, x, h => by simp [DataW.trod] at h
  | m + 1, t, hp, hT, n + 1, cs, x, h => by
    unfold plainT at hp
    split at hp
    · rename_i hu
      unfold DataW.trod at h
      rw [hu] at h
      split at h
      case h_1 => rename_i b h1; exact ⟨.bool b, by simp [RepC], .bool hu b, rfl⟩
      all_goals simp_all
    · rename_i k hu
      unfold DataW.trod at h
      rw [hu] at h
      split at h
      case h_2 =>
        rename_i k' k2 n2 h1
        cases h1
        split at h
        · rename_i hc
          obtain ⟨rfl, hw⟩ := hc
          exact ⟨.int _ n2, by simp [RepC], .int hu hw, rfl⟩
        · cases h
      all_goals simp_all
    · rename_i hu
      unfold DataW.trod at h
      rw [hu] at h
      split at h
      case h_4 =>
        rename_i s h1
        split at h
        · rename_i hc
          refine ⟨.str s.data.toList, by simp [RepC], .str hu ?_, rfl⟩
          have : s.data.toList.length = s.size := by rw [Array.length_toList]; rfl
          omega
        · cases h
      all_goals simp_all
    · rename_i e hu
      unfold DataW.trod at h
      rw [hu] at h
      split at h
      case h_7 =>
        rename_i el h1
        exact ⟨.slc [], by simp only [RepC]; exact ⟨none, 0, [], 0, rfl, by simp [RepL], by simp, by simp, fun _ => rfl, fun ad had => (by cases had)⟩, .slc hu (by simp) (by simp), rfl⟩
      case h_8 =>
        rename_i e' a len cap h1
        cases h1
        simp only at h
        split at h
        · rename_i hc
          obtain ⟨hb, hlc, hcm⟩ := hc
          rw [Option.bind_eq_some_iff] at h
          obtain ⟨elems, he, _⟩ := h
          have hel : ∀ i, i < len → ∃ cl, w.cells? base (a.add (i * P.cellsOf e)) (P.cellsOf e) = some cl ∧ ∃ y, DataW.trod enc P w base sp held n e cl = some y := fun i hi => by
            have := mapM_some_get he i i (by simp [hi])
            have hlen := mapM_some_length he
            simp only [List.length_range] at hlen
            rw [List.getElem?_eq_getElem (by omega)] at this
            rw [Option.bind_eq_some_iff] at this
            obtain ⟨cl, h3, h4⟩ := this
            exact ⟨cl, h3, _, h4⟩
          let g : Nat → List Value := fun i => (w.cells? base (a.add (i * P.cellsOf e)) (P.cellsOf e)).getD []
          have hg : ∀ i, i < len → (g i).length = P.cellsOf e ∧ ∀ r, r < P.cellsOf e → w.cell? ((a.add (i * P.cellsOf e)).add r) = (g i)[r]? := fun i hi => by
            obtain ⟨cl, h3, _⟩ := hel i hi
            obtain ⟨_, h4, h5⟩ := World.cells?_some h3
            have : g i = cl := by simp [g, h3]
            rw [this]; exact ⟨h4, h5⟩
          obtain ⟨cl, hr, hlen, hty⟩ := build_list (w := w) (O := fun _ => False) (g := g) (R := fun i c => HasTy P e c ∧ c.cells = P.cellsOf e) (List.range len) (fun i hi => by
            have hi' := List.mem_range.1 hi
            obtain ⟨cl, h3, y, h4⟩ := hel i hi'
            have hgi : g i = cl := by simp [g, h3]
            obtain ⟨c, q1, q2, _⟩ := trod_rep K m e hp (K.slice hT hu) n cl y h4
            exact ⟨c, by rw [hgi]; exact q1, q2, by rw [← repC_len q1, (World.cells?_some h3).2.1]⟩)
          simp only [List.length_range] at hlen
          have hmem : ∀ x ∈ cl, HasTy P e x ∧ x.cells = P.cellsOf e := fun x hx => by
            obtain ⟨i, hi, rfl⟩ := List.getElem_of_mem hx
            exact hty i i _ (List.getElem?_range (by omega)) (by rw [List.getElem?_eq_getElem hi])
          refine ⟨.slc cl, ?_, .slc hu (fun x hx => (hmem x hx).1) (by omega), rfl⟩
          simp only [RepC]
          refine ⟨some a, cap, _, P.cellsOf e, by rw [hlen], hr, fun v hv => (hmem v hv).2, by omega, fun hh => (by cases hh), fun ad had => ?_⟩
          cases had
          exact ⟨(flat_cells len hg).2, fun _ h => h⟩
        · cases h
      all_goals simp_all
    · rename_i k e hu
      unfold DataW.trod at h
      rw [hu] at h
      split at h
      case h_10 =>
        rename_i cs0 _ _ k' e' h1
        cases h1
        split at h
        · rename_i hc
          rw [Option.map_eq_some_iff] at h
          obtain ⟨xs, hxs, _⟩ := h
          obtain ⟨hTe, hce⟩ := K.array hT hu
          obtain ⟨cl, hr, hlen, hty⟩ := build_list (w := w) (O := fun _ => False) (g := fun i => (cs0.drop (i * P.cellsOf e)).take (P.cellsOf e)) (R := fun i c => HasTy P e c) (List.range k) (fun i hi => by
            have hi' := List.mem_range.1 hi
            have := mapM_some_get hxs i i (by simp [hi'])
            have hlen := mapM_some_length hxs
            simp only [List.length_range] at hlen
            rw [List.getElem?_eq_getElem (by omega)] at this
            obtain ⟨c, q1, q2, _⟩ := trod_rep K m e hp hTe n _ _ this
            exact ⟨c, q1, q2⟩)
          simp only [List.length_range] at hlen
          rw [flat_range, ← hce, ← hc, List.take_length] at hr
          refine ⟨.agg cl, hr, .arr hu (fun x hx => ?_) hlen, rfl⟩
          obtain ⟨i, hi, rfl⟩ := List.getElem_of_mem hx
          exact hty i i _ (List.getElem?_range (by omega)) (by rw [List.getElem?_eq_getElem hi])
        · cases h
      all_goals simp_all
    · rename_i fs hu
      unfold DataW.trod at h
      rw [hu] at h
      split at h
      case h_9 =>
        rename_i cs0 _ _ fs' h1
        cases h1
        split at h
        · rename_i hc
          rw [Option.map_eq_some_iff] at h
          obtain ⟨xs, hxs, _⟩ := h
          obtain ⟨hTf, hsum, hoff⟩ := K.struct hT hu
          obtain ⟨cl, hr, hlen, hty⟩ := build_list (w := w) (O := fun _ => False) (g := fun f : Field => (cs0.drop f.offset).take (P.cellsOf f.type)) (R := fun f c => HasTy P f.type c) fs.toList (fun f hf => by
            obtain ⟨i, hi, rfl⟩ := List.getElem_of_mem hf
            have := mapM_some_get hxs i _ (List.getElem?_eq_getElem hi)
            have hlen := mapM_some_length hxs
            rw [List.getElem?_eq_getElem (by omega)] at this
            obtain ⟨c, q1, q2, _⟩ := trod_rep K m _ (List.all_eq_true.1 hp _ (List.getElem_mem hi)) (hTf _ (List.getElem_mem hi)) n _ _ this
            exact ⟨c, q1, q2⟩)
          rw [flat_parts (cw := fun f => P.cellsOf f.type) fs.toList 0 (fun j f hf => by rw [hoff j f hf]; omega), List.drop_zero, ← hsum, ← hc, List.take_length] at hr
          exact ⟨.agg cl, hr, .struct hu (by simpa using hlen) hty, rfl⟩
        · cases h
      all_goals simp_all
    · cases hp

theorem isAgg_of_okWide {t : TypeId} {v : Value} {c : CV} (hc : HasTy P t c) (h : Value.okWide P w .any base t v) : c.isAgg = Value.isAgg' v := by
  cases hc with
  | bool hu b => unfold Value.okWide at h; rw [hu] at h; simp only [Cell.okWide, hu] at h; cases v <;> simp_all [Cell.ok, CV.isAgg, Value.isAgg']
  | int hu hw => unfold Value.okWide at h; rw [hu] at h; simp only [Cell.okWide, hu] at h; cases v <;> simp_all [Cell.ok, CV.isAgg, Value.isAgg']
  | str hu hs => unfold Value.okWide at h; rw [hu] at h; simp only [Cell.okWide, hu] at h; cases v <;> simp_all [Cell.ok, CV.isAgg, Value.isAgg']
  | slc hu hl hn => unfold Value.okWide at h; rw [hu] at h; simp only [Cell.okWide, hu] at h; cases v <;> simp_all [Cell.ok, CV.isAgg, Value.isAgg']
  | arr hu hl hn => unfold Value.okWide at h; rw [hu] at h; obtain ⟨cs, rfl, _⟩ := h; rfl
  | struct hu hn hl => unfold Value.okWide at h; rw [hu] at h; obtain ⟨cs, rfl, _⟩ := h; rfl

theorem own_none (b : Nat) : ¬ Own (fun _ => none) b := by rintro ⟨_, _, h, _⟩; cases h

/-- The arguments as closed values. -/
theorem trodAll_reps (K : Kids P T) {m : Nat} : ∀ {ts : List TypeId} {vs : List Value} {ds : List (DataW H)} {ps : List MemPlace}, DataW.TrodAll enc P w base sp held ts vs ds ps → (∀ t ∈ ts, plainT P m t = true ∧ T t) →
    (∀ (j : Nat) t v, ts[j]? = some t → vs[j]? = some v → Value.okWide P w .any 0 t v) →
    ∃ cs : List CV, RepHV w (fun _ => none) (Owned (fun _ => none) (fun _ => False)) (cs.map .c) vs ∧ cs.length = ts.length ∧ ds.length = ts.length ∧ ∀ (j : Nat) t c, ts[j]? = some t → cs[j]? = some c → HasTy P t c
  | [], vs, ds, ps, h, _, _ => by
    obtain ⟨rfl, rfl, rfl⟩ := ChangeShapes.trodAll_nil h
    exact ⟨[], by simp [RepHV], rfl, rfl, by simp⟩
  | t :: ts, vs, ds, ps, h, hp, ho => by
    obtain ⟨v, vs1, d, ds1, a, b, rfl, rfl, rfl, ⟨n, h1⟩, h2⟩ := ChangeShapes.trodAll_cons h
    obtain ⟨c, q1, q2, _⟩ := trod_rep (w := w) K m t (hp t (by simp)).1 (hp t (by simp)).2 n _ _ h1
    obtain ⟨cs, r1, r2, r3, r4⟩ := trodAll_reps K h2 (fun t ht => hp t (by simp [ht])) (fun j t v h3 h4 => ho (j + 1) t v (by simpa using h3) (by simpa using h4))
    have hst : Stay w (fun _ => False) w (Owned (fun _ => none) (fun _ => False)) := ⟨fun b _ _ => ⟨rfl, fun hb => hb.elim (fun x => x) (own_none b)⟩⟩
    refine ⟨c :: cs, ?_, by simp [r2], by simp [r3], fun j t' c' h3 h4 => ?_⟩
    · rw [List.map_cons, repHV_cons]
      exact ⟨v, vs1, rfl, ⟨by simp only [RepH]; exact q1.stay hst, isAgg_of_okWide q2 (ho 0 t v rfl rfl)⟩, r1⟩
    · cases j with
      | zero => simp at h3 h4; rw [← h3, ← h4]; exact q2
      | succ j => simp at h3 h4; exact r4 j t' c' h3 h4

theorem sameAt_lt {w w' : World} (h : ∀ b, b < w.heap.size → w'.heap[b]? = w.heap[b]?) {p : MemPlace} (hp : p.block < w.heap.size) : w.sameAt w' p := by
  cases p with
  | cell b off => exact World.cell?_of_block (h b hp)
  | map b => exact h b hp

theorem trodAll_carry {w' : World} : ∀ {ts : List TypeId} {vs : List Value} {ds : List (DataW H)} {ps : List MemPlace}, DataW.TrodAll enc P w base sp held ts vs ds ps → (∀ p ∈ ps, w.sameAt w' p) → DataW.TrodAll enc P w' base sp held ts vs ds ps
  | [], _, _, _, h, _ => by
    obtain ⟨rfl, rfl, rfl⟩ := ChangeShapes.trodAll_nil h
    exact ChangeShapes.trodAll_mk0
  | t :: ts, _, _, _, h, hs => by
    obtain ⟨v, vs1, d, ds1, a, b, rfl, rfl, rfl, ⟨n, h1⟩, h2⟩ := ChangeShapes.trodAll_cons h
    exact ⟨a, b, ⟨n, DataW.trod_carry n t _ _ h1 (fun p hp => hs p (List.mem_append_left _ hp))⟩, trodAll_carry h2 (fun p hp => hs p (List.mem_append_right _ hp)), rfl⟩

theorem keptBut_lt {w w' : World} (h1 : w'.os = w.os) (h2 : w'.output = w.output) (h : ∀ b, b < w.heap.size → w'.heap[b]? = w.heap[b]?) (may : MemPlace → Prop) : w.keptBut w' may := by
  refine ⟨h1, h2, fun i hi => ?_⟩
  rw [h i hi]
  cases w.heap[i]? with
  | none => rfl
  | some o => cases o <;> simp

/-- A LAW: what is true of closed values of the parameters' types is what the row says. -/
theorem law_post {f : FuncId} {fn : Func} {s : ChangeSpec} {mm : Nat} {tb : TypeId} (hok : callOk P f = true) (K : Kids P T) (hz : ∀ t e, T t → P.underlying t = some (.slice e) → 0 < P.cellsOf e) (hvars : s.vars = []) (hres : fn.resultTypes = #[tb]) (htb : P.underlying tb = some .bool)
    (hspec : ∀ (H : Type) (ds : List (DataW H)), ds.length = fn.params.toList.length → (s.fn H ds).results = [.lit (.bool true)] ∧ (s.fn H ds).args = ds ∧ (s.fn H ds).vars = []) (hpl : ∀ t ∈ fn.params.toList, plainT P mm t = true ∧ T t)
    (hlaw : ∀ cs : List CV, cs.length = fn.params.toList.length → (∀ (j : Nat) t c, fn.params.toList[j]? = some t → cs[j]? = some c → HasTy P t c) → HPure P f cs (fun v => v = .bool true))
    {W : World} {args : Array Value} {ds gs : List (DataW H)} {before : List MemPlace} (hval : ∀ (j : Nat) t v, fn.params[j]? = some t → args[j]? = some v → Value.okWide P W .any 0 t v)
    (hW : DataW.Whole enc P fn.params.toList s.vars false W args.toList ds gs before) :
    Calls P f args W fun e W' => ∃ v, e = .returned v ∧ s.post enc P fn false true false false W args v W' := by
  have hW' := hW
  obtain ⟨p, q, hA, hV, rfl, hfz, hnd⟩ := hW
  rw [hvars] at hV
  obtain ⟨rfl, rfl⟩ := ChangeShapes.trodVars_none hV
  simp only [List.append_nil] at hW' hfz
  obtain ⟨cs, r1, r2, r3, r4⟩ := trodAll_reps (m := mm) K hA hpl (fun j t v h1 h2 => hval j t v (by simpa using h1) (by simpa using h2))
  obtain ⟨_, hrun⟩ := hlaw cs r2 r4
  have hS : RepS W (fun _ => none) (fun _ => False) none0 := ⟨fun _ _ h => (by simp [none0] at h), fun _ _ => rfl, fun _ _ _ _ _ h => (by simp at h), fun _ _ _ h => (by simp at h)⟩
  have hcall := hrun W (fun _ => none) (fun _ => False) args.toList hS r1 (fun _ h => h.elim)
  rw [Array.toArray_toList] at hcall
  refine (hcall.calls hok).mono ?_
  rintro e W' ⟨r, ob', ρ', x, rfl, ⟨v, rfl, rfl, rfl⟩, hg⟩
  obtain ⟨hr1, hr2⟩ := hg.v
  have hx : x = .bool true := by
    have hag : Value.isAgg' x = false := by rw [← hr2]; rfl
    rw [cells_single hag] at hr1
    simpa [RepH, RepC] using hr1
  subst hx
  have hheap : ∀ b, b < W.heap.size → W'.heap[b]? = W.heap[b]? := fun b hb => hg.stay.block b hb (own_none b)
  obtain ⟨s1, s2, s3⟩ := hspec H (ds ++ []) (by simpa using r3)
  have hlt : ∀ a ∈ p, a.block < W.heap.size := hA.lt
  have args' : ∀ sp : Nat → Bool, (∀ a ∈ p, sp a.block = true) → DataW.TrodAll enc P W' 0 sp true fn.params.toList args.toList ds p := fun sp hsp =>
    trodAll_carry (hA.respare K hz (fun t ht => (hpl t ht).2) hsp) (fun a ha => sameAt_lt hheap (hlt a ha))
  have hrl : Value.resultList fn.resultTypes.size (.bool true) = [.bool true] := by rw [hres]; rfl
  have hresT : ∀ (b : Nat) (sp : Nat → Bool) (hd : Bool), DataW.TrodAll enc P W' b sp hd fn.resultTypes.toList (Value.resultList fn.resultTypes.size (.bool true)) [.lit (.bool true)] [] := fun b sp hd => by
    rw [hrl, hres]
    exact trodAll_cons_mk (RowKit.shut_bool htb true) ChangeShapes.trodAll_mk0
  refine ⟨.bool true, rfl, ds, [], p, [], p, [], by simpa using hW', ?_, ?_, ?_, ?_, ?_⟩
  · rw [s1]; exact hresT _ _ _
  · rw [s2]; simpa using args' _ (fun a ha => by simpa using hlt a ha)
  · rw [s3, hvars]; rfl
  · exact keptBut_lt hg.stay.os hg.stay.output hheap _
  · intro h; cases h
end
end Go.Hl

namespace Go.Proofs.YtbdgmfbhiihcfaaGreat
open Go Go.Hl Go.Pl

theorem list_choose {α : Type} {f : α → CV} {Q : α → Prop} : ∀ (l : List CV), (∀ x ∈ l, ∃ y, x = f y ∧ Q y) → ∃ m : List α, l = m.map f ∧ ∀ y ∈ m, Q y
 | [], _ => ⟨[], rfl, by simp⟩
 | x :: l, h => by
  obtain ⟨y, rfl, hy⟩ := h x (by simp)
  obtain ⟨m, rfl, hm⟩ := list_choose l (fun x hx => h x (by simp [hx]))
  exact ⟨y :: m, rfl, fun z hz => by rcases List.mem_cons.1 hz with rfl | hz; exact hy; exact hm z hz⟩

theorem i64_of_wf {n : Int} (hw : (Lit.int .i64 n).wf = true) : -9223372036854775808 ≤ n ∧ n ≤ 9223372036854775807 := by simpa [Lit.wf, IntKind.min, IntKind.max, IntKind.signed, IntKind.bits] using hw
theorem of_ints {c : CV} (h : HasTy Tryz.prog 22 c) : ∃ L : List Int, c = .slc (L.map (.int .i64)) ∧ (∀ n ∈ L, (Lit.int .i64 n).wf = true) ∧ L.length ≤ maxLen := by
 obtain ⟨l, rfl, hl, hn⟩ := h.of_slc Tryz.underlying22
 obtain ⟨m, rfl, hm⟩ := list_choose (f := CV.int .i64) (Q := fun n => (Lit.int .i64 n).wf = true) l (fun x hx => (hl x hx).of_int Tryz.underlying3)
 exact ⟨m, rfl, hm, by simpa using hn⟩

theorem own : ownKnob Tryz.prog.godebug = none := by kernel_rfl
theorem kids : Kids Tryz.prog (· < Tryz.prog.types.size) := kids_rows (by kernel_rfl) (by kernel_rfl)
theorem slicesFull : ∀ t e, t < Tryz.prog.types.size → Tryz.prog.underlying t = some (.slice e) → 0 < Tryz.prog.cellsOf e := slices_full_of Tryz.prog (by kernel_rfl)
end Go.Proofs.YtbdgmfbhiihcfaaGreat

namespace Go.Proofs.YtbdgmfbhiihcfaaGreat
open Go Go.Hl Go.Pl
set_option linter.unusedVariables false
set_option maxRecDepth 100000

theorem trustConstant_contract (H : Type) (enc : TypeId × Value → H) (W : World) (base : Nat) (args : Array Value) (ds gs : List (DataW H)) (before : List MemPlace)
    (hval : ∀ (j : Nat) t v, Tryz.f3.params[j]? = some t → args[j]? = some v → Value.okWide Tryz.prog W .any base t v)
    (hW : DataW.Whole enc Tryz.prog Tryz.f3.params.toList Rows.trustConstantSpec.vars false W args.toList ds gs before) :
    Calls Tryz.prog 3 args W fun e W' => ∃ v, e = .returned v ∧ Rows.trustConstantSpec.post enc Tryz.prog Tryz.f3 false true false false W args v W' := by
  refine law_post (mm := 6) (tb := 4) (by kernel_rfl) kids slicesFull rfl (by kernel_rfl) Tryz.underlying4 ?_ ?_ ?_ (fun j t v h1 h2 => ?_) hW
  · rw [Tryz.params3]
    intro H ds h
    match ds, h with
    | [c0, c1, c2], _ => exact ⟨rfl, rfl, rfl⟩
  · rw [Tryz.params3]
    intro t ht
    simp only [List.mem_cons, List.not_mem_nil, or_false] at ht
    rcases ht with rfl | rfl | rfl
    · exact ⟨by kernel_rfl, of_decide_eq_true (by kernel_rfl)⟩
    · exact ⟨by kernel_rfl, of_decide_eq_true (by kernel_rfl)⟩
    · exact ⟨by kernel_rfl, of_decide_eq_true (by kernel_rfl)⟩
  · rw [Tryz.params3]
    intro cs hn hty
    match cs, hn, hty with
    | [c0, c1, c2], _, hty =>
      obtain ⟨L, rfl, hw, hl⟩ := of_ints (hty 0 _ c0 rfl rfl)
      obtain ⟨x, rfl, hx⟩ := (hty 1 _ c1 rfl rfl).of_int Tryz.underlying2
      obtain ⟨y, rfl, hy⟩ := (hty 2 _ c2 rfl rfl).of_int Tryz.underlying2
      exact constant_law L x y
  · exact hval j t v h1 h2

open Go.ChangeShapes Go.WideShapes Go.ChangeAt Go.RowKit in
set_option maxRecDepth 100000 in
theorem trustConstant_lifted (os : Os) (started : os.Started) (H : Type) (enc : TypeId × Value → H) :
    ReturnsInHanded {} Tryz.checked os 3 .any (Rows.trustConstantSpec.pre6 enc Tryz.prog Tryz.f3 Rows.trustConstantRow.domain false) (Rows.trustConstantSpec.post enc Tryz.prog Tryz.f3 false true false false) := by
  refine returnsInHanded_of_change (C := Tryz.checked) own started (by kernel_rfl) Tryz.func3
    (ChangeSpec.witness6 (enc := enc) (C := Tryz.checked) false ⟨#[], #[.slice none 0 0, .int .i64 0, .int .i64 0], []⟩ 8 (by kernel_rfl) (by kernel_rfl) (by kernel_rfl) (by kernel_rfl)) ?_
  intro W base args ds gs before hval hW _ _
  exact trustConstant_contract H enc W base args ds gs before hval hW

/-- THE STATEMENT. -/
theorem trustConstant_said : Rows.TrustConstantSaid :=
  OpenClaim.holds_of_wide 3 Tryz.f3 rfl rfl rfl rfl rfl rfl rfl ⟨rfl, rfl, rfl, rfl, rfl⟩ rfl rfl rfl rfl rfl (by kernel_rfl) Tryz.func3 (by kernel_rfl)
    (of_decide_eq_true (by kernel_rfl)) (by unfold Func.isWrapper; first | (rw [if_pos (by decide +kernel)]; kernel_rfl) | (rw [if_neg (by decide +kernel)]; exact ⟨rfl, rfl⟩))
    (fun os started H enc _ => trustConstant_lifted os started H enc)
#print axioms trustConstant_said
end Go.Proofs.YtbdgmfbhiihcfaaGreat
