/- Part of a proof: walks of functions of the program, by contracts, and the rules they use. By an AI agent. -/
import Derived.Test.YtackchmdajdlaaaGreatHwTf
import Derived.Test.YtackchmdajdlaaaGreatHwSb
import Derived.Test.YtackchmdajdlaaaGreatHwTd
import Derived.Test.YtackchmdajdlaaaGreatHwT2
set_option linter.unusedSimpArgs false
set_option linter.unusedVariables false
set_option linter.defProp false
namespace Go.Proofs.YtackchmdajdlaaaGreat
open Go Go.Hl Go.Pl
set_option maxRecDepth 10000
set_option maxHeartbeats 4000000
set_option linter.unusedSimpArgs false
set_option linter.unusedVariables false
attribute [local simp] tp

theorem light_ok (r : Rt) : HPure Tryz.prog 30 [r.cv] (fun v => v = .bool (lightB r)) := by
 refine hfn_walk Tryz.func30 rfl (by kernel_rfl) (locOk_nil _) (Nat.le_of_ble_eq_true rfl) ?_
 refine hw_seq fun K hK => hw_region (by kernel_rfl) ?_
 simp (maxSteps := 4000000) only [↓sP, sA, tyS, simprocAttr]
 repeat refine AI ?_
 refine hK _ _ _ ?_
 clear hK K
 refine hw_seq fun K hK => ?_
 refine hw_seq fun K hK => hw_region (by kernel_rfl) ?_
 simp only [sR, simprocAttr]
 iterate 5
  (refine hlex_step (g := none) rfl rfl fun K' hK' => ?_; simp only [sH, ↓sP, sA, tyS, simprocAttr]; (repeat refine AI ?_); refine hK' _ _ ?_; clear hK' K')
 refine hlex_cases 7 rfl (fun h1_7 => ?_) (fun h1_7 => ?_)
 ·
  iterate 4
   (refine hlex_step (g := some (8, false)) rfl rfl fun K' hK' => ?_; simp only [sH, ↓sP, sA, tyS, simprocAttr, h1_7]; (repeat refine AI ?_); refine hK' _ _ ?_; clear hK' K')
  iterate 2
   (refine hlex_step (g := none) rfl rfl fun K' hK' => ?_; simp only [sH, ↓sP, sA, tyS, simprocAttr, h1_7]; (repeat refine AI ?_); refine hK' _ _ ?_; clear hK' K')
  iterate 4
   (refine hlex_step (g := some (14, false)) rfl rfl fun K' hK' => ?_; simp only [sH, ↓sP, sA, tyS, simprocAttr, h1_7]; (repeat refine AI ?_); refine hK' _ _ ?_; clear hK' K')
  refine hlex_step (g := none) rfl rfl fun K' hK' => ?_
  simp (maxSteps := 4000000) only [sH, ↓sP, sA, tyS, simprocAttr, h1_7]
  repeat refine AI ?_
  refine hK' _ _ ?_
  clear hK' K'
  simp only [sE, ↓reduceIte, simprocAttr]
  repeat refine AI ?_
  refine hK _ _ _ ?_
  clear hK K
  refine hw_cond (b := true) rfl (fun hb => ?_) (fun hb => ?_)
  ·
   refine hw_seq fun K hK => hw_region (by kernel_rfl) ?_
   simp (maxSteps := 4000000) only [↓sP, sA, tyS, simprocAttr]
   repeat refine AI ?_
   refine hK _ _ _ ?_
   clear hK K
   refine hw_ret ?_
   simp (maxSteps := 4000000) only [hpost, Tryz.results30, hresL, hres1, tupOf, ↓sP, sA, tyS, simprocAttr]
   exact hret_pure [] (.bool false) rfl (by simp only [light_code, h1_7, Bool.not_true, Bool.not_false, Bool.true_and, Bool.false_and, Bool.and_false])
  ·
   cases hb
 ·
  iterate 4
   (refine hlex_step (g := some (8, false)) rfl rfl fun K' hK' => ?_; simp only [sH, ↓sP, sA, tyS, simprocAttr, h1_7]; (repeat refine AI ?_); refine hK' _ _ ?_; clear hK' K')
  iterate 2
   (refine hlex_step (g := none) rfl rfl fun K' hK' => ?_; simp only [sH, ↓sP, sA, tyS, simprocAttr, h1_7]; (repeat refine AI ?_); refine hK' _ _ ?_; clear hK' K')
  refine hlex_cases 12 rfl (fun h1_12 => ?_) (fun h1_12 => ?_)
  ·
   iterate 4
    (refine hlex_step (g := some (14, false)) rfl rfl fun K' hK' => ?_; simp only [sH, ↓sP, sA, tyS, simprocAttr, h1_7, h1_12]; (repeat refine AI ?_); refine hK' _ _ ?_; clear hK' K')
   refine hlex_step (g := none) rfl rfl fun K' hK' => ?_
   simp (maxSteps := 4000000) only [sH, ↓sP, sA, tyS, simprocAttr, h1_7, h1_12]
   repeat refine AI ?_
   refine hK' _ _ ?_
   clear hK' K'
   simp only [sE, ↓reduceIte, simprocAttr]
   repeat refine AI ?_
   refine hK _ _ _ ?_
   clear hK K
   refine hw_cond (b := true) rfl (fun hb => ?_) (fun hb => ?_)
   ·
    refine hw_seq fun K hK => hw_region (by kernel_rfl) ?_
    simp (maxSteps := 4000000) only [↓sP, sA, tyS, simprocAttr]
    repeat refine AI ?_
    refine hK _ _ _ ?_
    clear hK K
    refine hw_ret ?_
    simp (maxSteps := 4000000) only [hpost, Tryz.results30, hresL, hres1, tupOf, ↓sP, sA, tyS, simprocAttr]
    exact hret_pure [] (.bool false) rfl (by simp only [light_code, h1_7, h1_12, Bool.not_true, Bool.not_false, Bool.true_and, Bool.false_and, Bool.and_false])
   ·
    cases hb
  ·
   iterate 4
    (refine hlex_step (g := some (14, false)) rfl rfl fun K' hK' => ?_; simp only [sH, ↓sP, sA, tyS, simprocAttr, h1_7, h1_12]; (repeat refine AI ?_); refine hK' _ _ ?_; clear hK' K')
   refine hlex_step (g := none) rfl rfl fun K' hK' => ?_
   simp (maxSteps := 4000000) only [sH, ↓sP, sA, tyS, simprocAttr, h1_7, h1_12]
   repeat refine AI ?_
   refine hK' _ _ ?_
   clear hK' K'
   refine hlex_cases 18 rfl (fun h1_18 => ?_) (fun h1_18 => ?_)
   ·
    simp only [h1_18]
    simp only [sE, ↓reduceIte, simprocAttr]
    repeat refine AI ?_
    refine hK _ _ _ ?_
    clear hK K
    refine hw_cond (b := true) rfl (fun hb => ?_) (fun hb => ?_)
    ·
     refine hw_seq fun K hK => hw_region (by kernel_rfl) ?_
     simp (maxSteps := 4000000) only [↓sP, sA, tyS, simprocAttr]
     repeat refine AI ?_
     refine hK _ _ _ ?_
     clear hK K
     refine hw_ret ?_
     simp (maxSteps := 4000000) only [hpost, Tryz.results30, hresL, hres1, tupOf, ↓sP, sA, tyS, simprocAttr]
     exact hret_pure [] (.bool false) rfl (by simp only [light_code, h1_7, h1_12, h1_18, Bool.not_true, Bool.not_false, Bool.true_and, Bool.false_and, Bool.and_false])
    ·
     cases hb
   ·
    simp only [h1_18]
    simp only [sE, ↓reduceIte, simprocAttr]
    repeat refine AI ?_
    refine hK _ _ _ ?_
    clear hK K
    refine hw_cond (b := false) rfl (fun hb => ?_) (fun hb => ?_)
    ·
     cases hb
    ·
     refine hw_skip ?_
     simp (maxSteps := 4000000) only [↓sP, sA, tyS, simprocAttr]
     repeat refine AI ?_
     refine hK _ _ _ ?_
     clear hK K
     refine hw_seq fun K hK => ?_
     refine hw_seq fun K hK => hw_region (by kernel_rfl) ?_
     simp (maxSteps := 4000000) only [↓sP, sA, tyS, simprocAttr]
     repeat refine AI ?_
     refine hK _ _ _ ?_
     clear hK K
     refine hw_block ?_
     have hk50 : r.k.length ≤ 50 := by simp at h1_12; omega
     refine hw_loop (α := {i : Nat // i ≤ r.k.length ∧ ∀ x ∈ r.k.take i, lightK x = true}) (fun i => (fin [(1, .ptr 0 0), (3, .c (.int .i64 i.1))], fob [(0, .box 26 (.c r.cv))])) 100 (fun i => r.k.length - i.1) ⟨0, by omega, by simp⟩ (fits_fin (by omega) (by simp [FinOk, fin_at, finA_at, upd_at, HV.men, HV.menL, HV.norm, HV.toC, HV.toCL]) (by simp [FobOk, fob_at, upd_at, none0_at, gone, HO.men, HV.men, HV.menL, HV.norm, HV.toC, HV.toCL])) ?_
     rintro ⟨i, hi, h0⟩
     refine hw_seq fun K hK => ?_
     refine hw_seq fun K hK => hw_region (by kernel_rfl) ?_
     simp only [sR, simprocAttr]
     iterate 5
      (refine hlex_step (g := none) rfl rfl fun K' hK' => ?_; simp only [sH, ↓sP, sA, tyS, simprocAttr, h1_7, h1_12, h1_18]; (repeat refine AI ?_); refine hK' _ _ ?_; clear hK' K')
     simp only [sE, ↓reduceIte, simprocAttr]
     repeat refine AI ?_
     refine hK _ _ _ ?_
     clear hK K
     refine hw_cond (b := decide ((i : Int) < r.k.length)) rfl (fun hb => ?_) (fun hb => ?_)
     ·
      have hlt : i < r.k.length := by simpa using hb
      refine hw_skip ?_
      simp (maxSteps := 4000000) only [↓sP, sA, tyS, simprocAttr]
      repeat refine AI ?_
      refine hK _ _ _ ?_
      clear hK K
      refine hw_seq fun K hK => ?_
      refine hw_block ?_
      refine hw_seq fun K hK => hw_region (by kernel_rfl) ?_
      simp only [sR, simprocAttr]
      iterate 9
       (refine hlex_step (g := none) rfl rfl fun K' hK' => ?_; simp only [sH, ↓sP, sA, tyS, simprocAttr, Int.natCast_nonneg, Int.ofNat_lt, hlt, nth_map hlt, h1_7, h1_12, h1_18]; (repeat refine AI ?_); refine hK' _ _ ?_; clear hK' K')
      refine hlex_cases 34 rfl (fun h6_34 => ?_) (fun h6_34 => ?_)
      ·
       iterate 8
        (refine hlex_step (g := some (35, false)) rfl rfl fun K' hK' => ?_; simp only [sH, ↓sP, sA, tyS, simprocAttr, Int.natCast_nonneg, Int.ofNat_lt, hlt, nth_map hlt, h1_7, h1_12, h1_18, h6_34]; (repeat refine AI ?_); refine hK' _ _ ?_; clear hK' K')
       refine hlex_step (g := none) rfl rfl fun K' hK' => ?_
       simp (maxSteps := 4000000) only [sH, ↓sP, sA, tyS, simprocAttr, Int.natCast_nonneg, Int.ofNat_lt, hlt, nth_map hlt, h1_7, h1_12, h1_18, h6_34]
       repeat refine AI ?_
       refine hK' _ _ ?_
       clear hK' K'
       simp only [sE, ↓reduceIte, simprocAttr]
       repeat refine AI ?_
       refine hK _ _ _ ?_
       clear hK K
       refine hw_cond (b := true) rfl (fun hb => ?_) (fun hb => ?_)
       ·
        refine hw_seq fun K hK => hw_region (by kernel_rfl) ?_
        simp (maxSteps := 4000000) only [↓sP, sA, tyS, simprocAttr]
        repeat refine AI ?_
        refine hK _ _ _ ?_
        clear hK K
        refine hw_ret ?_
        simp (maxSteps := 4000000) only [hpost, Tryz.results30, hresL, hres1, tupOf, ↓sP, sA, tyS, simprocAttr]
        exact hret_pure [] (.bool false) rfl (by rw [light_bad hlt (by simp only [lightK_code, h1_7, h1_12, h1_18, h6_34, Bool.not_true, Bool.not_false, Bool.true_and, Bool.false_and, Bool.and_false])])
       ·
        cases hb
      ·
       iterate 8
        (refine hlex_step (g := some (35, false)) rfl rfl fun K' hK' => ?_; simp only [sH, ↓sP, sA, tyS, simprocAttr, Int.natCast_nonneg, Int.ofNat_lt, hlt, nth_map hlt, h1_7, h1_12, h1_18, h6_34]; (repeat refine AI ?_); refine hK' _ _ ?_; clear hK' K')
       refine hlex_step (g := none) rfl rfl fun K' hK' => ?_
       simp (maxSteps := 4000000) only [sH, ↓sP, sA, tyS, simprocAttr, Int.natCast_nonneg, Int.ofNat_lt, hlt, nth_map hlt, h1_7, h1_12, h1_18, h6_34]
       repeat refine AI ?_
       refine hK' _ _ ?_
       clear hK' K'
       refine hlex_cases 43 rfl (fun h6_43 => ?_) (fun h6_43 => ?_)
       ·
        simp only [h6_43]
        simp only [sE, ↓reduceIte, simprocAttr]
        repeat refine AI ?_
        refine hK _ _ _ ?_
        clear hK K
        refine hw_cond (b := true) rfl (fun hb => ?_) (fun hb => ?_)
        ·
         refine hw_seq fun K hK => hw_region (by kernel_rfl) ?_
         simp (maxSteps := 4000000) only [↓sP, sA, tyS, simprocAttr]
         repeat refine AI ?_
         refine hK _ _ _ ?_
         clear hK K
         refine hw_ret ?_
         simp (maxSteps := 4000000) only [hpost, Tryz.results30, hresL, hres1, tupOf, ↓sP, sA, tyS, simprocAttr]
         exact hret_pure [] (.bool false) rfl (by rw [light_bad hlt (by simp only [lightK_code, h1_7, h1_12, h1_18, h6_34, h6_43, Bool.not_true, Bool.not_false, Bool.true_and, Bool.false_and, Bool.and_false])])
        ·
         cases hb
       ·
        simp only [h6_43]
        simp only [sE, ↓reduceIte, simprocAttr]
        repeat refine AI ?_
        refine hK _ _ _ ?_
        clear hK K
        refine hw_cond (b := false) rfl (fun hb => ?_) (fun hb => ?_)
        ·
         cases hb
        ·
         refine hw_skip ?_
         simp (maxSteps := 4000000) only [↓sP, sA, tyS, simprocAttr]
         repeat refine AI ?_
         refine hK _ _ _ ?_
         clear hK K
         refine hw_region (by kernel_rfl) ?_
         simp (maxSteps := 4000000) only [↓sP, sA, tyS, simprocAttr, IntWalk.i64_in _ (show -9223372036854775808 ≤ (i : Int) + 1 ∧ (i : Int) + 1 ≤ 9223372036854775807 by omega)]
         refine ⟨⟨i + 1, hlt, fun x hx => ?_⟩, fits_fin (by omega) (by simp [FinOk, fin_at, finA_at, upd_at, HV.men, HV.menL, HV.norm, HV.toC, HV.toCL]) (by simp [FobOk, fob_at, upd_at, none0_at, gone, HO.men, HV.men, HV.menL, HV.norm, HV.toC, HV.toCL]), ?_⟩
         ·
          rw [List.take_succ_eq_append_getElem hlt, List.mem_append, List.mem_singleton] at hx
          rcases hx with hx | rfl
          ·
           exact h0 x hx
          ·
           simp only [lightK_code, h1_7, h1_12, h1_18, h6_34, h6_43, Bool.not_false, Bool.true_and]
         ·
          show r.k.length - (i + 1) < r.k.length - i
          omega
     ·
      refine hw_exit ?_
      simp (maxSteps := 4000000) only [↓sP, sA, tyS, simprocAttr]
      clear hK K
      repeat refine AI ?_
      refine hK _ _ _ ?_
      clear hK K
      refine hw_seq fun K hK => hw_region (by kernel_rfl) ?_
      simp (maxSteps := 4000000) only [↓sP, sA, tyS, simprocAttr]
      repeat refine AI ?_
      refine hK _ _ _ ?_
      clear hK K
      refine hw_ret ?_
      simp (maxSteps := 4000000) only [hpost, Tryz.results30, hresL, hres1, tupOf, ↓sP, sA, tyS, simprocAttr]
      have hei : i = r.k.length := by simp at hb; omega
      subst hei
      rw [List.take_length] at h0
      exact hret_pure [] (.bool true) rfl (by rw [light_code, List.all_eq_true.2 h0, h1_7, h1_12, h1_18]; rfl)


theorem find_ok (r : Rt) (d : Dig) (hr : rSz r) : HPure2 Tryz.prog 17 [r.cv, dg d] (fun u v => u = ((findK r.k d).getD k0).cv ∧ v = .bool (findK r.k d).isSome) := by
 have hlk : r.k.length < 2 ^ 40 := hr.2.1.1
 refine hfn_walk Tryz.func17 rfl (by kernel_rfl) (locOk_nil _) (Nat.le_of_ble_eq_true rfl) ?_
 refine hw_seq fun K hK => hw_region (by kernel_rfl) ?_
 simp only [sR, simprocAttr]
 iterate 4
  (refine hlex_step (g := none) rfl rfl fun K' hK' => ?_; simp only [sH, ↓sP, sA, tyS, simprocAttr]; (repeat refine AI ?_); refine hK' _ _ ?_; clear hK' K')
 simp only [sE, ↓reduceIte, simprocAttr]
 repeat refine AI ?_
 refine hK _ _ _ ?_
 clear hK K
 refine hw_seq fun K hK => ?_
 refine hw_seq fun K hK => hw_region (by kernel_rfl) ?_
 simp only [sR, simprocAttr]
 iterate 4
  (refine hlex_step (g := none) rfl rfl fun K' hK' => ?_; simp only [sH, ↓sP, sA, tyS, simprocAttr]; (repeat refine AI ?_); refine hK' _ _ ?_; clear hK' K')
 simp only [sE, ↓reduceIte, simprocAttr]
 repeat refine AI ?_
 refine hK _ _ _ ?_
 clear hK K
 refine hw_block ?_
 refine hw_loop (α := {i : Nat // i ≤ r.k.length ∧ ∀ x ∈ r.k.take i, (kid x == d) = false}) (fun i => (fin [(3, .ptr 4 0), (4, .ptr 8 0), (9, .c (.slc (r.k.map Ky.cv))), (10, .c (.int .i64 r.k.length)), (11, .c (.int .i64 i.1))], fob [(4, .box 55 (.c (dg d))), (8, .box 51 (.c (.agg [Pk.cv ⟨0, zh⟩, .str [], .nils, .int .i64 0, .int .i64 0])))])) 100 (fun i => r.k.length - i.1) ⟨0, by omega, by simp⟩ (fits_fin (by omega) (by simp [FinOk, fin_at, finA_at, upd_at, HV.men, HV.menL, HV.norm, HV.toC, HV.toCL]) (by simp [FobOk, fob_at, upd_at, none0_at, gone, HO.men, HV.men, HV.menL, HV.norm, HV.toC, HV.toCL])) ?_
 rintro ⟨i, hi, h0⟩
 refine hw_seq fun K hK => hw_region (by kernel_rfl) ?_
 simp (maxSteps := 4000000) only [↓sP, sA, tyS, simprocAttr]
 repeat refine AI ?_
 refine hK _ _ _ ?_
 clear hK K
 refine hw_seq fun K hK => ?_
 refine hw_cond (b := decide ((i : Int) < r.k.length)) rfl (fun hb => ?_) (fun hb => ?_)
 ·
  have hlt : i < r.k.length := by simpa using hb
  have hk := hr.2.1.2 _ (List.getElem_mem hlt)
  refine hw_skip ?_
  simp (maxSteps := 4000000) only [↓sP, sA, tyS, simprocAttr]
  repeat refine AI ?_
  refine hK _ _ _ ?_
  clear hK K
  refine hw_seq fun K hK => ?_
  refine hw_block ?_
  refine hw_seq fun K hK => hw_region (by kernel_rfl) ?_
  simp only [sR, simprocAttr]
  iterate 4
   (refine hlex_step (g := none) rfl rfl fun K' hK' => ?_; simp only [sH, ↓sP, sA, tyS, simprocAttr, Int.natCast_nonneg, Int.ofNat_lt, hlt, nth_map hlt]; (repeat refine AI ?_); refine hK' _ _ ?_; clear hK' K')
  simp only [sE, ↓reduceIte, simprocAttr]
  repeat refine AI ?_
  refine hK _ _ _ ?_
  clear hK K
  refine hw_seq fun K hK => hw_draw2 mixed [(0, [], []), (1, [], []), (3, [], []), (2, [], [3]), (4, [], [])] [0, 1, 3, 0, 15] (by kernel_rfl) (by kernel_rfl) (by kernel_rfl) (by kernel_rfl) rfl (by kernel_rfl) ?_
  iterate 3
   (refine hwalk2_step (g := none) rfl rfl fun K' hK' => ?_; simp only [sH, ↓sP, sA, tyS, simprocAttr]; (repeat refine AI ?_); refine hK' _ _ ?_; clear hK' K')
  refine hwalk2_step (g := none) rfl rfl fun K' hK' => ?_
  simp (maxSteps := 4000000) only [sH, ↓sP, sA, tyS, simprocAttr]
  refine call_pure (args := [_]) (pid_ok r.k[i].p) ⟨rfl, rfl, rfl, rfl⟩ ?_
  rintro u rfl
  repeat refine AI ?_
  refine hK' _ _ ?_
  clear hK' K'
  refine hwalk2_step (g := none) rfl rfl fun K' hK' => ?_
  simp (maxSteps := 4000000) only [sH, ↓sP, sA, tyS, simprocAttr]
  repeat refine AI ?_
  refine hK' _ _ ?_
  clear hK' K'
  simp only [sE, ↓reduceIte, simprocAttr]
  repeat refine AI ?_
  refine hK _ _ _ ?_
  clear hK K
  refine hw_cond (b := kid r.k[i] == d) rfl (fun hb => ?_) (fun hb => ?_)
  ·
   refine hw_seq fun K hK => hw_region (by kernel_rfl) ?_
   simp only [sR, simprocAttr]
   iterate 2
    (refine hlex_step (g := none) rfl rfl fun K' hK' => ?_; simp only [sH, ↓sP, sA, tyS, simprocAttr, denilL_str, Ky.fold]; (repeat refine AI ?_); refine hK' _ _ ?_; clear hK' K')
   refine hlex_step (g := none) rfl rfl fun K' hK' => ?_
   simp (maxSteps := 4000000) only [sH, ↓sP, sA, tyS, simprocAttr, denilL_str, Ky.fold]
   refine call_pure (args := [_]) (clone_ok r.k[i].rs hk.2.1) ⟨rfl, rfl, rfl, rfl⟩ ?_
   rintro u rfl
   repeat refine AI ?_
   refine hK' _ _ ?_
   clear hK' K'
   iterate 2
    (refine hlex_step (g := none) rfl rfl fun K' hK' => ?_; simp only [sH, ↓sP, sA, tyS, simprocAttr, denilL_str, Ky.fold]; (repeat refine AI ?_); refine hK' _ _ ?_; clear hK' K')
   simp only [sE, ↓reduceIte, simprocAttr]
   repeat refine AI ?_
   refine hK _ _ _ ?_
   clear hK K
   refine hw_seq fun K hK => hw_region (by kernel_rfl) ?_
   simp (maxSteps := 4000000) only [↓sP, sA, tyS, simprocAttr]
   repeat refine AI ?_
   refine hK _ _ _ ?_
   clear hK K
   refine hw_ret ?_
   simp (maxSteps := 4000000) only [hpost, Tryz.results17, hresL, hres1, tupOf, ↓sP, sA, tyS, simprocAttr]
   have hf : findK r.k d = some r.k[i] := find_hit (p := fun k => kid k == d) hlt hb h0
   refine hret_pure2 [] r.k[i].cv (.bool true) ?_ ⟨by rw [hf]; rfl, by rw [hf]; rfl⟩
   simp [HV.close, HV.closeL, Ky.denil, CV.denil, HV.norm, HV.toC, HV.toCL]
  ·
   refine hw_skip ?_
   simp (maxSteps := 4000000) only [↓sP, sA, tyS, simprocAttr]
   repeat refine AI ?_
   refine hK _ _ _ ?_
   clear hK K
   refine hw_region (by kernel_rfl) ?_
   simp (maxSteps := 4000000) only [↓sP, sA, tyS, simprocAttr, IntWalk.i64_in _ (show -9223372036854775808 ≤ (i : Int) + 1 ∧ (i : Int) + 1 ≤ 9223372036854775807 by omega)]
   refine ⟨⟨i + 1, hlt, take_miss (p := fun k => kid k == d) hlt hb h0⟩, fits_fin (by omega) (by simp [FinOk, fin_at, finA_at, upd_at, HV.men, HV.menL, HV.norm, HV.toC, HV.toCL]) (by simp [FobOk, fob_at, upd_at, none0_at, gone, HO.men, HV.men, HV.menL, HV.norm, HV.toC, HV.toCL]), ?_⟩
   show r.k.length - (i + 1) < r.k.length - i
   omega
 ·
  refine hw_exit ?_
  simp (maxSteps := 4000000) only [↓sP, sA, tyS, simprocAttr]
  clear hK K
  repeat refine AI ?_
  refine hK _ _ _ ?_
  clear hK K
  refine hw_seq fun K hK => hw_region (by kernel_rfl) ?_
  simp (maxSteps := 4000000) only [↓sP, sA, tyS, simprocAttr]
  repeat refine AI ?_
  refine hK _ _ _ ?_
  clear hK K
  refine hw_ret ?_
  simp (maxSteps := 4000000) only [hpost, Tryz.results17, hresL, hres1, tupOf, ↓sP, sA, tyS, simprocAttr]
  have hei : i = r.k.length := by simp at hb; omega
  subst hei
  rw [List.take_length] at h0
  have hf : findK r.k d = none := find_miss (p := fun k => kid k == d) h0
  refine hret_pure2 [] k0.cv (.bool false) ?_ ⟨by rw [hf]; rfl, by rw [hf]; rfl⟩
  simp [HV.close, HV.closeL, CV.denil, CV.denilL, HV.norm, HV.toC, HV.toCL, Pk.denil, k0, Ky.cv]


theorem rfind_ok (r : Rt) (d : Dig) (hr : rSz r) : HPure2 Tryz.prog 18 [r.cv, dg d] (fun u v => u = ((findK r.k d).getD k0).cv ∧ v = .bool (findK r.k d).isSome) := by
 have hlk : r.k.length < 2 ^ 40 := hr.2.1.1
 refine hfn_walk Tryz.func18 rfl (by kernel_rfl) (locOk_nil _) (Nat.le_of_ble_eq_true rfl) ?_
 refine hw_seq fun K hK => hw_region (by kernel_rfl) ?_
 simp only [sR, simprocAttr]
 iterate 4
  (refine hlex_step (g := none) rfl rfl fun K' hK' => ?_; simp only [sH, ↓sP, sA, tyS, simprocAttr]; (repeat refine AI ?_); refine hK' _ _ ?_; clear hK' K')
 simp only [sE, ↓reduceIte, simprocAttr]
 repeat refine AI ?_
 refine hK _ _ _ ?_
 clear hK K
 refine hw_seq fun K hK => ?_
 refine hw_seq fun K hK => hw_region (by kernel_rfl) ?_
 simp (maxSteps := 4000000) only [↓sP, sA, tyS, simprocAttr]
 repeat refine AI ?_
 refine hK _ _ _ ?_
 clear hK K
 refine hw_block ?_
 refine hw_loop (α := {i : Nat // i ≤ r.k.length ∧ ∀ x ∈ r.k.take i, (kid x == d) = false}) (fun i => (fin [(2, .ptr 0 0), (3, .ptr 4 0), (4, .ptr 8 0), (6, .c (.int .i64 i.1))], fob [(0, .box 26 (.c r.cv)), (4, .box 55 (.c (dg d))), (8, .box 51 (.c (.agg [Pk.cv ⟨0, zh⟩, .str [], .nils, .int .i64 0, .int .i64 0])))])) 100 (fun i => r.k.length - i.1) ⟨0, by omega, by simp⟩ (fits_fin (by omega) (by simp [FinOk, fin_at, finA_at, upd_at, HV.men, HV.menL, HV.norm, HV.toC, HV.toCL]) (by simp [FobOk, fob_at, upd_at, none0_at, gone, HO.men, HV.men, HV.menL, HV.norm, HV.toC, HV.toCL])) ?_
 rintro ⟨i, hi, h0⟩
 refine hw_seq fun K hK => ?_
 refine hw_seq fun K hK => hw_region (by kernel_rfl) ?_
 simp only [sR, simprocAttr]
 iterate 5
  (refine hlex_step (g := none) rfl rfl fun K' hK' => ?_; simp only [sH, ↓sP, sA, tyS, simprocAttr]; (repeat refine AI ?_); refine hK' _ _ ?_; clear hK' K')
 simp only [sE, ↓reduceIte, simprocAttr]
 repeat refine AI ?_
 refine hK _ _ _ ?_
 clear hK K
 refine hw_cond (b := decide ((i : Int) < r.k.length)) rfl (fun hb => ?_) (fun hb => ?_)
 ·
  have hlt : i < r.k.length := by simpa using hb
  refine hw_skip ?_
  simp (maxSteps := 4000000) only [↓sP, sA, tyS, simprocAttr]
  repeat refine AI ?_
  refine hK _ _ _ ?_
  clear hK K
  refine hw_seq fun K hK => ?_
  refine hw_block ?_
  refine hw_seq fun K hK => hw_draw2 mixed [(0, [], []), (1, [], []), (2, [], []), (3, [], []), (4, [], []), (5, [], []), (7, [], []), (6, [], [7]), (8, [], [])] [0, 1, 0, 7, 15, 31, 63, 0, 255] (by kernel_rfl) (by kernel_rfl) (by kernel_rfl) (by kernel_rfl) rfl (by kernel_rfl) ?_
  iterate 7
   (refine hwalk2_step (g := none) rfl rfl fun K' hK' => ?_; simp only [sH, ↓sP, sA, tyS, simprocAttr, Int.natCast_nonneg, Int.ofNat_lt, hlt, nth_map hlt]; (repeat refine AI ?_); refine hK' _ _ ?_; clear hK' K')
  refine hwalk2_step (g := none) rfl rfl fun K' hK' => ?_
  simp (maxSteps := 4000000) only [sH, ↓sP, sA, tyS, simprocAttr, Int.natCast_nonneg, Int.ofNat_lt, hlt, nth_map hlt]
  refine call_pure (args := [_]) (rid_ok r.k[i].p) ⟨rfl, rfl, rfl, rfl⟩ ?_
  rintro u rfl
  repeat refine AI ?_
  refine hK' _ _ ?_
  clear hK' K'
  refine hwalk2_step (g := none) rfl rfl fun K' hK' => ?_
  simp (maxSteps := 4000000) only [sH, ↓sP, sA, tyS, simprocAttr, Int.natCast_nonneg, Int.ofNat_lt, hlt, nth_map hlt]
  repeat refine AI ?_
  refine hK' _ _ ?_
  clear hK' K'
  simp only [sE, ↓reduceIte, simprocAttr]
  repeat refine AI ?_
  refine hK _ _ _ ?_
  clear hK K
  refine hw_cond (b := kid r.k[i] == d) rfl (fun hb => ?_) (fun hb => ?_)
  ·
   refine hw_seq fun K hK => hw_region (by kernel_rfl) ?_
   simp only [sR, simprocAttr]
   iterate 7
    (refine hlex_step (g := none) rfl rfl fun K' hK' => ?_; simp only [sH, ↓sP, sA, tyS, simprocAttr, Int.natCast_nonneg, Int.ofNat_lt, hlt, nth_map hlt]; (repeat refine AI ?_); refine hK' _ _ ?_; clear hK' K')
   simp only [sE, ↓reduceIte, simprocAttr]
   repeat refine AI ?_
   refine hK _ _ _ ?_
   clear hK K
   refine hw_ret ?_
   simp (maxSteps := 4000000) only [hpost, Tryz.results18, hresL, hres1, tupOf, ↓sP, sA, tyS, simprocAttr]
   have hf : findK r.k d = some r.k[i] := find_hit (p := fun k => kid k == d) hlt hb h0
   refine hret_pure2 [] r.k[i].cv (.bool true) ?_ ⟨by rw [hf]; rfl, by rw [hf]; rfl⟩
   simp [HV.close, HV.closeL, Ky.denil, CV.denil, HV.norm, HV.toC, HV.toCL]
  ·
   refine hw_skip ?_
   simp (maxSteps := 4000000) only [↓sP, sA, tyS, simprocAttr]
   repeat refine AI ?_
   refine hK _ _ _ ?_
   clear hK K
   refine hw_region (by kernel_rfl) ?_
   simp (maxSteps := 4000000) only [↓sP, sA, tyS, simprocAttr, IntWalk.i64_in _ (show -9223372036854775808 ≤ (i : Int) + 1 ∧ (i : Int) + 1 ≤ 9223372036854775807 by omega)]
   refine ⟨⟨i + 1, hlt, take_miss (p := fun k => kid k == d) hlt hb h0⟩, fits_fin (by omega) (by simp [FinOk, fin_at, finA_at, upd_at, HV.men, HV.menL, HV.norm, HV.toC, HV.toCL]) (by simp [FobOk, fob_at, upd_at, none0_at, gone, HO.men, HV.men, HV.menL, HV.norm, HV.toC, HV.toCL]), ?_⟩
   show r.k.length - (i + 1) < r.k.length - i
   omega
 ·
  refine hw_exit ?_
  simp (maxSteps := 4000000) only [↓sP, sA, tyS, simprocAttr]
  clear hK K
  repeat refine AI ?_
  refine hK _ _ _ ?_
  clear hK K
  refine hw_seq fun K hK => hw_region (by kernel_rfl) ?_
  simp (maxSteps := 4000000) only [↓sP, sA, tyS, simprocAttr]
  repeat refine AI ?_
  refine hK _ _ _ ?_
  clear hK K
  refine hw_ret ?_
  simp (maxSteps := 4000000) only [hpost, Tryz.results18, hresL, hres1, tupOf, ↓sP, sA, tyS, simprocAttr]
  have hei : i = r.k.length := by simp at hb; omega
  subst hei
  rw [List.take_length] at h0
  have hf : findK r.k d = none := find_miss (p := fun k => kid k == d) h0
  refine hret_pure2 [] k0.cv (.bool false) ?_ ⟨by rw [hf]; rfl, by rw [hf]; rfl⟩
  simp [HV.close, HV.closeL, CV.denil, CV.denilL, HV.norm, HV.toC, HV.toCL, Pk.denil, k0, Ky.cv]


theorem rrevoked_ok (r : Rt) (d : Dig) (hl : r.x.length < 2 ^ 40) : HPure2 Tryz.prog 50 [r.cv, dg d] (fun u v => u = .int .i64 (revZ r.x d) ∧ v = .bool (revS r.x d)) := by
 refine hfn_walk Tryz.func50 rfl (by kernel_rfl) (locOk_nil _) (Nat.le_of_ble_eq_true rfl) ?_
 refine hw_seq fun K hK => hw_region (by kernel_rfl) ?_
 simp only [sR, simprocAttr]
 iterate 4
  (refine hlex_step (g := none) rfl rfl fun K' hK' => ?_; simp only [sH, ↓sP, sA, tyS, simprocAttr]; (repeat refine AI ?_); refine hK' _ _ ?_; clear hK' K')
 simp only [sE, ↓reduceIte, simprocAttr]
 repeat refine AI ?_
 refine hK _ _ _ ?_
 clear hK K
 refine hw_seq fun K hK => ?_
 refine hw_seq fun K hK => hw_region (by kernel_rfl) ?_
 simp (maxSteps := 4000000) only [↓sP, sA, tyS, simprocAttr]
 repeat refine AI ?_
 refine hK _ _ _ ?_
 clear hK K
 refine hw_block ?_
 refine hw_loop (α := {i : Nat // i ≤ r.x.length ∧ ∀ x ∈ r.x.take i, (x.k == d) = false}) (fun i => (fin [(2, .ptr 0 0), (3, .ptr 4 0), (6, .c (.int .i64 i.1))], fob [(0, .box 26 (.c r.cv)), (4, .box 55 (.c (dg d)))])) 100 (fun i => r.x.length - i.1) ⟨0, by omega, by simp⟩ (fits_fin (by omega) (by simp [FinOk, fin_at, finA_at, upd_at, HV.men, HV.menL, HV.norm, HV.toC, HV.toCL]) (by simp [FobOk, fob_at, upd_at, none0_at, gone, HO.men, HV.men, HV.menL, HV.norm, HV.toC, HV.toCL])) ?_
 rintro ⟨i, hi, h0⟩
 refine hw_seq fun K hK => ?_
 refine hw_seq fun K hK => hw_region (by kernel_rfl) ?_
 simp only [sR, simprocAttr]
 iterate 5
  (refine hlex_step (g := none) rfl rfl fun K' hK' => ?_; simp only [sH, ↓sP, sA, tyS, simprocAttr]; (repeat refine AI ?_); refine hK' _ _ ?_; clear hK' K')
 simp only [sE, ↓reduceIte, simprocAttr]
 repeat refine AI ?_
 refine hK _ _ _ ?_
 clear hK K
 refine hw_cond (b := decide ((i : Int) < r.x.length)) rfl (fun hb => ?_) (fun hb => ?_)
 ·
  have hlt : i < r.x.length := by simpa using hb
  refine hw_skip ?_
  simp (maxSteps := 4000000) only [↓sP, sA, tyS, simprocAttr]
  repeat refine AI ?_
  refine hK _ _ _ ?_
  clear hK K
  refine hw_seq fun K hK => ?_
  refine hw_block ?_
  refine hw_seq fun K hK => hw_quiet mixed (by kernel_rfl) (by kernel_rfl) (by kernel_rfl) ?_
  simp only [sR, simprocAttr]
  iterate 8
   (refine hlex_step (g := none) rfl rfl fun K' hK' => ?_; simp only [sH, ↓sP, sA, tyS, simprocAttr, Int.natCast_nonneg, Int.ofNat_lt, hlt, nth_map hlt]; (repeat refine AI ?_); refine hK' _ _ ?_; clear hK' K')
  simp only [sE, ↓reduceIte, simprocAttr]
  repeat refine AI ?_
  refine hK _ _ _ ?_
  clear hK K
  refine hw_cond (b := r.x[i].k == d) rfl (fun hb => ?_) (fun hb => ?_)
  ·
   refine hw_seq fun K hK => hw_region (by kernel_rfl) ?_
   simp only [sR, simprocAttr]
   iterate 8
    (refine hlex_step (g := none) rfl rfl fun K' hK' => ?_; simp only [sH, ↓sP, sA, tyS, simprocAttr, Int.natCast_nonneg, Int.ofNat_lt, hlt, nth_map hlt]; (repeat refine AI ?_); refine hK' _ _ ?_; clear hK' K')
   simp only [sE, ↓reduceIte, simprocAttr]
   repeat refine AI ?_
   refine hK _ _ _ ?_
   clear hK K
   refine hw_ret ?_
   simp (maxSteps := 4000000) only [hpost, Tryz.results50, hresL, hres1, tupOf, ↓sP, sA, tyS, simprocAttr]
   exact hret_pure2 [] (.int .i64 r.x[i].t) (.bool true) rfl ⟨by unfold revZ; rw [rev_hit hlt hb h0]; rfl, by unfold revS; rw [rev_hit hlt hb h0]; rfl⟩
  ·
   refine hw_skip ?_
   simp (maxSteps := 4000000) only [↓sP, sA, tyS, simprocAttr]
   repeat refine AI ?_
   refine hK _ _ _ ?_
   clear hK K
   refine hw_region (by kernel_rfl) ?_
   simp (maxSteps := 4000000) only [↓sP, sA, tyS, simprocAttr, IntWalk.i64_in _ (show -9223372036854775808 ≤ (i : Int) + 1 ∧ (i : Int) + 1 ≤ 9223372036854775807 by omega)]
   refine ⟨⟨i + 1, hlt, take_miss (p := fun x => x.k == d) hlt hb h0⟩, fits_fin (by omega) (by simp [FinOk, fin_at, finA_at, upd_at, HV.men, HV.menL, HV.norm, HV.toC, HV.toCL]) (by simp [FobOk, fob_at, upd_at, none0_at, gone, HO.men, HV.men, HV.menL, HV.norm, HV.toC, HV.toCL]), ?_⟩
   show r.x.length - (i + 1) < r.x.length - i
   omega
 ·
  refine hw_exit ?_
  simp (maxSteps := 4000000) only [↓sP, sA, tyS, simprocAttr]
  clear hK K
  repeat refine AI ?_
  refine hK _ _ _ ?_
  clear hK K
  refine hw_seq fun K hK => hw_region (by kernel_rfl) ?_
  simp (maxSteps := 4000000) only [↓sP, sA, tyS, simprocAttr]
  repeat refine AI ?_
  refine hK _ _ _ ?_
  clear hK K
  refine hw_ret ?_
  simp (maxSteps := 4000000) only [hpost, Tryz.results50, hresL, hres1, tupOf, ↓sP, sA, tyS, simprocAttr]
  have hei : i = r.x.length := by simp at hb; omega
  subst hei
  have hm := rev_miss (l := r.x) (d := d) (by simpa using h0)
  exact hret_pure2 [] (.int .i64 0) (.bool false) rfl ⟨by unfold revZ; rw [hm]; rfl, by unfold revS; rw [hm]; rfl⟩


theorem rlive_ok (r : Rt) (d : Dig) (t : Int) (hr : rSz r) : HPure Tryz.prog 39 [r.cv, dg d, .int .i64 t] (fun v => v = .bool (rlive r d t)) := by
 refine hfn_walk Tryz.func39 rfl (by kernel_rfl) (locOk_nil _) (Nat.le_of_ble_eq_true rfl) ?_
 refine hw_seq fun K hK => hw_region (by kernel_rfl) ?_
 simp (maxSteps := 4000000) only [↓sP, sA, tyS, simprocAttr]
 repeat refine AI ?_
 refine hK _ _ _ ?_
 clear hK K
 refine hw_seq fun K hK => hw_region (by kernel_rfl) ?_
 simp only [sR, simprocAttr]
 iterate 2
  (refine hlex_step (g := none) rfl rfl fun K' hK' => ?_; simp only [sH, ↓sP, sA, tyS, simprocAttr]; (repeat refine AI ?_); refine hK' _ _ ?_; clear hK' K')
 refine hlex_step (g := none) rfl rfl fun K' hK' => ?_
 simp (maxSteps := 4000000) only [sH, ↓sP, sA, tyS, simprocAttr]
 refine call_pure2 (args := [_, _]) (rfind_ok r d hr) ⟨rfl, rfl, rfl, rfl⟩ ?_
 rintro u v ⟨rfl, rfl⟩
 repeat refine AI ?_
 refine hK' _ _ ?_
 clear hK' K'
 iterate 6
  (refine hlex_step (g := none) rfl rfl fun K' hK' => ?_; simp only [sH, ↓sP, sA, tyS, simprocAttr]; (repeat refine AI ?_); refine hK' _ _ ?_; clear hK' K')
 simp only [sE, ↓reduceIte, simprocAttr]
 repeat refine AI ?_
 refine hK _ _ _ ?_
 clear hK K
 refine hw_seq fun K hK => hw_region (by kernel_rfl) ?_
 simp only [sR, simprocAttr]
 iterate 2
  (refine hlex_step (g := none) rfl rfl fun K' hK' => ?_; simp only [sH, ↓sP, sA, tyS, simprocAttr]; (repeat refine AI ?_); refine hK' _ _ ?_; clear hK' K')
 refine hlex_step (g := none) rfl rfl fun K' hK' => ?_
 simp (maxSteps := 4000000) only [sH, ↓sP, sA, tyS, simprocAttr]
 refine call_pure2 (args := [_, _]) (rrevoked_ok r d hr.2.2) ⟨rfl, rfl, rfl, rfl⟩ ?_
 rintro u v ⟨rfl, rfl⟩
 repeat refine AI ?_
 refine hK' _ _ ?_
 clear hK' K'
 iterate 5
  (refine hlex_step (g := none) rfl rfl fun K' hK' => ?_; simp only [sH, ↓sP, sA, tyS, simprocAttr]; (repeat refine AI ?_); refine hK' _ _ ?_; clear hK' K')
 simp only [sE, ↓reduceIte, simprocAttr]
 repeat refine AI ?_
 refine hK _ _ _ ?_
 clear hK K
 refine hw_seq fun K hK => hw_region (by kernel_rfl) ?_
 simp only [sR, simprocAttr]
 iterate 2
  (refine hlex_step (g := none) rfl rfl fun K' hK' => ?_; simp only [sH, ↓sP, sA, tyS, simprocAttr]; (repeat refine AI ?_); refine hK' _ _ ?_; clear hK' K')
 refine hlex_cases 23 rfl (fun h3_23 => ?_) (fun h3_23 => ?_)
 ·
  iterate 4
   (refine hlex_step (g := some (24, true)) rfl rfl fun K' hK' => ?_; simp only [sH, ↓sP, sA, tyS, simprocAttr, h3_23]; (repeat refine AI ?_); refine hK' _ _ ?_; clear hK' K')
  iterate 2
   (refine hlex_step (g := none) rfl rfl fun K' hK' => ?_; simp only [sH, ↓sP, sA, tyS, simprocAttr, h3_23]; (repeat refine AI ?_); refine hK' _ _ ?_; clear hK' K')
  refine hlex_cases 28 rfl (fun h3_28 => ?_) (fun h3_28 => ?_)
  ·
   iterate 4
    (refine hlex_step (g := some (30, true)) rfl rfl fun K' hK' => ?_; simp only [sH, ↓sP, sA, tyS, simprocAttr, h3_23, h3_28]; (repeat refine AI ?_); refine hK' _ _ ?_; clear hK' K')
   iterate 2
    (refine hlex_step (g := none) rfl rfl fun K' hK' => ?_; simp only [sH, ↓sP, sA, tyS, simprocAttr, h3_23, h3_28]; (repeat refine AI ?_); refine hK' _ _ ?_; clear hK' K')
   refine hlex_cases 34 rfl (fun h3_34 => ?_) (fun h3_34 => ?_)
   ·
    iterate 4
     (refine hlex_step (g := some (36, true)) rfl rfl fun K' hK' => ?_; simp only [sH, ↓sP, sA, tyS, simprocAttr, h3_23, h3_28, h3_34]; (repeat refine AI ?_); refine hK' _ _ ?_; clear hK' K')
    iterate 2
     (refine hlex_step (g := none) rfl rfl fun K' hK' => ?_; simp only [sH, ↓sP, sA, tyS, simprocAttr, h3_23, h3_28, h3_34]; (repeat refine AI ?_); refine hK' _ _ ?_; clear hK' K')
    refine hlex_cases 40 rfl (fun h3_40 => ?_) (fun h3_40 => ?_)
    ·
     iterate 2
      (refine hlex_step (g := some (42, true)) rfl rfl fun K' hK' => ?_; simp only [sH, ↓sP, sA, tyS, simprocAttr, h3_23, h3_28, h3_34, h3_40]; (repeat refine AI ?_); refine hK' _ _ ?_; clear hK' K')
     refine hlex_cases 43 rfl (fun h3_43 => ?_) (fun h3_43 => ?_)
     ·
      iterate 3
       (refine hlex_step (g := some (44, true)) rfl rfl fun K' hK' => ?_; simp only [sH, ↓sP, sA, tyS, simprocAttr, h3_23, h3_28, h3_34, h3_40, h3_43]; (repeat refine AI ?_); refine hK' _ _ ?_; clear hK' K')
      iterate 2
       (refine hlex_step (g := some (42, true)) rfl rfl fun K' hK' => ?_; simp only [sH, ↓sP, sA, tyS, simprocAttr, h3_23, h3_28, h3_34, h3_40, h3_43]; (repeat refine AI ?_); refine hK' _ _ ?_; clear hK' K')
      iterate 2
       (refine hlex_step (g := none) rfl rfl fun K' hK' => ?_; simp only [sH, ↓sP, sA, tyS, simprocAttr, h3_23, h3_28, h3_34, h3_40, h3_43]; (repeat refine AI ?_); refine hK' _ _ ?_; clear hK' K')
      refine hlex_cases 47 rfl (fun h3_47 => ?_) (fun h3_47 => ?_)
      ·
       simp only [h3_47]
       simp only [sE, ↓reduceIte, simprocAttr]
       repeat refine AI ?_
       refine hK _ _ _ ?_
       clear hK K
       refine hw_ret ?_
       simp (maxSteps := 4000000) only [hpost, Tryz.results39, hresL, hres1, tupOf, ↓sP, sA, tyS, simprocAttr]
       exact hret_pure [] (.bool false) rfl (by simp only [rlive_code, h3_23, h3_28, h3_34, h3_40, h3_43, h3_47, Bool.and_true, Bool.and_false, Bool.true_and, Bool.false_and, Bool.not_true, Bool.not_false])
      ·
       simp only [h3_47]
       simp only [sE, ↓reduceIte, simprocAttr]
       repeat refine AI ?_
       refine hK _ _ _ ?_
       clear hK K
       refine hw_ret ?_
       simp (maxSteps := 4000000) only [hpost, Tryz.results39, hresL, hres1, tupOf, ↓sP, sA, tyS, simprocAttr]
       exact hret_pure [] (.bool true) rfl (by simp only [rlive_code, h3_23, h3_28, h3_34, h3_40, h3_43, h3_47, Bool.and_true, Bool.and_false, Bool.true_and, Bool.false_and, Bool.not_true, Bool.not_false])
     ·
      iterate 3
       (refine hlex_step (g := some (44, true)) rfl rfl fun K' hK' => ?_; simp only [sH, ↓sP, sA, tyS, simprocAttr, h3_23, h3_28, h3_34, h3_40, h3_43]; (repeat refine AI ?_); refine hK' _ _ ?_; clear hK' K')
      iterate 2
       (refine hlex_step (g := some (42, true)) rfl rfl fun K' hK' => ?_; simp only [sH, ↓sP, sA, tyS, simprocAttr, h3_23, h3_28, h3_34, h3_40, h3_43]; (repeat refine AI ?_); refine hK' _ _ ?_; clear hK' K')
      iterate 2
       (refine hlex_step (g := none) rfl rfl fun K' hK' => ?_; simp only [sH, ↓sP, sA, tyS, simprocAttr, h3_23, h3_28, h3_34, h3_40, h3_43]; (repeat refine AI ?_); refine hK' _ _ ?_; clear hK' K')
      simp only [sE, ↓reduceIte, simprocAttr]
      repeat refine AI ?_
      refine hK _ _ _ ?_
      clear hK K
      refine hw_ret ?_
      simp (maxSteps := 4000000) only [hpost, Tryz.results39, hresL, hres1, tupOf, ↓sP, sA, tyS, simprocAttr]
      exact hret_pure [] (.bool true) rfl (by simp only [rlive_code, h3_23, h3_28, h3_34, h3_40, h3_43, Bool.and_true, Bool.and_false, Bool.true_and, Bool.false_and, Bool.not_true, Bool.not_false])
    ·
     iterate 2
      (refine hlex_step (g := some (42, true)) rfl rfl fun K' hK' => ?_; simp only [sH, ↓sP, sA, tyS, simprocAttr, h3_23, h3_28, h3_34, h3_40]; (repeat refine AI ?_); refine hK' _ _ ?_; clear hK' K')
     iterate 3
      (refine hlex_step (g := some (44, true)) rfl rfl fun K' hK' => ?_; simp only [sH, ↓sP, sA, tyS, simprocAttr, h3_23, h3_28, h3_34, h3_40]; (repeat refine AI ?_); refine hK' _ _ ?_; clear hK' K')
     iterate 2
      (refine hlex_step (g := some (42, true)) rfl rfl fun K' hK' => ?_; simp only [sH, ↓sP, sA, tyS, simprocAttr, h3_23, h3_28, h3_34, h3_40]; (repeat refine AI ?_); refine hK' _ _ ?_; clear hK' K')
     iterate 2
      (refine hlex_step (g := none) rfl rfl fun K' hK' => ?_; simp only [sH, ↓sP, sA, tyS, simprocAttr, h3_23, h3_28, h3_34, h3_40]; (repeat refine AI ?_); refine hK' _ _ ?_; clear hK' K')
     simp only [sE, ↓reduceIte, simprocAttr]
     repeat refine AI ?_
     refine hK _ _ _ ?_
     clear hK K
     refine hw_ret ?_
     simp (maxSteps := 4000000) only [hpost, Tryz.results39, hresL, hres1, tupOf, ↓sP, sA, tyS, simprocAttr]
     exact hret_pure [] (.bool false) rfl (by simp only [rlive_code, h3_23, h3_28, h3_34, h3_40, Bool.and_true, Bool.and_false, Bool.true_and, Bool.false_and, Bool.not_true, Bool.not_false])
   ·
    iterate 4
     (refine hlex_step (g := some (36, true)) rfl rfl fun K' hK' => ?_; simp only [sH, ↓sP, sA, tyS, simprocAttr, h3_23, h3_28, h3_34]; (repeat refine AI ?_); refine hK' _ _ ?_; clear hK' K')
    iterate 2
     (refine hlex_step (g := none) rfl rfl fun K' hK' => ?_; simp only [sH, ↓sP, sA, tyS, simprocAttr, h3_23, h3_28, h3_34]; (repeat refine AI ?_); refine hK' _ _ ?_; clear hK' K')
    iterate 2
     (refine hlex_step (g := some (42, true)) rfl rfl fun K' hK' => ?_; simp only [sH, ↓sP, sA, tyS, simprocAttr, h3_23, h3_28, h3_34]; (repeat refine AI ?_); refine hK' _ _ ?_; clear hK' K')
    iterate 3
     (refine hlex_step (g := some (44, true)) rfl rfl fun K' hK' => ?_; simp only [sH, ↓sP, sA, tyS, simprocAttr, h3_23, h3_28, h3_34]; (repeat refine AI ?_); refine hK' _ _ ?_; clear hK' K')
    iterate 2
     (refine hlex_step (g := some (42, true)) rfl rfl fun K' hK' => ?_; simp only [sH, ↓sP, sA, tyS, simprocAttr, h3_23, h3_28, h3_34]; (repeat refine AI ?_); refine hK' _ _ ?_; clear hK' K')
    iterate 2
     (refine hlex_step (g := none) rfl rfl fun K' hK' => ?_; simp only [sH, ↓sP, sA, tyS, simprocAttr, h3_23, h3_28, h3_34]; (repeat refine AI ?_); refine hK' _ _ ?_; clear hK' K')
    simp only [sE, ↓reduceIte, simprocAttr]
    repeat refine AI ?_
    refine hK _ _ _ ?_
    clear hK K
    refine hw_ret ?_
    simp (maxSteps := 4000000) only [hpost, Tryz.results39, hresL, hres1, tupOf, ↓sP, sA, tyS, simprocAttr]
    exact hret_pure [] (.bool false) rfl (by simp only [rlive_code, h3_23, h3_28, h3_34, Bool.and_true, Bool.and_false, Bool.true_and, Bool.false_and, Bool.not_true, Bool.not_false])
  ·
   iterate 4
    (refine hlex_step (g := some (30, true)) rfl rfl fun K' hK' => ?_; simp only [sH, ↓sP, sA, tyS, simprocAttr, h3_23, h3_28]; (repeat refine AI ?_); refine hK' _ _ ?_; clear hK' K')
   iterate 2
    (refine hlex_step (g := none) rfl rfl fun K' hK' => ?_; simp only [sH, ↓sP, sA, tyS, simprocAttr, h3_23, h3_28]; (repeat refine AI ?_); refine hK' _ _ ?_; clear hK' K')
   iterate 4
    (refine hlex_step (g := some (36, true)) rfl rfl fun K' hK' => ?_; simp only [sH, ↓sP, sA, tyS, simprocAttr, h3_23, h3_28]; (repeat refine AI ?_); refine hK' _ _ ?_; clear hK' K')
   iterate 2
    (refine hlex_step (g := none) rfl rfl fun K' hK' => ?_; simp only [sH, ↓sP, sA, tyS, simprocAttr, h3_23, h3_28]; (repeat refine AI ?_); refine hK' _ _ ?_; clear hK' K')
   iterate 2
    (refine hlex_step (g := some (42, true)) rfl rfl fun K' hK' => ?_; simp only [sH, ↓sP, sA, tyS, simprocAttr, h3_23, h3_28]; (repeat refine AI ?_); refine hK' _ _ ?_; clear hK' K')
   iterate 3
    (refine hlex_step (g := some (44, true)) rfl rfl fun K' hK' => ?_; simp only [sH, ↓sP, sA, tyS, simprocAttr, h3_23, h3_28]; (repeat refine AI ?_); refine hK' _ _ ?_; clear hK' K')
   iterate 2
    (refine hlex_step (g := some (42, true)) rfl rfl fun K' hK' => ?_; simp only [sH, ↓sP, sA, tyS, simprocAttr, h3_23, h3_28]; (repeat refine AI ?_); refine hK' _ _ ?_; clear hK' K')
   iterate 2
    (refine hlex_step (g := none) rfl rfl fun K' hK' => ?_; simp only [sH, ↓sP, sA, tyS, simprocAttr, h3_23, h3_28]; (repeat refine AI ?_); refine hK' _ _ ?_; clear hK' K')
   simp only [sE, ↓reduceIte, simprocAttr]
   repeat refine AI ?_
   refine hK _ _ _ ?_
   clear hK K
   refine hw_ret ?_
   simp (maxSteps := 4000000) only [hpost, Tryz.results39, hresL, hres1, tupOf, ↓sP, sA, tyS, simprocAttr]
   exact hret_pure [] (.bool false) rfl (by simp only [rlive_code, h3_23, h3_28, Bool.and_true, Bool.and_false, Bool.true_and, Bool.false_and, Bool.not_true, Bool.not_false])
 ·
  iterate 4
   (refine hlex_step (g := some (24, true)) rfl rfl fun K' hK' => ?_; simp only [sH, ↓sP, sA, tyS, simprocAttr, h3_23]; (repeat refine AI ?_); refine hK' _ _ ?_; clear hK' K')
  iterate 2
   (refine hlex_step (g := none) rfl rfl fun K' hK' => ?_; simp only [sH, ↓sP, sA, tyS, simprocAttr, h3_23]; (repeat refine AI ?_); refine hK' _ _ ?_; clear hK' K')
  iterate 4
   (refine hlex_step (g := some (30, true)) rfl rfl fun K' hK' => ?_; simp only [sH, ↓sP, sA, tyS, simprocAttr, h3_23]; (repeat refine AI ?_); refine hK' _ _ ?_; clear hK' K')
  iterate 2
   (refine hlex_step (g := none) rfl rfl fun K' hK' => ?_; simp only [sH, ↓sP, sA, tyS, simprocAttr, h3_23]; (repeat refine AI ?_); refine hK' _ _ ?_; clear hK' K')
  iterate 4
   (refine hlex_step (g := some (36, true)) rfl rfl fun K' hK' => ?_; simp only [sH, ↓sP, sA, tyS, simprocAttr, h3_23]; (repeat refine AI ?_); refine hK' _ _ ?_; clear hK' K')
  iterate 2
   (refine hlex_step (g := none) rfl rfl fun K' hK' => ?_; simp only [sH, ↓sP, sA, tyS, simprocAttr, h3_23]; (repeat refine AI ?_); refine hK' _ _ ?_; clear hK' K')
  iterate 2
   (refine hlex_step (g := some (42, true)) rfl rfl fun K' hK' => ?_; simp only [sH, ↓sP, sA, tyS, simprocAttr, h3_23]; (repeat refine AI ?_); refine hK' _ _ ?_; clear hK' K')
  iterate 3
   (refine hlex_step (g := some (44, true)) rfl rfl fun K' hK' => ?_; simp only [sH, ↓sP, sA, tyS, simprocAttr, h3_23]; (repeat refine AI ?_); refine hK' _ _ ?_; clear hK' K')
  iterate 2
   (refine hlex_step (g := some (42, true)) rfl rfl fun K' hK' => ?_; simp only [sH, ↓sP, sA, tyS, simprocAttr, h3_23]; (repeat refine AI ?_); refine hK' _ _ ?_; clear hK' K')
  iterate 2
   (refine hlex_step (g := none) rfl rfl fun K' hK' => ?_; simp only [sH, ↓sP, sA, tyS, simprocAttr, h3_23]; (repeat refine AI ?_); refine hK' _ _ ?_; clear hK' K')
  simp only [sE, ↓reduceIte, simprocAttr]
  repeat refine AI ?_
  refine hK _ _ _ ?_
  clear hK K
  refine hw_ret ?_
  simp (maxSteps := 4000000) only [hpost, Tryz.results39, hresL, hres1, tupOf, ↓sP, sA, tyS, simprocAttr]
  exact hret_pure [] (.bool false) rfl (by simp only [rlive_code, h3_23, Bool.and_true, Bool.and_false, Bool.true_and, Bool.false_and, Bool.not_true, Bool.not_false])


theorem rcounts_ok (r : Rt) (d : Dig) (t : Int) (hr : rSz r) : HPure Tryz.prog 21 [r.cv, dg d, .int .i64 t] (fun v => v = .bool (countsR r d t)) := by
 refine hfn_walk Tryz.func21 rfl (by kernel_rfl) (locOk_nil _) (Nat.le_of_ble_eq_true rfl) ?_
 refine hw_seq fun K hK => hw_region (by kernel_rfl) ?_
 simp (maxSteps := 4000000) only [↓sP, sA, tyS, simprocAttr]
 repeat refine AI ?_
 refine hK _ _ _ ?_
 clear hK K
 refine hw_seq fun K hK => hw_region (by kernel_rfl) ?_
 simp only [sR, simprocAttr]
 refine hlex_step (g := none) rfl rfl fun K' hK' => ?_
 simp (maxSteps := 4000000) only [sH, ↓sP, sA, tyS, simprocAttr]
 repeat refine AI ?_
 refine hK' _ _ ?_
 clear hK' K'
 refine hlex_step (g := none) rfl rfl fun K' hK' => ?_
 simp (maxSteps := 4000000) only [sH, ↓sP, sA, tyS, simprocAttr]
 refine call_pure (args := [_]) (rvalid_ok r hr) ⟨rfl, rfl, rfl, rfl⟩ ?_
 rintro u rfl
 repeat refine AI ?_
 refine hK' _ _ ?_
 clear hK' K'
 refine hlex_step (g := none) rfl rfl fun K' hK' => ?_
 simp (maxSteps := 4000000) only [sH, ↓sP, sA, tyS, simprocAttr]
 repeat refine AI ?_
 refine hK' _ _ ?_
 clear hK' K'
 refine hlex_cases 8 rfl (fun h1_8 => ?_) (fun h1_8 => ?_)
 ·
  iterate 3
   (refine hlex_step (g := some (9, true)) rfl rfl fun K' hK' => ?_; simp only [sH, ↓sP, sA, tyS, simprocAttr, h1_8]; (repeat refine AI ?_); refine hK' _ _ ?_; clear hK' K')
  refine hlex_step (g := some (9, true)) rfl rfl fun K' hK' => ?_
  simp (maxSteps := 4000000) only [sH, ↓sP, sA, tyS, simprocAttr, h1_8]
  refine call_pure (args := [_, _, _]) (rlive_ok r d t hr) ⟨rfl, rfl, rfl, rfl⟩ ?_
  rintro u rfl
  repeat refine AI ?_
  refine hK' _ _ ?_
  clear hK' K'
  iterate 2
   (refine hlex_step (g := none) rfl rfl fun K' hK' => ?_; simp only [sH, ↓sP, sA, tyS, simprocAttr, h1_8]; (repeat refine AI ?_); refine hK' _ _ ?_; clear hK' K')
  refine hlex_cases 13 rfl (fun h1_13 => ?_) (fun h1_13 => ?_)
  ·
   simp only [h1_13]
   simp only [sE, ↓reduceIte, simprocAttr]
   repeat refine AI ?_
   refine hK _ _ _ ?_
   clear hK K
   refine hw_ret ?_
   simp (maxSteps := 4000000) only [hpost, Tryz.results21, hresL, hres1, tupOf, ↓sP, sA, tyS, simprocAttr]
   exact hret_pure [] (.bool true) rfl (by simp only [countsR, h1_8, h1_13, Bool.and_true, Bool.and_false, Bool.true_and, Bool.false_and])
  ·
   simp only [h1_13]
   simp only [sE, ↓reduceIte, simprocAttr]
   repeat refine AI ?_
   refine hK _ _ _ ?_
   clear hK K
   refine hw_ret ?_
   simp (maxSteps := 4000000) only [hpost, Tryz.results21, hresL, hres1, tupOf, ↓sP, sA, tyS, simprocAttr]
   exact hret_pure [] (.bool false) rfl (by simp only [countsR, h1_8, h1_13, Bool.and_true, Bool.and_false, Bool.true_and, Bool.false_and])
 ·
  iterate 4
   (refine hlex_step (g := some (9, true)) rfl rfl fun K' hK' => ?_; simp only [sH, ↓sP, sA, tyS, simprocAttr, h1_8]; (repeat refine AI ?_); refine hK' _ _ ?_; clear hK' K')
  iterate 2
   (refine hlex_step (g := none) rfl rfl fun K' hK' => ?_; simp only [sH, ↓sP, sA, tyS, simprocAttr, h1_8]; (repeat refine AI ?_); refine hK' _ _ ?_; clear hK' K')
  simp only [sE, ↓reduceIte, simprocAttr]
  repeat refine AI ?_
  refine hK _ _ _ ?_
  clear hK K
  refine hw_ret ?_
  simp (maxSteps := 4000000) only [hpost, Tryz.results21, hresL, hres1, tupOf, ↓sP, sA, tyS, simprocAttr]
  exact hret_pure [] (.bool false) rfl (by simp only [countsR, h1_8, Bool.and_true, Bool.and_false, Bool.true_and, Bool.false_and])


theorem counts_ok (r : Rt) (d : Dig) (t : Int) (hr : rSz r) : HPure Tryz.prog 20 [r.cv, dg d, .int .i64 t] (fun v => v = .bool (countsR r d t)) := by
 refine hfn_walk Tryz.func20 rfl (by kernel_rfl) (locOk_nil _) (Nat.le_of_ble_eq_true rfl) ?_
 refine hw_seq fun K hK => hw_region (by kernel_rfl) ?_
 simp (maxSteps := 4000000) only [↓sP, sA, tyS, simprocAttr]
 repeat refine AI ?_
 refine hK _ _ _ ?_
 clear hK K
 refine hw_seq fun K hK => hw_region (by kernel_rfl) ?_
 simp only [sR, simprocAttr]
 iterate 2
  (refine hlex_step (g := none) rfl rfl fun K' hK' => ?_; simp only [sH, ↓sP, sA, tyS, simprocAttr]; (repeat refine AI ?_); refine hK' _ _ ?_; clear hK' K')
 refine hlex_step (g := none) rfl rfl fun K' hK' => ?_
 simp (maxSteps := 4000000) only [sH, ↓sP, sA, tyS, simprocAttr]
 refine call_pure2 (args := [_, _]) (find_ok r d hr) ⟨rfl, rfl, rfl, rfl⟩ ?_
 rintro u v ⟨rfl, rfl⟩
 repeat refine AI ?_
 refine hK' _ _ ?_
 clear hK' K'
 iterate 6
  (refine hlex_step (g := none) rfl rfl fun K' hK' => ?_; simp only [sH, ↓sP, sA, tyS, simprocAttr]; (repeat refine AI ?_); refine hK' _ _ ?_; clear hK' K')
 simp only [sE, ↓reduceIte, simprocAttr]
 repeat refine AI ?_
 refine hK _ _ _ ?_
 clear hK K
 refine hw_seq fun K hK => hw_region (by kernel_rfl) ?_
 simp only [sR, simprocAttr]
 iterate 2
  (refine hlex_step (g := none) rfl rfl fun K' hK' => ?_; simp only [sH, ↓sP, sA, tyS, simprocAttr]; (repeat refine AI ?_); refine hK' _ _ ?_; clear hK' K')
 refine hlex_cases 15 rfl (fun h2_15 => ?_) (fun h2_15 => ?_)
 ·
  refine hlex_step (g := some (16, true)) rfl rfl fun K' hK' => ?_
  simp (maxSteps := 4000000) only [sH, ↓sP, sA, tyS, simprocAttr, h2_15]
  repeat refine AI ?_
  refine hK' _ _ ?_
  clear hK' K'
  refine hlex_step (g := some (16, true)) rfl rfl fun K' hK' => ?_
  simp (maxSteps := 4000000) only [sH, ↓sP, sA, tyS, simprocAttr, h2_15]
  refine call_pure (args := [_]) (valid_ok r hr) ⟨rfl, rfl, rfl, rfl⟩ ?_
  rintro u rfl
  repeat refine AI ?_
  refine hK' _ _ ?_
  clear hK' K'
  iterate 2
   (refine hlex_step (g := none) rfl rfl fun K' hK' => ?_; simp only [sH, ↓sP, sA, tyS, simprocAttr, h2_15]; (repeat refine AI ?_); refine hK' _ _ ?_; clear hK' K')
  refine hlex_cases 18 rfl (fun h2_18 => ?_) (fun h2_18 => ?_)
  ·
   iterate 3
    (refine hlex_step (g := some (20, true)) rfl rfl fun K' hK' => ?_; simp only [sH, ↓sP, sA, tyS, simprocAttr, h2_15, h2_18]; (repeat refine AI ?_); refine hK' _ _ ?_; clear hK' K')
   refine hlex_step (g := some (20, true)) rfl rfl fun K' hK' => ?_
   simp (maxSteps := 4000000) only [sH, ↓sP, sA, tyS, simprocAttr, h2_15, h2_18]
   refine call_pure (args := [_, _, _]) (live_ok r ((findK r.k d).getD k0) t hr) ⟨rfl, rfl, rfl, rfl⟩ ?_
   rintro u rfl
   repeat refine AI ?_
   refine hK' _ _ ?_
   clear hK' K'
   iterate 2
    (refine hlex_step (g := none) rfl rfl fun K' hK' => ?_; simp only [sH, ↓sP, sA, tyS, simprocAttr, h2_15, h2_18]; (repeat refine AI ?_); refine hK' _ _ ?_; clear hK' K')
   refine hlex_cases 24 rfl (fun h2_24 => ?_) (fun h2_24 => ?_)
   ·
    simp only [h2_24]
    simp only [sE, ↓reduceIte, simprocAttr]
    repeat refine AI ?_
    refine hK _ _ _ ?_
    clear hK K
    refine hw_ret ?_
    simp (maxSteps := 4000000) only [hpost, Tryz.results20, hresL, hres1, tupOf, ↓sP, sA, tyS, simprocAttr]
    exact hret_pure [] (.bool true) rfl (by simp only [counts_code, fK, h2_15, h2_18, h2_24, Bool.and_true, Bool.and_false, Bool.true_and, Bool.false_and])
   ·
    simp only [h2_24]
    simp only [sE, ↓reduceIte, simprocAttr]
    repeat refine AI ?_
    refine hK _ _ _ ?_
    clear hK K
    refine hw_ret ?_
    simp (maxSteps := 4000000) only [hpost, Tryz.results20, hresL, hres1, tupOf, ↓sP, sA, tyS, simprocAttr]
    exact hret_pure [] (.bool false) rfl (by simp only [counts_code, fK, h2_15, h2_18, h2_24, Bool.and_true, Bool.and_false, Bool.true_and, Bool.false_and])
  ·
   iterate 4
    (refine hlex_step (g := some (20, true)) rfl rfl fun K' hK' => ?_; simp only [sH, ↓sP, sA, tyS, simprocAttr, h2_15, h2_18]; (repeat refine AI ?_); refine hK' _ _ ?_; clear hK' K')
   iterate 2
    (refine hlex_step (g := none) rfl rfl fun K' hK' => ?_; simp only [sH, ↓sP, sA, tyS, simprocAttr, h2_15, h2_18]; (repeat refine AI ?_); refine hK' _ _ ?_; clear hK' K')
   simp only [sE, ↓reduceIte, simprocAttr]
   repeat refine AI ?_
   refine hK _ _ _ ?_
   clear hK K
   refine hw_ret ?_
   simp (maxSteps := 4000000) only [hpost, Tryz.results20, hresL, hres1, tupOf, ↓sP, sA, tyS, simprocAttr]
   exact hret_pure [] (.bool false) rfl (by simp only [counts_code, fK, h2_15, h2_18, Bool.and_true, Bool.and_false, Bool.true_and, Bool.false_and])
 ·
  iterate 2
   (refine hlex_step (g := some (16, true)) rfl rfl fun K' hK' => ?_; simp only [sH, ↓sP, sA, tyS, simprocAttr, h2_15]; (repeat refine AI ?_); refine hK' _ _ ?_; clear hK' K')
  iterate 2
   (refine hlex_step (g := none) rfl rfl fun K' hK' => ?_; simp only [sH, ↓sP, sA, tyS, simprocAttr, h2_15]; (repeat refine AI ?_); refine hK' _ _ ?_; clear hK' K')
  iterate 4
   (refine hlex_step (g := some (20, true)) rfl rfl fun K' hK' => ?_; simp only [sH, ↓sP, sA, tyS, simprocAttr, h2_15]; (repeat refine AI ?_); refine hK' _ _ ?_; clear hK' K')
  iterate 2
   (refine hlex_step (g := none) rfl rfl fun K' hK' => ?_; simp only [sH, ↓sP, sA, tyS, simprocAttr, h2_15]; (repeat refine AI ?_); refine hK' _ _ ?_; clear hK' K')
  simp only [sE, ↓reduceIte, simprocAttr]
  repeat refine AI ?_
  refine hK _ _ _ ?_
  clear hK K
  refine hw_ret ?_
  simp (maxSteps := 4000000) only [hpost, Tryz.results20, hresL, hres1, tupOf, ↓sP, sA, tyS, simprocAttr]
  exact hret_pure [] (.bool false) rfl (by simp only [counts_code, fK, h2_15, Bool.and_true, Bool.and_false, Bool.true_and, Bool.false_and])


theorem rvouched_ok (r : Rt) (role : Word) (l : List Dig) (t : Int) (hr : rSz r) (hl : l.length < 2 ^ 40) : HPure Tryz.prog 12 [r.cv, .str role, .slc (l.map dg), .int .i64 t] (fun v => v = .slc ((vouched r role l t).map .str)) := by
 refine hfn_walk Tryz.func12 rfl (by kernel_rfl) (locOk_nil _) (Nat.le_of_ble_eq_true rfl) ?_
 refine hw_seq fun K hK => hw_region (by kernel_rfl) ?_
 simp (maxSteps := 4000000) only [↓sP, sA, tyS, simprocAttr]
 repeat refine AI ?_
 refine hK _ _ _ ?_
 clear hK K
 refine hw_seq fun K hK => ?_
 refine hw_seq fun K hK => hw_region (by kernel_rfl) ?_
 simp only [sR, simprocAttr]
 refine hlex_step (g := none) rfl rfl fun K' hK' => ?_
 simp (maxSteps := 4000000) only [sH, ↓sP, sA, tyS, simprocAttr]
 repeat refine AI ?_
 refine hK' _ _ ?_
 clear hK' K'
 refine hlex_step (g := none) rfl rfl fun K' hK' => ?_
 simp (maxSteps := 4000000) only [sH, ↓sP, sA, tyS, simprocAttr]
 refine call_pure (args := [_]) (rvalid_ok r hr) ⟨rfl, rfl, rfl, rfl⟩ ?_
 rintro u rfl
 repeat refine AI ?_
 refine hK' _ _ ?_
 clear hK' K'
 refine hlex_step (g := none) rfl rfl fun K' hK' => ?_
 simp (maxSteps := 4000000) only [sH, ↓sP, sA, tyS, simprocAttr]
 repeat refine AI ?_
 refine hK' _ _ ?_
 clear hK' K'
 simp only [sE, ↓reduceIte, simprocAttr]
 repeat refine AI ?_
 refine hK _ _ _ ?_
 clear hK K
 refine hw_cond (b := !validR r) rfl (fun hb => ?_) (fun hb => ?_)
 ·
  refine hw_seq fun K hK => hw_region (by kernel_rfl) ?_
  simp (maxSteps := 4000000) only [↓sP, sA, tyS, simprocAttr]
  repeat refine AI ?_
  refine hK _ _ _ ?_
  clear hK K
  refine hw_ret ?_
  simp (maxSteps := 4000000) only [hpost, Tryz.results12, hresL, hres1, tupOf, ↓sP, sA, tyS, simprocAttr]
  exact hret_pure [] (.slc []) rfl (by unfold vouched; rw [if_neg (by simpa using hb)]; rfl)
 ·
  refine hw_skip ?_
  simp (maxSteps := 4000000) only [↓sP, sA, tyS, simprocAttr]
  repeat refine AI ?_
  refine hK _ _ _ ?_
  clear hK K
  refine hw_seq fun K hK => hw_region (by kernel_rfl) ?_
  simp (maxSteps := 4000000) only [↓sP, sA, tyS, simprocAttr]
  repeat refine AI ?_
  refine hK _ _ _ ?_
  clear hK K
  refine hw_seq fun K hK => ?_
  refine hw_seq fun K hK => hw_region (by kernel_rfl) ?_
  simp (maxSteps := 4000000) only [↓sP, sA, tyS, simprocAttr]
  repeat refine AI ?_
  refine hK _ _ _ ?_
  clear hK K
  refine hw_block ?_
  have hv : validR r = true := by simpa using hb
  clear hb
  refine hw_close [] ?_
  refine hw_loop (α := {i : Nat // i ≤ l.length}) (fun i => (fin [(1, .c (.str role)), (2, .c (.slc (l.map dg))), (3, .c (.int .i64 t)), (4, .ptr 0 0), (9, .c (.slc ((rvL r role t (l.take i.1)).map .str))), (10, .c (.int .i64 i.1))], fob [(0, .box 26 (.c r.cv))])) 100 (fun i => l.length - i.1) ⟨0, by omega⟩ (fits_fin (by omega) (by simp [FinOk, clF_at, fin_at, finA_at, upd_at, fob_at, HV.close, CV.denil, denilL_str, denilL_dg, HV.men, HV.menL, HV.norm, HV.toC, HV.toCL, rvL]) (by simp [FobOk, clO_at, fob_at, upd_at, none0_at, gone, HO.close, HV.close, HO.men, HV.men, HV.menL, HV.norm, HV.toC, HV.toCL, Rt.denil])) ?_
  rintro ⟨i, hi⟩
  have hrl := rvL_len r role t (l.take i)
  have hti : (l.take i).length = i := by simp; omega
  refine hw_seq fun K hK => ?_
  refine hw_seq fun K hK => hw_region (by kernel_rfl) ?_
  simp only [sR, simprocAttr]
  iterate 4
   (refine hlex_step (g := none) rfl rfl fun K' hK' => ?_; simp only [sH, ↓sP, sA, tyS, simprocAttr]; (repeat refine AI ?_); refine hK' _ _ ?_; clear hK' K')
  simp only [sE, ↓reduceIte, simprocAttr]
  repeat refine AI ?_
  refine hK _ _ _ ?_
  clear hK K
  refine hw_cond (b := decide ((i : Int) < l.length)) rfl (fun hb => ?_) (fun hb => ?_)
  ·
   have hlt : i < l.length := by simpa using hb
   refine hw_skip ?_
   simp (maxSteps := 4000000) only [↓sP, sA, tyS, simprocAttr]
   repeat refine AI ?_
   refine hK _ _ _ ?_
   clear hK K
   refine hw_seq fun K hK => ?_
   have key : ∀ (m : List Word) fr ob nx, m = rvL r role t (l.take (i + 1)) → Fits 0 fr ob (fin [(1, .c (.str role)), (2, .c (.slc (l.map dg))), (3, .c (.int .i64 t)), (4, .ptr 0 0), (9, .c (.slc (m.map .str))), (10, .c (.int .i64 i))]) (fob [(0, .box 26 (.c r.cv))]) 500 → K fr ob nx := by
    rintro m fr ob nx rfl hf
    refine hK _ _ _ (hw_fits hf ?_)
    clear hf hK K
    refine hw_region (by kernel_rfl) ?_
    simp (maxSteps := 4000000) only [↓sP, sA, tyS, simprocAttr, IntWalk.i64_in _ (show -9223372036854775808 ≤ (i : Int) + 1 ∧ (i : Int) + 1 ≤ 9223372036854775807 by omega)]
    refine ⟨⟨i + 1, hlt⟩, fits_fin (by omega) (by simp [FinOk, fin_at, finA_at, upd_at, HV.men, HV.menL, HV.norm, HV.toC, HV.toCL]) (by simp [FobOk, fob_at, upd_at, none0_at, gone, HO.men, HV.men, HV.menL, HV.norm, HV.toC, HV.toCL]), ?_⟩
    show l.length - (i + 1) < l.length - i
    omega
   refine hw_block ?_
   refine hw_seq fun K hK => hw_draw2 mixed [(0, [], []), (1, [], []), (2, [], []), (3, [], []), (4, [], []), (9, [], []), (5, [9], [9]), (6, [9], []), (7, [9], []), (8, [9], []), (10, [], [8]), (11, [], [])] [0, 0, 0, 6, 14, 31, 63, 127, 127, 0, 767, 2047] (by kernel_rfl) (by kernel_rfl) (by kernel_rfl) (by kernel_rfl) rfl (by kernel_rfl) ?_
   iterate 6
    (refine hwalk2_step (g := none) rfl rfl fun K' hK' => ?_; simp only [sH, ↓sP, sA, tyS, simprocAttr, Int.natCast_nonneg, Int.ofNat_lt, hlt, nth_map hlt]; (repeat refine AI ?_); refine hK' _ _ ?_; clear hK' K')
   refine hwalk2_step (g := none) rfl rfl fun K' hK' => ?_
   simp (maxSteps := 4000000) only [sH, ↓sP, sA, tyS, simprocAttr, Int.natCast_nonneg, Int.ofNat_lt, hlt, nth_map hlt]
   refine call_pure2 (args := [_, _]) (rfind_ok r l[i] hr) ⟨rfl, rfl, rfl, rfl⟩ ?_
   rintro u v ⟨rfl, rfl⟩
   repeat refine AI ?_
   refine hK' _ _ ?_
   clear hK' K'
   iterate 5
    (refine hwalk2_step (g := none) rfl rfl fun K' hK' => ?_; simp only [sH, ↓sP, sA, tyS, simprocAttr, Int.natCast_nonneg, Int.ofNat_lt, hlt, nth_map hlt]; (repeat refine AI ?_); refine hK' _ _ ?_; clear hK' K')
   simp only [sE, ↓reduceIte, simprocAttr]
   repeat refine AI ?_
   refine hK _ _ _ ?_
   clear hK K
   refine hw_seq fun K hK => hw_draw2 mixed [(0, [], []), (1, [], []), (2, [], []), (3, [], []), (4, [], []), (5, [], []), (6, [], []), (7, [], []), (8, [], []), (9, [], []), (10, [], []), (11, [], []), (12, [], [])] [0, 1, 0, 7, 15, 31, 31, 31, 223, 479, 31, 2047, 4095] (by kernel_rfl) (by kernel_rfl) (by kernel_rfl) (by kernel_rfl) rfl (by kernel_rfl) ?_
   iterate 3
    (refine hwalk2_step (g := none) rfl rfl fun K' hK' => ?_; simp only [sH, ↓sP, sA, tyS, simprocAttr, Int.natCast_nonneg, Int.ofNat_lt, hlt, nth_map hlt]; (repeat refine AI ?_); refine hK' _ _ ?_; clear hK' K')
   refine hwalk2_step (g := none) rfl rfl fun K' hK' => ?_
   simp (maxSteps := 4000000) only [sH, ↓sP, sA, tyS, simprocAttr, Int.natCast_nonneg, Int.ofNat_lt, hlt, nth_map hlt]
   refine call_pure (args := [_, _]) (has_ok ((findK r.k l[i]).getD k0).rs role (by have := fK_sz hr l[i]; omega)) ⟨rfl, rfl, rfl, rfl⟩ ?_
   rintro u rfl
   repeat refine AI ?_
   refine hK' _ _ ?_
   clear hK' K'
   refine hwalk2_step (g := none) rfl rfl fun K' hK' => ?_
   simp (maxSteps := 4000000) only [sH, ↓sP, sA, tyS, simprocAttr, Int.natCast_nonneg, Int.ofNat_lt, hlt, nth_map hlt]
   repeat refine AI ?_
   refine hK' _ _ ?_
   clear hK' K'
   refine hwalk2_cases 34 rfl (fun h8_34 => ?_) (fun h8_34 => ?_)
   ·
    iterate 6
     (refine hwalk2_step (g := some (35, true)) rfl rfl fun K' hK' => ?_; simp only [sH, ↓sP, sA, tyS, simprocAttr, Int.natCast_nonneg, Int.ofNat_lt, hlt, nth_map hlt, h8_34]; (repeat refine AI ?_); refine hK' _ _ ?_; clear hK' K')
    refine hwalk2_step (g := some (35, true)) rfl rfl fun K' hK' => ?_
    simp (maxSteps := 4000000) only [sH, ↓sP, sA, tyS, simprocAttr, Int.natCast_nonneg, Int.ofNat_lt, hlt, nth_map hlt, h8_34]
    refine call_pure (args := [_, _, _]) (rlive_ok r l[i] t hr) ⟨rfl, rfl, rfl, rfl⟩ ?_
    rintro u rfl
    repeat refine AI ?_
    refine hK' _ _ ?_
    clear hK' K'
    refine hwalk2_step (g := none) rfl rfl fun K' hK' => ?_
    simp (maxSteps := 4000000) only [sH, ↓sP, sA, tyS, simprocAttr, Int.natCast_nonneg, Int.ofNat_lt, hlt, nth_map hlt, h8_34]
    repeat refine AI ?_
    refine hK' _ _ ?_
    clear hK' K'
    refine hwalk2_cases 42 rfl (fun h8_42 => ?_) (fun h8_42 => ?_)
    ·
     simp only [h8_42]
     simp only [sE, ↓reduceIte, simprocAttr]
     repeat refine AI ?_
     refine hK _ _ _ ?_
     clear hK K
     refine hw_cond (b := true) rfl (fun hb => ?_) (fun hb => ?_)
     ·
      refine hw_region (by kernel_rfl) ?_
      simp only [sR, simprocAttr]
      iterate 3
       (refine hlex_step (g := none) rfl rfl fun K' hK' => ?_; simp only [sH, ↓sP, sA, tyS, simprocAttr, h8_34, h8_42]; (repeat refine AI ?_); refine hK' _ _ ?_; clear hK' K')
      refine hlex_step (g := none) rfl rfl fun K' hK' => ?_
      simp (maxSteps := 4000000) only [sH, ↓sP, sA, tyS, simprocAttr, h8_34, h8_42]
      refine call_pure (args := [_, _]) (add_ok (rvL r role t (l.take i)) ((findK r.k l[i]).getD k0).o (by omega)) ⟨rfl, rfl, rfl, rfl⟩ ?_
      rintro u rfl
      repeat refine AI ?_
      refine hK' _ _ ?_
      clear hK' K'
      refine hlex_step (g := none) rfl rfl fun K' hK' => ?_
      simp (maxSteps := 4000000) only [sH, ↓sP, sA, tyS, simprocAttr, h8_34, h8_42]
      repeat refine AI ?_
      refine hK' _ _ ?_
      clear hK' K'
      simp only [sE, ↓reduceIte, simprocAttr]
      exact key (addW (rvL r role t (l.take i)) ((findK r.k l[i]).getD k0).o) _ _ _ (by rw [rvL_take hlt]; simp only [rvStep, fK, h8_34, h8_42, Bool.and_true, if_true]) (fits_fin (by omega) (by simp [FinOk, fin_at, finA_at, upd_at, HV.men, HV.menL, HV.norm, HV.toC, HV.toCL]) (by simp [FobOk, fob_at, upd_at, none0_at, gone, HO.men, HV.men, HV.menL, HV.norm, HV.toC, HV.toCL]))
     ·
      cases hb
    ·
     simp only [h8_42]
     simp only [sE, ↓reduceIte, simprocAttr]
     repeat refine AI ?_
     refine hK _ _ _ ?_
     clear hK K
     refine hw_cond (b := false) rfl (fun hb => ?_) (fun hb => ?_)
     ·
      cases hb
     ·
      refine hw_skip ?_
      simp (maxSteps := 4000000) only [↓sP, sA, tyS, simprocAttr]
      exact key (rvL r role t (l.take i)) _ _ _ (by rw [rvL_take hlt]; simp only [rvStep, fK, h8_34, h8_42, Bool.and_false, Bool.and_true, Bool.false_eq_true, if_false]) (fits_fin (by omega) (by simp [FinOk, fin_at, finA_at, upd_at, HV.men, HV.menL, HV.norm, HV.toC, HV.toCL]) (by simp [FobOk, fob_at, upd_at, none0_at, gone, HO.men, HV.men, HV.menL, HV.norm, HV.toC, HV.toCL]))
   ·
    iterate 7
     (refine hwalk2_step (g := some (35, true)) rfl rfl fun K' hK' => ?_; simp only [sH, ↓sP, sA, tyS, simprocAttr, Int.natCast_nonneg, Int.ofNat_lt, hlt, nth_map hlt, h8_34]; (repeat refine AI ?_); refine hK' _ _ ?_; clear hK' K')
    refine hwalk2_step (g := none) rfl rfl fun K' hK' => ?_
    simp (maxSteps := 4000000) only [sH, ↓sP, sA, tyS, simprocAttr, Int.natCast_nonneg, Int.ofNat_lt, hlt, nth_map hlt, h8_34]
    repeat refine AI ?_
    refine hK' _ _ ?_
    clear hK' K'
    simp only [sE, ↓reduceIte, simprocAttr]
    repeat refine AI ?_
    refine hK _ _ _ ?_
    clear hK K
    refine hw_cond (b := false) rfl (fun hb => ?_) (fun hb => ?_)
    ·
     cases hb
    ·
     refine hw_skip ?_
     simp (maxSteps := 4000000) only [↓sP, sA, tyS, simprocAttr]
     exact key (rvL r role t (l.take i)) _ _ _ (by rw [rvL_take hlt]; simp only [rvStep, fK, h8_34, Bool.false_and, Bool.false_eq_true, if_false]) (fits_fin (by omega) (by simp [FinOk, fin_at, finA_at, upd_at, HV.men, HV.menL, HV.norm, HV.toC, HV.toCL]) (by simp [FobOk, fob_at, upd_at, none0_at, gone, HO.men, HV.men, HV.menL, HV.norm, HV.toC, HV.toCL]))
  ·
   refine hw_exit ?_
   simp (maxSteps := 4000000) only [↓sP, sA, tyS, simprocAttr]
   clear hK K
   repeat refine AI ?_
   refine hK _ _ _ ?_
   clear hK K
   refine hw_seq fun K hK => hw_region (by kernel_rfl) ?_
   simp (maxSteps := 4000000) only [↓sP, sA, tyS, simprocAttr]
   repeat refine AI ?_
   refine hK _ _ _ ?_
   clear hK K
   refine hw_ret ?_
   simp (maxSteps := 4000000) only [hpost, Tryz.results12, hresL, hres1, tupOf, ↓sP, sA, tyS, simprocAttr]
   have hei : i = l.length := by simp at hb; omega
   subst hei
   rw [List.take_length]
   exact hret_pure [] (.slc ((rvL r role t l).map .str)) (close_c (by simp only [CV.denil, denilL_str])) (by rw [rvL_eq hv])


theorem rneed_ok (r : Rt) (w : Word) (hr : rSz r) : HPure Tryz.prog 14 [r.cv, .str w] (fun v => v = .int .i64 (needV r w)) := by
 refine hfn_walk Tryz.func14 rfl (by kernel_rfl) (locOk_nil _) (Nat.le_of_ble_eq_true rfl) ?_
 refine hw_seq fun K hK => hw_region (by kernel_rfl) ?_
 simp (maxSteps := 4000000) only [↓sP, sA, tyS, simprocAttr]
 repeat refine AI ?_
 refine hK _ _ _ ?_
 clear hK K
 refine hw_seq fun K hK => ?_
 refine hw_seq fun K hK => hw_region (by kernel_rfl) ?_
 simp only [sR, simprocAttr]
 refine hlex_step (g := none) rfl rfl fun K' hK' => ?_
 simp (maxSteps := 4000000) only [sH, ↓sP, sA, tyS, simprocAttr]
 repeat refine AI ?_
 refine hK' _ _ ?_
 clear hK' K'
 refine hlex_step (g := none) rfl rfl fun K' hK' => ?_
 simp (maxSteps := 4000000) only [sH, ↓sP, sA, tyS, simprocAttr]
 refine call_pure (args := [_]) (rvalid_ok r hr) ⟨rfl, rfl, rfl, rfl⟩ ?_
 rintro u rfl
 repeat refine AI ?_
 refine hK' _ _ ?_
 clear hK' K'
 refine hlex_step (g := none) rfl rfl fun K' hK' => ?_
 simp (maxSteps := 4000000) only [sH, ↓sP, sA, tyS, simprocAttr]
 repeat refine AI ?_
 refine hK' _ _ ?_
 clear hK' K'
 simp only [sE, ↓reduceIte, simprocAttr]
 repeat refine AI ?_
 refine hK _ _ _ ?_
 clear hK K
 refine hw_cond (b := !validR r) rfl (fun hb => ?_) (fun hb => ?_)
 ·
  refine hw_seq fun K hK => hw_region (by kernel_rfl) ?_
  simp (maxSteps := 4000000) only [↓sP, sA, tyS, simprocAttr]
  repeat refine AI ?_
  refine hK _ _ _ ?_
  clear hK K
  refine hw_ret ?_
  simp (maxSteps := 4000000) only [hpost, Tryz.results14, hresL, hres1, tupOf, ↓sP, sA, tyS, simprocAttr]
  exact hret_pure [] (.int .i64 0) rfl (by unfold needV; rw [if_neg (by simpa using hb)])
 ·
  refine hw_skip ?_
  simp (maxSteps := 4000000) only [↓sP, sA, tyS, simprocAttr]
  repeat refine AI ?_
  refine hK _ _ _ ?_
  clear hK K
  refine hw_seq fun K hK => hw_region (by kernel_rfl) ?_
  simp only [sR, simprocAttr]
  iterate 2
   (refine hlex_step (g := none) rfl rfl fun K' hK' => ?_; simp only [sH, ↓sP, sA, tyS, simprocAttr]; (repeat refine AI ?_); refine hK' _ _ ?_; clear hK' K')
  refine hlex_step (g := none) rfl rfl fun K' hK' => ?_
  simp (maxSteps := 4000000) only [sH, ↓sP, sA, tyS, simprocAttr]
  refine call_pure (args := [_, _]) (quota_ok r w hr.1.1) ⟨rfl, rfl, rfl, rfl⟩ ?_
  rintro u rfl
  repeat refine AI ?_
  refine hK' _ _ ?_
  clear hK' K'
  refine hlex_step (g := none) rfl rfl fun K' hK' => ?_
  simp (maxSteps := 4000000) only [sH, ↓sP, sA, tyS, simprocAttr]
  repeat refine AI ?_
  refine hK' _ _ ?_
  clear hK' K'
  simp only [sE, ↓reduceIte, simprocAttr]
  repeat refine AI ?_
  refine hK _ _ _ ?_
  clear hK K
  refine hw_ret ?_
  simp (maxSteps := 4000000) only [hpost, Tryz.results14, hresL, hres1, tupOf, ↓sP, sA, tyS, simprocAttr]
  exact hret_pure [] (.int .i64 _) rfl (by unfold needV; rw [if_pos (by simpa using hb)])


theorem renough_ok (r : Rt) (role : Word) (l : List Dig) (t : Int) (hr : rSz r) (hl : l.length < 2 ^ 40) : HPure Tryz.prog 16 [r.cv, .str role, .slc (l.map dg), .int .i64 t] (fun v => v = .bool (enough r role l t)) := by
 refine hfn_walk Tryz.func16 rfl (by kernel_rfl) (locOk_nil _) (Nat.le_of_ble_eq_true rfl) ?_
 refine hw_seq fun K hK => hw_region (by kernel_rfl) ?_
 simp (maxSteps := 4000000) only [↓sP, sA, tyS, simprocAttr]
 repeat refine AI ?_
 refine hK _ _ _ ?_
 clear hK K
 refine hw_seq fun K hK => hw_region (by kernel_rfl) ?_
 simp only [sR, simprocAttr]
 iterate 2
  (refine hlex_step (g := none) rfl rfl fun K' hK' => ?_; simp only [sH, ↓sP, sA, tyS, simprocAttr]; (repeat refine AI ?_); refine hK' _ _ ?_; clear hK' K')
 refine hlex_step (g := none) rfl rfl fun K' hK' => ?_
 simp (maxSteps := 4000000) only [sH, ↓sP, sA, tyS, simprocAttr]
 refine call_pure (args := [_, _]) (rneed_ok r role hr) ⟨rfl, rfl, rfl, rfl⟩ ?_
 rintro u rfl
 repeat refine AI ?_
 refine hK' _ _ ?_
 clear hK' K'
 refine hlex_step (g := none) rfl rfl fun K' hK' => ?_
 simp (maxSteps := 4000000) only [sH, ↓sP, sA, tyS, simprocAttr]
 repeat refine AI ?_
 refine hK' _ _ ?_
 clear hK' K'
 simp only [sE, ↓reduceIte, simprocAttr]
 repeat refine AI ?_
 refine hK _ _ _ ?_
 clear hK K
 refine hw_seq fun K hK => hw_region (by kernel_rfl) ?_
 simp only [sR, simprocAttr]
 iterate 3
  (refine hlex_step (g := none) rfl rfl fun K' hK' => ?_; simp only [sH, ↓sP, sA, tyS, simprocAttr, denilL_dg]; (repeat refine AI ?_); refine hK' _ _ ?_; clear hK' K')
 refine hlex_cases 14 rfl (fun h2_14 => ?_) (fun h2_14 => ?_)
 ·
  iterate 4
   (refine hlex_step (g := some (15, true)) rfl rfl fun K' hK' => ?_; simp only [sH, ↓sP, sA, tyS, simprocAttr, denilL_dg, h2_14]; (repeat refine AI ?_); refine hK' _ _ ?_; clear hK' K')
  refine hlex_step (g := some (15, true)) rfl rfl fun K' hK' => ?_
  simp (maxSteps := 4000000) only [sH, ↓sP, sA, tyS, simprocAttr, denilL_dg, h2_14]
  refine call_pure (args := [_, _, _, _]) (rvouched_ok r role l t hr hl) ⟨rfl, rfl, rfl, rfl⟩ ?_
  rintro u rfl
  repeat refine AI ?_
  refine hK' _ _ ?_
  clear hK' K'
  iterate 3
   (refine hlex_step (g := some (15, true)) rfl rfl fun K' hK' => ?_; simp only [sH, ↓sP, sA, tyS, simprocAttr, denilL_dg, h2_14]; (repeat refine AI ?_); refine hK' _ _ ?_; clear hK' K')
  iterate 2
   (refine hlex_step (g := none) rfl rfl fun K' hK' => ?_; simp only [sH, ↓sP, sA, tyS, simprocAttr, denilL_dg, h2_14]; (repeat refine AI ?_); refine hK' _ _ ?_; clear hK' K')
  refine hlex_cases 23 rfl (fun h2_23 => ?_) (fun h2_23 => ?_)
  ·
   simp only [h2_23]
   simp only [sE, ↓reduceIte, simprocAttr]
   repeat refine AI ?_
   refine hK _ _ _ ?_
   clear hK K
   refine hw_ret ?_
   simp (maxSteps := 4000000) only [hpost, Tryz.results16, hresL, hres1, tupOf, ↓sP, sA, tyS, simprocAttr]
   exact hret_pure [] (.bool true) rfl (by simp only [enough, h2_14, h2_23, Bool.and_true, Bool.and_false, Bool.true_and, Bool.false_and])
  ·
   simp only [h2_23]
   simp only [sE, ↓reduceIte, simprocAttr]
   repeat refine AI ?_
   refine hK _ _ _ ?_
   clear hK K
   refine hw_ret ?_
   simp (maxSteps := 4000000) only [hpost, Tryz.results16, hresL, hres1, tupOf, ↓sP, sA, tyS, simprocAttr]
   exact hret_pure [] (.bool false) rfl (by simp only [enough, h2_14, h2_23, Bool.and_true, Bool.and_false, Bool.true_and, Bool.false_and])
 ·
  iterate 8
   (refine hlex_step (g := some (15, true)) rfl rfl fun K' hK' => ?_; simp only [sH, ↓sP, sA, tyS, simprocAttr, denilL_dg, h2_14]; (repeat refine AI ?_); refine hK' _ _ ?_; clear hK' K')
  iterate 2
   (refine hlex_step (g := none) rfl rfl fun K' hK' => ?_; simp only [sH, ↓sP, sA, tyS, simprocAttr, denilL_dg, h2_14]; (repeat refine AI ?_); refine hK' _ _ ?_; clear hK' K')
  simp only [sE, ↓reduceIte, simprocAttr]
  repeat refine AI ?_
  refine hK _ _ _ ?_
  clear hK K
  refine hw_ret ?_
  simp (maxSteps := 4000000) only [hpost, Tryz.results16, hresL, hres1, tupOf, ↓sP, sA, tyS, simprocAttr]
  exact hret_pure [] (.bool false) rfl (by simp only [enough, h2_14, Bool.and_true, Bool.and_false, Bool.true_and, Bool.false_and])


theorem eqpk (x y : Pk) (K : CV → Prop) : hbin Tryz.prog .eql 49 (.c x.cv) (.c y.cv) K = K (.bool (pkEq x y)) := hbin_pk (by kernel_rfl) ty49 ty3 ty47 ty5 (by kernel_rfl) (by kernel_rfl) (by kernel_rfl) x y K

theorem samekey_ok (k : Ky) (hl : k.rs.length < 2 ^ 40) : HPure Tryz.prog 19 [k.cv, k.cv] (fun v => v = .bool true) := by
 refine hfn_walk Tryz.func19 rfl (by kernel_rfl) (locOk_nil _) (Nat.le_of_ble_eq_true rfl) ?_
 refine hw_seq fun K hK => hw_region (by kernel_rfl) ?_
 simp (maxSteps := 4000000) only [↓sP, sA, tyS, simprocAttr]
 repeat refine AI ?_
 refine hK _ _ _ ?_
 clear hK K
 refine hw_seq fun K hK => hw_region (by kernel_rfl) ?_
 simp only [sR, simprocAttr]
 iterate 6
  (refine hlex_step (g := none) rfl rfl fun K' hK' => ?_; simp only [sH, ↓sP, sA, tyS, simprocAttr, eqpk, pkEq_self, beq_self_eq_true]; (repeat refine AI ?_); refine hK' _ _ ?_; clear hK' K')
 iterate 5
  (refine hlex_step (g := some (10, true)) rfl rfl fun K' hK' => ?_; simp only [sH, ↓sP, sA, tyS, simprocAttr, eqpk, pkEq_self, beq_self_eq_true]; (repeat refine AI ?_); refine hK' _ _ ?_; clear hK' K')
 iterate 2
  (refine hlex_step (g := none) rfl rfl fun K' hK' => ?_; simp only [sH, ↓sP, sA, tyS, simprocAttr, eqpk, pkEq_self, beq_self_eq_true]; (repeat refine AI ?_); refine hK' _ _ ?_; clear hK' K')
 iterate 5
  (refine hlex_step (g := some (17, true)) rfl rfl fun K' hK' => ?_; simp only [sH, ↓sP, sA, tyS, simprocAttr, eqpk, pkEq_self, beq_self_eq_true]; (repeat refine AI ?_); refine hK' _ _ ?_; clear hK' K')
 iterate 2
  (refine hlex_step (g := none) rfl rfl fun K' hK' => ?_; simp only [sH, ↓sP, sA, tyS, simprocAttr, eqpk, pkEq_self, beq_self_eq_true]; (repeat refine AI ?_); refine hK' _ _ ?_; clear hK' K')
 iterate 5
  (refine hlex_step (g := some (24, true)) rfl rfl fun K' hK' => ?_; simp only [sH, ↓sP, sA, tyS, simprocAttr, eqpk, pkEq_self, beq_self_eq_true]; (repeat refine AI ?_); refine hK' _ _ ?_; clear hK' K')
 iterate 2
  (refine hlex_step (g := none) rfl rfl fun K' hK' => ?_; simp only [sH, ↓sP, sA, tyS, simprocAttr, eqpk, pkEq_self, beq_self_eq_true]; (repeat refine AI ?_); refine hK' _ _ ?_; clear hK' K')
 iterate 4
  (refine hlex_step (g := some (31, true)) rfl rfl fun K' hK' => ?_; simp only [sH, ↓sP, sA, tyS, simprocAttr, eqpk, pkEq_self, beq_self_eq_true]; (repeat refine AI ?_); refine hK' _ _ ?_; clear hK' K')
 refine hlex_step (g := some (31, true)) rfl rfl fun K' hK' => ?_
 simp (maxSteps := 4000000) only [sH, ↓sP, sA, tyS, simprocAttr, eqpk, pkEq_self, beq_self_eq_true]
 refine call_pure (args := [_, _]) (same_ok k.rs k.rs (by omega)) ⟨rfl, rfl, rfl, rfl⟩ ?_
 rintro u rfl
 repeat refine AI ?_
 refine hK' _ _ ?_
 clear hK' K'
 iterate 2
  (refine hlex_step (g := none) rfl rfl fun K' hK' => ?_; simp only [sH, ↓sP, sA, tyS, simprocAttr, eqpk, pkEq_self, beq_self_eq_true]; (repeat refine AI ?_); refine hK' _ _ ?_; clear hK' K')
 simp only [sE, ↓reduceIte, simprocAttr]
 repeat refine AI ?_
 refine hK _ _ _ ?_
 clear hK K
 refine hw_ret ?_
 simp (maxSteps := 4000000) only [hpost, Tryz.results19, hresL, hres1, tupOf, ↓sP, sA, tyS, simprocAttr]
 exact hret_pure [] (.bool true) rfl rfl

end Go.Proofs.YtackchmdajdlaaaGreat
