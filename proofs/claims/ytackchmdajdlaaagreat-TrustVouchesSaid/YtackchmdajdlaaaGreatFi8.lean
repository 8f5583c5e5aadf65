/- TrustVouches: for any root document, any question and any tape of numbers the law returns true and leaves them as they were: which keys count, who vouches for a document, how many owners are needed, and whether they are enough. No condition. By an AI agent. -/
import Derived.Test.YtackchmdajdlaaaGreatHwTn
import Derived.Test.YtackchmdajdlaaaGreatHwSb
import Derived.Test.YtackchmdajdlaaaGreatHwTo
import Derived.Test.YtackchmdajdlaaaGreatHwT2
import Derived.Test.YtackchmdajdlaaaGreatRows
set_option linter.unusedSimpArgs false
set_option linter.unusedVariables false
set_option linter.defProp false
namespace Go.Proofs.YtackchmdajdlaaaGreat
open Go Go.Hl Go.Pl
set_option maxRecDepth 10000
set_option maxHeartbeats 4000000
set_option linter.unusedSimpArgs false
set_option linter.unusedVariables false
attribute [local simp] tp

theorem roots_ok (raw : Rt) (L : List Int) (hraw : rRaw raw) : HPure Tryz.prog 9 [raw.cv, .slc (L.map (.int .i64))] (fun v => ∃ rs : List Rt, v = .slc (rs.map Rt.cv) ∧ rs.length ≤ 3 ∧ ∀ r ∈ rs, rSz r) := by
 refine hfn_walk Tryz.func9 rfl (by kernel_rfl) (locOk_nil _) (Nat.le_of_ble_eq_true rfl) ?_
 refine hw_seq fun K hK => hw_region (by kernel_rfl) ?_
 simp (maxSteps := 4000000) only [↓sP, sA, tyS, simprocAttr]
 repeat refine AI ?_
 refine hK _ _ _ ?_
 clear hK K
 refine hw_seq fun K hK => hw_region (by kernel_rfl) ?_
 simp only [sR, simprocAttr]
 iterate 4
  (refine hlex_step (g := none) rfl rfl fun K' hK' => ?_; simp only [sH, ↓sP, sA, tyS, simprocAttr, denilL_int]; (repeat refine AI ?_); refine hK' _ _ ?_; clear hK' K')
 simp only [sE, ↓reduceIte, simprocAttr]
 repeat refine AI ?_
 refine hK _ _ _ ?_
 clear hK K
 refine hw_seq fun K hK => hw_region (by kernel_rfl) ?_
 simp only [sR, simprocAttr]
 iterate 2
  (refine hlex_step (g := none) rfl rfl fun K' hK' => ?_; simp only [sH, ↓sP, sA, tyS, simprocAttr]; (repeat refine AI ?_); refine hK' _ _ ?_; clear hK' K')
 refine hlex_step (g := none) rfl rfl fun K' hK' => ?_
 simp (maxSteps := 4000000) only [sH, ↓sP, sA, tyS, simprocAttr]
 refine call_box (args := [_]) (next_ok L 0 3 (by omega) (by omega)) rfl (by simp) ⟨rfl, rfl, rfl, rfl⟩ ?_
 rintro u v' ⟨x, a1, rfl, rfl, k1, k2, k3, k4⟩
 repeat refine AI ?_
 refine hK' _ _ ?_
 clear hK' K'
 refine hlex_step (g := none) rfl rfl fun K' hK' => ?_
 simp (maxSteps := 4000000) only [sH, ↓sP, sA, tyS, simprocAttr]
 repeat refine AI ?_
 refine hK' _ _ ?_
 clear hK' K'
 refine hlex_step (g := none) rfl rfl fun K' hK' => ?_
 simp (maxSteps := 4000000) only [sH, ↓sP, sA, tyS, simprocAttr]
 refine call_box (args := [_]) (root_ok L a1 (IntKind.i64.wrap (1 + x)) (by omega)) rfl (by simp) ⟨rfl, rfl, rfl, rfl⟩ ?_
 rintro u v' ⟨r, a2, rfl, rfl, k5, hr, hv⟩
 have e1 : IntKind.i64.wrap (1 + x) = 1 + x := IntWalk.i64_in _ (by omega)
 rw [e1] at hv
 obtain ⟨hm, hk0, hq0, hx0⟩ := rMid_of_valid (hv (by omega) (by unfold maxN; omega))
 repeat refine AI ?_
 refine hK' _ _ ?_
 clear hK' K'
 iterate 2
  (refine hlex_step (g := none) rfl rfl fun K' hK' => ?_; simp only [sH, ↓sP, sA, tyS, simprocAttr]; (repeat refine AI ?_); refine hK' _ _ ?_; clear hK' K')
 simp only [sE, ↓reduceIte, simprocAttr]
 repeat refine AI ?_
 refine hK _ _ _ ?_
 clear hK K
 refine hw_seq fun K hK => hw_draw2 mixed [(0, [], []), (1, [], []), (2, [], []), (3, [], [0]), (4, [], []), (5, [], [])] [0, 0, 0, 6, 15, 31] (by kernel_rfl) (by kernel_rfl) (by kernel_rfl) (by kernel_rfl) rfl (by kernel_rfl) ?_
 iterate 3
  (refine hwalk2_step (g := none) rfl rfl fun K' hK' => ?_; simp only [sH, ↓sP, sA, tyS, simprocAttr, cells_rt]; (repeat refine AI ?_); refine hK' _ _ ?_; clear hK' K')
 refine hwalk2_step (g := none) rfl rfl fun K' hK' => ?_
 simp (maxSteps := 4000000) only [sH, ↓sP, sA, tyS, simprocAttr, cells_rt]
 refine call_boxl (args := [_]) (odd_ok (fun i hi => mid_ok i hi) r L a2 (by omega) hm hk0 hq0 hx0) rfl (by simp) ⟨rfl, rfl, rfl, rfl⟩ ?_
 rintro u v' ⟨r2, a3, rfl, rfl, k6, hm2⟩
 repeat refine AI ?_
 refine hK' _ _ ?_
 clear hK' K'
 iterate 2
  (refine hwalk2_step (g := none) rfl rfl fun K' hK' => ?_; simp only [sH, ↓sP, sA, tyS, simprocAttr, cells_rt]; (repeat refine AI ?_); refine hK' _ _ ?_; clear hK' K')
 simp only [sE, ↓reduceIte, simprocAttr]
 repeat refine AI ?_
 refine hK _ _ _ ?_
 clear hK K
 refine hw_seq fun K hK => ?_
 have key : ∀ (m : List Rt) fr ob nx, m.length ≤ 3 → (∀ r ∈ m, rSz r) → Fits 0 fr ob (fin [(7, .own 68 m.length)]) (fob [(68, .row 26 5 (m.map Rt.cv))]) 500 → K fr ob nx := by
  intro m fr ob nx w1 w2 hf
  refine hK _ _ _ (hw_fits hf ?_)
  clear hf hK K
  refine hw_seq fun K hK => hw_region (by kernel_rfl) ?_
  simp (maxSteps := 4000000) only [↓sP, sA, tyS, simprocAttr]
  repeat refine AI ?_
  refine hK _ _ _ ?_
  clear hK K
  refine hw_ret ?_
  simp (maxSteps := 4000000) only [hpost, Tryz.results9, hresL, hres1, tupOf, ↓sP, sA, tyS, simprocAttr]
  refine hret_pure [68] (.slc (m.map Rt.cv)) ?_ ⟨m, rfl, w1, w2⟩
  simp [HV.close, upd_at, fob_at, HV.norm, HV.toC, List.take_of_length_le]
 refine hw_seq fun K hK => hw_region (by kernel_rfl) ?_
 simp only [sR, simprocAttr]
 refine hlex_step (g := none) rfl rfl fun K' hK' => ?_
 simp (maxSteps := 4000000) only [sH, ↓sP, sA, tyS, simprocAttr]
 repeat refine AI ?_
 refine hK' _ _ ?_
 clear hK' K'
 refine hlex_step (g := none) rfl rfl fun K' hK' => ?_
 simp (maxSteps := 4000000) only [sH, ↓sP, sA, tyS, simprocAttr]
 refine call_pure (args := [_]) (light_ok raw) ⟨rfl, rfl, rfl, rfl⟩ ?_
 rintro u rfl
 repeat refine AI ?_
 refine hK' _ _ ?_
 clear hK' K'
 simp only [sE, ↓reduceIte, simprocAttr]
 repeat refine AI ?_
 refine hK _ _ _ ?_
 clear hK K
 refine hw_cond (b := lightB raw) rfl (fun hb => ?_) (fun hb => ?_)
 ·
  refine hw_region (by kernel_rfl) ?_
  simp only [sR, simprocAttr]
  iterate 5
   (refine hlex_step (g := none) rfl rfl fun K' hK' => ?_; simp only [sH, ↓sP, sA, tyS, simprocAttr, List.length_append, cells_rt]; (repeat refine AI ?_); refine hK' _ _ ?_; clear hK' K')
  simp only [sE, ↓reduceIte, simprocAttr]
  exact key [r, r2, raw] _ _ _ (by simp) (by intro z hz; simp only [List.mem_cons, List.not_mem_nil, or_false] at hz; rcases hz with rfl | rfl | rfl <;> first | exact hr.1 | exact hm2.sz | exact light_sz hraw hb) (fits_fin (by omega) (by simp [FinOk, fin_at, finA_at, upd_at, HV.men, HV.menL, HV.norm, HV.toC, HV.toCL]) (by simp [FobOk, fob_at, upd_at, none0_at, gone, HO.men, HV.men, HV.menL, HV.norm, HV.toC, HV.toCL]))
 ·
  refine hw_skip ?_
  simp (maxSteps := 4000000) only [↓sP, sA, tyS, simprocAttr]
  exact key [r, r2] _ _ _ (by simp) (by intro z hz; simp only [List.mem_cons, List.not_mem_nil, or_false] at hz; rcases hz with rfl | rfl <;> first | exact hr.1 | exact hm2.sz) (fits_fin (by omega) (by simp [FinOk, fin_at, finA_at, upd_at, HV.men, HV.menL, HV.norm, HV.toC, HV.toCL]) (by simp [FobOk, fob_at, upd_at, none0_at, gone, HO.men, HV.men, HV.menL, HV.norm, HV.toC, HV.toCL]))

end Go.Proofs.YtackchmdajdlaaaGreat

namespace Go.Proofs.YtackchmdajdlaaaGreat
open Go Go.Hl Go.Pl
set_option maxRecDepth 10000
set_option maxHeartbeats 8000000
set_option linter.unusedSimpArgs false
set_option linter.unusedVariables false
attribute [local simp] tp

theorem vouches_law (raw : Rt) (hraw : rRaw raw) (x : Ak) (L : List Int) : HPure Tryz.prog 3 [raw.cv, x.cv, .slc (L.map (.int .i64))] (fun v => v = .bool true) := by
 refine hfn_walk Tryz.func3 rfl (by kernel_rfl) (locOk_nil _) (Nat.le_of_ble_eq_true rfl) ?_
 refine hw_seq fun K hK => hw_region (by kernel_rfl) ?_
 simp (maxSteps := 4000000) only [↓sP, sA, tyS, simprocAttr]
 repeat refine AI ?_
 refine hK _ _ _ ?_
 clear hK K
 refine hw_seq fun K hK => ?_
 refine hw_seq fun K hK => hw_region (by kernel_rfl) ?_
 simp only [sR, simprocAttr]
 iterate 5
  (refine hlex_step (g := none) rfl rfl fun K' hK' => ?_; simp only [sH, ↓sP, sA, tyS, simprocAttr, sAk]; (repeat refine AI ?_); refine hK' _ _ ?_; clear hK' K')
 refine hlex_cases 21 rfl (fun h1_21 => ?_) (fun h1_21 => ?_)
 ·
  iterate 4
   (refine hlex_step (g := some (22, false)) rfl rfl fun K' hK' => ?_; simp only [sH, ↓sP, sA, tyS, simprocAttr, sAk, h1_21]; (repeat refine AI ?_); refine hK' _ _ ?_; clear hK' K')
  refine hlex_step (g := none) rfl rfl fun K' hK' => ?_
  simp (maxSteps := 4000000) only [sH, ↓sP, sA, tyS, simprocAttr, sAk, h1_21]
  repeat refine AI ?_
  refine hK' _ _ ?_
  clear hK' K'
  simp only [sE, ↓reduceIte, simprocAttr]
  repeat refine AI ?_
  refine hK _ _ _ ?_
  clear hK K
  refine hw_cond (b := true) rfl (fun hb => ?_) (fun hb => ?_)
  ·
   refine hw_seq fun K hK => hw_region (by kernel_rfl) ?_
   simp (maxSteps := 4000000) only [↓sP, sA, tyS, simprocAttr]
   repeat refine AI ?_
   refine hK _ _ _ ?_
   clear hK K
   refine hw_ret ?_
   simp (maxSteps := 4000000) only [hpost, Tryz.results3, hresL, hres1, tupOf, ↓sP, sA, tyS, simprocAttr]
   exact hret_pure [] (.bool true) rfl rfl
  ·
   cases hb
 ·
  iterate 4
   (refine hlex_step (g := some (22, false)) rfl rfl fun K' hK' => ?_; simp only [sH, ↓sP, sA, tyS, simprocAttr, sAk, h1_21]; (repeat refine AI ?_); refine hK' _ _ ?_; clear hK' K')
  refine hlex_step (g := none) rfl rfl fun K' hK' => ?_
  simp (maxSteps := 4000000) only [sH, ↓sP, sA, tyS, simprocAttr, sAk, h1_21]
  repeat refine AI ?_
  refine hK' _ _ ?_
  clear hK' K'
  refine hlex_cases 26 rfl (fun h1_26 => ?_) (fun h1_26 => ?_)
  ·
   simp only [h1_26]
   simp only [sE, ↓reduceIte, simprocAttr]
   repeat refine AI ?_
   refine hK _ _ _ ?_
   clear hK K
   refine hw_cond (b := true) rfl (fun hb => ?_) (fun hb => ?_)
   ·
    refine hw_seq fun K hK => hw_region (by kernel_rfl) ?_
    simp (maxSteps := 4000000) only [↓sP, sA, tyS, simprocAttr]
    repeat refine AI ?_
    refine hK _ _ _ ?_
    clear hK K
    refine hw_ret ?_
    simp (maxSteps := 4000000) only [hpost, Tryz.results3, hresL, hres1, tupOf, ↓sP, sA, tyS, simprocAttr]
    exact hret_pure [] (.bool true) rfl rfl
   ·
    cases hb
  ·
   simp only [h1_26]
   simp only [sE, ↓reduceIte, simprocAttr]
   repeat refine AI ?_
   refine hK _ _ _ ?_
   clear hK K
   refine hw_cond (b := false) rfl (fun hb => ?_) (fun hb => ?_)
   ·
    cases hb
   ·
    refine hw_skip ?_
    simp (maxSteps := 4000000) only [↓sP, sA, tyS, simprocAttr]
    repeat refine AI ?_
    refine hK _ _ _ ?_
    clear hK K
    refine hw_seq fun K hK => hw_region (by kernel_rfl) ?_
    simp only [sR, simprocAttr]
    iterate 4
     (refine hlex_step (g := none) rfl rfl fun K' hK' => ?_; simp only [sH, ↓sP, sA, tyS, simprocAttr, denilL_int, h1_21, h1_26]; (repeat refine AI ?_); refine hK' _ _ ?_; clear hK' K')
    simp only [sE, ↓reduceIte, simprocAttr]
    repeat refine AI ?_
    refine hK _ _ _ ?_
    clear hK K
    have hxk : x.k.length ≤ 50 := by simp at h1_21; omega
    refine hw_seq fun K hK => hw_draw2 mixed [(0, [], []), (1, [], []), (4, [], []), (6, [], []), (9, [], []), (12, [], []), (14, [], []), (15, [], []), (2, [], [0, 1, 4, 6, 9, 12, 14, 15]), (3, [], [0, 4, 6, 9, 12, 14, 15]), (5, [], [0, 6, 9, 12, 14, 15]), (7, [], [0, 9, 12, 14, 15]), (8, [], []), (10, [], [0, 9, 12, 14, 15, 8]), (11, [], [0, 12, 14, 15, 8]), (13, [], [0, 14, 15, 8]), (16, [], []), (17, [], []), (18, [], [])] [0, 0, 0, 6, 0, 30, 0, 126, 254, 0, 254, 1790, 0, 7934, 0, 16384, 65278, 131071, 262143] (by kernel_rfl) (by kernel_rfl) (by kernel_rfl) (by kernel_rfl) rfl (by kernel_rfl) ?_
    iterate 8
     (refine hwalk2_step (g := none) rfl rfl fun K' hK' => ?_; simp only [sH, ↓sP, sA, tyS, simprocAttr, sAk, Ak.fold, cells_ak, denilL_dg, h1_21, h1_26]; (repeat refine AI ?_); refine hK' _ _ ?_; clear hK' K')
    refine hwalk2_step (g := none) rfl rfl fun K' hK' => ?_
    simp (maxSteps := 4000000) only [sH, ↓sP, sA, tyS, simprocAttr, sAk, Ak.fold, cells_ak, denilL_dg, h1_21, h1_26]
    refine call_pure (args := []) roles_ok ⟨rfl, rfl, rfl, rfl⟩ ?_
    rintro u rfl
    repeat refine AI ?_
    refine hK' _ _ ?_
    clear hK' K'
    refine hwalk2_step (g := none) rfl rfl fun K' hK' => ?_
    simp (maxSteps := 4000000) only [sH, ↓sP, sA, tyS, simprocAttr, sAk, Ak.fold, cells_ak, denilL_dg, h1_21, h1_26]
    refine call_box (args := [_]) (pick_ok L 0 roles10 (by omega) ⟨by decide, by decide⟩) rfl (by simp) ⟨rfl, rfl, rfl, rfl⟩ ?_
    rintro u v' ⟨w1, a1, rfl, hw1, rfl, k1⟩
    repeat refine AI ?_
    refine hK' _ _ ?_
    clear hK' K'
    refine hwalk2_step (g := none) rfl rfl fun K' hK' => ?_
    simp (maxSteps := 4000000) only [sH, ↓sP, sA, tyS, simprocAttr, sAk, Ak.fold, cells_ak, denilL_dg, h1_21, h1_26]
    refine call_box (args := []) (mkeys_ok L a1 (by omega)) rfl (by simp) ⟨rfl, rfl, rfl, rfl⟩ ?_
    rintro u v' ⟨D1, a2, rfl, rfl, k2, hD1⟩
    repeat refine AI ?_
    refine hK' _ _ ?_
    clear hK' K'
    refine hwalk2_step (g := none) rfl rfl fun K' hK' => ?_
    simp (maxSteps := 4000000) only [sH, ↓sP, sA, tyS, simprocAttr, sAk, Ak.fold, cells_ak, denilL_dg, h1_21, h1_26]
    refine call_box (args := [_]) (next_ok L a2 40 (by omega) (by omega)) rfl (by simp) ⟨rfl, rfl, rfl, rfl⟩ ?_
    rintro u v' ⟨t1, a3, rfl, rfl, k3, k4, k5, k6⟩
    repeat refine AI ?_
    refine hK' _ _ ?_
    clear hK' K'
    refine hwalk2_step (g := none) rfl rfl fun K' hK' => ?_
    simp (maxSteps := 4000000) only [sH, ↓sP, sA, tyS, simprocAttr, sAk, Ak.fold, cells_ak, denilL_dg, h1_21, h1_26]
    repeat refine AI ?_
    refine hK' _ _ ?_
    clear hK' K'
    refine hwalk2_step (g := none) rfl rfl fun K' hK' => ?_
    simp (maxSteps := 4000000) only [sH, ↓sP, sA, tyS, simprocAttr, sAk, Ak.fold, cells_ak, denilL_dg, h1_21, h1_26]
    refine call_pure (args := []) roles_ok ⟨rfl, rfl, rfl, rfl⟩ ?_
    rintro u rfl
    repeat refine AI ?_
    refine hK' _ _ ?_
    clear hK' K'
    refine hwalk2_step (g := none) rfl rfl fun K' hK' => ?_
    simp (maxSteps := 4000000) only [sH, ↓sP, sA, tyS, simprocAttr, sAk, Ak.fold, cells_ak, denilL_dg, h1_21, h1_26]
    refine call_box (args := [_]) (pick_ok L a3 roles10 (by omega) ⟨by decide, by decide⟩) rfl (by simp) ⟨rfl, rfl, rfl, rfl⟩ ?_
    rintro u v' ⟨w2, a4, rfl, hw2, rfl, k7⟩
    repeat refine AI ?_
    refine hK' _ _ ?_
    clear hK' K'
    refine hwalk2_step (g := none) rfl rfl fun K' hK' => ?_
    simp (maxSteps := 4000000) only [sH, ↓sP, sA, tyS, simprocAttr, sAk, Ak.fold, cells_ak, denilL_dg, h1_21, h1_26]
    refine call_box (args := []) (mkeys_ok L a4 (by omega)) rfl (by simp) ⟨rfl, rfl, rfl, rfl⟩ ?_
    rintro u v' ⟨D2, a5, rfl, rfl, k8, hD2⟩
    repeat refine AI ?_
    refine hK' _ _ ?_
    clear hK' K'
    iterate 3
     (refine hwalk2_step (g := none) rfl rfl fun K' hK' => ?_; simp only [sH, ↓sP, sA, tyS, simprocAttr, sAk, Ak.fold, cells_ak, denilL_dg, h1_21, h1_26]; (repeat refine AI ?_); refine hK' _ _ ?_; clear hK' K')
    simp only [sE, ↓reduceIte, simprocAttr]
    repeat refine AI ?_
    refine hK _ _ _ ?_
    clear hK K
    refine hw_seq fun K hK => ?_
    obtain ⟨qs, hqs⟩ : ∃ qs : List Ak, qs = [x, ⟨w1, D1, t1⟩, ⟨w2, D2, x.t⟩] := ⟨_, rfl⟩
    have hq : ∀ q ∈ qs, q.k.length ≤ 50 := by
     rw [hqs]; intro z hz
     simp only [List.mem_cons, List.not_mem_nil, or_false] at hz
     rcases hz with rfl | rfl | rfl
     ·
      exact hxk
     ·
      show D1.length ≤ 50; omega
     ·
      show D2.length ≤ 50; omega
    have hql : qs.length = 3 := by rw [hqs]; rfl
    refine hw_close [136] (hw_fits (fr2 := fin [(2, .c (.slc (L.map (.int .i64)))), (3, .ptr 0 0), (8, .c (.slc (qs.map Ak.cv)))]) (ob2 := fob [(0, .box 26 (.c raw.cv))]) (nx2 := 200) (fits_fin (by omega) (by simp [FinOk, clF_at, fin_at, finA_at, upd_at, fob_at, HV.close, HV.closeL, CV.denil, denilL_str, denilL_dg, denilL_int, denilL_Ak, Ak.denil, HV.men, HV.menL, HV.norm, HV.toC, HV.toCL, hqs]) (by simp [FobOk, clO_at, fob_at, upd_at, none0_at, gone, HO.close, HV.close, HO.men, HV.men, HV.menL, HV.norm, HV.toC, HV.toCL, Rt.denil])) ?_)
    clear hqs
    refine hw_seq fun K hK => hw_region (by kernel_rfl) ?_
    simp only [sR, simprocAttr]
    iterate 2
     (refine hlex_step (g := none) rfl rfl fun K' hK' => ?_; simp only [sH, ↓sP, sA, tyS, simprocAttr, h1_21, h1_26]; (repeat refine AI ?_); refine hK' _ _ ?_; clear hK' K')
    refine hlex_step (g := none) rfl rfl fun K' hK' => ?_
    simp (maxSteps := 4000000) only [sH, ↓sP, sA, tyS, simprocAttr, h1_21, h1_26]
    refine call_pure (args := [_, _]) (roots_ok raw L hraw) ⟨rfl, rfl, rfl, rfl⟩ ?_
    rintro u ⟨rs, rfl, hr3, hrs⟩
    repeat refine AI ?_
    refine hK' _ _ ?_
    clear hK' K'
    iterate 2
     (refine hlex_step (g := none) rfl rfl fun K' hK' => ?_; simp only [sH, ↓sP, sA, tyS, simprocAttr, h1_21, h1_26]; (repeat refine AI ?_); refine hK' _ _ ?_; clear hK' K')
    simp only [sE, ↓reduceIte, simprocAttr]
    repeat refine AI ?_
    refine hK _ _ _ ?_
    clear hK K
    refine hw_block ?_
    refine hw_loop (α := {i : Nat // i ≤ rs.length}) (fun i => (fin [(8, .c (.slc (qs.map Ak.cv))), (51, .c (.slc (rs.map Rt.cv))), (52, .c (.int .i64 rs.length)), (53, .c (.int .i64 i.1))], fob [])) 300 (fun i => rs.length - i.1) ⟨0, by omega⟩ (fits_fin (by omega) (by simp [FinOk, fin_at, finA_at, upd_at, HV.men, HV.menL, HV.norm, HV.toC, HV.toCL]) (by simp [FobOk, fob_at, upd_at, none0_at, gone, HO.men, HV.men, HV.menL, HV.norm, HV.toC, HV.toCL])) ?_
    rintro ⟨i, hi⟩
    refine hw_seq fun K hK => hw_region (by kernel_rfl) ?_
    simp (maxSteps := 4000000) only [↓sP, sA, tyS, simprocAttr]
    repeat refine AI ?_
    refine hK _ _ _ ?_
    clear hK K
    refine hw_seq fun K hK => ?_
    refine hw_cond (b := decide ((i : Int) < rs.length)) rfl (fun hb => ?_) (fun hb => ?_)
    ·
     have hlt : i < rs.length := by simpa using hb
     have hr := hrs _ (List.getElem_mem hlt)
     clear hb
     refine hw_skip ?_
     simp (maxSteps := 4000000) only [↓sP, sA, tyS, simprocAttr]
     repeat refine AI ?_
     refine hK _ _ _ ?_
     clear hK K
     refine hw_seq fun K hK => ?_
     refine hw_block ?_
     refine hw_seq fun K hK => hw_region (by kernel_rfl) ?_
     simp only [sR, simprocAttr]
     iterate 4
      (refine hlex_step (g := none) rfl rfl fun K' hK' => ?_; simp only [sH, ↓sP, sA, tyS, simprocAttr, Int.natCast_nonneg, Int.ofNat_lt, hlt, nth_map hlt, h1_21, h1_26]; (repeat refine AI ?_); refine hK' _ _ ?_; clear hK' K')
     simp only [sE, ↓reduceIte, simprocAttr]
     repeat refine AI ?_
     refine hK _ _ _ ?_
     clear hK K
     refine hw_seq fun K hK => hw_region (by kernel_rfl) ?_
     simp (maxSteps := 4000000) only [↓sP, sA, tyS, simprocAttr]
     repeat refine AI ?_
     refine hK _ _ _ ?_
     clear hK K
     refine hw_block ?_
     refine hw_loop (α := {j : Nat // j ≤ qs.length}) (fun j => (fin [(8, .c (.slc (qs.map Ak.cv))), (10, .ptr 312 0), (51, .c (.slc (rs.map Rt.cv))), (52, .c (.int .i64 rs.length)), (53, .c (.int .i64 i)), (57, .c (.slc (qs.map Ak.cv))), (58, .c (.int .i64 qs.length)), (59, .c (.int .i64 j.1))], fob [(312, .box 26 (.c rs[i].cv))])) 400 (fun j => qs.length - j.1) ⟨0, by omega⟩ (fits_fin (by omega) (by simp [FinOk, fin_at, finA_at, upd_at, HV.men, HV.menL, HV.norm, HV.toC, HV.toCL]) (by simp [FobOk, fob_at, upd_at, none0_at, gone, HO.men, HV.men, HV.menL, HV.norm, HV.toC, HV.toCL])) ?_
     rintro ⟨j, hj⟩
     refine hw_seq fun K hK => hw_region (by kernel_rfl) ?_
     simp (maxSteps := 4000000) only [↓sP, sA, tyS, simprocAttr]
     repeat refine AI ?_
     refine hK _ _ _ ?_
     clear hK K
     refine hw_seq fun K hK => ?_
     refine hw_cond (b := decide ((j : Int) < qs.length)) rfl (fun hb => ?_) (fun hb => ?_)
     ·
      have hjt : j < qs.length := by simpa using hb
      have hqj := hq _ (List.getElem_mem hjt)
      clear hb
      refine hw_skip ?_
      simp (maxSteps := 4000000) only [↓sP, sA, tyS, simprocAttr]
      repeat refine AI ?_
      refine hK _ _ _ ?_
      clear hK K
      refine hw_seq fun K hK => ?_
      refine hw_block ?_
      refine hw_seq fun K hK => hw_region (by kernel_rfl) ?_
      simp only [sR, simprocAttr]
      iterate 4
       (refine hlex_step (g := none) rfl rfl fun K' hK' => ?_; simp only [sH, ↓sP, sA, tyS, simprocAttr, Int.natCast_nonneg, Int.ofNat_lt, hjt, nth_map hjt, sAk, h1_21, h1_26]; (repeat refine AI ?_); refine hK' _ _ ?_; clear hK' K')
      simp only [sE, ↓reduceIte, simprocAttr]
      repeat refine AI ?_
      refine hK _ _ _ ?_
      clear hK K
      refine hw_seq fun K hK => ?_
      refine hw_seq fun K hK => hw_draw2 mixed [(0, [], []), (1, [], []), (2, [], []), (3, [], []), (4, [], []), (5, [], []), (6, [], []), (8, [], []), (9, [], []), (10, [], []), (11, [], []), (12, [], []), (13, [], []), (14, [], []), (7, [], [8, 9, 10, 11, 12, 13, 14]), (15, [], []), (16, [], []), (17, [], []), (18, [], []), (19, [], []), (20, [], []), (21, [], []), (23, [], []), (24, [], []), (25, [], []), (22, [], [23, 24, 25]), (26, [], []), (27, [], []), (28, [], []), (29, [], []), (30, [], []), (31, [], []), (32, [], []), (33, [], []), (34, [], []), (35, [], []), (36, [], []), (38, [], []), (39, [], []), (40, [], []), (41, [], []), (42, [], []), (43, [], []), (44, [], []), (37, [], [38, 39, 40, 41, 42, 43, 44]), (45, [], []), (46, [], []), (47, [], [])] [0, 0, 2, 0, 8, 0, 32, 127, 0, 0, 512, 0, 2048, 0, 8192, 32767, 65535, 131071, 262143, 524287, 524287, 1572863, 4194303, 524287, 524287, 17301503, 67108863, 134217727, 268435455, 536870911, 1073741823, 1073741823, 3221225471, 1073741823, 9663676415, 1073741823, 35433480191, 137438953471, 1073741823, 1073741823, 550829555711, 1073741823, 2200096997375, 1073741823, 8797166764031, 35184372088831, 70368744177663, 140737488355327] (by kernel_rfl) (by kernel_rfl) (by kernel_rfl) (by kernel_rfl) rfl (by kernel_rfl) ?_
      iterate 14
       (refine hwalk2_step (g := none) rfl rfl fun K' hK' => ?_; simp only [sH, ↓sP, sA, tyS, simprocAttr, sAk, beq_self_eq_true, bne_self_eq_false, Bool.not_true, Bool.not_false, denilL_dg, h1_21, h1_26]; (repeat refine AI ?_); refine hK' _ _ ?_; clear hK' K')
      refine hwalk2_step (g := none) rfl rfl fun K' hK' => ?_
      simp (maxSteps := 4000000) only [sH, ↓sP, sA, tyS, simprocAttr, sAk, beq_self_eq_true, bne_self_eq_false, Bool.not_true, Bool.not_false, denilL_dg, h1_21, h1_26]
      refine call_pure (args := [_, _, _, _]) (vouched_ok rs[i] qs[j].r qs[j].k qs[j].t hr (by omega)) ⟨rfl, rfl, rfl, rfl⟩ ?_
      rintro u rfl
      repeat refine AI ?_
      refine hK' _ _ ?_
      clear hK' K'
      refine hwalk2_step (g := none) rfl rfl fun K' hK' => ?_
      simp (maxSteps := 4000000) only [sH, ↓sP, sA, tyS, simprocAttr, sAk, beq_self_eq_true, bne_self_eq_false, Bool.not_true, Bool.not_false, denilL_dg, h1_21, h1_26]
      refine call_pure (args := [_, _, _, _]) (rvouched_ok rs[i] qs[j].r qs[j].k qs[j].t hr (by omega)) ⟨rfl, rfl, rfl, rfl⟩ ?_
      rintro u rfl
      repeat refine AI ?_
      refine hK' _ _ ?_
      clear hK' K'
      refine hwalk2_step (g := none) rfl rfl fun K' hK' => ?_
      simp (maxSteps := 4000000) only [sH, ↓sP, sA, tyS, simprocAttr, sAk, beq_self_eq_true, bne_self_eq_false, Bool.not_true, Bool.not_false, denilL_dg, h1_21, h1_26]
      refine call_pure (args := [_, _]) (same_ok (vouched rs[i] qs[j].r qs[j].k qs[j].t) _ (by rw [← rvouched_eq]; unfold rvouched; have := rvL_len rs[i] qs[j].r qs[j].t qs[j].k; split; omega; simp)) ⟨rfl, rfl, rfl, rfl⟩ ?_
      rintro u rfl
      repeat refine AI ?_
      refine hK' _ _ ?_
      clear hK' K'
      iterate 2
       (refine hwalk2_step (g := none) rfl rfl fun K' hK' => ?_; simp only [sH, ↓sP, sA, tyS, simprocAttr, sAk, beq_self_eq_true, bne_self_eq_false, Bool.not_true, Bool.not_false, denilL_dg, h1_21, h1_26]; (repeat refine AI ?_); refine hK' _ _ ?_; clear hK' K')
      iterate 6
       (refine hwalk2_step (g := some (81, false)) rfl rfl fun K' hK' => ?_; simp only [sH, ↓sP, sA, tyS, simprocAttr, sAk, beq_self_eq_true, bne_self_eq_false, Bool.not_true, Bool.not_false, denilL_dg, h1_21, h1_26]; (repeat refine AI ?_); refine hK' _ _ ?_; clear hK' K')
      refine hwalk2_step (g := some (81, false)) rfl rfl fun K' hK' => ?_
      simp (maxSteps := 4000000) only [sH, ↓sP, sA, tyS, simprocAttr, sAk, beq_self_eq_true, bne_self_eq_false, Bool.not_true, Bool.not_false, denilL_dg, h1_21, h1_26]
      refine call_pure (args := [_, _]) (tneed_ok rs[i] qs[j].r hr) ⟨rfl, rfl, rfl, rfl⟩ ?_
      rintro u rfl
      repeat refine AI ?_
      refine hK' _ _ ?_
      clear hK' K'
      refine hwalk2_step (g := some (81, false)) rfl rfl fun K' hK' => ?_
      simp (maxSteps := 4000000) only [sH, ↓sP, sA, tyS, simprocAttr, sAk, beq_self_eq_true, bne_self_eq_false, Bool.not_true, Bool.not_false, denilL_dg, h1_21, h1_26]
      refine call_pure (args := [_, _]) (rneed_ok rs[i] qs[j].r hr) ⟨rfl, rfl, rfl, rfl⟩ ?_
      rintro u rfl
      repeat refine AI ?_
      refine hK' _ _ ?_
      clear hK' K'
      refine hwalk2_step (g := some (81, false)) rfl rfl fun K' hK' => ?_
      simp (maxSteps := 4000000) only [sH, ↓sP, sA, tyS, simprocAttr, sAk, beq_self_eq_true, bne_self_eq_false, Bool.not_true, Bool.not_false, denilL_dg, h1_21, h1_26]
      repeat refine AI ?_
      refine hK' _ _ ?_
      clear hK' K'
      iterate 2
       (refine hwalk2_step (g := none) rfl rfl fun K' hK' => ?_; simp only [sH, ↓sP, sA, tyS, simprocAttr, sAk, beq_self_eq_true, bne_self_eq_false, Bool.not_true, Bool.not_false, denilL_dg, h1_21, h1_26]; (repeat refine AI ?_); refine hK' _ _ ?_; clear hK' K')
      iterate 14
       (refine hwalk2_step (g := some (92, false)) rfl rfl fun K' hK' => ?_; simp only [sH, ↓sP, sA, tyS, simprocAttr, sAk, beq_self_eq_true, bne_self_eq_false, Bool.not_true, Bool.not_false, denilL_dg, h1_21, h1_26]; (repeat refine AI ?_); refine hK' _ _ ?_; clear hK' K')
      refine hwalk2_step (g := some (92, false)) rfl rfl fun K' hK' => ?_
      simp (maxSteps := 4000000) only [sH, ↓sP, sA, tyS, simprocAttr, sAk, beq_self_eq_true, bne_self_eq_false, Bool.not_true, Bool.not_false, denilL_dg, h1_21, h1_26]
      refine call_pure (args := [_, _, _, _]) (enough_ok rs[i] qs[j].r qs[j].k qs[j].t hr (by omega)) ⟨rfl, rfl, rfl, rfl⟩ ?_
      rintro u rfl
      repeat refine AI ?_
      refine hK' _ _ ?_
      clear hK' K'
      refine hwalk2_step (g := some (92, false)) rfl rfl fun K' hK' => ?_
      simp (maxSteps := 4000000) only [sH, ↓sP, sA, tyS, simprocAttr, sAk, beq_self_eq_true, bne_self_eq_false, Bool.not_true, Bool.not_false, denilL_dg, h1_21, h1_26]
      refine call_pure (args := [_, _, _, _]) (renough_ok rs[i] qs[j].r qs[j].k qs[j].t hr (by omega)) ⟨rfl, rfl, rfl, rfl⟩ ?_
      rintro u rfl
      repeat refine AI ?_
      refine hK' _ _ ?_
      clear hK' K'
      refine hwalk2_step (g := some (92, false)) rfl rfl fun K' hK' => ?_
      simp (maxSteps := 4000000) only [sH, ↓sP, sA, tyS, simprocAttr, sAk, beq_self_eq_true, bne_self_eq_false, Bool.not_true, Bool.not_false, denilL_dg, h1_21, h1_26]
      repeat refine AI ?_
      refine hK' _ _ ?_
      clear hK' K'
      refine hwalk2_step (g := none) rfl rfl fun K' hK' => ?_
      simp (maxSteps := 4000000) only [sH, ↓sP, sA, tyS, simprocAttr, sAk, beq_self_eq_true, bne_self_eq_false, Bool.not_true, Bool.not_false, denilL_dg, h1_21, h1_26]
      repeat refine AI ?_
      refine hK' _ _ ?_
      clear hK' K'
      simp only [sE, ↓reduceIte, simprocAttr]
      repeat refine AI ?_
      refine hK _ _ _ ?_
      clear hK K
      refine hw_cond (b := false) rfl (fun hb => ?_) (fun hb => ?_)
      ·
       cases hb
      ·
       refine hw_skip ?_
       simp (maxSteps := 4000000) only [↓sP, sA, tyS, simprocAttr]
       repeat refine AI ?_
       refine hK _ _ _ ?_
       clear hK K
       refine hw_seq fun K hK => hw_region (by kernel_rfl) ?_
       simp (maxSteps := 4000000) only [↓sP, sA, tyS, simprocAttr]
       repeat refine AI ?_
       refine hK _ _ _ ?_
       clear hK K
       refine hw_block ?_
       refine hw_loop (α := {m : Nat // m ≤ qs[j].k.length}) (fun m => (fin [(8, .c (.slc (qs.map Ak.cv))), (10, .ptr 312 0), (12, .ptr 412 0), (13, .c (.int .i64 m.1)), (51, .c (.slc (rs.map Rt.cv))), (52, .c (.int .i64 rs.length)), (53, .c (.int .i64 i)), (57, .c (.slc (qs.map Ak.cv))), (58, .c (.int .i64 qs.length)), (59, .c (.int .i64 j))], fob [(312, .box 26 (.c rs[i].cv)), (412, .box 29 (.c qs[j].cv))])) 1000 (fun m => qs[j].k.length - m.1) ⟨0, by omega⟩ (fits_fin (by omega) (by simp [FinOk, fin_at, finA_at, upd_at, HV.men, HV.menL, HV.norm, HV.toC, HV.toCL]) (by simp [FobOk, fob_at, upd_at, none0_at, gone, HO.men, HV.men, HV.menL, HV.norm, HV.toC, HV.toCL])) ?_
       rintro ⟨m, hm⟩
       refine hw_seq fun K hK => ?_
       refine hw_seq fun K hK => hw_region (by kernel_rfl) ?_
       simp only [sR, simprocAttr]
       iterate 5
        (refine hlex_step (g := none) rfl rfl fun K' hK' => ?_; simp only [sH, ↓sP, sA, tyS, simprocAttr, sAk, h1_21, h1_26]; (repeat refine AI ?_); refine hK' _ _ ?_; clear hK' K')
       simp only [sE, ↓reduceIte, simprocAttr]
       repeat refine AI ?_
       refine hK _ _ _ ?_
       clear hK K
       refine hw_cond (b := decide ((m : Int) < qs[j].k.length)) rfl (fun hb => ?_) (fun hb => ?_)
       ·
        have hmt : m < qs[j].k.length := by simpa using hb
        clear hb
        refine hw_skip ?_
        simp (maxSteps := 4000000) only [↓sP, sA, tyS, simprocAttr]
        repeat refine AI ?_
        refine hK _ _ _ ?_
        clear hK K
        refine hw_seq fun K hK => ?_
        refine hw_block ?_
        refine hw_seq fun K hK => hw_draw2 mixed [(0, [], []), (1, [], []), (2, [], []), (3, [], []), (4, [], []), (5, [], []), (10, [], []), (6, [10], [10]), (7, [10], []), (8, [10], []), (9, [10], []), (11, [], [9]), (12, [], [])] [0, 0, 2, 0, 14, 30, 63, 127, 255, 255, 0, 1535, 4095] (by kernel_rfl) (by kernel_rfl) (by kernel_rfl) (by kernel_rfl) rfl (by kernel_rfl) ?_
        iterate 7
         (refine hwalk2_step (g := none) rfl rfl fun K' hK' => ?_; simp only [sH, ↓sP, sA, tyS, simprocAttr, sAk, Int.natCast_nonneg, Int.ofNat_lt, hmt, nth_map hmt, h1_21, h1_26]; (repeat refine AI ?_); refine hK' _ _ ?_; clear hK' K')
        refine hwalk2_step (g := none) rfl rfl fun K' hK' => ?_
        simp (maxSteps := 4000000) only [sH, ↓sP, sA, tyS, simprocAttr, sAk, Int.natCast_nonneg, Int.ofNat_lt, hmt, nth_map hmt, h1_21, h1_26]
        refine call_pure2 (args := [_, _]) (find_ok rs[i] qs[j].k[m] hr) ⟨rfl, rfl, rfl, rfl⟩ ?_
        rintro u v ⟨rfl, rfl⟩
        repeat refine AI ?_
        refine hK' _ _ ?_
        clear hK' K'
        iterate 5
         (refine hwalk2_step (g := none) rfl rfl fun K' hK' => ?_; simp only [sH, ↓sP, sA, tyS, simprocAttr, sAk, Int.natCast_nonneg, Int.ofNat_lt, hmt, nth_map hmt, h1_21, h1_26]; (repeat refine AI ?_); refine hK' _ _ ?_; clear hK' K')
        simp only [sE, ↓reduceIte, simprocAttr]
        repeat refine AI ?_
        refine hK _ _ _ ?_
        clear hK K
        refine hw_seq fun K hK => hw_draw2 mixed [(0, [], []), (1, [], []), (2, [], []), (3, [], []), (4, [], []), (5, [], []), (10, [], []), (6, [10], [10]), (7, [10], []), (8, [10], []), (9, [10], []), (11, [], [9]), (12, [], [])] [0, 0, 2, 0, 14, 30, 63, 127, 255, 255, 0, 1535, 4095] (by kernel_rfl) (by kernel_rfl) (by kernel_rfl) (by kernel_rfl) rfl (by kernel_rfl) ?_
        iterate 7
         (refine hwalk2_step (g := none) rfl rfl fun K' hK' => ?_; simp only [sH, ↓sP, sA, tyS, simprocAttr, sAk, Int.natCast_nonneg, Int.ofNat_lt, hmt, nth_map hmt, h1_21, h1_26]; (repeat refine AI ?_); refine hK' _ _ ?_; clear hK' K')
        refine hwalk2_step (g := none) rfl rfl fun K' hK' => ?_
        simp (maxSteps := 4000000) only [sH, ↓sP, sA, tyS, simprocAttr, sAk, Int.natCast_nonneg, Int.ofNat_lt, hmt, nth_map hmt, h1_21, h1_26]
        refine call_pure2 (args := [_, _]) (rfind_ok rs[i] qs[j].k[m] hr) ⟨rfl, rfl, rfl, rfl⟩ ?_
        rintro u v ⟨rfl, rfl⟩
        repeat refine AI ?_
        refine hK' _ _ ?_
        clear hK' K'
        iterate 5
         (refine hwalk2_step (g := none) rfl rfl fun K' hK' => ?_; simp only [sH, ↓sP, sA, tyS, simprocAttr, sAk, Int.natCast_nonneg, Int.ofNat_lt, hmt, nth_map hmt, h1_21, h1_26]; (repeat refine AI ?_); refine hK' _ _ ?_; clear hK' K')
        simp only [sE, ↓reduceIte, simprocAttr]
        repeat refine AI ?_
        refine hK _ _ _ ?_
        clear hK K
        refine hw_seq fun K hK => hw_draw2 mixed [(0, [], []), (1, [], []), (2, [], []), (3, [], []), (4, [], []), (5, [], []), (6, [], []), (7, [], []), (8, [], []), (9, [], []), (10, [], []), (11, [], []), (12, [], []), (13, [], []), (14, [], []), (15, [], []), (16, [], []), (17, [], []), (19, [], []), (20, [], []), (21, [], []), (22, [], []), (23, [], []), (24, [], []), (25, [], []), (26, [], []), (18, [], [19, 20, 21, 22, 23, 24, 25, 26]), (27, [], []), (28, [], []), (29, [], [])] [0, 0, 3, 7, 15, 15, 63, 127, 255, 511, 1023, 1023, 3071, 1023, 15359, 31743, 1023, 66559, 262143, 1023, 1023, 1049599, 1023, 7341055, 15729663, 1023, 33555455, 134217727, 268435455, 536870911] (by kernel_rfl) (by kernel_rfl) (by kernel_rfl) (by kernel_rfl) rfl (by kernel_rfl) ?_
        iterate 4
         (refine hwalk2_step (g := none) rfl rfl fun K' hK' => ?_; simp only [sH, ↓sP, sA, tyS, simprocAttr, sAk, Int.natCast_nonneg, Int.ofNat_lt, hmt, nth_map hmt, beq_self_eq_true, bne_self_eq_false, Bool.not_true, Bool.not_false, h1_21, h1_26]; (repeat refine AI ?_); refine hK' _ _ ?_; clear hK' K')
        iterate 2
         (refine hwalk2_step (g := some (141, false)) rfl rfl fun K' hK' => ?_; simp only [sH, ↓sP, sA, tyS, simprocAttr, sAk, Int.natCast_nonneg, Int.ofNat_lt, hmt, nth_map hmt, beq_self_eq_true, bne_self_eq_false, Bool.not_true, Bool.not_false, h1_21, h1_26]; (repeat refine AI ?_); refine hK' _ _ ?_; clear hK' K')
        refine hwalk2_step (g := some (141, false)) rfl rfl fun K' hK' => ?_
        simp (maxSteps := 4000000) only [sH, ↓sP, sA, tyS, simprocAttr, sAk, Int.natCast_nonneg, Int.ofNat_lt, hmt, nth_map hmt, beq_self_eq_true, bne_self_eq_false, Bool.not_true, Bool.not_false, h1_21, h1_26]
        refine call_pure (args := [_, _]) (samekey_ok ((findK rs[i].k qs[j].k[m]).getD k0) (fK_sz hr _)) ⟨rfl, rfl, rfl, rfl⟩ ?_
        rintro u rfl
        repeat refine AI ?_
        refine hK' _ _ ?_
        clear hK' K'
        refine hwalk2_step (g := some (141, false)) rfl rfl fun K' hK' => ?_
        simp (maxSteps := 4000000) only [sH, ↓sP, sA, tyS, simprocAttr, sAk, Int.natCast_nonneg, Int.ofNat_lt, hmt, nth_map hmt, beq_self_eq_true, bne_self_eq_false, Bool.not_true, Bool.not_false, h1_21, h1_26]
        repeat refine AI ?_
        refine hK' _ _ ?_
        clear hK' K'
        iterate 2
         (refine hwalk2_step (g := none) rfl rfl fun K' hK' => ?_; simp only [sH, ↓sP, sA, tyS, simprocAttr, sAk, Int.natCast_nonneg, Int.ofNat_lt, hmt, nth_map hmt, beq_self_eq_true, bne_self_eq_false, Bool.not_true, Bool.not_false, h1_21, h1_26]; (repeat refine AI ?_); refine hK' _ _ ?_; clear hK' K')
        iterate 16
         (refine hwalk2_step (g := some (147, false)) rfl rfl fun K' hK' => ?_; simp only [sH, ↓sP, sA, tyS, simprocAttr, sAk, Int.natCast_nonneg, Int.ofNat_lt, hmt, nth_map hmt, beq_self_eq_true, bne_self_eq_false, Bool.not_true, Bool.not_false, h1_21, h1_26]; (repeat refine AI ?_); refine hK' _ _ ?_; clear hK' K')
        refine hwalk2_step (g := some (147, false)) rfl rfl fun K' hK' => ?_
        simp (maxSteps := 4000000) only [sH, ↓sP, sA, tyS, simprocAttr, sAk, Int.natCast_nonneg, Int.ofNat_lt, hmt, nth_map hmt, beq_self_eq_true, bne_self_eq_false, Bool.not_true, Bool.not_false, h1_21, h1_26]
        refine call_pure (args := [_, _, _]) (counts_ok rs[i] qs[j].k[m] qs[j].t hr) ⟨rfl, rfl, rfl, rfl⟩ ?_
        rintro u rfl
        repeat refine AI ?_
        refine hK' _ _ ?_
        clear hK' K'
        refine hwalk2_step (g := some (147, false)) rfl rfl fun K' hK' => ?_
        simp (maxSteps := 4000000) only [sH, ↓sP, sA, tyS, simprocAttr, sAk, Int.natCast_nonneg, Int.ofNat_lt, hmt, nth_map hmt, beq_self_eq_true, bne_self_eq_false, Bool.not_true, Bool.not_false, h1_21, h1_26]
        refine call_pure (args := [_, _, _]) (rcounts_ok rs[i] qs[j].k[m] qs[j].t hr) ⟨rfl, rfl, rfl, rfl⟩ ?_
        rintro u rfl
        repeat refine AI ?_
        refine hK' _ _ ?_
        clear hK' K'
        refine hwalk2_step (g := some (147, false)) rfl rfl fun K' hK' => ?_
        simp (maxSteps := 4000000) only [sH, ↓sP, sA, tyS, simprocAttr, sAk, Int.natCast_nonneg, Int.ofNat_lt, hmt, nth_map hmt, beq_self_eq_true, bne_self_eq_false, Bool.not_true, Bool.not_false, h1_21, h1_26]
        repeat refine AI ?_
        refine hK' _ _ ?_
        clear hK' K'
        refine hwalk2_step (g := none) rfl rfl fun K' hK' => ?_
        simp (maxSteps := 4000000) only [sH, ↓sP, sA, tyS, simprocAttr, sAk, Int.natCast_nonneg, Int.ofNat_lt, hmt, nth_map hmt, beq_self_eq_true, bne_self_eq_false, Bool.not_true, Bool.not_false, h1_21, h1_26]
        repeat refine AI ?_
        refine hK' _ _ ?_
        clear hK' K'
        simp only [sE, ↓reduceIte, simprocAttr]
        repeat refine AI ?_
        refine hK _ _ _ ?_
        clear hK K
        refine hw_cond (b := false) rfl (fun hb => ?_) (fun hb => ?_)
        ·
         cases hb
        ·
         refine hw_skip ?_
         simp (maxSteps := 4000000) only [↓sP, sA, tyS, simprocAttr]
         repeat refine AI ?_
         refine hK _ _ _ ?_
         clear hK K
         refine hw_region (by kernel_rfl) ?_
         simp (maxSteps := 4000000) only [↓sP, sA, tyS, simprocAttr, IntWalk.i64_in _ (show -9223372036854775808 ≤ (m : Int) + 1 ∧ (m : Int) + 1 ≤ 9223372036854775807 by omega)]
         refine ⟨⟨m + 1, hmt⟩, fits_fin (by omega) (by simp [FinOk, fin_at, finA_at, upd_at, HV.men, HV.menL, HV.norm, HV.toC, HV.toCL]) (by simp [FobOk, fob_at, upd_at, none0_at, gone, HO.men, HV.men, HV.menL, HV.norm, HV.toC, HV.toCL]), ?_⟩
         show qs[j].k.length - (m + 1) < qs[j].k.length - m
         omega
       ·
        refine hw_exit ?_
        simp (maxSteps := 4000000) only [↓sP, sA, tyS, simprocAttr]
        clear hK K
        repeat refine AI ?_
        refine hK _ _ _ ?_
        clear hK K
        refine hw_region (by kernel_rfl) ?_
        simp (maxSteps := 4000000) only [↓sP, sA, tyS, simprocAttr, IntWalk.i64_in _ (show -9223372036854775808 ≤ (j : Int) + 1 ∧ (j : Int) + 1 ≤ 9223372036854775807 by omega)]
        refine ⟨⟨j + 1, hjt⟩, fits_fin (by omega) (by simp [FinOk, fin_at, finA_at, upd_at, HV.men, HV.menL, HV.norm, HV.toC, HV.toCL]) (by simp [FobOk, fob_at, upd_at, none0_at, gone, HO.men, HV.men, HV.menL, HV.norm, HV.toC, HV.toCL]), ?_⟩
        show qs.length - (j + 1) < qs.length - j
        omega
     ·
      refine hw_exit ?_
      simp (maxSteps := 4000000) only [↓sP, sA, tyS, simprocAttr]
      clear hK K
      repeat refine AI ?_
      refine hK _ _ _ ?_
      clear hK K
      refine hw_region (by kernel_rfl) ?_
      simp (maxSteps := 4000000) only [↓sP, sA, tyS, simprocAttr, IntWalk.i64_in _ (show -9223372036854775808 ≤ (i : Int) + 1 ∧ (i : Int) + 1 ≤ 9223372036854775807 by omega)]
      refine ⟨⟨i + 1, hlt⟩, fits_fin (by omega) (by simp [FinOk, fin_at, finA_at, upd_at, HV.men, HV.menL, HV.norm, HV.toC, HV.toCL]) (by simp [FobOk, fob_at, upd_at, none0_at, gone, HO.men, HV.men, HV.menL, HV.norm, HV.toC, HV.toCL]), ?_⟩
      show rs.length - (i + 1) < rs.length - i
      omega
    ·
     refine hw_exit ?_
     simp (maxSteps := 4000000) only [↓sP, sA, tyS, simprocAttr]
     clear hK K
     repeat refine AI ?_
     refine hK _ _ _ ?_
     clear hK K
     refine hw_seq fun K hK => hw_region (by kernel_rfl) ?_
     simp only [sR, simprocAttr]
     refine hlex_step (g := none) rfl rfl fun K' hK' => ?_
     simp (maxSteps := 4000000) only [sH, ↓sP, sA, tyS, simprocAttr, h1_21, h1_26]
     refine call_pure (args := []) awake_ok ⟨rfl, rfl, rfl, rfl⟩ ?_
     rintro u rfl
     repeat refine AI ?_
     refine hK' _ _ ?_
     clear hK' K'
     refine hlex_step (g := none) rfl rfl fun K' hK' => ?_
     simp (maxSteps := 4000000) only [sH, ↓sP, sA, tyS, simprocAttr, h1_21, h1_26]
     repeat refine AI ?_
     refine hK' _ _ ?_
     clear hK' K'
     simp only [sE, ↓reduceIte, simprocAttr]
     repeat refine AI ?_
     refine hK _ _ _ ?_
     clear hK K
     refine hw_ret ?_
     simp (maxSteps := 4000000) only [hpost, Tryz.results3, hresL, hres1, tupOf, ↓sP, sA, tyS, simprocAttr]
     exact hret_pure [] (.bool true) rfl rfl

end Go.Proofs.YtackchmdajdlaaaGreat

namespace Go.Proofs.YtackchmdajdlaaaGreat
open Go Go.Hl Go.Pl
set_option linter.unusedVariables false
set_option maxRecDepth 100000

theorem trustVouches_contract (H : Type) (enc : TypeId × Value → H) (W : World) (base : Nat) (args : Array Value) (ds gs : List (DataW H)) (before : List MemPlace)
    (hval : ∀ (j : Nat) t v, Tryz.f3.params[j]? = some t → args[j]? = some v → Value.okWide Tryz.prog W .any base t v)
    (hW : DataW.Whole enc Tryz.prog Tryz.f3.params.toList Rows.trustVouchesSpec.vars false W args.toList ds gs before) :
    Calls Tryz.prog 3 args W fun e W' => ∃ v, e = .returned v ∧ Rows.trustVouchesSpec.post enc Tryz.prog Tryz.f3 false true false false W args v W' := by
  refine law_post (mm := 6) (tb := 4) (by kernel_rfl) kids slicesFull rfl (by kernel_rfl) Tryz.underlying4 ?_ ?_ ?_ (fun j t v h1 h2 => ?_) hW
  · rw [Tryz.params3]
    intro H ds h
    match ds, h with
    | [c0, c1, c2], _ => exact ⟨rfl, rfl, rfl⟩
  · rw [Tryz.params3]
    intro t ht
    simp only [List.mem_cons, List.not_mem_nil, or_false] at ht
    rcases ht with rfl | rfl | rfl
    · exact ⟨by kernel_rfl, of_decide_eq_true (by kernel_rfl)⟩
    · exact ⟨by kernel_rfl, of_decide_eq_true (by kernel_rfl)⟩
    · exact ⟨by kernel_rfl, of_decide_eq_true (by kernel_rfl)⟩
  · rw [Tryz.params3]
    intro cs hn hty
    match cs, hn, hty with
    | [c0, c1, c2], _, hty =>
      obtain ⟨raw, rfl, hraw⟩ := of_root (hty 0 _ c0 rfl rfl)
      obtain ⟨x, rfl⟩ := of_ask (hty 1 _ c1 rfl rfl)
      obtain ⟨L, rfl, hw, hl⟩ := of_ints (hty 2 _ c2 rfl rfl)
      exact vouches_law raw hraw x L
  · exact hval j t v h1 h2

open Go.ChangeShapes Go.WideShapes Go.ChangeAt Go.RowKit in
set_option maxRecDepth 100000 in
theorem trustVouches_lifted (os : Os) (started : os.Started) (H : Type) (enc : TypeId × Value → H) :
    ReturnsInHanded {} Tryz.checked os 3 .any (Rows.trustVouchesSpec.pre6 enc Tryz.prog Tryz.f3 Rows.trustVouchesRow.domain false) (Rows.trustVouchesSpec.post enc Tryz.prog Tryz.f3 false true false false) := by
  refine returnsInHanded_of_change (C := Tryz.checked) own started (by kernel_rfl) Tryz.func3
    (ChangeSpec.witness6 (enc := enc) (C := Tryz.checked) false ⟨#[], #[.agg #[.int .i64 0, .int .i64 0, .slice none 0 0, .slice none 0 0, .slice none 0 0], .agg #[.string .empty, .slice none 0 0, .int .i64 0], .slice none 0 0], []⟩ 8 (by kernel_rfl) (by kernel_rfl) (by kernel_rfl) (by kernel_rfl)) ?_
  intro W base args ds gs before hval hW _ _
  exact trustVouches_contract H enc W base args ds gs before hval hW

theorem trustVouches_said : Rows.TrustVouchesSaid :=
  OpenClaim.holds_of_wide 3 Tryz.f3 rfl rfl rfl rfl rfl rfl rfl ⟨rfl, rfl, rfl, rfl, rfl⟩ rfl rfl rfl rfl rfl (by kernel_rfl) Tryz.func3 (by kernel_rfl)
    (of_decide_eq_true (by kernel_rfl)) (by unfold Func.isWrapper; first | (rw [if_pos (by decide +kernel)]; kernel_rfl) | (rw [if_neg (by decide +kernel)]; exact ⟨rfl, rfl⟩))
    (fun os started H enc _ => trustVouches_lifted os started H enc)
#print axioms trustVouches_said
end Go.Proofs.YtackchmdajdlaaaGreat
