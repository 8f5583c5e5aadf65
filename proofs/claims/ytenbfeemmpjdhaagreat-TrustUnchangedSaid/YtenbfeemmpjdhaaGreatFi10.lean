/- TrustUnchanged: for any tape of numbers and any time the law returns true and leaves the tape as it was: a change of the root document that names none of the keys of a document, not its role, and not all, changes neither who vouches for it nor whether they are enough. No condition. By an AI agent. -/
import Derived.Test.YtenbfeemmpjdhaaGreatHxTt
import Derived.Test.YtenbfeemmpjdhaaGreatHxSb
import Derived.Test.YtenbfeemmpjdhaaGreatHlZb
import Derived.Test.YtenbfeemmpjdhaaGreatRows
set_option linter.unusedSimpArgs false
set_option linter.unusedVariables false
set_option linter.defProp false
namespace Go.Proofs.YtenbfeemmpjdhaaGreat
open Go Go.Hl Go.Pl
set_option maxRecDepth 10000
set_option maxHeartbeats 8000000
set_option linter.unusedSimpArgs false
set_option linter.unusedVariables false
attribute [local simp] tp

theorem changed_ok (a b : Rt) (ha : rSz a) (hb' : rSz b) : HPure3 Tryz.prog 10 [a.cv, b.cv] (fun u v x => ∃ (K : List Dig) (R : List Word) (z : Bool), u = .slc (K.map dg) ∧ v = .slc (R.map .str) ∧ x = .bool z ∧ chgOk a b K R z ∧ K.length ≤ 200 ∧ R.length ≤ 30) := by
 refine hfn_walk (args := [.c a.cv, .c b.cv]) Tryz.func10 rfl (by kernel_rfl) (locOk_nil [a.cv, b.cv]) (Nat.le_of_ble_eq_true rfl) ?_
 refine hw_seq fun K hK => hw_region (by kernel_rfl) ?_
 simp only [sR, simprocAttr]
 iterate 5
  (refine hlex_step (g := none) rfl rfl fun K' hK' => ?_; simp only [sH, ↓sP, sA, tyS, simprocAttr]; (repeat refine AI ?_); refine hK' _ _ ?_; clear hK' K')
 simp only [sE, ↓reduceIte, simprocAttr]
 repeat refine AI ?_
 refine hK _ _ _ ?_
 clear hK K
 refine hw_seq fun K hK => ?_
 refine hw_seq fun K hK => hw_region (by kernel_rfl) ?_
 simp only [sR, simprocAttr]
 refine hlex_step (g := none) rfl rfl fun K' hK' => ?_
 simp (maxSteps := 4000000) only [sH, ↓sP, sA, tyS, simprocAttr]
 repeat refine AI ?_
 refine hK' _ _ ?_
 clear hK' K'
 refine hlex_step (g := none) rfl rfl fun K' hK' => ?_
 simp (maxSteps := 4000000) only [sH, ↓sP, sA, tyS, simprocAttr]
 refine call_pure (args := [_]) (valid_ok a ha) ⟨rfl, rfl, rfl, rfl⟩ ?_
 rintro u rfl
 repeat refine AI ?_
 refine hK' _ _ ?_
 clear hK' K'
 iterate 2
  (refine hlex_step (g := none) rfl rfl fun K' hK' => ?_; simp only [sH, ↓sP, sA, tyS, simprocAttr]; (repeat refine AI ?_); refine hK' _ _ ?_; clear hK' K')
 refine hlex_cases 16 rfl (fun h1_16 => ?_) (fun h1_16 => ?_)
 ·
  refine hlex_step (g := some (18, false)) rfl rfl fun K' hK' => ?_
  simp (maxSteps := 4000000) only [sH, ↓sP, sA, tyS, simprocAttr, h1_16]
  repeat refine AI ?_
  refine hK' _ _ ?_
  clear hK' K'
  refine hlex_step (g := some (18, false)) rfl rfl fun K' hK' => ?_
  simp (maxSteps := 4000000) only [sH, ↓sP, sA, tyS, simprocAttr, h1_16]
  refine call_pure (args := [_]) (valid_ok b hb') ⟨rfl, rfl, rfl, rfl⟩ ?_
  rintro u rfl
  repeat refine AI ?_
  refine hK' _ _ ?_
  clear hK' K'
  refine hlex_step (g := some (18, false)) rfl rfl fun K' hK' => ?_
  simp (maxSteps := 4000000) only [sH, ↓sP, sA, tyS, simprocAttr, h1_16]
  repeat refine AI ?_
  refine hK' _ _ ?_
  clear hK' K'
  refine hlex_step (g := none) rfl rfl fun K' hK' => ?_
  simp (maxSteps := 4000000) only [sH, ↓sP, sA, tyS, simprocAttr, h1_16]
  repeat refine AI ?_
  refine hK' _ _ ?_
  clear hK' K'
  refine hlex_cases 20 rfl (fun h1_20 => ?_) (fun h1_20 => ?_)
  ·
   simp only [h1_20]
   simp only [sE, ↓reduceIte, simprocAttr]
   repeat refine AI ?_
   refine hK _ _ _ ?_
   clear hK K
   refine hw_cond (b := false) rfl (fun hb => ?_) (fun hb => ?_)
   ·
    cases hb
   refine hw_skip ?_
   simp (maxSteps := 4000000) only [↓sP, sA, tyS, simprocAttr]
   repeat refine AI ?_
   refine hK _ _ _ ?_
   clear hK K
   refine hw_seq fun K hK => ?_
   refine hw_seq fun K hK => hw_region (by kernel_rfl) ?_
   simp only [sR, simprocAttr]
   iterate 5
    (refine hlex_step (g := none) rfl rfl fun K' hK' => ?_; simp only [sH, ↓sP, sA, tyS, simprocAttr, h1_16, h1_20]; (repeat refine AI ?_); refine hK' _ _ ?_; clear hK' K')
   simp only [sE, ↓reduceIte, simprocAttr]
   repeat refine AI ?_
   refine hK _ _ _ ?_
   clear hK K
   refine hw_block ?_
   obtain ⟨ma, -, -, xa⟩ := rMid_of_valid h1_16
   obtain ⟨mb, -, -, xb⟩ := rMid_of_valid h1_20
   obtain ⟨rs, hrs⟩ : ∃ rs : List Rt, rs = [a, b] := ⟨_, rfl⟩
   have hrl : rs.length = 2 := by rw [hrs]; rfl
   have hsz : ∀ r ∈ rs, r.k.length ≤ 32 ∧ r.x.length ≤ 64 ∧ r.q.length ≤ 12 := by
    rw [hrs]; intro z hz
    simp only [List.mem_cons, List.not_mem_nil, or_false] at hz
    rcases hz with rfl | rfl
    ·
     exact ⟨ma.2.1.1, xa, ma.1.1⟩
    exact ⟨mb.2.1.1, xb, mb.1.1⟩
   refine hw_own 4 0 44 32 rfl rfl rfl rfl ?_
   refine hw_own 5 0 9 1 rfl rfl rfl rfl ?_
   refine hw_close [60] ?_
   refine hw_loop (α := {y : Nat × List Dig × List Word // y.1 ≤ rs.length ∧ y.2.1 = (rs.take y.1).flatMap idsR ∧ y.2.2 = (rs.take y.1).flatMap rolesR ∧ y.2.1.length ≤ 96 * y.1 ∧ y.2.2.length ≤ 12 * y.1}) (fun y => (fin [(2, .ptr 0 0), (3, .ptr 4 0), (4, .own 72 y.1.2.1.length), (5, .own 73 y.1.2.2.length), (25, .c (.slc (rs.map Rt.cv))), (26, .c (.int .i64 rs.length)), (27, .c (.int .i64 y.1.1))], fob [(0, .box 30 (.c a.cv)), (4, .box 30 (.c b.cv)), (72, .row 44 32 (y.1.2.1.map dg)), (73, .row 9 1 (y.1.2.2.map .str))])) 100 (fun y => rs.length - y.1.1) ⟨(0, [], []), by simp, by simp, by simp, by simp, by simp⟩ (fits_fin (by omega) (by simp [FinOk, clF_at, fin_at, finA_at, upd_at, fob_at, HV.close, HV.closeL, CV.denil, CV.denilL, denilL_str, denilL_dg, HV.men, HV.menL, HV.norm, HV.toC, HV.toCL, Rt.denil, hrs]) (by simp [FobOk, clO_at, fob_at, upd_at, none0_at, gone, HO.close, HV.close, HV.closeL, HO.men, HV.men, HV.menL, HV.norm, HV.toC, HV.toCL, Rt.denil, hrs])) ?_
   rintro ⟨⟨i, A, B⟩, hi, hA, hB, lA, lB⟩
   simp only at hi hA hB lA lB ⊢
   refine hw_seq fun K hK => hw_region (by kernel_rfl) ?_
   simp (maxSteps := 4000000) only [↓sP, sA, tyS, simprocAttr]
   repeat refine AI ?_
   refine hK _ _ _ ?_
   clear hK K
   refine hw_seq fun K hK => ?_
   refine hw_cond (b := decide ((i : Int) < rs.length)) rfl (fun hb => ?_) (fun hb => ?_)
   ·
    have hlt : i < rs.length := by simpa using hb
    clear hb
    obtain ⟨r, hr⟩ : ∃ r, r = rs[i] := ⟨_, rfl⟩
    have hrn : nth (rs.map Rt.cv) i = r.cv := by rw [nth_map hlt, hr]
    obtain ⟨s1, s2, s3⟩ := hsz r (by rw [hr]; exact List.getElem_mem hlt)
    refine hw_skip ?_
    simp (maxSteps := 4000000) only [↓sP, sA, tyS, simprocAttr]
    repeat refine AI ?_
    refine hK _ _ _ ?_
    clear hK K
    refine hw_seq fun K hK => ?_
    refine hw_block ?_
    refine hw_seq fun K hK => hw_region (by kernel_rfl) ?_
    simp only [sR, simprocAttr]
    iterate 4
     (refine hlex_step (g := none) rfl rfl fun K' hK' => ?_; simp only [sH, ↓sP, sA, tyS, simprocAttr, Int.natCast_nonneg, Int.ofNat_lt, hlt, hrn, Rt.cells, h1_16, h1_20]; (repeat refine AI ?_); refine hK' _ _ ?_; clear hK' K')
    simp only [sE, ↓reduceIte, simprocAttr]
    repeat refine AI ?_
    refine hK _ _ _ ?_
    clear hK K
    refine hw_seq fun K hK => ?_
    refine hw_seq fun K hK => hw_region (by kernel_rfl) ?_
    simp only [sR, simprocAttr]
    iterate 4
     (refine hlex_step (g := none) rfl rfl fun K' hK' => ?_; simp only [sH, ↓sP, sA, tyS, simprocAttr, h1_16, h1_20]; (repeat refine AI ?_); refine hK' _ _ ?_; clear hK' K')
    simp only [sE, ↓reduceIte, simprocAttr]
    repeat refine AI ?_
    refine hK _ _ _ ?_
    clear hK K
    refine hw_block ?_
    refine hw_loop (α := {y : Nat × List Dig // y.1 ≤ r.k.length ∧ y.2 = A ++ (r.k.take y.1).map kid ∧ y.2.length = A.length + y.1}) (fun y => (fin [(2, .ptr 0 0), (3, .ptr 4 0), (4, .own 72 y.1.2.length), (5, .own 73 B.length), (8, .ptr 112 0), (25, .c (.slc (rs.map Rt.cv))), (26, .c (.int .i64 rs.length)), (27, .c (.int .i64 i)), (32, .c (.slc (r.k.map Ky.cv))), (33, .c (.int .i64 r.k.length)), (34, .c (.int .i64 y.1.1))], fob [(0, .box 30 (.c a.cv)), (4, .box 30 (.c b.cv)), (72, .row 44 32 (y.1.2.map dg)), (73, .row 9 1 (B.map .str)), (112, .box 30 (.c r.cv))])) 400 (fun y => r.k.length - y.1.1) ⟨(0, A), by simp, by simp, by simp⟩ (fits_fin (by omega) (by simp [FinOk, fin_at, finA_at, upd_at, HV.men, HV.menL, HV.norm, HV.toC, HV.toCL]) (by simp [FobOk, fob_at, upd_at, none0_at, gone, HO.men, HV.men, HV.menL, HV.norm, HV.toC, HV.toCL])) ?_
    rintro ⟨⟨j, M⟩, hj, hM, lM⟩
    simp only at hj hM lM ⊢
    refine hw_seq fun K hK => hw_region (by kernel_rfl) ?_
    simp (maxSteps := 4000000) only [↓sP, sA, tyS, simprocAttr]
    repeat refine AI ?_
    refine hK _ _ _ ?_
    clear hK K
    refine hw_seq fun K hK => ?_
    refine hw_cond (b := decide ((j : Int) < r.k.length)) rfl (fun hb => ?_) (fun hb => ?_)
    ·
     have hjt : j < r.k.length := by simpa using hb
     clear hb
     refine hw_skip ?_
     simp (maxSteps := 4000000) only [↓sP, sA, tyS, simprocAttr]
     repeat refine AI ?_
     refine hK _ _ _ ?_
     clear hK K
     refine hw_seq fun K hK => ?_
     refine hw_block ?_
     refine hw_seq fun K hK => hw_region (by kernel_rfl) ?_
     simp only [sR, simprocAttr]
     iterate 4
      (refine hlex_step (g := none) rfl rfl fun K' hK' => ?_; simp only [sH, ↓sP, sA, tyS, simprocAttr, Int.natCast_nonneg, Int.ofNat_lt, hjt, nth_map hjt, Ky.cells, h1_16, h1_20]; (repeat refine AI ?_); refine hK' _ _ ?_; clear hK' K')
     simp only [sE, ↓reduceIte, simprocAttr]
     repeat refine AI ?_
     refine hK _ _ _ ?_
     clear hK K
     refine hw_region (by kernel_rfl) ?_
     simp only [sR, simprocAttr]
     iterate 3
      (refine hlex_step (g := none) rfl rfl fun K' hK' => ?_; simp only [sH, ↓sP, sA, tyS, simprocAttr, List.length_append, cells_dg, h1_16, h1_20]; (repeat refine AI ?_); refine hK' _ _ ?_; clear hK' K')
     refine hlex_step (g := none) rfl rfl fun K' hK' => ?_
     simp (maxSteps := 4000000) only [sH, ↓sP, sA, tyS, simprocAttr, List.length_append, cells_dg, h1_16, h1_20]
     refine call_pure (args := [_]) (pid_ok r.k[j].p) ⟨rfl, rfl, rfl, rfl⟩ ?_
     rintro u rfl
     repeat refine AI ?_
     refine hK' _ _ ?_
     clear hK' K'
     iterate 3
      (refine hlex_step (g := none) rfl rfl fun K' hK' => ?_; simp only [sH, ↓sP, sA, tyS, simprocAttr, List.length_append, cells_dg, h1_16, h1_20]; (repeat refine AI ?_); refine hK' _ _ ?_; clear hK' K')
     simp only [sE, ↓reduceIte, simprocAttr]
     repeat refine AI ?_
     refine hK _ _ _ ?_
     clear hK K
     refine hw_region (by kernel_rfl) ?_
     simp (maxSteps := 4000000) only [↓sP, sA, tyS, simprocAttr, IntWalk.i64_in _ (show -9223372036854775808 ≤ (j : Int) + 1 ∧ (j : Int) + 1 ≤ 9223372036854775807 by omega)]
     refine ⟨⟨(j + 1, M ++ [pid r.k[j].p]), hjt, by simp only; rw [List.take_succ_eq_append_getElem hjt, List.map_append, ← List.append_assoc, ← hM]; rfl, by simp; omega⟩, fits_fin (by omega) (by simp [FinOk, fin_at, finA_at, upd_at, HV.men, HV.menL, HV.norm, HV.toC, HV.toCL]) (by simp [FobOk, fob_at, upd_at, none0_at, gone, HO.men, HV.men, HV.menL, HV.norm, HV.toC, HV.toCL]), ?_⟩
     show r.k.length - (j + 1) < r.k.length - j
     omega
    have hej : j = r.k.length := by simp at hb; omega
    subst hej
    clear hb
    rw [List.take_length] at hM
    refine hw_exit ?_
    simp (maxSteps := 4000000) only [↓sP, sA, tyS, simprocAttr]
    clear hK K
    repeat refine AI ?_
    refine hK _ _ _ ?_
    clear hK K
    refine hw_seq fun K hK => ?_
    refine hw_seq fun K hK => hw_region (by kernel_rfl) ?_
    simp only [sR, simprocAttr]
    iterate 4
     (refine hlex_step (g := none) rfl rfl fun K' hK' => ?_; simp only [sH, ↓sP, sA, tyS, simprocAttr, h1_16, h1_20]; (repeat refine AI ?_); refine hK' _ _ ?_; clear hK' K')
    simp only [sE, ↓reduceIte, simprocAttr]
    repeat refine AI ?_
    refine hK _ _ _ ?_
    clear hK K
    refine hw_block ?_
    refine hw_loop (α := {y : Nat × List Dig // y.1 ≤ r.x.length ∧ y.2 = M ++ (r.x.take y.1).map Rv.k ∧ y.2.length = M.length + y.1}) (fun y => (fin [(2, .ptr 0 0), (3, .ptr 4 0), (4, .own 72 y.1.2.length), (5, .own 73 B.length), (8, .ptr 112 0), (25, .c (.slc (rs.map Rt.cv))), (26, .c (.int .i64 rs.length)), (27, .c (.int .i64 i)), (46, .c (.slc (r.x.map Rv.cv))), (47, .c (.int .i64 r.x.length)), (48, .c (.int .i64 y.1.1))], fob [(0, .box 30 (.c a.cv)), (4, .box 30 (.c b.cv)), (72, .row 44 32 (y.1.2.map dg)), (73, .row 9 1 (B.map .str)), (112, .box 30 (.c r.cv))])) 600 (fun y => r.x.length - y.1.1) ⟨(0, M), by simp, by simp, by simp⟩ (fits_fin (by omega) (by simp [FinOk, fin_at, finA_at, upd_at, HV.men, HV.menL, HV.norm, HV.toC, HV.toCL]) (by simp [FobOk, fob_at, upd_at, none0_at, gone, HO.men, HV.men, HV.menL, HV.norm, HV.toC, HV.toCL])) ?_
    rintro ⟨⟨j, N⟩, hj, hN, lN⟩
    simp only at hj hN lN ⊢
    refine hw_seq fun K hK => hw_region (by kernel_rfl) ?_
    simp (maxSteps := 4000000) only [↓sP, sA, tyS, simprocAttr]
    repeat refine AI ?_
    refine hK _ _ _ ?_
    clear hK K
    refine hw_seq fun K hK => ?_
    refine hw_cond (b := decide ((j : Int) < r.x.length)) rfl (fun hb => ?_) (fun hb => ?_)
    ·
     have hjt : j < r.x.length := by simpa using hb
     clear hb
     refine hw_skip ?_
     simp (maxSteps := 4000000) only [↓sP, sA, tyS, simprocAttr]
     repeat refine AI ?_
     refine hK _ _ _ ?_
     clear hK K
     refine hw_seq fun K hK => ?_
     refine hw_block ?_
     refine hw_seq fun K hK => hw_region (by kernel_rfl) ?_
     simp only [sR, simprocAttr]
     iterate 4
      (refine hlex_step (g := none) rfl rfl fun K' hK' => ?_; simp only [sH, ↓sP, sA, tyS, simprocAttr, Int.natCast_nonneg, Int.ofNat_lt, hjt, nth_map hjt, Rv.cells, h1_16, h1_20]; (repeat refine AI ?_); refine hK' _ _ ?_; clear hK' K')
     simp only [sE, ↓reduceIte, simprocAttr]
     repeat refine AI ?_
     refine hK _ _ _ ?_
     clear hK K
     refine hw_region (by kernel_rfl) ?_
     simp only [sR, simprocAttr]
     iterate 6
      (refine hlex_step (g := none) rfl rfl fun K' hK' => ?_; simp only [sH, ↓sP, sA, tyS, simprocAttr, List.length_append, cells_dg, h1_16, h1_20]; (repeat refine AI ?_); refine hK' _ _ ?_; clear hK' K')
     simp only [sE, ↓reduceIte, simprocAttr]
     repeat refine AI ?_
     refine hK _ _ _ ?_
     clear hK K
     refine hw_region (by kernel_rfl) ?_
     simp (maxSteps := 4000000) only [↓sP, sA, tyS, simprocAttr, IntWalk.i64_in _ (show -9223372036854775808 ≤ (j : Int) + 1 ∧ (j : Int) + 1 ≤ 9223372036854775807 by omega)]
     refine ⟨⟨(j + 1, N ++ [r.x[j].k]), hjt, by simp only; rw [List.take_succ_eq_append_getElem hjt, List.map_append, ← List.append_assoc, ← hN]; rfl, by simp; omega⟩, fits_fin (by omega) (by simp [FinOk, fin_at, finA_at, upd_at, HV.men, HV.menL, HV.norm, HV.toC, HV.toCL]) (by simp [FobOk, fob_at, upd_at, none0_at, gone, HO.men, HV.men, HV.menL, HV.norm, HV.toC, HV.toCL]), ?_⟩
     show r.x.length - (j + 1) < r.x.length - j
     omega
    have hej : j = r.x.length := by simp at hb; omega
    subst hej
    clear hb
    rw [List.take_length] at hN
    refine hw_exit ?_
    simp (maxSteps := 4000000) only [↓sP, sA, tyS, simprocAttr]
    clear hK K
    repeat refine AI ?_
    refine hK _ _ _ ?_
    clear hK K
    refine hw_seq fun K hK => hw_region (by kernel_rfl) ?_
    simp only [sR, simprocAttr]
    iterate 4
     (refine hlex_step (g := none) rfl rfl fun K' hK' => ?_; simp only [sH, ↓sP, sA, tyS, simprocAttr, h1_16, h1_20]; (repeat refine AI ?_); refine hK' _ _ ?_; clear hK' K')
    simp only [sE, ↓reduceIte, simprocAttr]
    repeat refine AI ?_
    refine hK _ _ _ ?_
    clear hK K
    refine hw_block ?_
    refine hw_loop (α := {y : Nat × List Word // y.1 ≤ r.q.length ∧ y.2 = B ++ (r.q.take y.1).map Qt.r ∧ y.2.length = B.length + y.1}) (fun y => (fin [(2, .ptr 0 0), (3, .ptr 4 0), (4, .own 72 N.length), (5, .own 73 y.1.2.length), (8, .ptr 112 0), (25, .c (.slc (rs.map Rt.cv))), (26, .c (.int .i64 rs.length)), (27, .c (.int .i64 i)), (59, .c (.slc (r.q.map Qt.cv))), (60, .c (.int .i64 r.q.length)), (61, .c (.int .i64 y.1.1))], fob [(0, .box 30 (.c a.cv)), (4, .box 30 (.c b.cv)), (72, .row 44 32 (N.map dg)), (73, .row 9 1 (y.1.2.map .str)), (112, .box 30 (.c r.cv))])) 800 (fun y => r.q.length - y.1.1) ⟨(0, B), by simp, by simp, by simp⟩ (fits_fin (by omega) (by simp [FinOk, fin_at, finA_at, upd_at, HV.men, HV.menL, HV.norm, HV.toC, HV.toCL]) (by simp [FobOk, fob_at, upd_at, none0_at, gone, HO.men, HV.men, HV.menL, HV.norm, HV.toC, HV.toCL])) ?_
    rintro ⟨⟨j, S⟩, hj, hS, lS⟩
    simp only at hj hS lS ⊢
    refine hw_seq fun K hK => hw_region (by kernel_rfl) ?_
    simp (maxSteps := 4000000) only [↓sP, sA, tyS, simprocAttr]
    repeat refine AI ?_
    refine hK _ _ _ ?_
    clear hK K
    refine hw_seq fun K hK => ?_
    refine hw_cond (b := decide ((j : Int) < r.q.length)) rfl (fun hb => ?_) (fun hb => ?_)
    ·
     have hjt : j < r.q.length := by simpa using hb
     clear hb
     refine hw_skip ?_
     simp (maxSteps := 4000000) only [↓sP, sA, tyS, simprocAttr]
     repeat refine AI ?_
     refine hK _ _ _ ?_
     clear hK K
     refine hw_seq fun K hK => ?_
     refine hw_block ?_
     refine hw_seq fun K hK => hw_region (by kernel_rfl) ?_
     simp only [sR, simprocAttr]
     iterate 4
      (refine hlex_step (g := none) rfl rfl fun K' hK' => ?_; simp only [sH, ↓sP, sA, tyS, simprocAttr, Int.natCast_nonneg, Int.ofNat_lt, hjt, nth_map hjt, Qt.cells, h1_16, h1_20]; (repeat refine AI ?_); refine hK' _ _ ?_; clear hK' K')
     simp only [sE, ↓reduceIte, simprocAttr]
     repeat refine AI ?_
     refine hK _ _ _ ?_
     clear hK K
     refine hw_region (by kernel_rfl) ?_
     simp only [sR, simprocAttr]
     iterate 6
      (refine hlex_step (g := none) rfl rfl fun K' hK' => ?_; simp only [sH, ↓sP, sA, tyS, simprocAttr, List.length_append, h1_16, h1_20]; (repeat refine AI ?_); refine hK' _ _ ?_; clear hK' K')
     simp only [sE, ↓reduceIte, simprocAttr]
     repeat refine AI ?_
     refine hK _ _ _ ?_
     clear hK K
     refine hw_region (by kernel_rfl) ?_
     simp (maxSteps := 4000000) only [↓sP, sA, tyS, simprocAttr, IntWalk.i64_in _ (show -9223372036854775808 ≤ (j : Int) + 1 ∧ (j : Int) + 1 ≤ 9223372036854775807 by omega)]
     refine ⟨⟨(j + 1, S ++ [r.q[j].r]), hjt, by simp only; rw [List.take_succ_eq_append_getElem hjt, List.map_append, ← List.append_assoc, ← hS]; rfl, by simp; omega⟩, fits_fin (by omega) (by simp [FinOk, fin_at, finA_at, upd_at, HV.men, HV.menL, HV.norm, HV.toC, HV.toCL]) (by simp [FobOk, fob_at, upd_at, none0_at, gone, HO.men, HV.men, HV.menL, HV.norm, HV.toC, HV.toCL]), ?_⟩
     show r.q.length - (j + 1) < r.q.length - j
     omega
    have hej : j = r.q.length := by simp at hb; omega
    subst hej
    clear hb
    rw [List.take_length] at hS
    refine hw_exit ?_
    simp (maxSteps := 4000000) only [↓sP, sA, tyS, simprocAttr]
    clear hK K
    repeat refine AI ?_
    refine hK _ _ _ ?_
    clear hK K
    refine hw_region (by kernel_rfl) ?_
    simp (maxSteps := 4000000) only [↓sP, sA, tyS, simprocAttr, IntWalk.i64_in _ (show -9223372036854775808 ≤ (i : Int) + 1 ∧ (i : Int) + 1 ≤ 9223372036854775807 by omega)]
    refine ⟨⟨(i + 1, N, S), hlt, ?_, ?_, by simp only; omega, by simp only; omega⟩, fits_fin (by omega) (by simp [FinOk, fin_at, finA_at, upd_at, HV.men, HV.menL, HV.norm, HV.toC, HV.toCL]) (by simp [FobOk, fob_at, upd_at, none0_at, gone, HO.men, HV.men, HV.menL, HV.norm, HV.toC, HV.toCL]), ?_⟩
    ·
     simp only
     rw [hN, hM, hA, List.take_succ_eq_append_getElem hlt, List.flatMap_append, ← hr, List.append_assoc]
     simp [idsR]
    ·
     simp only
     rw [hS, hB, List.take_succ_eq_append_getElem hlt, List.flatMap_append, ← hr]
     simp [rolesR]
    show rs.length - (i + 1) < rs.length - i
    omega
   have hei : i = rs.length := by simp at hb; omega
   subst hei
   clear hb
   rw [List.take_length, hrs] at hA hB
   have hA2 : A = idsR a ++ idsR b := by rw [hA]; simp
   have hB2 : B = rolesR a ++ rolesR b := by rw [hB]; simp
   refine hw_exit ?_
   simp (maxSteps := 4000000) only [↓sP, sA, tyS, simprocAttr]
   clear hK K
   repeat refine AI ?_
   refine hK _ _ _ ?_
   clear hK K
   refine hw_fits (fr2 := fin [(2, .ptr 0 0), (3, .ptr 4 0), (4, .own 72 A.length), (5, .own 73 B.length)]) (ob2 := fob [(0, .box 30 (.c a.cv)), (4, .box 30 (.c b.cv)), (72, .row 44 32 (A.map dg)), (73, .row 9 1 (B.map .str))]) (nx2 := 200) (fits_fin (by omega) (by simp [FinOk, fin_at, finA_at, upd_at, HV.men, HV.menL, HV.norm, HV.toC, HV.toCL]) (by simp [FobOk, fob_at, upd_at, none0_at, gone, HO.men, HV.men, HV.menL, HV.norm, HV.toC, HV.toCL])) ?_
   refine hw_freeze 2 0 rfl rfl ?_
   refine hw_freeze 3 4 rfl rfl ?_
   refine hw_seq fun K hK => hw_region (by kernel_rfl) ?_
   simp only [sR, simprocAttr]
   refine hlex_step (g := none) rfl rfl fun K' hK' => ?_
   simp (maxSteps := 4000000) only [sH, ↓sP, sA, tyS, simprocAttr, h1_16, h1_20]
   repeat refine AI ?_
   refine hK' _ _ ?_
   clear hK' K'
   refine hlex_step (g := none) rfl rfl fun K' hK' => ?_
   simp (maxSteps := 4000000) only [sH, ↓sP, sA, tyS, simprocAttr, h1_16, h1_20]
   refine call_sortd (sortd_ok A (by omega)) rfl (by simp) (by simp) ⟨rfl, rfl, rfl, rfl⟩ ?_
   rintro A2 hp
   have lA2 := hp.length_eq
   repeat refine AI ?_
   refine hK' _ _ ?_
   clear hK' K'
   simp only [sE, ↓reduceIte, simprocAttr]
   repeat refine AI ?_
   refine hK _ _ _ ?_
   clear hK K
   refine hw_seq fun K hK => hw_region (by kernel_rfl) ?_
   simp only [sR, simprocAttr]
   refine hlex_step (g := none) rfl rfl fun K' hK' => ?_
   simp (maxSteps := 4000000) only [sH, ↓sP, sA, tyS, simprocAttr, h1_16, h1_20]
   repeat refine AI ?_
   refine hK' _ _ ?_
   clear hK' K'
   refine hlex_step (g := none) rfl rfl fun K' hK' => ?_
   simp (maxSteps := 4000000) only [sH, ↓sP, sA, tyS, simprocAttr, h1_16, h1_20]
   refine call_sort (sort_ok B (by omega)) rfl (by simp) (by simp) ⟨rfl, rfl, rfl, rfl⟩ ?_
   repeat refine AI ?_
   refine hK' _ _ ?_
   clear hK' K'
   simp only [sE, ↓reduceIte, simprocAttr]
   repeat refine AI ?_
   refine hK _ _ _ ?_
   clear hK K
   refine hw_seq fun K hK => hw_region (by kernel_rfl) ?_
   simp only [sR, simprocAttr]
   refine hlex_step (g := none) rfl rfl fun K' hK' => ?_
   simp (maxSteps := 4000000) only [sH, ↓sP, sA, tyS, simprocAttr, h1_16, h1_20]
   repeat refine AI ?_
   refine hK' _ _ ?_
   clear hK' K'
   refine hlex_step (g := none) rfl rfl fun K' hK' => ?_
   simp (maxSteps := 4000000) only [sH, ↓sP, sA, tyS, simprocAttr, h1_16, h1_20]
   refine call_shr (compactd_ok A2 (by omega)) (by simp [HV.menL]) (by simp [HV.renL]) rfl (by simp; omega) (by simp) ⟨rfl, rfl, rfl, rfl⟩ ?_
   rintro l1 ⟨K1, rfl, hK1, lK1⟩
   repeat refine AI ?_
   refine hK' _ _ ?_
   clear hK' K'
   refine hlex_step (g := none) rfl rfl fun K' hK' => ?_
   simp (maxSteps := 4000000) only [sH, ↓sP, sA, tyS, simprocAttr, h1_16, h1_20]
   repeat refine AI ?_
   refine hK' _ _ ?_
   clear hK' K'
   refine hlex_step (g := none) rfl rfl fun K' hK' => ?_
   simp (maxSteps := 4000000) only [sH, ↓sP, sA, tyS, simprocAttr, h1_16, h1_20]
   refine call_shr (deld_ok K1 34 [.rp a.cv, .rp b.cv] (sameD a b) (by omega) (fun d _ => chg1_ok a b d ha hb')) (by simp [HV.menL, HV.men]) (by simp [HV.renL, HV.ren]) rfl (by simp) (by simp) ⟨rfl, rfl, rfl, rfl⟩ ?_
   rintro l2 ⟨K2, rfl, hK2, lK2⟩
   repeat refine AI ?_
   refine hK' _ _ ?_
   clear hK' K'
   refine hlex_step (g := none) rfl rfl fun K' hK' => ?_
   simp (maxSteps := 4000000) only [sH, ↓sP, sA, tyS, simprocAttr, h1_16, h1_20]
   repeat refine AI ?_
   refine hK' _ _ ?_
   clear hK' K'
   simp only [sE, ↓reduceIte, simprocAttr]
   repeat refine AI ?_
   refine hK _ _ _ ?_
   clear hK K
   refine hw_seq fun K hK => hw_region (by kernel_rfl) ?_
   simp only [sR, simprocAttr]
   refine hlex_step (g := none) rfl rfl fun K' hK' => ?_
   simp (maxSteps := 4000000) only [sH, ↓sP, sA, tyS, simprocAttr, h1_16, h1_20]
   repeat refine AI ?_
   refine hK' _ _ ?_
   clear hK' K'
   refine hlex_step (g := none) rfl rfl fun K' hK' => ?_
   simp (maxSteps := 4000000) only [sH, ↓sP, sA, tyS, simprocAttr, h1_16, h1_20]
   refine call_shr (compacts_ok (B.mergeSort leW) (by have := (List.mergeSort_perm B leW).length_eq; omega)) (by simp [HV.menL]) (by simp [HV.renL]) rfl (by simp) (by simp) ⟨rfl, rfl, rfl, rfl⟩ ?_
   rintro l3 rfl
   repeat refine AI ?_
   refine hK' _ _ ?_
   clear hK' K'
   refine hlex_step (g := none) rfl rfl fun K' hK' => ?_
   simp (maxSteps := 4000000) only [sH, ↓sP, sA, tyS, simprocAttr, h1_16, h1_20]
   repeat refine AI ?_
   refine hK' _ _ ?_
   clear hK' K'
   refine hlex_step (g := none) rfl rfl fun K' hK' => ?_
   simp (maxSteps := 4000000) only [sH, ↓sP, sA, tyS, simprocAttr, h1_16, h1_20]
   refine call_shr (dels_ok (dedup (B.mergeSort leW)) 38 [.rp a.cv, .rp b.cv] (fun w => need a.q w == need b.q w) (by have := dedup_len (B.mergeSort leW); have := (List.mergeSort_perm B leW).length_eq; omega) (fun w _ => chg2_ok a b w ha hb')) (by simp [HV.menL, HV.men]) (by simp [HV.renL, HV.ren]) rfl (by simp) (by simp) ⟨rfl, rfl, rfl, rfl⟩ ?_
   rintro l4 ⟨R2, rfl, hR2, lR2⟩
   repeat refine AI ?_
   refine hK' _ _ ?_
   clear hK' K'
   refine hlex_step (g := none) rfl rfl fun K' hK' => ?_
   simp (maxSteps := 4000000) only [sH, ↓sP, sA, tyS, simprocAttr, h1_16, h1_20]
   repeat refine AI ?_
   refine hK' _ _ ?_
   clear hK' K'
   simp only [sE, ↓reduceIte, simprocAttr]
   repeat refine AI ?_
   refine hK _ _ _ ?_
   clear hK K
   refine hw_seq fun K hK => hw_quiet mixed (by kernel_rfl) (by kernel_rfl) (by kernel_rfl) ?_
   simp only [sR, simprocAttr]
   iterate 10
    (refine hlex_step (g := none) rfl rfl fun K' hK' => ?_; simp only [sH, ↓sP, sA, tyS, simprocAttr, h1_16, h1_20]; (repeat refine AI ?_); refine hK' _ _ ?_; clear hK' K')
   simp only [sE, ↓reduceIte, simprocAttr]
   repeat refine AI ?_
   refine hK _ _ _ ?_
   clear hK K
   refine hw_ret ?_
   simp (maxSteps := 4000000) only [hpost, Tryz.results10, hresL, hres1, tupOf, ↓sP, sA, tyS, simprocAttr]
   refine hret_pure3 [228, 248] (.slc (K2.map dg)) (.slc (R2.map .str)) (.bool (a.e != b.e)) ?_ ⟨K2, R2, a.e != b.e, rfl, rfl, rfl, fun hz => ⟨h1_16, h1_20, by simpa using hz, fun d hd hs => hK2 d (hK1 d (hp.mem_iff.2 (by rw [hA2]; exact hd))) hs, fun w hw hs => hR2 w (mem_dedup.2 ((List.mergeSort_perm B leW).mem_iff.2 (by rw [hB2]; exact hw))) hs⟩, by omega, ?_⟩
   ·
    simp [HV.close, HV.closeL, upd_at, fob_at, gone, CV.denil, CV.denilL, HV.norm, HV.toC, HV.toCL, List.take_of_length_le]
   have h1 := dedup_len (B.mergeSort leW)
   have h2 := (List.mergeSort_perm B leW).length_eq
   omega
  simp only [h1_20]
  simp only [sE, ↓reduceIte, simprocAttr]
  repeat refine AI ?_
  refine hK _ _ _ ?_
  clear hK K
  refine hw_cond (b := true) rfl (fun hb => ?_) (fun hb => ?_)
  ·
   refine hw_seq fun K hK => hw_region (by kernel_rfl) ?_
   simp (maxSteps := 4000000) only [↓sP, sA, tyS, simprocAttr]
   repeat refine AI ?_
   refine hK _ _ _ ?_
   clear hK K
   refine hw_ret ?_
   simp (maxSteps := 4000000) only [hpost, Tryz.results10, hresL, hres1, tupOf, ↓sP, sA, tyS, simprocAttr]
   refine hret_pure3 [] (.slc []) (.slc []) (.bool true) ?_ ⟨[], [], true, rfl, rfl, rfl, fun h => (by cases h), by simp, by simp⟩
   simp [HV.close, HV.closeL, CV.denil, CV.denilL, HV.norm, HV.toC, HV.toCL]
  cases hb
 iterate 3
  (refine hlex_step (g := some (18, false)) rfl rfl fun K' hK' => ?_; simp only [sH, ↓sP, sA, tyS, simprocAttr, h1_16]; (repeat refine AI ?_); refine hK' _ _ ?_; clear hK' K')
 refine hlex_step (g := none) rfl rfl fun K' hK' => ?_
 simp (maxSteps := 4000000) only [sH, ↓sP, sA, tyS, simprocAttr, h1_16]
 repeat refine AI ?_
 refine hK' _ _ ?_
 clear hK' K'
 simp only [sE, ↓reduceIte, simprocAttr]
 repeat refine AI ?_
 refine hK _ _ _ ?_
 clear hK K
 refine hw_cond (b := true) rfl (fun hb => ?_) (fun hb => ?_)
 ·
  refine hw_seq fun K hK => hw_region (by kernel_rfl) ?_
  simp (maxSteps := 4000000) only [↓sP, sA, tyS, simprocAttr]
  repeat refine AI ?_
  refine hK _ _ _ ?_
  clear hK K
  refine hw_ret ?_
  simp (maxSteps := 4000000) only [hpost, Tryz.results10, hresL, hres1, tupOf, ↓sP, sA, tyS, simprocAttr]
  refine hret_pure3 [] (.slc []) (.slc []) (.bool true) ?_ ⟨[], [], true, rfl, rfl, rfl, fun h => (by cases h), by simp, by simp⟩
  simp [HV.close, HV.closeL, CV.denil, CV.denilL, HV.norm, HV.toC, HV.toCL]
 cases hb

end Go.Proofs.YtenbfeemmpjdhaaGreat

namespace Go.Proofs.YtenbfeemmpjdhaaGreat
open Go Go.Hl Go.Pl
set_option maxRecDepth 10000
set_option maxHeartbeats 8000000
set_option linter.unusedSimpArgs false
set_option linter.unusedVariables false
attribute [local simp] tp

theorem unchanged_law (L : List Int) (x : Int) : HPure Tryz.prog 3 [.slc (L.map (.int .i64)), .int .i64 x] (fun v => v = .bool true) := by
 have x0 := Int.tmod_lt_of_pos x (b := 60) (by omega)
 have x1 : -60 < x.tmod 60 := Int.lt_tmod_of_pos x (by omega)
 have w1 : IntKind.i64.wrap (x.tmod 60 + 60) = x.tmod 60 + 60 := IntWalk.i64_in _ (by omega)
 obtain ⟨now, hN⟩ : ∃ A, A = (x.tmod 60 + 60).tmod 60 := ⟨_, rfl⟩
 refine hfn_walk Tryz.func3 rfl (by kernel_rfl) (locOk_nil _) (Nat.le_of_ble_eq_true rfl) ?_
 refine hw_seq fun K hK => hw_region (by kernel_rfl) ?_
 simp (maxSteps := 4000000) only [↓sP, sA, tyS, simprocAttr]
 repeat refine AI ?_
 refine hK _ _ _ ?_
 clear hK K
 refine hw_seq fun K hK => hw_region (by kernel_rfl) ?_
 simp only [sR, simprocAttr]
 iterate 4
  (refine hlex_step (g := none) rfl rfl fun K' hK' => ?_; simp only [sH, ↓sP, sA, tyS, simprocAttr, denilL_int]; (repeat refine AI ?_); refine hK' _ _ ?_; clear hK' K')
 simp only [sE, ↓reduceIte, simprocAttr]
 repeat refine AI ?_
 refine hK _ _ _ ?_
 clear hK K
 refine hw_seq fun K hK => hw_region (by kernel_rfl) ?_
 simp only [sR, simprocAttr]
 refine hlex_step (g := none) rfl rfl fun K' hK' => ?_
 simp (maxSteps := 4000000) only [sH, ↓sP, sA, tyS, simprocAttr]
 repeat refine AI ?_
 refine hK' _ _ ?_
 clear hK' K'
 refine hlex_step (g := none) rfl rfl fun K' hK' => ?_
 simp (maxSteps := 4000000) only [sH, ↓sP, sA, tyS, simprocAttr]
 refine call_box (args := [_]) (root_ok L 0 1 (by omega)) rfl (by simp) ⟨rfl, rfl, rfl, rfl⟩ ?_
 rintro u v' ⟨r, a1, rfl, rfl, k1, hr, hv⟩
 have hvr : validR r = true := hv (by omega) (by decide)
 obtain ⟨-, -, -, hrx⟩ := rMid_of_valid hvr
 repeat refine AI ?_
 refine hK' _ _ ?_
 clear hK' K'
 iterate 2
  (refine hlex_step (g := none) rfl rfl fun K' hK' => ?_; simp only [sH, ↓sP, sA, tyS, simprocAttr]; (repeat refine AI ?_); refine hK' _ _ ?_; clear hK' K')
 simp only [sE, ↓reduceIte, simprocAttr]
 repeat refine AI ?_
 refine hK _ _ _ ?_
 clear hK K
 refine hw_seq fun K hK => hw_region (by kernel_rfl) ?_
 simp only [sR, simprocAttr]
 iterate 2
  (refine hlex_step (g := none) rfl rfl fun K' hK' => ?_; simp only [sH, ↓sP, sA, tyS, simprocAttr]; (repeat refine AI ?_); refine hK' _ _ ?_; clear hK' K')
 refine hlex_step (g := none) rfl rfl fun K' hK' => ?_
 simp (maxSteps := 4000000) only [sH, ↓sP, sA, tyS, simprocAttr]
 refine call_boxl2 (args := [_]) (nx_ok r L a1 (by omega) (by omega)) rfl (by simp) ⟨rfl, rfl, rfl, rfl⟩ ?_
 rintro u y v' ⟨b0, K0, a2, rfl, rfl, rfl, k2, hb0⟩
 repeat refine AI ?_
 refine hK' _ _ ?_
 clear hK' K'
 iterate 6
  (refine hlex_step (g := none) rfl rfl fun K' hK' => ?_; simp only [sH, ↓sP, sA, tyS, simprocAttr]; (repeat refine AI ?_); refine hK' _ _ ?_; clear hK' K')
 simp only [sE, ↓reduceIte, simprocAttr]
 repeat refine AI ?_
 refine hK _ _ _ ?_
 clear hK K
 refine hw_seq fun K hK => ?_
 have key : ∀ (b : Rt) (a3 : Nat) fr ob nx, rSz b → a3 ≤ a2 + 1 → Fits 0 fr ob (fin [(1, .c (.int .i64 x)), (5, .ptr 12 0), (6, .ptr 28 0), (7, .ptr 60 0)]) (fob [(12, .box 25 (.c (tp L a3))), (28, .box 30 (.c r.cv)), (60, .box 30 (.c b.cv))]) 500 → K fr ob nx := by
  intro b a3 fr ob nx hbz k3 hf
  refine hK _ _ _ (hw_fits hf ?_)
  clear hf hK K
  refine hw_seq fun K hK => hw_region (by kernel_rfl) ?_
  simp only [sR, simprocAttr]
  refine hlex_step (g := none) rfl rfl fun K' hK' => ?_
  simp (maxSteps := 4000000) only [sH, ↓sP, sA, tyS, simprocAttr, w1, ← hN]
  repeat refine AI ?_
  refine hK' _ _ ?_
  clear hK' K'
  refine hlex_step (g := none) rfl rfl fun K' hK' => ?_
  simp (maxSteps := 4000000) only [sH, ↓sP, sA, tyS, simprocAttr, w1, ← hN]
  refine call_pure (args := []) roles_ok ⟨rfl, rfl, rfl, rfl⟩ ?_
  rintro u rfl
  repeat refine AI ?_
  refine hK' _ _ ?_
  clear hK' K'
  refine hlex_step (g := none) rfl rfl fun K' hK' => ?_
  simp (maxSteps := 4000000) only [sH, ↓sP, sA, tyS, simprocAttr, w1, ← hN]
  refine call_box (args := [_]) (pick_ok L a3 roles10 (by omega) ⟨by decide, by decide⟩) rfl (by simp) ⟨rfl, rfl, rfl, rfl⟩ ?_
  rintro u v' ⟨role, a4, rfl, hrole, rfl, j2⟩
  repeat refine AI ?_
  refine hK' _ _ ?_
  clear hK' K'
  refine hlex_step (g := none) rfl rfl fun K' hK' => ?_
  simp (maxSteps := 4000000) only [sH, ↓sP, sA, tyS, simprocAttr, w1, ← hN]
  repeat refine AI ?_
  refine hK' _ _ ?_
  clear hK' K'
  refine hlex_step (g := none) rfl rfl fun K' hK' => ?_
  simp (maxSteps := 4000000) only [sH, ↓sP, sA, tyS, simprocAttr, w1, ← hN]
  refine call_box (args := []) (mkeys_ok L a4 (by omega)) rfl (by simp) ⟨rfl, rfl, rfl, rfl⟩ ?_
  rintro u v' ⟨D, a5, rfl, rfl, j3, hD⟩
  repeat refine AI ?_
  refine hK' _ _ ?_
  clear hK' K'
  iterate 7
   (refine hlex_step (g := none) rfl rfl fun K' hK' => ?_; simp only [sH, ↓sP, sA, tyS, simprocAttr, w1, ← hN]; (repeat refine AI ?_); refine hK' _ _ ?_; clear hK' K')
  simp only [sE, ↓reduceIte, simprocAttr]
  repeat refine AI ?_
  refine hK _ _ _ ?_
  clear hK K
  refine hw_seq fun K hK => hw_region (by kernel_rfl) ?_
  simp only [sR, simprocAttr]
  iterate 2
   (refine hlex_step (g := none) rfl rfl fun K' hK' => ?_; simp only [sH, ↓sP, sA, tyS, simprocAttr]; (repeat refine AI ?_); refine hK' _ _ ?_; clear hK' K')
  refine hlex_step (g := none) rfl rfl fun K' hK' => ?_
  simp (maxSteps := 4000000) only [sH, ↓sP, sA, tyS, simprocAttr]
  refine call_pure3 (args := [_, _]) (changed_ok r b hr.1 hbz) ⟨rfl, rfl, rfl, rfl⟩ ?_
  rintro u v y ⟨Kl, R, z, rfl, rfl, rfl, hch, hKl, hRl⟩
  repeat refine AI ?_
  refine hK' _ _ ?_
  clear hK' K'
  iterate 7
   (refine hlex_step (g := none) rfl rfl fun K' hK' => ?_; simp only [sH, ↓sP, sA, tyS, simprocAttr]; (repeat refine AI ?_); refine hK' _ _ ?_; clear hK' K')
  simp only [sE, ↓reduceIte, simprocAttr]
  repeat refine AI ?_
  refine hK _ _ _ ?_
  clear hK K
  refine hw_seq fun K hK => ?_
  refine hw_seq fun K hK => hw_region (by kernel_rfl) ?_
  simp (maxSteps := 4000000) only [↓sP, sA, tyS, simprocAttr]
  repeat refine AI ?_
  refine hK _ _ _ ?_
  clear hK K
  refine hw_block ?_
  refine hw_loop (α := {i : Nat // i ≤ D.length ∧ ∀ d ∈ D.take i, d ∉ Kl}) (fun i => (fin [(6, .ptr 28 0), (7, .ptr 60 0), (9, .c (.str role)), (10, .c (.slc (D.map dg))), (11, .c (.int .i64 now)), (12, .c (.slc (Kl.map dg))), (13, .c (.slc (R.map .str))), (14, .c (.bool z)), (15, .c (.int .i64 i.1))], fob [(28, .box 30 (.c r.cv)), (60, .box 30 (.c b.cv))])) 600 (fun i => D.length - i.1) ⟨0, by omega, by simp⟩ (fits_fin (by omega) (by simp [FinOk, fin_at, finA_at, upd_at, HV.men, HV.menL, HV.norm, HV.toC, HV.toCL]) (by simp [FobOk, fob_at, upd_at, none0_at, gone, HO.men, HV.men, HV.menL, HV.norm, HV.toC, HV.toCL])) ?_
  rintro ⟨i, hi, h0⟩
  refine hw_seq fun K hK => ?_
  refine hw_seq fun K hK => hw_region (by kernel_rfl) ?_
  simp only [sR, simprocAttr]
  iterate 4
   (refine hlex_step (g := none) rfl rfl fun K' hK' => ?_; simp only [sH, ↓sP, sA, tyS, simprocAttr]; (repeat refine AI ?_); refine hK' _ _ ?_; clear hK' K')
  simp only [sE, ↓reduceIte, simprocAttr]
  repeat refine AI ?_
  refine hK _ _ _ ?_
  clear hK K
  refine hw_cond (b := decide ((i : Int) < D.length)) rfl (fun hb => ?_) (fun hb => ?_)
  ·
   have hlt : i < D.length := by simpa using hb
   clear hb
   refine hw_skip ?_
   simp (maxSteps := 4000000) only [↓sP, sA, tyS, simprocAttr]
   repeat refine AI ?_
   refine hK _ _ _ ?_
   clear hK K
   refine hw_seq fun K hK => ?_
   refine hw_block ?_
   refine hw_seq fun K hK => hw_region (by kernel_rfl) ?_
   simp only [sR, simprocAttr]
   iterate 5
    (refine hlex_step (g := none) rfl rfl fun K' hK' => ?_; simp only [sH, ↓sP, sA, tyS, simprocAttr, Int.natCast_nonneg, Int.ofNat_lt, hlt, nth_map hlt]; (repeat refine AI ?_); refine hK' _ _ ?_; clear hK' K')
   refine hlex_step (g := none) rfl rfl fun K' hK' => ?_
   simp (maxSteps := 4000000) only [sH, ↓sP, sA, tyS, simprocAttr, Int.natCast_nonneg, Int.ofNat_lt, hlt, nth_map hlt]
   refine call_pure (args := [_, _]) (hasd_ok Kl D[i] (by omega)) ⟨rfl, rfl, rfl, rfl⟩ ?_
   rintro u rfl
   repeat refine AI ?_
   refine hK' _ _ ?_
   clear hK' K'
   simp only [sE, ↓reduceIte, simprocAttr]
   repeat refine AI ?_
   refine hK _ _ _ ?_
   clear hK K
   refine hw_cond (b := Kl.contains D[i]) rfl (fun hb => ?_) (fun hb => ?_)
   ·
    refine hw_seq fun K hK => hw_region (by kernel_rfl) ?_
    simp only [sR, simprocAttr]
    refine hlex_step (g := none) rfl rfl fun K' hK' => ?_
    simp (maxSteps := 4000000) only [sH, ↓sP, sA, tyS, simprocAttr]
    refine call_pure (args := []) awake_ok ⟨rfl, rfl, rfl, rfl⟩ ?_
    rintro u rfl
    repeat refine AI ?_
    refine hK' _ _ ?_
    clear hK' K'
    refine hlex_step (g := none) rfl rfl fun K' hK' => ?_
    simp (maxSteps := 4000000) only [sH, ↓sP, sA, tyS, simprocAttr]
    repeat refine AI ?_
    refine hK' _ _ ?_
    clear hK' K'
    simp only [sE, ↓reduceIte, simprocAttr]
    repeat refine AI ?_
    refine hK _ _ _ ?_
    clear hK K
    refine hw_ret ?_
    simp (maxSteps := 4000000) only [hpost, Tryz.results3, hresL, hres1, tupOf, ↓sP, sA, tyS, simprocAttr]
    exact hret_pure [] (.bool true) rfl rfl
   refine hw_skip ?_
   simp (maxSteps := 4000000) only [↓sP, sA, tyS, simprocAttr]
   repeat refine AI ?_
   refine hK _ _ _ ?_
   clear hK K
   refine hw_region (by kernel_rfl) ?_
   simp (maxSteps := 4000000) only [↓sP, sA, tyS, simprocAttr, IntWalk.i64_in _ (show -9223372036854775808 ≤ (i : Int) + 1 ∧ (i : Int) + 1 ≤ 9223372036854775807 by omega)]
   refine ⟨⟨i + 1, hlt, fun d hd => ?_⟩, fits_fin (by omega) (by simp [FinOk, fin_at, finA_at, upd_at, HV.men, HV.menL, HV.norm, HV.toC, HV.toCL]) (by simp [FobOk, fob_at, upd_at, none0_at, gone, HO.men, HV.men, HV.menL, HV.norm, HV.toC, HV.toCL]), ?_⟩
   ·
    rw [List.take_succ_eq_append_getElem hlt, List.mem_append, List.mem_singleton] at hd
    rcases hd with hd | rfl
    ·
     exact h0 d hd
    intro hm
    have : Kl.contains D[i] = true := List.contains_iff_mem.2 hm
    rw [hb] at this
    cases this
   show D.length - (i + 1) < D.length - i
   omega
  have hei : i = D.length := by simp at hb; omega
  subst hei
  clear hb
  rw [List.take_length] at h0
  refine hw_exit ?_
  simp (maxSteps := 4000000) only [↓sP, sA, tyS, simprocAttr]
  clear hK K
  repeat refine AI ?_
  refine hK _ _ _ ?_
  clear hK K
  refine hw_seq fun K hK => ?_
  refine hw_seq fun K hK => hw_region (by kernel_rfl) ?_
  simp only [sR, simprocAttr]
  iterate 2
   (refine hlex_step (g := none) rfl rfl fun K' hK' => ?_; simp only [sH, ↓sP, sA, tyS, simprocAttr]; (repeat refine AI ?_); refine hK' _ _ ?_; clear hK' K')
  refine hlex_cases 62 rfl (fun h13_62 => ?_) (fun h13_62 => ?_)
  ·
   iterate 3
    (refine hlex_step (g := some (63, false)) rfl rfl fun K' hK' => ?_; simp only [sH, ↓sP, sA, tyS, simprocAttr, h13_62]; (repeat refine AI ?_); refine hK' _ _ ?_; clear hK' K')
   refine hlex_step (g := none) rfl rfl fun K' hK' => ?_
   simp (maxSteps := 4000000) only [sH, ↓sP, sA, tyS, simprocAttr, h13_62]
   repeat refine AI ?_
   refine hK' _ _ ?_
   clear hK' K'
   simp only [sE, ↓reduceIte, simprocAttr]
   repeat refine AI ?_
   refine hK _ _ _ ?_
   clear hK K
   refine hw_cond (b := true) rfl (fun hb => ?_) (fun hb => ?_)
   ·
    refine hw_seq fun K hK => hw_region (by kernel_rfl) ?_
    simp only [sR, simprocAttr]
    refine hlex_step (g := none) rfl rfl fun K' hK' => ?_
    simp (maxSteps := 4000000) only [sH, ↓sP, sA, tyS, simprocAttr, h13_62]
    refine call_pure (args := []) awake_ok ⟨rfl, rfl, rfl, rfl⟩ ?_
    rintro u rfl
    repeat refine AI ?_
    refine hK' _ _ ?_
    clear hK' K'
    refine hlex_step (g := none) rfl rfl fun K' hK' => ?_
    simp (maxSteps := 4000000) only [sH, ↓sP, sA, tyS, simprocAttr, h13_62]
    repeat refine AI ?_
    refine hK' _ _ ?_
    clear hK' K'
    simp only [sE, ↓reduceIte, simprocAttr]
    repeat refine AI ?_
    refine hK _ _ _ ?_
    clear hK K
    refine hw_ret ?_
    simp (maxSteps := 4000000) only [hpost, Tryz.results3, hresL, hres1, tupOf, ↓sP, sA, tyS, simprocAttr]
    exact hret_pure [] (.bool true) rfl rfl
   cases hb
  iterate 2
   (refine hlex_step (g := some (63, false)) rfl rfl fun K' hK' => ?_; simp only [sH, ↓sP, sA, tyS, simprocAttr, h13_62]; (repeat refine AI ?_); refine hK' _ _ ?_; clear hK' K')
  refine hlex_step (g := some (63, false)) rfl rfl fun K' hK' => ?_
  simp (maxSteps := 4000000) only [sH, ↓sP, sA, tyS, simprocAttr, h13_62]
  refine call_pure (args := [_, _]) (has_ok R role (by omega)) ⟨rfl, rfl, rfl, rfl⟩ ?_
  rintro u rfl
  repeat refine AI ?_
  refine hK' _ _ ?_
  clear hK' K'
  refine hlex_step (g := none) rfl rfl fun K' hK' => ?_
  simp (maxSteps := 4000000) only [sH, ↓sP, sA, tyS, simprocAttr, h13_62]
  repeat refine AI ?_
  refine hK' _ _ ?_
  clear hK' K'
  refine hlex_cases 66 rfl (fun h13_66 => ?_) (fun h13_66 => ?_)
  ·
   simp only [h13_66]
   simp only [sE, ↓reduceIte, simprocAttr]
   repeat refine AI ?_
   refine hK _ _ _ ?_
   clear hK K
   refine hw_cond (b := true) rfl (fun hb => ?_) (fun hb => ?_)
   ·
    refine hw_seq fun K hK => hw_region (by kernel_rfl) ?_
    simp only [sR, simprocAttr]
    refine hlex_step (g := none) rfl rfl fun K' hK' => ?_
    simp (maxSteps := 4000000) only [sH, ↓sP, sA, tyS, simprocAttr, h13_62, h13_66]
    refine call_pure (args := []) awake_ok ⟨rfl, rfl, rfl, rfl⟩ ?_
    rintro u rfl
    repeat refine AI ?_
    refine hK' _ _ ?_
    clear hK' K'
    refine hlex_step (g := none) rfl rfl fun K' hK' => ?_
    simp (maxSteps := 4000000) only [sH, ↓sP, sA, tyS, simprocAttr, h13_62, h13_66]
    repeat refine AI ?_
    refine hK' _ _ ?_
    clear hK' K'
    simp only [sE, ↓reduceIte, simprocAttr]
    repeat refine AI ?_
    refine hK _ _ _ ?_
    clear hK K
    refine hw_ret ?_
    simp (maxSteps := 4000000) only [hpost, Tryz.results3, hresL, hres1, tupOf, ↓sP, sA, tyS, simprocAttr]
    exact hret_pure [] (.bool true) rfl rfl
   cases hb
  simp only [h13_66]
  simp only [sE, ↓reduceIte, simprocAttr]
  repeat refine AI ?_
  refine hK _ _ _ ?_
  clear hK K
  refine hw_cond (b := false) rfl (fun hb => ?_) (fun hb => ?_)
  ·
   cases hb
  refine hw_skip ?_
  simp (maxSteps := 4000000) only [↓sP, sA, tyS, simprocAttr]
  repeat refine AI ?_
  refine hK _ _ _ ?_
  clear hK K
  have hz : z = false := by assumption
  have hrn : R.contains role = false := by assumption
  subst hz
  have hrm : role ∉ R := fun hm => by rw [List.contains_iff_mem.2 hm] at hrn; cases hrn
  have e1 : (vouched r role D now == vouched b role D now) = true := beq_iff_eq.2 (unchanged_vouched hch h0 role now)
  have e2 : (enough r role D now == enough b role D now) = true := beq_iff_eq.2 (unchanged_enough hch h0 hrm now)
  have e3 : CV.agg [CV.int .i64 0, hf zh] = (Pk.mk 0 zh).cv := rfl
  have e4 : (decide ((0 : Int) ≤ 0) && decide ((0 : Int) ≤ 6)) = true := rfl
  have hvl : (vouched r role D now).length < 2 ^ 62 := by
   have h1 := rvL_len r role now D
   rw [rvL_eq hvr] at h1
   omega
  refine hw_seq fun K hK => hw_draw2 mixed [(0, [], []), (1, [], []), (2, [], []), (3, [], []), (4, [], []), (5, [], []), (7, [], []), (8, [], []), (9, [], []), (10, [], []), (6, [], [7, 8, 9, 10]), (11, [], []), (12, [], []), (13, [], []), (14, [], []), (15, [], []), (16, [], []), (17, [], []), (18, [], []), (20, [], []), (21, [], []), (22, [], []), (23, [], []), (19, [], [20, 21, 22, 23]), (24, [], []), (25, [], []), (26, [], []), (27, [], []), (28, [], []), (29, [], []), (30, [], []), (31, [], [])] [0, 1, 3, 3, 3, 3, 63, 3, 3, 3, 3, 2047, 4095, 8191, 16383, 32767, 32767, 32767, 32767, 524287, 32767, 32767, 32767, 32767, 16777215, 33554431, 67108863, 134217727, 268435455, 536870911, 1073741823, 2147483647] (by kernel_rfl) (by kernel_rfl) (by kernel_rfl) (by kernel_rfl) rfl (by kernel_rfl) ?_
  refine hwalk2_step (g := none) rfl rfl fun K' hK' => ?_
  simp (maxSteps := 4000000) only [sH, ↓sP, sA, tyS, simprocAttr, e1, e2, e3, e4, h13_62, h13_66]
  refine call_pure (args := []) awake_ok ⟨rfl, rfl, rfl, rfl⟩ ?_
  rintro u rfl
  repeat refine AI ?_
  refine hK' _ _ ?_
  clear hK' K'
  refine hwalk2_step (g := none) rfl rfl fun K' hK' => ?_
  simp (maxSteps := 4000000) only [sH, ↓sP, sA, tyS, simprocAttr, e1, e2, e3, e4, h13_62, h13_66]
  repeat refine AI ?_
  refine hK' _ _ ?_
  clear hK' K'
  iterate 8
   (refine hwalk2_step (g := some (70, true)) rfl rfl fun K' hK' => ?_; simp only [sH, ↓sP, sA, tyS, simprocAttr, e1, e2, e3, e4, h13_62, h13_66]; (repeat refine AI ?_); refine hK' _ _ ?_; clear hK' K')
  refine hwalk2_step (g := some (70, true)) rfl rfl fun K' hK' => ?_
  simp (maxSteps := 4000000) only [sH, ↓sP, sA, tyS, simprocAttr, e1, e2, e3, e4, h13_62, h13_66]
  refine call_pure (args := [_, _, _, _]) (vouched_ok r role D now hr.1 (by omega)) ⟨rfl, rfl, rfl, rfl⟩ ?_
  rintro u rfl
  repeat refine AI ?_
  refine hK' _ _ ?_
  clear hK' K'
  refine hwalk2_step (g := some (70, true)) rfl rfl fun K' hK' => ?_
  simp (maxSteps := 4000000) only [sH, ↓sP, sA, tyS, simprocAttr, e1, e2, e3, e4, h13_62, h13_66]
  refine call_pure (args := [_, _, _, _]) (vouched_ok b role D now hbz (by omega)) ⟨rfl, rfl, rfl, rfl⟩ ?_
  rintro u rfl
  repeat refine AI ?_
  refine hK' _ _ ?_
  clear hK' K'
  refine hwalk2_step (g := some (70, true)) rfl rfl fun K' hK' => ?_
  simp (maxSteps := 4000000) only [sH, ↓sP, sA, tyS, simprocAttr, e1, e2, e3, e4, h13_62, h13_66]
  refine call_pure (args := [_, _]) (same_ok (vouched r role D now) (vouched b role D now) (by omega)) ⟨rfl, rfl, rfl, rfl⟩ ?_
  rintro u rfl
  repeat refine AI ?_
  refine hK' _ _ ?_
  clear hK' K'
  iterate 2
   (refine hwalk2_step (g := none) rfl rfl fun K' hK' => ?_; simp only [sH, ↓sP, sA, tyS, simprocAttr, e1, e2, e3, e4, h13_62, h13_66]; (repeat refine AI ?_); refine hK' _ _ ?_; clear hK' K')
  iterate 8
   (refine hwalk2_step (g := some (83, true)) rfl rfl fun K' hK' => ?_; simp only [sH, ↓sP, sA, tyS, simprocAttr, e1, e2, e3, e4, h13_62, h13_66]; (repeat refine AI ?_); refine hK' _ _ ?_; clear hK' K')
  refine hwalk2_step (g := some (83, true)) rfl rfl fun K' hK' => ?_
  simp (maxSteps := 4000000) only [sH, ↓sP, sA, tyS, simprocAttr, e1, e2, e3, e4, h13_62, h13_66]
  refine call_pure (args := [_, _, _, _]) (enough_ok r role D now hr.1 (by omega)) ⟨rfl, rfl, rfl, rfl⟩ ?_
  rintro u rfl
  repeat refine AI ?_
  refine hK' _ _ ?_
  clear hK' K'
  refine hwalk2_step (g := some (83, true)) rfl rfl fun K' hK' => ?_
  simp (maxSteps := 4000000) only [sH, ↓sP, sA, tyS, simprocAttr, e1, e2, e3, e4, h13_62, h13_66]
  refine call_pure (args := [_, _, _, _]) (enough_ok b role D now hbz (by omega)) ⟨rfl, rfl, rfl, rfl⟩ ?_
  rintro u rfl
  repeat refine AI ?_
  refine hK' _ _ ?_
  clear hK' K'
  refine hwalk2_step (g := some (83, true)) rfl rfl fun K' hK' => ?_
  simp (maxSteps := 4000000) only [sH, ↓sP, sA, tyS, simprocAttr, e1, e2, e3, e4, h13_62, h13_66]
  repeat refine AI ?_
  refine hK' _ _ ?_
  clear hK' K'
  iterate 2
   (refine hwalk2_step (g := none) rfl rfl fun K' hK' => ?_; simp only [sH, ↓sP, sA, tyS, simprocAttr, e1, e2, e3, e4, h13_62, h13_66]; (repeat refine AI ?_); refine hK' _ _ ?_; clear hK' K')
  refine hwalk2_step (g := some (96, true)) rfl rfl fun K' hK' => ?_
  simp (maxSteps := 4000000) only [sH, ↓sP, sA, tyS, simprocAttr, e1, e2, e3, e4, h13_62, h13_66]
  repeat refine AI ?_
  refine hK' _ _ ?_
  clear hK' K'
  refine hwalk2_step (g := some (96, true)) rfl rfl fun K' hK' => ?_
  simp (maxSteps := 4000000) only [sH, ↓sP, sA, tyS, simprocAttr, e1, e2, e3, e4, h13_62, h13_66]
  refine call_pure (args := [_]) (pvalid9_ok ⟨0, zh⟩) ⟨rfl, rfl, rfl, rfl⟩ ?_
  rintro u rfl
  repeat refine AI ?_
  refine hK' _ _ ?_
  clear hK' K'
  iterate 2
   (refine hwalk2_step (g := none) rfl rfl fun K' hK' => ?_; simp only [sH, ↓sP, sA, tyS, simprocAttr, e1, e2, e3, e4, h13_62, h13_66]; (repeat refine AI ?_); refine hK' _ _ ?_; clear hK' K')
  simp only [sE, ↓reduceIte, simprocAttr]
  repeat refine AI ?_
  refine hK _ _ _ ?_
  clear hK K
  refine hw_ret ?_
  simp (maxSteps := 4000000) only [hpost, Tryz.results3, hresL, hres1, tupOf, ↓sP, sA, tyS, simprocAttr]
  exact hret_pure [] (.bool true) rfl rfl
 refine hw_seq fun K hK => hw_region (by kernel_rfl) ?_
 simp only [sR, simprocAttr]
 refine hlex_step (g := none) rfl rfl fun K' hK' => ?_
 simp (maxSteps := 4000000) only [sH, ↓sP, sA, tyS, simprocAttr]
 repeat refine AI ?_
 refine hK' _ _ ?_
 clear hK' K'
 refine hlex_step (g := none) rfl rfl fun K' hK' => ?_
 simp (maxSteps := 4000000) only [sH, ↓sP, sA, tyS, simprocAttr]
 refine call_box (args := [_]) (next_ok L a2 2 (by omega) (by omega)) rfl (by simp) ⟨rfl, rfl, rfl, rfl⟩ ?_
 rintro u v' ⟨y1, a3, rfl, rfl, k3, k4, k5, k6⟩
 repeat refine AI ?_
 refine hK' _ _ ?_
 clear hK' K'
 refine hlex_step (g := none) rfl rfl fun K' hK' => ?_
 simp (maxSteps := 4000000) only [sH, ↓sP, sA, tyS, simprocAttr]
 repeat refine AI ?_
 refine hK' _ _ ?_
 clear hK' K'
 simp only [sE, ↓reduceIte, simprocAttr]
 repeat refine AI ?_
 refine hK _ _ _ ?_
 clear hK K
 refine hw_cond (b := y1 == 0) rfl (fun hb => ?_) (fun hb => ?_)
 ·
  refine hw_region (by kernel_rfl) ?_
  simp only [sR, simprocAttr]
  iterate 4
   (refine hlex_step (g := none) rfl rfl fun K' hK' => ?_; simp only [sH, ↓sP, sA, tyS, simprocAttr]; (repeat refine AI ?_); refine hK' _ _ ?_; clear hK' K')
  simp only [sE, ↓reduceIte, simprocAttr]
  exact key ⟨b0.v, r.e, b0.q, b0.k, b0.x⟩ a3 _ _ _ hb0 k3 (fits_fin (by omega) (by simp [FinOk, fin_at, finA_at, upd_at, HV.men, HV.menL, HV.norm, HV.toC, HV.toCL]) (by simp [FobOk, fob_at, upd_at, none0_at, gone, HO.men, HV.men, HV.menL, HV.norm, HV.toC, HV.toCL, Rt.cv]))
 refine hw_skip ?_
 simp (maxSteps := 4000000) only [↓sP, sA, tyS, simprocAttr]
 exact key b0 a3 _ _ _ hb0 k3 (fits_fin (by omega) (by simp [FinOk, fin_at, finA_at, upd_at, HV.men, HV.menL, HV.norm, HV.toC, HV.toCL]) (by simp [FobOk, fob_at, upd_at, none0_at, gone, HO.men, HV.men, HV.menL, HV.norm, HV.toC, HV.toCL]))

end Go.Proofs.YtenbfeemmpjdhaaGreat

namespace Go.Proofs.YtenbfeemmpjdhaaGreat
open Go Go.Hl Go.Pl
set_option linter.unusedVariables false
set_option maxRecDepth 100000

theorem trustUnchanged_contract (H : Type) (enc : TypeId × Value → H) (W : World) (base : Nat) (args : Array Value) (ds gs : List (DataW H)) (before : List MemPlace)
    (hval : ∀ (j : Nat) t v, Tryz.f3.params[j]? = some t → args[j]? = some v → Value.okWide Tryz.prog W .any base t v)
    (hW : DataW.Whole enc Tryz.prog Tryz.f3.params.toList Rows.trustUnchangedSpec.vars false W args.toList ds gs before) :
    Calls Tryz.prog 3 args W fun e W' => ∃ v, e = .returned v ∧ Rows.trustUnchangedSpec.post enc Tryz.prog Tryz.f3 false true false false W args v W' := by
  refine law_post (mm := 6) (tb := 4) (by kernel_rfl) kids slicesFull rfl (by kernel_rfl) Tryz.underlying4 ?_ ?_ ?_ (fun j t v h1 h2 => ?_) hW
  · rw [Tryz.params3]
    intro H ds h
    match ds, h with
    | [c0, c1], _ => exact ⟨rfl, rfl, rfl⟩
  · rw [Tryz.params3]
    intro t ht
    simp only [List.mem_cons, List.not_mem_nil, or_false] at ht
    rcases ht with rfl | rfl
    · exact ⟨by kernel_rfl, of_decide_eq_true (by kernel_rfl)⟩
    · exact ⟨by kernel_rfl, of_decide_eq_true (by kernel_rfl)⟩
  · rw [Tryz.params3]
    intro cs hn hty
    match cs, hn, hty with
    | [c0, c1], _, hty =>
      obtain ⟨L, rfl, hw, hl⟩ := of_ints (hty 0 _ c0 rfl rfl)
      obtain ⟨x, rfl, hx⟩ := (hty 1 _ c1 rfl rfl).of_int Tryz.underlying2
      exact unchanged_law L x
  · exact hval j t v h1 h2

open Go.ChangeShapes Go.WideShapes Go.ChangeAt Go.RowKit in
set_option maxRecDepth 100000 in
theorem trustUnchanged_lifted (os : Os) (started : os.Started) (H : Type) (enc : TypeId × Value → H) :
    ReturnsInHanded {} Tryz.checked os 3 .any (Rows.trustUnchangedSpec.pre6 enc Tryz.prog Tryz.f3 Rows.trustUnchangedRow.domain false) (Rows.trustUnchangedSpec.post enc Tryz.prog Tryz.f3 false true false false) := by
  refine returnsInHanded_of_change (C := Tryz.checked) own started (by kernel_rfl) Tryz.func3
    (ChangeSpec.witness6 (enc := enc) (C := Tryz.checked) false ⟨#[], #[.slice none 0 0, .int .i64 0], []⟩ 8 (by kernel_rfl) (by kernel_rfl) (by kernel_rfl) (by kernel_rfl)) ?_
  intro W base args ds gs before hval hW _ _
  exact trustUnchanged_contract H enc W base args ds gs before hval hW

theorem trustUnchanged_said : Rows.TrustUnchangedSaid :=
  OpenClaim.holds_of_wide 3 Tryz.f3 rfl rfl rfl rfl rfl rfl rfl ⟨rfl, rfl, rfl, rfl, rfl⟩ rfl rfl rfl rfl rfl (by kernel_rfl) Tryz.func3 (by kernel_rfl)
    (of_decide_eq_true (by kernel_rfl)) (by unfold Func.isWrapper; first | (rw [if_pos (by decide +kernel)]; kernel_rfl) | (rw [if_neg (by decide +kernel)]; exact ⟨rfl, rfl⟩))
    (fun os started H enc _ => trustUnchanged_lifted os started H enc)
#print axioms trustUnchanged_said
end Go.Proofs.YtenbfeemmpjdhaaGreat
