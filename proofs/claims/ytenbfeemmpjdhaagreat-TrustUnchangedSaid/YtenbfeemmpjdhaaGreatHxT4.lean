/- Part of a proof: walks of functions of the program, by contracts, and the rules they use. By an AI agent. -/
import Derived.Test.YtenbfeemmpjdhaaGreatPl11f
import Derived.Test.YtenbfeemmpjdhaaGreatHxSb
set_option linter.unusedSimpArgs false
set_option linter.unusedVariables false
set_option linter.defProp false
namespace Go.Proofs.YtenbfeemmpjdhaaGreat
open Go Go.Hl Go.Pl
set_option maxRecDepth 10000
set_option maxHeartbeats 2000000
set_option linter.unusedSimpArgs false
set_option linter.unusedVariables false

theorem index_ok (l : List Word) (w : Word) (hl : l.length < 2 ^ 40) : HPure Tryz.prog 101 [.slc (l.map .str), .str w] (fun v => v = .int .i64 (idxP (fun x => w == x) l)) := by
 refine hfn_walk Tryz.func101 rfl (by kernel_rfl) (locOk_nil _) (Nat.le_of_ble_eq_true rfl) ?_
 refine hw_seq fun K hK => hw_region (by kernel_rfl) ?_
 simp (maxSteps := 4000000) only [↓sP, sA, tyS, simprocAttr]
 repeat refine AI ?_
 refine hK _ _ _ ?_
 clear hK K
 refine hw_seq fun K hK => ?_
 refine hw_seq fun K hK => hw_region (by kernel_rfl) ?_
 simp (maxSteps := 4000000) only [↓sP, sA, tyS, simprocAttr]
 repeat refine AI ?_
 refine hK _ _ _ ?_
 clear hK K
 refine hw_block ?_
 refine hw_loop (α := {i : Nat // i ≤ l.length ∧ ∀ x ∈ l.take i, (w == x) = false}) (fun i => (fin [(0, .c (.slc (l.map .str))), (1, .c (.str w)), (7, .c (.int .i64 l.length)), (8, .c (.int .i64 i.1))], fob [])) 100 (fun i => l.length - i.1) ⟨0, by omega, by simp⟩ (fits_fin (by omega) (by simp [FinOk, fin_at, finA_at, upd_at, HV.men, HV.menL, HV.norm, HV.toC, HV.toCL]) (by simp [FobOk, fob_at, upd_at, none0_at, gone, HO.men, HV.men, HV.menL, HV.norm, HV.toC, HV.toCL])) ?_
 rintro ⟨i, hi, h0⟩
 refine hw_seq fun K hK => hw_region (by kernel_rfl) ?_
 simp (maxSteps := 4000000) only [↓sP, sA, tyS, simprocAttr]
 repeat refine AI ?_
 refine hK _ _ _ ?_
 clear hK K
 refine hw_seq fun K hK => ?_
 refine hw_cond (b := decide ((i : Int) < l.length)) rfl (fun hb => ?_) (fun hb => ?_)
 ·
  have hlt : i < l.length := by simpa using hb
  refine hw_skip ?_
  simp (maxSteps := 4000000) only [↓sP, sA, tyS, simprocAttr]
  repeat refine AI ?_
  refine hK _ _ _ ?_
  clear hK K
  refine hw_seq fun K hK => ?_
  refine hw_block ?_
  refine hw_seq fun K hK => hw_region (by kernel_rfl) ?_
  simp (maxSteps := 4000000) only [↓sP, sA, tyS, simprocAttr]
  repeat refine AI ?_
  refine hK _ _ _ ?_
  clear hK K
  refine hw_seq fun K hK => hw_region (by kernel_rfl) ?_
  simp only [sR, simprocAttr]
  iterate 6
   (refine hlex_step (g := none) rfl rfl fun K' hK' => ?_; simp only [sH, ↓sP, sA, tyS, simprocAttr, Int.natCast_nonneg, Int.ofNat_lt, hlt, nth_map hlt]; (repeat refine AI ?_); refine hK' _ _ ?_; clear hK' K')
  simp only [sE, ↓reduceIte, simprocAttr]
  repeat refine AI ?_
  refine hK _ _ _ ?_
  clear hK K
  refine hw_cond (b := w == l[i]) rfl (fun hb => ?_) (fun hb => ?_)
  ·
   refine hw_seq fun K hK => hw_region (by kernel_rfl) ?_
   simp (maxSteps := 4000000) only [↓sP, sA, tyS, simprocAttr]
   repeat refine AI ?_
   refine hK _ _ _ ?_
   clear hK K
   refine hw_ret ?_
   simp (maxSteps := 4000000) only [hpost, Tryz.results101, hresL, hres1, tupOf, ↓sP, sA, tyS, simprocAttr]
   exact hret_pure [] (.int .i64 i) rfl (by rw [idxP_hit (p := fun x => w == x) hlt hb h0])
  refine hw_skip ?_
  simp (maxSteps := 4000000) only [↓sP, sA, tyS, simprocAttr]
  repeat refine AI ?_
  refine hK _ _ _ ?_
  clear hK K
  refine hw_region (by kernel_rfl) ?_
  simp (maxSteps := 4000000) only [↓sP, sA, tyS, simprocAttr, IntWalk.i64_in _ (show -9223372036854775808 ≤ (i : Int) + 1 ∧ (i : Int) + 1 ≤ 9223372036854775807 by omega)]
  refine ⟨⟨i + 1, hlt, take_miss (p := fun x => w == x) hlt hb h0⟩, fits_fin (by omega) (by simp [FinOk, fin_at, finA_at, upd_at, HV.men, HV.menL, HV.norm, HV.toC, HV.toCL]) (by simp [FobOk, fob_at, upd_at, none0_at, gone, HO.men, HV.men, HV.menL, HV.norm, HV.toC, HV.toCL]), ?_⟩
  show l.length - (i + 1) < l.length - i
  omega
 refine hw_exit ?_
 simp (maxSteps := 4000000) only [↓sP, sA, tyS, simprocAttr]
 clear hK K
 repeat refine AI ?_
 refine hK _ _ _ ?_
 clear hK K
 refine hw_seq fun K hK => hw_region (by kernel_rfl) ?_
 simp (maxSteps := 4000000) only [↓sP, sA, tyS, simprocAttr]
 repeat refine AI ?_
 refine hK _ _ _ ?_
 clear hK K
 refine hw_ret ?_
 simp (maxSteps := 4000000) only [hpost, Tryz.results101, hresL, hres1, tupOf, ↓sP, sA, tyS, simprocAttr]
 have hei : i = l.length := by simp at hb; omega
 subst hei
 exact hret_pure [] (.int .i64 (-1)) rfl (by rw [idxP_none (p := fun x => w == x) (by simpa using h0)])


theorem cont_ok (l : List Word) (w : Word) (hl : l.length < 2 ^ 40) : HPure Tryz.prog 70 [.slc (l.map .str), .str w] (fun v => v = .bool (l.contains w)) := by
 refine hfn_walk Tryz.func70 rfl (by kernel_rfl) (locOk_nil _) (Nat.le_of_ble_eq_true rfl) ?_
 refine hw_seq fun K hK => hw_region (by kernel_rfl) ?_
 simp (maxSteps := 4000000) only [↓sP, sA, tyS, simprocAttr]
 repeat refine AI ?_
 refine hK _ _ _ ?_
 clear hK K
 refine hw_seq fun K hK => hw_region (by kernel_rfl) ?_
 simp only [sR, simprocAttr]
 iterate 2
  (refine hlex_step (g := none) rfl rfl fun K' hK' => ?_; simp only [sH, ↓sP, sA, tyS, simprocAttr]; (repeat refine AI ?_); refine hK' _ _ ?_; clear hK' K')
 refine hlex_step (g := none) rfl rfl fun K' hK' => ?_
 simp (maxSteps := 4000000) only [sH, ↓sP, sA, tyS, simprocAttr]
 refine call_pure (args := [_, _]) (index_ok l w hl) ⟨rfl, rfl, rfl, rfl⟩ ?_
 rintro u rfl
 repeat refine AI ?_
 refine hK' _ _ ?_
 clear hK' K'
 refine hlex_step (g := none) rfl rfl fun K' hK' => ?_
 simp (maxSteps := 4000000) only [sH, ↓sP, sA, tyS, simprocAttr]
 rw [idx_contains l w]
 repeat refine AI ?_
 refine hK' _ _ ?_
 clear hK' K'
 refine hlex_step (g := none) rfl rfl fun K' hK' => ?_
 simp (maxSteps := 4000000) only [sH, ↓sP, sA, tyS, simprocAttr]
 repeat refine AI ?_
 refine hK' _ _ ?_
 clear hK' K'
 simp only [sE, ↓reduceIte, simprocAttr]
 repeat refine AI ?_
 refine hK _ _ _ ?_
 clear hK K
 refine hw_ret ?_
 simp (maxSteps := 4000000) only [hpost, Tryz.results70, hresL, hres1, tupOf, ↓sP, sA, tyS, simprocAttr]
 exact hret_pure [] (.bool _) rfl rfl


theorem indexd_ok (l : List Dig) (d : Dig) (hl : l.length < 2 ^ 40) : HPure Tryz.prog 71 [.slc (l.map dg), dg d] (fun v => v = .int .i64 (idxP (fun x => d == x) l)) := by
 refine hfn_walk Tryz.func71 rfl (by kernel_rfl) (locOk_nil _) (Nat.le_of_ble_eq_true rfl) ?_
 refine hw_seq fun K hK => hw_region (by kernel_rfl) ?_
 simp (maxSteps := 4000000) only [↓sP, sA, tyS, simprocAttr]
 repeat refine AI ?_
 refine hK _ _ _ ?_
 clear hK K
 refine hw_seq fun K hK => ?_
 refine hw_seq fun K hK => hw_region (by kernel_rfl) ?_
 simp (maxSteps := 4000000) only [↓sP, sA, tyS, simprocAttr]
 repeat refine AI ?_
 refine hK _ _ _ ?_
 clear hK K
 refine hw_block ?_
 refine hw_loop (α := {i : Nat // i ≤ l.length ∧ ∀ x ∈ l.take i, (d == x) = false}) (fun i => (fin [(0, .c (.slc (l.map dg))), (3, .ptr 0 0), (7, .c (.int .i64 l.length)), (8, .c (.int .i64 i.1))], fob [(0, .box 44 (.c (dg d)))])) 100 (fun i => l.length - i.1) ⟨0, by omega, by simp⟩ (fits_fin (by omega) (by simp [FinOk, fin_at, finA_at, upd_at, HV.men, HV.menL, HV.norm, HV.toC, HV.toCL]) (by simp [FobOk, fob_at, upd_at, none0_at, gone, HO.men, HV.men, HV.menL, HV.norm, HV.toC, HV.toCL])) ?_
 rintro ⟨i, hi, h0⟩
 refine hw_seq fun K hK => hw_region (by kernel_rfl) ?_
 simp (maxSteps := 4000000) only [↓sP, sA, tyS, simprocAttr]
 repeat refine AI ?_
 refine hK _ _ _ ?_
 clear hK K
 refine hw_seq fun K hK => ?_
 refine hw_cond (b := decide ((i : Int) < l.length)) rfl (fun hb => ?_) (fun hb => ?_)
 ·
  have hlt : i < l.length := by simpa using hb
  refine hw_skip ?_
  simp (maxSteps := 4000000) only [↓sP, sA, tyS, simprocAttr]
  repeat refine AI ?_
  refine hK _ _ _ ?_
  clear hK K
  refine hw_seq fun K hK => ?_
  refine hw_block ?_
  refine hw_seq fun K hK => hw_region (by kernel_rfl) ?_
  simp (maxSteps := 4000000) only [↓sP, sA, tyS, simprocAttr]
  repeat refine AI ?_
  refine hK _ _ _ ?_
  clear hK K
  refine hw_seq fun K hK => hw_quiet mixed (by kernel_rfl) (by kernel_rfl) (by kernel_rfl) ?_
  simp only [sR, simprocAttr]
  iterate 6
   (refine hlex_step (g := none) rfl rfl fun K' hK' => ?_; simp only [sH, ↓sP, sA, tyS, simprocAttr, Int.natCast_nonneg, Int.ofNat_lt, hlt, nth_map hlt]; (repeat refine AI ?_); refine hK' _ _ ?_; clear hK' K')
  simp only [sE, ↓reduceIte, simprocAttr]
  repeat refine AI ?_
  refine hK _ _ _ ?_
  clear hK K
  refine hw_cond (b := d == l[i]) rfl (fun hb => ?_) (fun hb => ?_)
  ·
   refine hw_seq fun K hK => hw_region (by kernel_rfl) ?_
   simp (maxSteps := 4000000) only [↓sP, sA, tyS, simprocAttr]
   repeat refine AI ?_
   refine hK _ _ _ ?_
   clear hK K
   refine hw_ret ?_
   simp (maxSteps := 4000000) only [hpost, Tryz.results71, hresL, hres1, tupOf, ↓sP, sA, tyS, simprocAttr]
   exact hret_pure [] (.int .i64 i) rfl (by rw [idxP_hit (p := fun x => d == x) hlt hb h0])
  refine hw_skip ?_
  simp (maxSteps := 4000000) only [↓sP, sA, tyS, simprocAttr]
  repeat refine AI ?_
  refine hK _ _ _ ?_
  clear hK K
  refine hw_region (by kernel_rfl) ?_
  simp (maxSteps := 4000000) only [↓sP, sA, tyS, simprocAttr, IntWalk.i64_in _ (show -9223372036854775808 ≤ (i : Int) + 1 ∧ (i : Int) + 1 ≤ 9223372036854775807 by omega)]
  refine ⟨⟨i + 1, hlt, take_miss (p := fun x => d == x) hlt hb h0⟩, fits_fin (by omega) (by simp [FinOk, fin_at, finA_at, upd_at, HV.men, HV.menL, HV.norm, HV.toC, HV.toCL]) (by simp [FobOk, fob_at, upd_at, none0_at, gone, HO.men, HV.men, HV.menL, HV.norm, HV.toC, HV.toCL]), ?_⟩
  show l.length - (i + 1) < l.length - i
  omega
 refine hw_exit ?_
 simp (maxSteps := 4000000) only [↓sP, sA, tyS, simprocAttr]
 clear hK K
 repeat refine AI ?_
 refine hK _ _ _ ?_
 clear hK K
 refine hw_seq fun K hK => hw_region (by kernel_rfl) ?_
 simp (maxSteps := 4000000) only [↓sP, sA, tyS, simprocAttr]
 repeat refine AI ?_
 refine hK _ _ _ ?_
 clear hK K
 refine hw_ret ?_
 simp (maxSteps := 4000000) only [hpost, Tryz.results71, hresL, hres1, tupOf, ↓sP, sA, tyS, simprocAttr]
 have hei : i = l.length := by simp at hb; omega
 subst hei
 exact hret_pure [] (.int .i64 (-1)) rfl (by rw [idxP_none (p := fun x => d == x) (by simpa using h0)])


theorem contd_ok (l : List Dig) (d : Dig) (hl : l.length < 2 ^ 40) : HPure Tryz.prog 44 [.slc (l.map dg), dg d] (fun v => v = .bool (l.contains d)) := by
 refine hfn_walk Tryz.func44 rfl (by kernel_rfl) (locOk_nil _) (Nat.le_of_ble_eq_true rfl) ?_
 refine hw_seq fun K hK => hw_region (by kernel_rfl) ?_
 simp (maxSteps := 4000000) only [↓sP, sA, tyS, simprocAttr]
 repeat refine AI ?_
 refine hK _ _ _ ?_
 clear hK K
 refine hw_seq fun K hK => hw_region (by kernel_rfl) ?_
 simp only [sR, simprocAttr]
 iterate 2
  (refine hlex_step (g := none) rfl rfl fun K' hK' => ?_; simp only [sH, ↓sP, sA, tyS, simprocAttr]; (repeat refine AI ?_); refine hK' _ _ ?_; clear hK' K')
 refine hlex_step (g := none) rfl rfl fun K' hK' => ?_
 simp (maxSteps := 4000000) only [sH, ↓sP, sA, tyS, simprocAttr]
 refine call_pure (args := [_, _]) (indexd_ok l d hl) ⟨rfl, rfl, rfl, rfl⟩ ?_
 rintro u rfl
 repeat refine AI ?_
 refine hK' _ _ ?_
 clear hK' K'
 refine hlex_step (g := none) rfl rfl fun K' hK' => ?_
 simp (maxSteps := 4000000) only [sH, ↓sP, sA, tyS, simprocAttr]
 rw [idx_contains l d]
 repeat refine AI ?_
 refine hK' _ _ ?_
 clear hK' K'
 refine hlex_step (g := none) rfl rfl fun K' hK' => ?_
 simp (maxSteps := 4000000) only [sH, ↓sP, sA, tyS, simprocAttr]
 repeat refine AI ?_
 refine hK' _ _ ?_
 clear hK' K'
 simp only [sE, ↓reduceIte, simprocAttr]
 repeat refine AI ?_
 refine hK _ _ _ ?_
 clear hK K
 refine hw_ret ?_
 simp (maxSteps := 4000000) only [hpost, Tryz.results44, hresL, hres1, tupOf, ↓sP, sA, tyS, simprocAttr]
 exact hret_pure [] (.bool _) rfl rfl


theorem owners_ok : HPure Tryz.prog 48 [] (fun v => v = .slc (owners4.map .str)) := by
 refine hfn_walk Tryz.func48 rfl (by kernel_rfl) (locOk_nil _) (Nat.le_of_ble_eq_true rfl) ?_
 refine hw_seq fun K hK => hw_region (by kernel_rfl) ?_
 simp (maxSteps := 4000000) only [↓sP, sA, tyS, simprocAttr]
 repeat refine AI ?_
 refine hK _ _ _ ?_
 clear hK K
 refine hw_seq fun K hK => hw_region (by kernel_rfl) ?_
 simp (maxSteps := 4000000) only [↓sP, sA, tyS, simprocAttr]
 repeat refine AI ?_
 refine hK _ _ _ ?_
 clear hK K
 refine hw_ret ?_
 simp (maxSteps := 4000000) only [hpost, Tryz.results48, hresL, hres1, tupOf, ↓sP, sA, tyS, simprocAttr]
 exact hret_pure [4] _ rfl rfl


theorem roles_ok : HPure Tryz.prog 8 [] (fun v => v = .slc (roles10.map .str)) := by
 refine hfn_walk Tryz.func8 rfl (by kernel_rfl) (locOk_nil _) (Nat.le_of_ble_eq_true rfl) ?_
 refine hw_seq fun K hK => hw_region (by kernel_rfl) ?_
 simp (maxSteps := 4000000) only [↓sP, sA, tyS, simprocAttr]
 repeat refine AI ?_
 refine hK _ _ _ ?_
 clear hK K
 refine hw_seq fun K hK => hw_region (by kernel_rfl) ?_
 simp (maxSteps := 4000000) only [↓sP, sA, tyS, simprocAttr]
 repeat refine AI ?_
 refine hK _ _ _ ?_
 clear hK K
 refine hw_ret ?_
 simp (maxSteps := 4000000) only [hpost, Tryz.results8, hresL, hres1, tupOf, ↓sP, sA, tyS, simprocAttr]
 exact hret_pure [4] _ rfl rfl


theorem owner_ok (i : Nat) (hi : i < 2 ^ 40) : HPure Tryz.prog 20 [.int .i64 i] (fun v => v = .str (mOwner i)) := by
 have h4 : i % 4 < owners4.length := Nat.mod_lt _ (by decide)
 have hm : (i : Int).tmod 4 = ((i % 4 : Nat) : Int) := rfl
 refine hfn_walk Tryz.func20 rfl (by kernel_rfl) (locOk_nil _) (Nat.le_of_ble_eq_true rfl) ?_
 refine hw_seq fun K hK => hw_region (by kernel_rfl) ?_
 simp (maxSteps := 4000000) only [↓sP, sA, tyS, simprocAttr]
 repeat refine AI ?_
 refine hK _ _ _ ?_
 clear hK K
 refine hw_seq fun K hK => hw_region (by kernel_rfl) ?_
 simp only [sR, simprocAttr]
 refine hlex_step (g := none) rfl rfl fun K' hK' => ?_
 simp (maxSteps := 4000000) only [sH, ↓sP, sA, tyS, simprocAttr, hm, Int.natCast_nonneg, Int.ofNat_lt, h4, nth_map h4]
 refine call_pure (args := []) owners_ok ⟨rfl, rfl, rfl, rfl⟩ ?_
 rintro u rfl
 repeat refine AI ?_
 refine hK' _ _ ?_
 clear hK' K'
 iterate 5
  (refine hlex_step (g := none) rfl rfl fun K' hK' => ?_; simp only [sH, ↓sP, sA, tyS, simprocAttr, hm, Int.natCast_nonneg, Int.ofNat_lt, h4, nth_map h4]; (repeat refine AI ?_); refine hK' _ _ ?_; clear hK' K')
 simp only [sE, ↓reduceIte, simprocAttr]
 repeat refine AI ?_
 refine hK _ _ _ ?_
 clear hK K
 refine hw_ret ?_
 simp (maxSteps := 4000000) only [hpost, Tryz.results20, hresL, hres1, tupOf, ↓sP, sA, tyS, simprocAttr]
 exact hret_pure [] (.str owners4[i % 4]) rfl (by unfold mOwner; rw [List.getD_eq_getElem?_getD, List.getElem?_eq_getElem h4]; rfl)


theorem name_ok (s : Word) (hl : s.length < 2 ^ 63) : HPure Tryz.prog 75 [.str s] (fun v => v = .bool (nameB s)) := by
 refine hfn_walk Tryz.func75 rfl (by kernel_rfl) (locOk_nil _) (Nat.le_of_ble_eq_true rfl) ?_
 refine hw_seq fun K hK => hw_region (by kernel_rfl) ?_
 simp (maxSteps := 4000000) only [↓sP, sA, tyS, simprocAttr]
 repeat refine AI ?_
 refine hK _ _ _ ?_
 clear hK K
 refine hw_seq fun K hK => ?_
 refine hw_seq fun K hK => hw_region (by kernel_rfl) ?_
 simp only [sR, simprocAttr]
 iterate 4
  (refine hlex_step (g := none) rfl rfl fun K' hK' => ?_; simp only [sH, ↓sP, sA, tyS, simprocAttr]; (repeat refine AI ?_); refine hK' _ _ ?_; clear hK' K')
 refine hlex_cases 7 rfl (fun h1_7 => ?_) (fun h1_7 => ?_)
 ·
  iterate 3
   (refine hlex_step (g := some (8, false)) rfl rfl fun K' hK' => ?_; simp only [sH, ↓sP, sA, tyS, simprocAttr, h1_7]; (repeat refine AI ?_); refine hK' _ _ ?_; clear hK' K')
  refine hlex_step (g := none) rfl rfl fun K' hK' => ?_
  simp (maxSteps := 4000000) only [sH, ↓sP, sA, tyS, simprocAttr, h1_7]
  repeat refine AI ?_
  refine hK' _ _ ?_
  clear hK' K'
  simp only [sE, ↓reduceIte, simprocAttr]
  repeat refine AI ?_
  refine hK _ _ _ ?_
  clear hK K
  refine hw_cond (b := true) rfl (fun hb => ?_) (fun hb => ?_)
  ·
   refine hw_seq fun K hK => hw_region (by kernel_rfl) ?_
   simp (maxSteps := 4000000) only [↓sP, sA, tyS, simprocAttr]
   repeat refine AI ?_
   refine hK _ _ _ ?_
   clear hK K
   refine hw_ret ?_
   simp (maxSteps := 4000000) only [hpost, Tryz.results75, hresL, hres1, tupOf, ↓sP, sA, tyS, simprocAttr]
   exact hret_pure [] (.bool false) rfl (by rw [nameB_len (by simp at h1_7; omega)])
  cases hb
 iterate 3
  (refine hlex_step (g := some (8, false)) rfl rfl fun K' hK' => ?_; simp only [sH, ↓sP, sA, tyS, simprocAttr, h1_7]; (repeat refine AI ?_); refine hK' _ _ ?_; clear hK' K')
 refine hlex_step (g := none) rfl rfl fun K' hK' => ?_
 simp (maxSteps := 4000000) only [sH, ↓sP, sA, tyS, simprocAttr, h1_7]
 repeat refine AI ?_
 refine hK' _ _ ?_
 clear hK' K'
 simp only [sE, ↓reduceIte, simprocAttr]
 repeat refine AI ?_
 refine hK _ _ _ ?_
 clear hK K
 refine hw_cond (b := _) rfl (fun hb => ?_) (fun hb => ?_)
 ·
  refine hw_seq fun K hK => hw_region (by kernel_rfl) ?_
  simp (maxSteps := 4000000) only [↓sP, sA, tyS, simprocAttr]
  repeat refine AI ?_
  refine hK _ _ _ ?_
  clear hK K
  refine hw_ret ?_
  simp (maxSteps := 4000000) only [hpost, Tryz.results75, hresL, hres1, tupOf, ↓sP, sA, tyS, simprocAttr]
  exact hret_pure [] (.bool false) rfl (by rw [nameB_len (by simp at hb; omega)])
 refine hw_skip ?_
 simp (maxSteps := 4000000) only [↓sP, sA, tyS, simprocAttr]
 repeat refine AI ?_
 refine hK _ _ _ ?_
 clear hK K
 refine hw_seq fun K hK => ?_
 refine hw_seq fun K hK => hw_region (by kernel_rfl) ?_
 simp (maxSteps := 4000000) only [↓sP, sA, tyS, simprocAttr]
 repeat refine AI ?_
 refine hK _ _ _ ?_
 clear hK K
 refine hw_block ?_
 have hlen : 1 ≤ s.length ∧ s.length ≤ 64 := by simp at h1_7 hb; omega
 refine hw_loop (α := {i : Nat // i ≤ s.length ∧ ∀ j (_ : j < i) (h : j < s.length), okc j s[j] = true}) (fun i => (fin [(0, .c (.str s)), (3, .c (.int .i64 i.1))], fob [])) 100 (fun i => s.length - i.1) ⟨0, by omega, fun j h => by omega⟩ (fits_fin (by omega) (by simp [FinOk, fin_at, finA_at, upd_at, HV.men, HV.menL, HV.norm, HV.toC, HV.toCL]) (by simp [FobOk, fob_at, upd_at, none0_at, gone, HO.men, HV.men, HV.menL, HV.norm, HV.toC, HV.toCL])) ?_
 clear hb
 rintro ⟨i, hi, h0⟩
 refine hw_seq fun K hK => ?_
 refine hw_seq fun K hK => hw_region (by kernel_rfl) ?_
 simp only [sR, simprocAttr]
 iterate 4
  (refine hlex_step (g := none) rfl rfl fun K' hK' => ?_; simp only [sH, ↓sP, sA, tyS, simprocAttr, h1_7]; (repeat refine AI ?_); refine hK' _ _ ?_; clear hK' K')
 simp only [sE, ↓reduceIte, simprocAttr]
 repeat refine AI ?_
 refine hK _ _ _ ?_
 clear hK K
 refine hw_cond (b := decide ((i : Int) < s.length)) rfl (fun hb => ?_) (fun hb => ?_)
 ·
  have hlt : i < s.length := by simpa using hb
  have hgd : s.getD i 0 = s[i] := by simp [hlt]
  refine hw_skip ?_
  simp (maxSteps := 4000000) only [↓sP, sA, tyS, simprocAttr]
  repeat refine AI ?_
  refine hK _ _ _ ?_
  clear hK K
  refine hw_seq fun K hK => ?_
  refine hw_block ?_
  refine hw_seq fun K hK => hw_region (by kernel_rfl) ?_
  simp only [sR, simprocAttr]
  iterate 4
   (refine hlex_step (g := none) rfl rfl fun K' hK' => ?_; simp only [sH, ↓sP, sA, tyS, simprocAttr, Int.natCast_nonneg, Int.ofNat_lt, hlt, hgd, h1_7]; (repeat refine AI ?_); refine hK' _ _ ?_; clear hK' K')
  simp only [sE, ↓reduceIte, simprocAttr]
  repeat refine AI ?_
  refine hK _ _ _ ?_
  clear hK K
  refine hw_seq fun K hK => ?_
  refine hw_seq fun K hK => ?_
  have key : ∀ (b : Bool) fr ob nx, b = okc i s[i] → Fits 0 fr ob (fin [(0, .c (.str s)), (3, .c (.int .i64 i)), (51, .c (.bool b))]) (fob []) 600 → K fr ob nx := by
   rintro b fr ob nx rfl hf
   refine hK _ _ _ (hw_fits hf ?_)
   clear hf hK K
   refine hw_cond (b := okc i s[i]) rfl (fun hb => ?_) (fun hb => ?_)
   ·
    refine hw_exit ?_
    simp (maxSteps := 4000000) only [↓sP, sA, tyS, simprocAttr]
    clear hK K
    repeat refine AI ?_
    refine hK _ _ _ ?_
    clear hK K
    refine hw_region (by kernel_rfl) ?_
    simp (maxSteps := 4000000) only [↓sP, sA, tyS, simprocAttr, IntWalk.i64_in _ (show -9223372036854775808 ≤ (i : Int) + 1 ∧ (i : Int) + 1 ≤ 9223372036854775807 by omega)]
    refine ⟨⟨i + 1, hlt, name_step hlt hb h0⟩, fits_fin (by omega) (by simp [FinOk, fin_at, finA_at, upd_at, HV.men, HV.menL, HV.norm, HV.toC, HV.toCL]) (by simp [FobOk, fob_at, upd_at, none0_at, gone, HO.men, HV.men, HV.menL, HV.norm, HV.toC, HV.toCL]), ?_⟩
    show s.length - (i + 1) < s.length - i
    omega
   refine hw_skip ?_
   simp (maxSteps := 4000000) only [↓sP, sA, tyS, simprocAttr]
   repeat refine AI ?_
   refine hK _ _ _ ?_
   clear hK K
   refine hw_seq fun K hK => hw_region (by kernel_rfl) ?_
   simp (maxSteps := 4000000) only [↓sP, sA, tyS, simprocAttr]
   repeat refine AI ?_
   refine hK _ _ _ ?_
   clear hK K
   refine hw_ret ?_
   simp (maxSteps := 4000000) only [hpost, Tryz.results75, hresL, hres1, tupOf, ↓sP, sA, tyS, simprocAttr]
   exact hret_pure [] (.bool false) rfl (by rw [nameB_bad hlt hb])
  refine hw_region (by kernel_rfl) ?_
  simp only [sR, simprocAttr]
  iterate 3
   (refine hlex_step (g := none) rfl rfl fun K' hK' => ?_; simp only [sH, ↓sP, sA, tyS, simprocAttr, h1_7]; (repeat refine AI ?_); refine hK' _ _ ?_; clear hK' K')
  refine hlex_cases 23 rfl (fun h7_23 => ?_) (fun h7_23 => ?_)
  ·
   iterate 2
    (refine hlex_step (g := some (24, true)) rfl rfl fun K' hK' => ?_; simp only [sH, ↓sP, sA, tyS, simprocAttr, h1_7, h7_23]; (repeat refine AI ?_); refine hK' _ _ ?_; clear hK' K')
   iterate 2
    (refine hlex_step (g := none) rfl rfl fun K' hK' => ?_; simp only [sH, ↓sP, sA, tyS, simprocAttr, h1_7, h7_23]; (repeat refine AI ?_); refine hK' _ _ ?_; clear hK' K')
   refine hlex_cases 26 rfl (fun h7_26 => ?_) (fun h7_26 => ?_)
   ·
    iterate 3
     (refine hlex_step (g := some (28, false)) rfl rfl fun K' hK' => ?_; simp only [sH, ↓sP, sA, tyS, simprocAttr, h1_7, h7_23, h7_26]; (repeat refine AI ?_); refine hK' _ _ ?_; clear hK' K')
    iterate 2
     (refine hlex_step (g := some (31, true)) rfl rfl fun K' hK' => ?_; simp only [sH, ↓sP, sA, tyS, simprocAttr, h1_7, h7_23, h7_26]; (repeat refine AI ?_); refine hK' _ _ ?_; clear hK' K')
    refine hlex_step (g := some (28, false)) rfl rfl fun K' hK' => ?_
    simp (maxSteps := 4000000) only [sH, ↓sP, sA, tyS, simprocAttr, h1_7, h7_23, h7_26]
    repeat refine AI ?_
    refine hK' _ _ ?_
    clear hK' K'
    iterate 2
     (refine hlex_step (g := none) rfl rfl fun K' hK' => ?_; simp only [sH, ↓sP, sA, tyS, simprocAttr, h1_7, h7_23, h7_26]; (repeat refine AI ?_); refine hK' _ _ ?_; clear hK' K')
    iterate 3
     (refine hlex_step (g := some (36, false)) rfl rfl fun K' hK' => ?_; simp only [sH, ↓sP, sA, tyS, simprocAttr, h1_7, h7_23, h7_26]; (repeat refine AI ?_); refine hK' _ _ ?_; clear hK' K')
    iterate 3
     (refine hlex_step (g := some (39, true)) rfl rfl fun K' hK' => ?_; simp only [sH, ↓sP, sA, tyS, simprocAttr, h1_7, h7_23, h7_26]; (repeat refine AI ?_); refine hK' _ _ ?_; clear hK' K')
    iterate 2
     (refine hlex_step (g := some (42, false)) rfl rfl fun K' hK' => ?_; simp only [sH, ↓sP, sA, tyS, simprocAttr, h1_7, h7_23, h7_26]; (repeat refine AI ?_); refine hK' _ _ ?_; clear hK' K')
    iterate 2
     (refine hlex_step (g := some (39, true)) rfl rfl fun K' hK' => ?_; simp only [sH, ↓sP, sA, tyS, simprocAttr, h1_7, h7_23, h7_26]; (repeat refine AI ?_); refine hK' _ _ ?_; clear hK' K')
    iterate 2
     (refine hlex_step (g := some (46, false)) rfl rfl fun K' hK' => ?_; simp only [sH, ↓sP, sA, tyS, simprocAttr, h1_7, h7_23, h7_26]; (repeat refine AI ?_); refine hK' _ _ ?_; clear hK' K')
    refine hlex_step (g := some (39, true)) rfl rfl fun K' hK' => ?_
    simp (maxSteps := 4000000) only [sH, ↓sP, sA, tyS, simprocAttr, h1_7, h7_23, h7_26]
    repeat refine AI ?_
    refine hK' _ _ ?_
    clear hK' K'
    refine hlex_step (g := some (36, false)) rfl rfl fun K' hK' => ?_
    simp (maxSteps := 4000000) only [sH, ↓sP, sA, tyS, simprocAttr, h1_7, h7_23, h7_26]
    repeat refine AI ?_
    refine hK' _ _ ?_
    clear hK' K'
    refine hlex_step (g := none) rfl rfl fun K' hK' => ?_
    simp (maxSteps := 4000000) only [sH, ↓sP, sA, tyS, simprocAttr, h1_7, h7_23, h7_26]
    repeat refine AI ?_
    refine hK' _ _ ?_
    clear hK' K'
    simp only [sE, ↓reduceIte, simprocAttr]
    exact key true _ _ _ (by simp only [okc, alZ, puZ, h1_7, h7_23, h7_26, Bool.and_true, Bool.and_false, Bool.true_and, Bool.false_and, Bool.or_true, Bool.true_or, Bool.false_or, Bool.or_false, Bool.and_self, Bool.or_self]) (fits_fin (by omega) (by simp [FinOk, fin_at, finA_at, upd_at, HV.men, HV.menL, HV.norm, HV.toC, HV.toCL]) (by simp [FobOk, fob_at, upd_at, none0_at, gone, HO.men, HV.men, HV.menL, HV.norm, HV.toC, HV.toCL]))
   iterate 3
    (refine hlex_step (g := some (28, false)) rfl rfl fun K' hK' => ?_; simp only [sH, ↓sP, sA, tyS, simprocAttr, h1_7, h7_23, h7_26]; (repeat refine AI ?_); refine hK' _ _ ?_; clear hK' K')
   refine hlex_cases 30 rfl (fun h7_30 => ?_) (fun h7_30 => ?_)
   ·
    iterate 2
     (refine hlex_step (g := some (31, true)) rfl rfl fun K' hK' => ?_; simp only [sH, ↓sP, sA, tyS, simprocAttr, h1_7, h7_23, h7_26, h7_30]; (repeat refine AI ?_); refine hK' _ _ ?_; clear hK' K')
    refine hlex_step (g := some (28, false)) rfl rfl fun K' hK' => ?_
    simp (maxSteps := 4000000) only [sH, ↓sP, sA, tyS, simprocAttr, h1_7, h7_23, h7_26, h7_30]
    repeat refine AI ?_
    refine hK' _ _ ?_
    clear hK' K'
    iterate 2
     (refine hlex_step (g := none) rfl rfl fun K' hK' => ?_; simp only [sH, ↓sP, sA, tyS, simprocAttr, h1_7, h7_23, h7_26, h7_30]; (repeat refine AI ?_); refine hK' _ _ ?_; clear hK' K')
    refine hlex_cases 33 rfl (fun h7_33 => ?_) (fun h7_33 => ?_)
    ·
     iterate 3
      (refine hlex_step (g := some (36, false)) rfl rfl fun K' hK' => ?_; simp only [sH, ↓sP, sA, tyS, simprocAttr, h1_7, h7_23, h7_26, h7_30, h7_33]; (repeat refine AI ?_); refine hK' _ _ ?_; clear hK' K')
     iterate 3
      (refine hlex_step (g := some (39, true)) rfl rfl fun K' hK' => ?_; simp only [sH, ↓sP, sA, tyS, simprocAttr, h1_7, h7_23, h7_26, h7_30, h7_33]; (repeat refine AI ?_); refine hK' _ _ ?_; clear hK' K')
     iterate 2
      (refine hlex_step (g := some (42, false)) rfl rfl fun K' hK' => ?_; simp only [sH, ↓sP, sA, tyS, simprocAttr, h1_7, h7_23, h7_26, h7_30, h7_33]; (repeat refine AI ?_); refine hK' _ _ ?_; clear hK' K')
     iterate 2
      (refine hlex_step (g := some (39, true)) rfl rfl fun K' hK' => ?_; simp only [sH, ↓sP, sA, tyS, simprocAttr, h1_7, h7_23, h7_26, h7_30, h7_33]; (repeat refine AI ?_); refine hK' _ _ ?_; clear hK' K')
     iterate 2
      (refine hlex_step (g := some (46, false)) rfl rfl fun K' hK' => ?_; simp only [sH, ↓sP, sA, tyS, simprocAttr, h1_7, h7_23, h7_26, h7_30, h7_33]; (repeat refine AI ?_); refine hK' _ _ ?_; clear hK' K')
     refine hlex_step (g := some (39, true)) rfl rfl fun K' hK' => ?_
     simp (maxSteps := 4000000) only [sH, ↓sP, sA, tyS, simprocAttr, h1_7, h7_23, h7_26, h7_30, h7_33]
     repeat refine AI ?_
     refine hK' _ _ ?_
     clear hK' K'
     refine hlex_step (g := some (36, false)) rfl rfl fun K' hK' => ?_
     simp (maxSteps := 4000000) only [sH, ↓sP, sA, tyS, simprocAttr, h1_7, h7_23, h7_26, h7_30, h7_33]
     repeat refine AI ?_
     refine hK' _ _ ?_
     clear hK' K'
     refine hlex_step (g := none) rfl rfl fun K' hK' => ?_
     simp (maxSteps := 4000000) only [sH, ↓sP, sA, tyS, simprocAttr, h1_7, h7_23, h7_26, h7_30, h7_33]
     repeat refine AI ?_
     refine hK' _ _ ?_
     clear hK' K'
     simp only [sE, ↓reduceIte, simprocAttr]
     exact key true _ _ _ (by simp only [okc, alZ, puZ, h1_7, h7_23, h7_26, h7_30, h7_33, Bool.and_true, Bool.and_false, Bool.true_and, Bool.false_and, Bool.or_true, Bool.true_or, Bool.false_or, Bool.or_false, Bool.and_self, Bool.or_self]) (fits_fin (by omega) (by simp [FinOk, fin_at, finA_at, upd_at, HV.men, HV.menL, HV.norm, HV.toC, HV.toCL]) (by simp [FobOk, fob_at, upd_at, none0_at, gone, HO.men, HV.men, HV.menL, HV.norm, HV.toC, HV.toCL]))
    iterate 3
     (refine hlex_step (g := some (36, false)) rfl rfl fun K' hK' => ?_; simp only [sH, ↓sP, sA, tyS, simprocAttr, h1_7, h7_23, h7_26, h7_30, h7_33]; (repeat refine AI ?_); refine hK' _ _ ?_; clear hK' K')
    refine hlex_cases 38 rfl (fun h7_38 => ?_) (fun h7_38 => ?_)
    ·
     iterate 3
      (refine hlex_step (g := some (39, true)) rfl rfl fun K' hK' => ?_; simp only [sH, ↓sP, sA, tyS, simprocAttr, h1_7, h7_23, h7_26, h7_30, h7_33, h7_38]; (repeat refine AI ?_); refine hK' _ _ ?_; clear hK' K')
     refine hlex_cases 41 rfl (fun h7_41 => ?_) (fun h7_41 => ?_)
     ·
      iterate 2
       (refine hlex_step (g := some (42, false)) rfl rfl fun K' hK' => ?_; simp only [sH, ↓sP, sA, tyS, simprocAttr, h1_7, h7_23, h7_26, h7_30, h7_33, h7_38, h7_41]; (repeat refine AI ?_); refine hK' _ _ ?_; clear hK' K')
      iterate 2
       (refine hlex_step (g := some (39, true)) rfl rfl fun K' hK' => ?_; simp only [sH, ↓sP, sA, tyS, simprocAttr, h1_7, h7_23, h7_26, h7_30, h7_33, h7_38, h7_41]; (repeat refine AI ?_); refine hK' _ _ ?_; clear hK' K')
      iterate 2
       (refine hlex_step (g := some (46, false)) rfl rfl fun K' hK' => ?_; simp only [sH, ↓sP, sA, tyS, simprocAttr, h1_7, h7_23, h7_26, h7_30, h7_33, h7_38, h7_41]; (repeat refine AI ?_); refine hK' _ _ ?_; clear hK' K')
      refine hlex_step (g := some (39, true)) rfl rfl fun K' hK' => ?_
      simp (maxSteps := 4000000) only [sH, ↓sP, sA, tyS, simprocAttr, h1_7, h7_23, h7_26, h7_30, h7_33, h7_38, h7_41]
      repeat refine AI ?_
      refine hK' _ _ ?_
      clear hK' K'
      refine hlex_step (g := some (36, false)) rfl rfl fun K' hK' => ?_
      simp (maxSteps := 4000000) only [sH, ↓sP, sA, tyS, simprocAttr, h1_7, h7_23, h7_26, h7_30, h7_33, h7_38, h7_41]
      repeat refine AI ?_
      refine hK' _ _ ?_
      clear hK' K'
      refine hlex_step (g := none) rfl rfl fun K' hK' => ?_
      simp (maxSteps := 4000000) only [sH, ↓sP, sA, tyS, simprocAttr, h1_7, h7_23, h7_26, h7_30, h7_33, h7_38, h7_41]
      repeat refine AI ?_
      refine hK' _ _ ?_
      clear hK' K'
      simp only [sE, ↓reduceIte, simprocAttr]
      exact key true _ _ _ (by simp only [okc, alZ, puZ, h1_7, h7_23, h7_26, h7_30, h7_33, h7_38, h7_41, Bool.and_true, Bool.and_false, Bool.true_and, Bool.false_and, Bool.or_true, Bool.true_or, Bool.false_or, Bool.or_false, Bool.and_self, Bool.or_self]) (fits_fin (by omega) (by simp [FinOk, fin_at, finA_at, upd_at, HV.men, HV.menL, HV.norm, HV.toC, HV.toCL]) (by simp [FobOk, fob_at, upd_at, none0_at, gone, HO.men, HV.men, HV.menL, HV.norm, HV.toC, HV.toCL]))
     iterate 2
      (refine hlex_step (g := some (42, false)) rfl rfl fun K' hK' => ?_; simp only [sH, ↓sP, sA, tyS, simprocAttr, h1_7, h7_23, h7_26, h7_30, h7_33, h7_38, h7_41]; (repeat refine AI ?_); refine hK' _ _ ?_; clear hK' K')
     iterate 2
      (refine hlex_step (g := some (39, true)) rfl rfl fun K' hK' => ?_; simp only [sH, ↓sP, sA, tyS, simprocAttr, h1_7, h7_23, h7_26, h7_30, h7_33, h7_38, h7_41]; (repeat refine AI ?_); refine hK' _ _ ?_; clear hK' K')
     refine hlex_cases 44 rfl (fun h7_44 => ?_) (fun h7_44 => ?_)
     ·
      iterate 2
       (refine hlex_step (g := some (46, false)) rfl rfl fun K' hK' => ?_; simp only [sH, ↓sP, sA, tyS, simprocAttr, h1_7, h7_23, h7_26, h7_30, h7_33, h7_38, h7_41, h7_44]; (repeat refine AI ?_); refine hK' _ _ ?_; clear hK' K')
      refine hlex_step (g := some (39, true)) rfl rfl fun K' hK' => ?_
      simp (maxSteps := 4000000) only [sH, ↓sP, sA, tyS, simprocAttr, h1_7, h7_23, h7_26, h7_30, h7_33, h7_38, h7_41, h7_44]
      repeat refine AI ?_
      refine hK' _ _ ?_
      clear hK' K'
      refine hlex_step (g := some (36, false)) rfl rfl fun K' hK' => ?_
      simp (maxSteps := 4000000) only [sH, ↓sP, sA, tyS, simprocAttr, h1_7, h7_23, h7_26, h7_30, h7_33, h7_38, h7_41, h7_44]
      repeat refine AI ?_
      refine hK' _ _ ?_
      clear hK' K'
      refine hlex_step (g := none) rfl rfl fun K' hK' => ?_
      simp (maxSteps := 4000000) only [sH, ↓sP, sA, tyS, simprocAttr, h1_7, h7_23, h7_26, h7_30, h7_33, h7_38, h7_41, h7_44]
      repeat refine AI ?_
      refine hK' _ _ ?_
      clear hK' K'
      simp only [sE, ↓reduceIte, simprocAttr]
      exact key true _ _ _ (by simp only [okc, alZ, puZ, h1_7, h7_23, h7_26, h7_30, h7_33, h7_38, h7_41, h7_44, Bool.and_true, Bool.and_false, Bool.true_and, Bool.false_and, Bool.or_true, Bool.true_or, Bool.false_or, Bool.or_false, Bool.and_self, Bool.or_self]) (fits_fin (by omega) (by simp [FinOk, fin_at, finA_at, upd_at, HV.men, HV.menL, HV.norm, HV.toC, HV.toCL]) (by simp [FobOk, fob_at, upd_at, none0_at, gone, HO.men, HV.men, HV.menL, HV.norm, HV.toC, HV.toCL]))
     iterate 2
      (refine hlex_step (g := some (46, false)) rfl rfl fun K' hK' => ?_; simp only [sH, ↓sP, sA, tyS, simprocAttr, h1_7, h7_23, h7_26, h7_30, h7_33, h7_38, h7_41, h7_44]; (repeat refine AI ?_); refine hK' _ _ ?_; clear hK' K')
     refine hlex_step (g := some (39, true)) rfl rfl fun K' hK' => ?_
     simp (maxSteps := 4000000) only [sH, ↓sP, sA, tyS, simprocAttr, h1_7, h7_23, h7_26, h7_30, h7_33, h7_38, h7_41, h7_44]
     repeat refine AI ?_
     refine hK' _ _ ?_
     clear hK' K'
     refine hlex_step (g := some (36, false)) rfl rfl fun K' hK' => ?_
     simp (maxSteps := 4000000) only [sH, ↓sP, sA, tyS, simprocAttr, h1_7, h7_23, h7_26, h7_30, h7_33, h7_38, h7_41, h7_44]
     repeat refine AI ?_
     refine hK' _ _ ?_
     clear hK' K'
     refine hlex_step (g := none) rfl rfl fun K' hK' => ?_
     simp (maxSteps := 4000000) only [sH, ↓sP, sA, tyS, simprocAttr, h1_7, h7_23, h7_26, h7_30, h7_33, h7_38, h7_41, h7_44]
     repeat refine AI ?_
     refine hK' _ _ ?_
     clear hK' K'
     refine hlex_cases 48 rfl (fun h7_48 => ?_) (fun h7_48 => ?_)
     ·
      simp only [h7_48]
      simp only [sE, ↓reduceIte, simprocAttr]
      exact key true _ _ _ (by simp only [okc, alZ, puZ, h1_7, h7_23, h7_26, h7_30, h7_33, h7_38, h7_41, h7_44, h7_48, Bool.and_true, Bool.and_false, Bool.true_and, Bool.false_and, Bool.or_true, Bool.true_or, Bool.false_or, Bool.or_false, Bool.and_self, Bool.or_self]) (fits_fin (by omega) (by simp [FinOk, fin_at, finA_at, upd_at, HV.men, HV.menL, HV.norm, HV.toC, HV.toCL]) (by simp [FobOk, fob_at, upd_at, none0_at, gone, HO.men, HV.men, HV.menL, HV.norm, HV.toC, HV.toCL]))
     simp only [h7_48]
     simp only [sE, ↓reduceIte, simprocAttr]
     exact key false _ _ _ (by simp only [okc, alZ, puZ, h1_7, h7_23, h7_26, h7_30, h7_33, h7_38, h7_41, h7_44, h7_48, Bool.and_true, Bool.and_false, Bool.true_and, Bool.false_and, Bool.or_true, Bool.true_or, Bool.false_or, Bool.or_false, Bool.and_self, Bool.or_self]) (fits_fin (by omega) (by simp [FinOk, fin_at, finA_at, upd_at, HV.men, HV.menL, HV.norm, HV.toC, HV.toCL]) (by simp [FobOk, fob_at, upd_at, none0_at, gone, HO.men, HV.men, HV.menL, HV.norm, HV.toC, HV.toCL]))
    iterate 3
     (refine hlex_step (g := some (39, true)) rfl rfl fun K' hK' => ?_; simp only [sH, ↓sP, sA, tyS, simprocAttr, h1_7, h7_23, h7_26, h7_30, h7_33, h7_38]; (repeat refine AI ?_); refine hK' _ _ ?_; clear hK' K')
    iterate 2
     (refine hlex_step (g := some (42, false)) rfl rfl fun K' hK' => ?_; simp only [sH, ↓sP, sA, tyS, simprocAttr, h1_7, h7_23, h7_26, h7_30, h7_33, h7_38]; (repeat refine AI ?_); refine hK' _ _ ?_; clear hK' K')
    iterate 2
     (refine hlex_step (g := some (39, true)) rfl rfl fun K' hK' => ?_; simp only [sH, ↓sP, sA, tyS, simprocAttr, h1_7, h7_23, h7_26, h7_30, h7_33, h7_38]; (repeat refine AI ?_); refine hK' _ _ ?_; clear hK' K')
    iterate 2
     (refine hlex_step (g := some (46, false)) rfl rfl fun K' hK' => ?_; simp only [sH, ↓sP, sA, tyS, simprocAttr, h1_7, h7_23, h7_26, h7_30, h7_33, h7_38]; (repeat refine AI ?_); refine hK' _ _ ?_; clear hK' K')
    refine hlex_step (g := some (39, true)) rfl rfl fun K' hK' => ?_
    simp (maxSteps := 4000000) only [sH, ↓sP, sA, tyS, simprocAttr, h1_7, h7_23, h7_26, h7_30, h7_33, h7_38]
    repeat refine AI ?_
    refine hK' _ _ ?_
    clear hK' K'
    refine hlex_step (g := some (36, false)) rfl rfl fun K' hK' => ?_
    simp (maxSteps := 4000000) only [sH, ↓sP, sA, tyS, simprocAttr, h1_7, h7_23, h7_26, h7_30, h7_33, h7_38]
    repeat refine AI ?_
    refine hK' _ _ ?_
    clear hK' K'
    refine hlex_step (g := none) rfl rfl fun K' hK' => ?_
    simp (maxSteps := 4000000) only [sH, ↓sP, sA, tyS, simprocAttr, h1_7, h7_23, h7_26, h7_30, h7_33, h7_38]
    repeat refine AI ?_
    refine hK' _ _ ?_
    clear hK' K'
    simp only [sE, ↓reduceIte, simprocAttr]
    exact key false _ _ _ (by simp only [okc, alZ, puZ, h1_7, h7_23, h7_26, h7_30, h7_33, h7_38, Bool.and_true, Bool.and_false, Bool.true_and, Bool.false_and, Bool.or_true, Bool.true_or, Bool.false_or, Bool.or_false, Bool.and_self, Bool.or_self]) (fits_fin (by omega) (by simp [FinOk, fin_at, finA_at, upd_at, HV.men, HV.menL, HV.norm, HV.toC, HV.toCL]) (by simp [FobOk, fob_at, upd_at, none0_at, gone, HO.men, HV.men, HV.menL, HV.norm, HV.toC, HV.toCL]))
   iterate 2
    (refine hlex_step (g := some (31, true)) rfl rfl fun K' hK' => ?_; simp only [sH, ↓sP, sA, tyS, simprocAttr, h1_7, h7_23, h7_26, h7_30]; (repeat refine AI ?_); refine hK' _ _ ?_; clear hK' K')
   refine hlex_step (g := some (28, false)) rfl rfl fun K' hK' => ?_
   simp (maxSteps := 4000000) only [sH, ↓sP, sA, tyS, simprocAttr, h1_7, h7_23, h7_26, h7_30]
   repeat refine AI ?_
   refine hK' _ _ ?_
   clear hK' K'
   iterate 2
    (refine hlex_step (g := none) rfl rfl fun K' hK' => ?_; simp only [sH, ↓sP, sA, tyS, simprocAttr, h1_7, h7_23, h7_26, h7_30]; (repeat refine AI ?_); refine hK' _ _ ?_; clear hK' K')
   iterate 3
    (refine hlex_step (g := some (36, false)) rfl rfl fun K' hK' => ?_; simp only [sH, ↓sP, sA, tyS, simprocAttr, h1_7, h7_23, h7_26, h7_30]; (repeat refine AI ?_); refine hK' _ _ ?_; clear hK' K')
   refine hlex_cases 38 rfl (fun h7_38 => ?_) (fun h7_38 => ?_)
   ·
    iterate 3
     (refine hlex_step (g := some (39, true)) rfl rfl fun K' hK' => ?_; simp only [sH, ↓sP, sA, tyS, simprocAttr, h1_7, h7_23, h7_26, h7_30, h7_38]; (repeat refine AI ?_); refine hK' _ _ ?_; clear hK' K')
    refine hlex_cases 41 rfl (fun h7_41 => ?_) (fun h7_41 => ?_)
    ·
     iterate 2
      (refine hlex_step (g := some (42, false)) rfl rfl fun K' hK' => ?_; simp only [sH, ↓sP, sA, tyS, simprocAttr, h1_7, h7_23, h7_26, h7_30, h7_38, h7_41]; (repeat refine AI ?_); refine hK' _ _ ?_; clear hK' K')
     iterate 2
      (refine hlex_step (g := some (39, true)) rfl rfl fun K' hK' => ?_; simp only [sH, ↓sP, sA, tyS, simprocAttr, h1_7, h7_23, h7_26, h7_30, h7_38, h7_41]; (repeat refine AI ?_); refine hK' _ _ ?_; clear hK' K')
     iterate 2
      (refine hlex_step (g := some (46, false)) rfl rfl fun K' hK' => ?_; simp only [sH, ↓sP, sA, tyS, simprocAttr, h1_7, h7_23, h7_26, h7_30, h7_38, h7_41]; (repeat refine AI ?_); refine hK' _ _ ?_; clear hK' K')
     refine hlex_step (g := some (39, true)) rfl rfl fun K' hK' => ?_
     simp (maxSteps := 4000000) only [sH, ↓sP, sA, tyS, simprocAttr, h1_7, h7_23, h7_26, h7_30, h7_38, h7_41]
     repeat refine AI ?_
     refine hK' _ _ ?_
     clear hK' K'
     refine hlex_step (g := some (36, false)) rfl rfl fun K' hK' => ?_
     simp (maxSteps := 4000000) only [sH, ↓sP, sA, tyS, simprocAttr, h1_7, h7_23, h7_26, h7_30, h7_38, h7_41]
     repeat refine AI ?_
     refine hK' _ _ ?_
     clear hK' K'
     refine hlex_step (g := none) rfl rfl fun K' hK' => ?_
     simp (maxSteps := 4000000) only [sH, ↓sP, sA, tyS, simprocAttr, h1_7, h7_23, h7_26, h7_30, h7_38, h7_41]
     repeat refine AI ?_
     refine hK' _ _ ?_
     clear hK' K'
     simp only [sE, ↓reduceIte, simprocAttr]
     exact key true _ _ _ (by simp only [okc, alZ, puZ, h1_7, h7_23, h7_26, h7_30, h7_38, h7_41, Bool.and_true, Bool.and_false, Bool.true_and, Bool.false_and, Bool.or_true, Bool.true_or, Bool.false_or, Bool.or_false, Bool.and_self, Bool.or_self]) (fits_fin (by omega) (by simp [FinOk, fin_at, finA_at, upd_at, HV.men, HV.menL, HV.norm, HV.toC, HV.toCL]) (by simp [FobOk, fob_at, upd_at, none0_at, gone, HO.men, HV.men, HV.menL, HV.norm, HV.toC, HV.toCL]))
    iterate 2
     (refine hlex_step (g := some (42, false)) rfl rfl fun K' hK' => ?_; simp only [sH, ↓sP, sA, tyS, simprocAttr, h1_7, h7_23, h7_26, h7_30, h7_38, h7_41]; (repeat refine AI ?_); refine hK' _ _ ?_; clear hK' K')
    iterate 2
     (refine hlex_step (g := some (39, true)) rfl rfl fun K' hK' => ?_; simp only [sH, ↓sP, sA, tyS, simprocAttr, h1_7, h7_23, h7_26, h7_30, h7_38, h7_41]; (repeat refine AI ?_); refine hK' _ _ ?_; clear hK' K')
    refine hlex_cases 44 rfl (fun h7_44 => ?_) (fun h7_44 => ?_)
    ·
     iterate 2
      (refine hlex_step (g := some (46, false)) rfl rfl fun K' hK' => ?_; simp only [sH, ↓sP, sA, tyS, simprocAttr, h1_7, h7_23, h7_26, h7_30, h7_38, h7_41, h7_44]; (repeat refine AI ?_); refine hK' _ _ ?_; clear hK' K')
     refine hlex_step (g := some (39, true)) rfl rfl fun K' hK' => ?_
     simp (maxSteps := 4000000) only [sH, ↓sP, sA, tyS, simprocAttr, h1_7, h7_23, h7_26, h7_30, h7_38, h7_41, h7_44]
     repeat refine AI ?_
     refine hK' _ _ ?_
     clear hK' K'
     refine hlex_step (g := some (36, false)) rfl rfl fun K' hK' => ?_
     simp (maxSteps := 4000000) only [sH, ↓sP, sA, tyS, simprocAttr, h1_7, h7_23, h7_26, h7_30, h7_38, h7_41, h7_44]
     repeat refine AI ?_
     refine hK' _ _ ?_
     clear hK' K'
     refine hlex_step (g := none) rfl rfl fun K' hK' => ?_
     simp (maxSteps := 4000000) only [sH, ↓sP, sA, tyS, simprocAttr, h1_7, h7_23, h7_26, h7_30, h7_38, h7_41, h7_44]
     repeat refine AI ?_
     refine hK' _ _ ?_
     clear hK' K'
     simp only [sE, ↓reduceIte, simprocAttr]
     exact key true _ _ _ (by simp only [okc, alZ, puZ, h1_7, h7_23, h7_26, h7_30, h7_38, h7_41, h7_44, Bool.and_true, Bool.and_false, Bool.true_and, Bool.false_and, Bool.or_true, Bool.true_or, Bool.false_or, Bool.or_false, Bool.and_self, Bool.or_self]) (fits_fin (by omega) (by simp [FinOk, fin_at, finA_at, upd_at, HV.men, HV.menL, HV.norm, HV.toC, HV.toCL]) (by simp [FobOk, fob_at, upd_at, none0_at, gone, HO.men, HV.men, HV.menL, HV.norm, HV.toC, HV.toCL]))
    iterate 2
     (refine hlex_step (g := some (46, false)) rfl rfl fun K' hK' => ?_; simp only [sH, ↓sP, sA, tyS, simprocAttr, h1_7, h7_23, h7_26, h7_30, h7_38, h7_41, h7_44]; (repeat refine AI ?_); refine hK' _ _ ?_; clear hK' K')
    refine hlex_step (g := some (39, true)) rfl rfl fun K' hK' => ?_
    simp (maxSteps := 4000000) only [sH, ↓sP, sA, tyS, simprocAttr, h1_7, h7_23, h7_26, h7_30, h7_38, h7_41, h7_44]
    repeat refine AI ?_
    refine hK' _ _ ?_
    clear hK' K'
    refine hlex_step (g := some (36, false)) rfl rfl fun K' hK' => ?_
    simp (maxSteps := 4000000) only [sH, ↓sP, sA, tyS, simprocAttr, h1_7, h7_23, h7_26, h7_30, h7_38, h7_41, h7_44]
    repeat refine AI ?_
    refine hK' _ _ ?_
    clear hK' K'
    refine hlex_step (g := none) rfl rfl fun K' hK' => ?_
    simp (maxSteps := 4000000) only [sH, ↓sP, sA, tyS, simprocAttr, h1_7, h7_23, h7_26, h7_30, h7_38, h7_41, h7_44]
    repeat refine AI ?_
    refine hK' _ _ ?_
    clear hK' K'
    refine hlex_cases 48 rfl (fun h7_48 => ?_) (fun h7_48 => ?_)
    ·
     simp only [h7_48]
     simp only [sE, ↓reduceIte, simprocAttr]
     exact key true _ _ _ (by simp only [okc, alZ, puZ, h1_7, h7_23, h7_26, h7_30, h7_38, h7_41, h7_44, h7_48, Bool.and_true, Bool.and_false, Bool.true_and, Bool.false_and, Bool.or_true, Bool.true_or, Bool.false_or, Bool.or_false, Bool.and_self, Bool.or_self]) (fits_fin (by omega) (by simp [FinOk, fin_at, finA_at, upd_at, HV.men, HV.menL, HV.norm, HV.toC, HV.toCL]) (by simp [FobOk, fob_at, upd_at, none0_at, gone, HO.men, HV.men, HV.menL, HV.norm, HV.toC, HV.toCL]))
    simp only [h7_48]
    simp only [sE, ↓reduceIte, simprocAttr]
    exact key false _ _ _ (by simp only [okc, alZ, puZ, h1_7, h7_23, h7_26, h7_30, h7_38, h7_41, h7_44, h7_48, Bool.and_true, Bool.and_false, Bool.true_and, Bool.false_and, Bool.or_true, Bool.true_or, Bool.false_or, Bool.or_false, Bool.and_self, Bool.or_self]) (fits_fin (by omega) (by simp [FinOk, fin_at, finA_at, upd_at, HV.men, HV.menL, HV.norm, HV.toC, HV.toCL]) (by simp [FobOk, fob_at, upd_at, none0_at, gone, HO.men, HV.men, HV.menL, HV.norm, HV.toC, HV.toCL]))
   iterate 3
    (refine hlex_step (g := some (39, true)) rfl rfl fun K' hK' => ?_; simp only [sH, ↓sP, sA, tyS, simprocAttr, h1_7, h7_23, h7_26, h7_30, h7_38]; (repeat refine AI ?_); refine hK' _ _ ?_; clear hK' K')
   iterate 2
    (refine hlex_step (g := some (42, false)) rfl rfl fun K' hK' => ?_; simp only [sH, ↓sP, sA, tyS, simprocAttr, h1_7, h7_23, h7_26, h7_30, h7_38]; (repeat refine AI ?_); refine hK' _ _ ?_; clear hK' K')
   iterate 2
    (refine hlex_step (g := some (39, true)) rfl rfl fun K' hK' => ?_; simp only [sH, ↓sP, sA, tyS, simprocAttr, h1_7, h7_23, h7_26, h7_30, h7_38]; (repeat refine AI ?_); refine hK' _ _ ?_; clear hK' K')
   iterate 2
    (refine hlex_step (g := some (46, false)) rfl rfl fun K' hK' => ?_; simp only [sH, ↓sP, sA, tyS, simprocAttr, h1_7, h7_23, h7_26, h7_30, h7_38]; (repeat refine AI ?_); refine hK' _ _ ?_; clear hK' K')
   refine hlex_step (g := some (39, true)) rfl rfl fun K' hK' => ?_
   simp (maxSteps := 4000000) only [sH, ↓sP, sA, tyS, simprocAttr, h1_7, h7_23, h7_26, h7_30, h7_38]
   repeat refine AI ?_
   refine hK' _ _ ?_
   clear hK' K'
   refine hlex_step (g := some (36, false)) rfl rfl fun K' hK' => ?_
   simp (maxSteps := 4000000) only [sH, ↓sP, sA, tyS, simprocAttr, h1_7, h7_23, h7_26, h7_30, h7_38]
   repeat refine AI ?_
   refine hK' _ _ ?_
   clear hK' K'
   refine hlex_step (g := none) rfl rfl fun K' hK' => ?_
   simp (maxSteps := 4000000) only [sH, ↓sP, sA, tyS, simprocAttr, h1_7, h7_23, h7_26, h7_30, h7_38]
   repeat refine AI ?_
   refine hK' _ _ ?_
   clear hK' K'
   simp only [sE, ↓reduceIte, simprocAttr]
   exact key false _ _ _ (by simp only [okc, alZ, puZ, h1_7, h7_23, h7_26, h7_30, h7_38, Bool.and_true, Bool.and_false, Bool.true_and, Bool.false_and, Bool.or_true, Bool.true_or, Bool.false_or, Bool.or_false, Bool.and_self, Bool.or_self]) (fits_fin (by omega) (by simp [FinOk, fin_at, finA_at, upd_at, HV.men, HV.menL, HV.norm, HV.toC, HV.toCL]) (by simp [FobOk, fob_at, upd_at, none0_at, gone, HO.men, HV.men, HV.menL, HV.norm, HV.toC, HV.toCL]))
  iterate 2
   (refine hlex_step (g := some (24, true)) rfl rfl fun K' hK' => ?_; simp only [sH, ↓sP, sA, tyS, simprocAttr, h1_7, h7_23]; (repeat refine AI ?_); refine hK' _ _ ?_; clear hK' K')
  iterate 2
   (refine hlex_step (g := none) rfl rfl fun K' hK' => ?_; simp only [sH, ↓sP, sA, tyS, simprocAttr, h1_7, h7_23]; (repeat refine AI ?_); refine hK' _ _ ?_; clear hK' K')
  iterate 3
   (refine hlex_step (g := some (28, false)) rfl rfl fun K' hK' => ?_; simp only [sH, ↓sP, sA, tyS, simprocAttr, h1_7, h7_23]; (repeat refine AI ?_); refine hK' _ _ ?_; clear hK' K')
  refine hlex_cases 30 rfl (fun h7_30 => ?_) (fun h7_30 => ?_)
  ·
   iterate 2
    (refine hlex_step (g := some (31, true)) rfl rfl fun K' hK' => ?_; simp only [sH, ↓sP, sA, tyS, simprocAttr, h1_7, h7_23, h7_30]; (repeat refine AI ?_); refine hK' _ _ ?_; clear hK' K')
   refine hlex_step (g := some (28, false)) rfl rfl fun K' hK' => ?_
   simp (maxSteps := 4000000) only [sH, ↓sP, sA, tyS, simprocAttr, h1_7, h7_23, h7_30]
   repeat refine AI ?_
   refine hK' _ _ ?_
   clear hK' K'
   iterate 2
    (refine hlex_step (g := none) rfl rfl fun K' hK' => ?_; simp only [sH, ↓sP, sA, tyS, simprocAttr, h1_7, h7_23, h7_30]; (repeat refine AI ?_); refine hK' _ _ ?_; clear hK' K')
   refine hlex_cases 33 rfl (fun h7_33 => ?_) (fun h7_33 => ?_)
   ·
    iterate 3
     (refine hlex_step (g := some (36, false)) rfl rfl fun K' hK' => ?_; simp only [sH, ↓sP, sA, tyS, simprocAttr, h1_7, h7_23, h7_30, h7_33]; (repeat refine AI ?_); refine hK' _ _ ?_; clear hK' K')
    iterate 3
     (refine hlex_step (g := some (39, true)) rfl rfl fun K' hK' => ?_; simp only [sH, ↓sP, sA, tyS, simprocAttr, h1_7, h7_23, h7_30, h7_33]; (repeat refine AI ?_); refine hK' _ _ ?_; clear hK' K')
    iterate 2
     (refine hlex_step (g := some (42, false)) rfl rfl fun K' hK' => ?_; simp only [sH, ↓sP, sA, tyS, simprocAttr, h1_7, h7_23, h7_30, h7_33]; (repeat refine AI ?_); refine hK' _ _ ?_; clear hK' K')
    iterate 2
     (refine hlex_step (g := some (39, true)) rfl rfl fun K' hK' => ?_; simp only [sH, ↓sP, sA, tyS, simprocAttr, h1_7, h7_23, h7_30, h7_33]; (repeat refine AI ?_); refine hK' _ _ ?_; clear hK' K')
    iterate 2
     (refine hlex_step (g := some (46, false)) rfl rfl fun K' hK' => ?_; simp only [sH, ↓sP, sA, tyS, simprocAttr, h1_7, h7_23, h7_30, h7_33]; (repeat refine AI ?_); refine hK' _ _ ?_; clear hK' K')
    refine hlex_step (g := some (39, true)) rfl rfl fun K' hK' => ?_
    simp (maxSteps := 4000000) only [sH, ↓sP, sA, tyS, simprocAttr, h1_7, h7_23, h7_30, h7_33]
    repeat refine AI ?_
    refine hK' _ _ ?_
    clear hK' K'
    refine hlex_step (g := some (36, false)) rfl rfl fun K' hK' => ?_
    simp (maxSteps := 4000000) only [sH, ↓sP, sA, tyS, simprocAttr, h1_7, h7_23, h7_30, h7_33]
    repeat refine AI ?_
    refine hK' _ _ ?_
    clear hK' K'
    refine hlex_step (g := none) rfl rfl fun K' hK' => ?_
    simp (maxSteps := 4000000) only [sH, ↓sP, sA, tyS, simprocAttr, h1_7, h7_23, h7_30, h7_33]
    repeat refine AI ?_
    refine hK' _ _ ?_
    clear hK' K'
    simp only [sE, ↓reduceIte, simprocAttr]
    exact key true _ _ _ (by simp only [okc, alZ, puZ, h1_7, h7_23, h7_30, h7_33, Bool.and_true, Bool.and_false, Bool.true_and, Bool.false_and, Bool.or_true, Bool.true_or, Bool.false_or, Bool.or_false, Bool.and_self, Bool.or_self]) (fits_fin (by omega) (by simp [FinOk, fin_at, finA_at, upd_at, HV.men, HV.menL, HV.norm, HV.toC, HV.toCL]) (by simp [FobOk, fob_at, upd_at, none0_at, gone, HO.men, HV.men, HV.menL, HV.norm, HV.toC, HV.toCL]))
   iterate 3
    (refine hlex_step (g := some (36, false)) rfl rfl fun K' hK' => ?_; simp only [sH, ↓sP, sA, tyS, simprocAttr, h1_7, h7_23, h7_30, h7_33]; (repeat refine AI ?_); refine hK' _ _ ?_; clear hK' K')
   refine hlex_cases 38 rfl (fun h7_38 => ?_) (fun h7_38 => ?_)
   ·
    iterate 3
     (refine hlex_step (g := some (39, true)) rfl rfl fun K' hK' => ?_; simp only [sH, ↓sP, sA, tyS, simprocAttr, h1_7, h7_23, h7_30, h7_33, h7_38]; (repeat refine AI ?_); refine hK' _ _ ?_; clear hK' K')
    refine hlex_cases 41 rfl (fun h7_41 => ?_) (fun h7_41 => ?_)
    ·
     iterate 2
      (refine hlex_step (g := some (42, false)) rfl rfl fun K' hK' => ?_; simp only [sH, ↓sP, sA, tyS, simprocAttr, h1_7, h7_23, h7_30, h7_33, h7_38, h7_41]; (repeat refine AI ?_); refine hK' _ _ ?_; clear hK' K')
     iterate 2
      (refine hlex_step (g := some (39, true)) rfl rfl fun K' hK' => ?_; simp only [sH, ↓sP, sA, tyS, simprocAttr, h1_7, h7_23, h7_30, h7_33, h7_38, h7_41]; (repeat refine AI ?_); refine hK' _ _ ?_; clear hK' K')
     iterate 2
      (refine hlex_step (g := some (46, false)) rfl rfl fun K' hK' => ?_; simp only [sH, ↓sP, sA, tyS, simprocAttr, h1_7, h7_23, h7_30, h7_33, h7_38, h7_41]; (repeat refine AI ?_); refine hK' _ _ ?_; clear hK' K')
     refine hlex_step (g := some (39, true)) rfl rfl fun K' hK' => ?_
     simp (maxSteps := 4000000) only [sH, ↓sP, sA, tyS, simprocAttr, h1_7, h7_23, h7_30, h7_33, h7_38, h7_41]
     repeat refine AI ?_
     refine hK' _ _ ?_
     clear hK' K'
     refine hlex_step (g := some (36, false)) rfl rfl fun K' hK' => ?_
     simp (maxSteps := 4000000) only [sH, ↓sP, sA, tyS, simprocAttr, h1_7, h7_23, h7_30, h7_33, h7_38, h7_41]
     repeat refine AI ?_
     refine hK' _ _ ?_
     clear hK' K'
     refine hlex_step (g := none) rfl rfl fun K' hK' => ?_
     simp (maxSteps := 4000000) only [sH, ↓sP, sA, tyS, simprocAttr, h1_7, h7_23, h7_30, h7_33, h7_38, h7_41]
     repeat refine AI ?_
     refine hK' _ _ ?_
     clear hK' K'
     simp only [sE, ↓reduceIte, simprocAttr]
     exact key true _ _ _ (by simp only [okc, alZ, puZ, h1_7, h7_23, h7_30, h7_33, h7_38, h7_41, Bool.and_true, Bool.and_false, Bool.true_and, Bool.false_and, Bool.or_true, Bool.true_or, Bool.false_or, Bool.or_false, Bool.and_self, Bool.or_self]) (fits_fin (by omega) (by simp [FinOk, fin_at, finA_at, upd_at, HV.men, HV.menL, HV.norm, HV.toC, HV.toCL]) (by simp [FobOk, fob_at, upd_at, none0_at, gone, HO.men, HV.men, HV.menL, HV.norm, HV.toC, HV.toCL]))
    iterate 2
     (refine hlex_step (g := some (42, false)) rfl rfl fun K' hK' => ?_; simp only [sH, ↓sP, sA, tyS, simprocAttr, h1_7, h7_23, h7_30, h7_33, h7_38, h7_41]; (repeat refine AI ?_); refine hK' _ _ ?_; clear hK' K')
    iterate 2
     (refine hlex_step (g := some (39, true)) rfl rfl fun K' hK' => ?_; simp only [sH, ↓sP, sA, tyS, simprocAttr, h1_7, h7_23, h7_30, h7_33, h7_38, h7_41]; (repeat refine AI ?_); refine hK' _ _ ?_; clear hK' K')
    refine hlex_cases 44 rfl (fun h7_44 => ?_) (fun h7_44 => ?_)
    ·
     iterate 2
      (refine hlex_step (g := some (46, false)) rfl rfl fun K' hK' => ?_; simp only [sH, ↓sP, sA, tyS, simprocAttr, h1_7, h7_23, h7_30, h7_33, h7_38, h7_41, h7_44]; (repeat refine AI ?_); refine hK' _ _ ?_; clear hK' K')
     refine hlex_step (g := some (39, true)) rfl rfl fun K' hK' => ?_
     simp (maxSteps := 4000000) only [sH, ↓sP, sA, tyS, simprocAttr, h1_7, h7_23, h7_30, h7_33, h7_38, h7_41, h7_44]
     repeat refine AI ?_
     refine hK' _ _ ?_
     clear hK' K'
     refine hlex_step (g := some (36, false)) rfl rfl fun K' hK' => ?_
     simp (maxSteps := 4000000) only [sH, ↓sP, sA, tyS, simprocAttr, h1_7, h7_23, h7_30, h7_33, h7_38, h7_41, h7_44]
     repeat refine AI ?_
     refine hK' _ _ ?_
     clear hK' K'
     refine hlex_step (g := none) rfl rfl fun K' hK' => ?_
     simp (maxSteps := 4000000) only [sH, ↓sP, sA, tyS, simprocAttr, h1_7, h7_23, h7_30, h7_33, h7_38, h7_41, h7_44]
     repeat refine AI ?_
     refine hK' _ _ ?_
     clear hK' K'
     simp only [sE, ↓reduceIte, simprocAttr]
     exact key true _ _ _ (by simp only [okc, alZ, puZ, h1_7, h7_23, h7_30, h7_33, h7_38, h7_41, h7_44, Bool.and_true, Bool.and_false, Bool.true_and, Bool.false_and, Bool.or_true, Bool.true_or, Bool.false_or, Bool.or_false, Bool.and_self, Bool.or_self]) (fits_fin (by omega) (by simp [FinOk, fin_at, finA_at, upd_at, HV.men, HV.menL, HV.norm, HV.toC, HV.toCL]) (by simp [FobOk, fob_at, upd_at, none0_at, gone, HO.men, HV.men, HV.menL, HV.norm, HV.toC, HV.toCL]))
    iterate 2
     (refine hlex_step (g := some (46, false)) rfl rfl fun K' hK' => ?_; simp only [sH, ↓sP, sA, tyS, simprocAttr, h1_7, h7_23, h7_30, h7_33, h7_38, h7_41, h7_44]; (repeat refine AI ?_); refine hK' _ _ ?_; clear hK' K')
    refine hlex_step (g := some (39, true)) rfl rfl fun K' hK' => ?_
    simp (maxSteps := 4000000) only [sH, ↓sP, sA, tyS, simprocAttr, h1_7, h7_23, h7_30, h7_33, h7_38, h7_41, h7_44]
    repeat refine AI ?_
    refine hK' _ _ ?_
    clear hK' K'
    refine hlex_step (g := some (36, false)) rfl rfl fun K' hK' => ?_
    simp (maxSteps := 4000000) only [sH, ↓sP, sA, tyS, simprocAttr, h1_7, h7_23, h7_30, h7_33, h7_38, h7_41, h7_44]
    repeat refine AI ?_
    refine hK' _ _ ?_
    clear hK' K'
    refine hlex_step (g := none) rfl rfl fun K' hK' => ?_
    simp (maxSteps := 4000000) only [sH, ↓sP, sA, tyS, simprocAttr, h1_7, h7_23, h7_30, h7_33, h7_38, h7_41, h7_44]
    repeat refine AI ?_
    refine hK' _ _ ?_
    clear hK' K'
    refine hlex_cases 48 rfl (fun h7_48 => ?_) (fun h7_48 => ?_)
    ·
     simp only [h7_48]
     simp only [sE, ↓reduceIte, simprocAttr]
     exact key true _ _ _ (by simp only [okc, alZ, puZ, h1_7, h7_23, h7_30, h7_33, h7_38, h7_41, h7_44, h7_48, Bool.and_true, Bool.and_false, Bool.true_and, Bool.false_and, Bool.or_true, Bool.true_or, Bool.false_or, Bool.or_false, Bool.and_self, Bool.or_self]) (fits_fin (by omega) (by simp [FinOk, fin_at, finA_at, upd_at, HV.men, HV.menL, HV.norm, HV.toC, HV.toCL]) (by simp [FobOk, fob_at, upd_at, none0_at, gone, HO.men, HV.men, HV.menL, HV.norm, HV.toC, HV.toCL]))
    simp only [h7_48]
    simp only [sE, ↓reduceIte, simprocAttr]
    exact key false _ _ _ (by simp only [okc, alZ, puZ, h1_7, h7_23, h7_30, h7_33, h7_38, h7_41, h7_44, h7_48, Bool.and_true, Bool.and_false, Bool.true_and, Bool.false_and, Bool.or_true, Bool.true_or, Bool.false_or, Bool.or_false, Bool.and_self, Bool.or_self]) (fits_fin (by omega) (by simp [FinOk, fin_at, finA_at, upd_at, HV.men, HV.menL, HV.norm, HV.toC, HV.toCL]) (by simp [FobOk, fob_at, upd_at, none0_at, gone, HO.men, HV.men, HV.menL, HV.norm, HV.toC, HV.toCL]))
   iterate 3
    (refine hlex_step (g := some (39, true)) rfl rfl fun K' hK' => ?_; simp only [sH, ↓sP, sA, tyS, simprocAttr, h1_7, h7_23, h7_30, h7_33, h7_38]; (repeat refine AI ?_); refine hK' _ _ ?_; clear hK' K')
   iterate 2
    (refine hlex_step (g := some (42, false)) rfl rfl fun K' hK' => ?_; simp only [sH, ↓sP, sA, tyS, simprocAttr, h1_7, h7_23, h7_30, h7_33, h7_38]; (repeat refine AI ?_); refine hK' _ _ ?_; clear hK' K')
   iterate 2
    (refine hlex_step (g := some (39, true)) rfl rfl fun K' hK' => ?_; simp only [sH, ↓sP, sA, tyS, simprocAttr, h1_7, h7_23, h7_30, h7_33, h7_38]; (repeat refine AI ?_); refine hK' _ _ ?_; clear hK' K')
   iterate 2
    (refine hlex_step (g := some (46, false)) rfl rfl fun K' hK' => ?_; simp only [sH, ↓sP, sA, tyS, simprocAttr, h1_7, h7_23, h7_30, h7_33, h7_38]; (repeat refine AI ?_); refine hK' _ _ ?_; clear hK' K')
   refine hlex_step (g := some (39, true)) rfl rfl fun K' hK' => ?_
   simp (maxSteps := 4000000) only [sH, ↓sP, sA, tyS, simprocAttr, h1_7, h7_23, h7_30, h7_33, h7_38]
   repeat refine AI ?_
   refine hK' _ _ ?_
   clear hK' K'
   refine hlex_step (g := some (36, false)) rfl rfl fun K' hK' => ?_
   simp (maxSteps := 4000000) only [sH, ↓sP, sA, tyS, simprocAttr, h1_7, h7_23, h7_30, h7_33, h7_38]
   repeat refine AI ?_
   refine hK' _ _ ?_
   clear hK' K'
   refine hlex_step (g := none) rfl rfl fun K' hK' => ?_
   simp (maxSteps := 4000000) only [sH, ↓sP, sA, tyS, simprocAttr, h1_7, h7_23, h7_30, h7_33, h7_38]
   repeat refine AI ?_
   refine hK' _ _ ?_
   clear hK' K'
   simp only [sE, ↓reduceIte, simprocAttr]
   exact key false _ _ _ (by simp only [okc, alZ, puZ, h1_7, h7_23, h7_30, h7_33, h7_38, Bool.and_true, Bool.and_false, Bool.true_and, Bool.false_and, Bool.or_true, Bool.true_or, Bool.false_or, Bool.or_false, Bool.and_self, Bool.or_self]) (fits_fin (by omega) (by simp [FinOk, fin_at, finA_at, upd_at, HV.men, HV.menL, HV.norm, HV.toC, HV.toCL]) (by simp [FobOk, fob_at, upd_at, none0_at, gone, HO.men, HV.men, HV.menL, HV.norm, HV.toC, HV.toCL]))
  iterate 2
   (refine hlex_step (g := some (31, true)) rfl rfl fun K' hK' => ?_; simp only [sH, ↓sP, sA, tyS, simprocAttr, h1_7, h7_23, h7_30]; (repeat refine AI ?_); refine hK' _ _ ?_; clear hK' K')
  refine hlex_step (g := some (28, false)) rfl rfl fun K' hK' => ?_
  simp (maxSteps := 4000000) only [sH, ↓sP, sA, tyS, simprocAttr, h1_7, h7_23, h7_30]
  repeat refine AI ?_
  refine hK' _ _ ?_
  clear hK' K'
  iterate 2
   (refine hlex_step (g := none) rfl rfl fun K' hK' => ?_; simp only [sH, ↓sP, sA, tyS, simprocAttr, h1_7, h7_23, h7_30]; (repeat refine AI ?_); refine hK' _ _ ?_; clear hK' K')
  iterate 3
   (refine hlex_step (g := some (36, false)) rfl rfl fun K' hK' => ?_; simp only [sH, ↓sP, sA, tyS, simprocAttr, h1_7, h7_23, h7_30]; (repeat refine AI ?_); refine hK' _ _ ?_; clear hK' K')
  refine hlex_cases 38 rfl (fun h7_38 => ?_) (fun h7_38 => ?_)
  ·
   iterate 3
    (refine hlex_step (g := some (39, true)) rfl rfl fun K' hK' => ?_; simp only [sH, ↓sP, sA, tyS, simprocAttr, h1_7, h7_23, h7_30, h7_38]; (repeat refine AI ?_); refine hK' _ _ ?_; clear hK' K')
   refine hlex_cases 41 rfl (fun h7_41 => ?_) (fun h7_41 => ?_)
   ·
    iterate 2
     (refine hlex_step (g := some (42, false)) rfl rfl fun K' hK' => ?_; simp only [sH, ↓sP, sA, tyS, simprocAttr, h1_7, h7_23, h7_30, h7_38, h7_41]; (repeat refine AI ?_); refine hK' _ _ ?_; clear hK' K')
    iterate 2
     (refine hlex_step (g := some (39, true)) rfl rfl fun K' hK' => ?_; simp only [sH, ↓sP, sA, tyS, simprocAttr, h1_7, h7_23, h7_30, h7_38, h7_41]; (repeat refine AI ?_); refine hK' _ _ ?_; clear hK' K')
    iterate 2
     (refine hlex_step (g := some (46, false)) rfl rfl fun K' hK' => ?_; simp only [sH, ↓sP, sA, tyS, simprocAttr, h1_7, h7_23, h7_30, h7_38, h7_41]; (repeat refine AI ?_); refine hK' _ _ ?_; clear hK' K')
    refine hlex_step (g := some (39, true)) rfl rfl fun K' hK' => ?_
    simp (maxSteps := 4000000) only [sH, ↓sP, sA, tyS, simprocAttr, h1_7, h7_23, h7_30, h7_38, h7_41]
    repeat refine AI ?_
    refine hK' _ _ ?_
    clear hK' K'
    refine hlex_step (g := some (36, false)) rfl rfl fun K' hK' => ?_
    simp (maxSteps := 4000000) only [sH, ↓sP, sA, tyS, simprocAttr, h1_7, h7_23, h7_30, h7_38, h7_41]
    repeat refine AI ?_
    refine hK' _ _ ?_
    clear hK' K'
    refine hlex_step (g := none) rfl rfl fun K' hK' => ?_
    simp (maxSteps := 4000000) only [sH, ↓sP, sA, tyS, simprocAttr, h1_7, h7_23, h7_30, h7_38, h7_41]
    repeat refine AI ?_
    refine hK' _ _ ?_
    clear hK' K'
    simp only [sE, ↓reduceIte, simprocAttr]
    exact key true _ _ _ (by simp only [okc, alZ, puZ, h1_7, h7_23, h7_30, h7_38, h7_41, Bool.and_true, Bool.and_false, Bool.true_and, Bool.false_and, Bool.or_true, Bool.true_or, Bool.false_or, Bool.or_false, Bool.and_self, Bool.or_self]) (fits_fin (by omega) (by simp [FinOk, fin_at, finA_at, upd_at, HV.men, HV.menL, HV.norm, HV.toC, HV.toCL]) (by simp [FobOk, fob_at, upd_at, none0_at, gone, HO.men, HV.men, HV.menL, HV.norm, HV.toC, HV.toCL]))
   iterate 2
    (refine hlex_step (g := some (42, false)) rfl rfl fun K' hK' => ?_; simp only [sH, ↓sP, sA, tyS, simprocAttr, h1_7, h7_23, h7_30, h7_38, h7_41]; (repeat refine AI ?_); refine hK' _ _ ?_; clear hK' K')
   iterate 2
    (refine hlex_step (g := some (39, true)) rfl rfl fun K' hK' => ?_; simp only [sH, ↓sP, sA, tyS, simprocAttr, h1_7, h7_23, h7_30, h7_38, h7_41]; (repeat refine AI ?_); refine hK' _ _ ?_; clear hK' K')
   refine hlex_cases 44 rfl (fun h7_44 => ?_) (fun h7_44 => ?_)
   ·
    iterate 2
     (refine hlex_step (g := some (46, false)) rfl rfl fun K' hK' => ?_; simp only [sH, ↓sP, sA, tyS, simprocAttr, h1_7, h7_23, h7_30, h7_38, h7_41, h7_44]; (repeat refine AI ?_); refine hK' _ _ ?_; clear hK' K')
    refine hlex_step (g := some (39, true)) rfl rfl fun K' hK' => ?_
    simp (maxSteps := 4000000) only [sH, ↓sP, sA, tyS, simprocAttr, h1_7, h7_23, h7_30, h7_38, h7_41, h7_44]
    repeat refine AI ?_
    refine hK' _ _ ?_
    clear hK' K'
    refine hlex_step (g := some (36, false)) rfl rfl fun K' hK' => ?_
    simp (maxSteps := 4000000) only [sH, ↓sP, sA, tyS, simprocAttr, h1_7, h7_23, h7_30, h7_38, h7_41, h7_44]
    repeat refine AI ?_
    refine hK' _ _ ?_
    clear hK' K'
    refine hlex_step (g := none) rfl rfl fun K' hK' => ?_
    simp (maxSteps := 4000000) only [sH, ↓sP, sA, tyS, simprocAttr, h1_7, h7_23, h7_30, h7_38, h7_41, h7_44]
    repeat refine AI ?_
    refine hK' _ _ ?_
    clear hK' K'
    simp only [sE, ↓reduceIte, simprocAttr]
    exact key true _ _ _ (by simp only [okc, alZ, puZ, h1_7, h7_23, h7_30, h7_38, h7_41, h7_44, Bool.and_true, Bool.and_false, Bool.true_and, Bool.false_and, Bool.or_true, Bool.true_or, Bool.false_or, Bool.or_false, Bool.and_self, Bool.or_self]) (fits_fin (by omega) (by simp [FinOk, fin_at, finA_at, upd_at, HV.men, HV.menL, HV.norm, HV.toC, HV.toCL]) (by simp [FobOk, fob_at, upd_at, none0_at, gone, HO.men, HV.men, HV.menL, HV.norm, HV.toC, HV.toCL]))
   iterate 2
    (refine hlex_step (g := some (46, false)) rfl rfl fun K' hK' => ?_; simp only [sH, ↓sP, sA, tyS, simprocAttr, h1_7, h7_23, h7_30, h7_38, h7_41, h7_44]; (repeat refine AI ?_); refine hK' _ _ ?_; clear hK' K')
   refine hlex_step (g := some (39, true)) rfl rfl fun K' hK' => ?_
   simp (maxSteps := 4000000) only [sH, ↓sP, sA, tyS, simprocAttr, h1_7, h7_23, h7_30, h7_38, h7_41, h7_44]
   repeat refine AI ?_
   refine hK' _ _ ?_
   clear hK' K'
   refine hlex_step (g := some (36, false)) rfl rfl fun K' hK' => ?_
   simp (maxSteps := 4000000) only [sH, ↓sP, sA, tyS, simprocAttr, h1_7, h7_23, h7_30, h7_38, h7_41, h7_44]
   repeat refine AI ?_
   refine hK' _ _ ?_
   clear hK' K'
   refine hlex_step (g := none) rfl rfl fun K' hK' => ?_
   simp (maxSteps := 4000000) only [sH, ↓sP, sA, tyS, simprocAttr, h1_7, h7_23, h7_30, h7_38, h7_41, h7_44]
   repeat refine AI ?_
   refine hK' _ _ ?_
   clear hK' K'
   refine hlex_cases 48 rfl (fun h7_48 => ?_) (fun h7_48 => ?_)
   ·
    simp only [h7_48]
    simp only [sE, ↓reduceIte, simprocAttr]
    exact key true _ _ _ (by simp only [okc, alZ, puZ, h1_7, h7_23, h7_30, h7_38, h7_41, h7_44, h7_48, Bool.and_true, Bool.and_false, Bool.true_and, Bool.false_and, Bool.or_true, Bool.true_or, Bool.false_or, Bool.or_false, Bool.and_self, Bool.or_self]) (fits_fin (by omega) (by simp [FinOk, fin_at, finA_at, upd_at, HV.men, HV.menL, HV.norm, HV.toC, HV.toCL]) (by simp [FobOk, fob_at, upd_at, none0_at, gone, HO.men, HV.men, HV.menL, HV.norm, HV.toC, HV.toCL]))
   simp only [h7_48]
   simp only [sE, ↓reduceIte, simprocAttr]
   exact key false _ _ _ (by simp only [okc, alZ, puZ, h1_7, h7_23, h7_30, h7_38, h7_41, h7_44, h7_48, Bool.and_true, Bool.and_false, Bool.true_and, Bool.false_and, Bool.or_true, Bool.true_or, Bool.false_or, Bool.or_false, Bool.and_self, Bool.or_self]) (fits_fin (by omega) (by simp [FinOk, fin_at, finA_at, upd_at, HV.men, HV.menL, HV.norm, HV.toC, HV.toCL]) (by simp [FobOk, fob_at, upd_at, none0_at, gone, HO.men, HV.men, HV.menL, HV.norm, HV.toC, HV.toCL]))
  iterate 3
   (refine hlex_step (g := some (39, true)) rfl rfl fun K' hK' => ?_; simp only [sH, ↓sP, sA, tyS, simprocAttr, h1_7, h7_23, h7_30, h7_38]; (repeat refine AI ?_); refine hK' _ _ ?_; clear hK' K')
  iterate 2
   (refine hlex_step (g := some (42, false)) rfl rfl fun K' hK' => ?_; simp only [sH, ↓sP, sA, tyS, simprocAttr, h1_7, h7_23, h7_30, h7_38]; (repeat refine AI ?_); refine hK' _ _ ?_; clear hK' K')
  iterate 2
   (refine hlex_step (g := some (39, true)) rfl rfl fun K' hK' => ?_; simp only [sH, ↓sP, sA, tyS, simprocAttr, h1_7, h7_23, h7_30, h7_38]; (repeat refine AI ?_); refine hK' _ _ ?_; clear hK' K')
  iterate 2
   (refine hlex_step (g := some (46, false)) rfl rfl fun K' hK' => ?_; simp only [sH, ↓sP, sA, tyS, simprocAttr, h1_7, h7_23, h7_30, h7_38]; (repeat refine AI ?_); refine hK' _ _ ?_; clear hK' K')
  refine hlex_step (g := some (39, true)) rfl rfl fun K' hK' => ?_
  simp (maxSteps := 4000000) only [sH, ↓sP, sA, tyS, simprocAttr, h1_7, h7_23, h7_30, h7_38]
  repeat refine AI ?_
  refine hK' _ _ ?_
  clear hK' K'
  refine hlex_step (g := some (36, false)) rfl rfl fun K' hK' => ?_
  simp (maxSteps := 4000000) only [sH, ↓sP, sA, tyS, simprocAttr, h1_7, h7_23, h7_30, h7_38]
  repeat refine AI ?_
  refine hK' _ _ ?_
  clear hK' K'
  refine hlex_step (g := none) rfl rfl fun K' hK' => ?_
  simp (maxSteps := 4000000) only [sH, ↓sP, sA, tyS, simprocAttr, h1_7, h7_23, h7_30, h7_38]
  repeat refine AI ?_
  refine hK' _ _ ?_
  clear hK' K'
  simp only [sE, ↓reduceIte, simprocAttr]
  exact key false _ _ _ (by simp only [okc, alZ, puZ, h1_7, h7_23, h7_30, h7_38, Bool.and_true, Bool.and_false, Bool.true_and, Bool.false_and, Bool.or_true, Bool.true_or, Bool.false_or, Bool.or_false, Bool.and_self, Bool.or_self]) (fits_fin (by omega) (by simp [FinOk, fin_at, finA_at, upd_at, HV.men, HV.menL, HV.norm, HV.toC, HV.toCL]) (by simp [FobOk, fob_at, upd_at, none0_at, gone, HO.men, HV.men, HV.menL, HV.norm, HV.toC, HV.toCL]))
 refine hw_exit ?_
 simp (maxSteps := 4000000) only [↓sP, sA, tyS, simprocAttr]
 clear hK K
 repeat refine AI ?_
 refine hK _ _ _ ?_
 clear hK K
 refine hw_seq fun K hK => hw_region (by kernel_rfl) ?_
 simp (maxSteps := 4000000) only [↓sP, sA, tyS, simprocAttr]
 repeat refine AI ?_
 refine hK _ _ _ ?_
 clear hK K
 refine hw_ret ?_
 simp (maxSteps := 4000000) only [hpost, Tryz.results75, hresL, hres1, tupOf, ↓sP, sA, tyS, simprocAttr]
 have hei : i = s.length := by simp at hb; omega
 exact hret_pure [] (.bool true) rfl (by rw [nameB_iff.2 ⟨hlen, fun j h => h0 j (by omega) h⟩])

end Go.Proofs.YtenbfeemmpjdhaaGreat
