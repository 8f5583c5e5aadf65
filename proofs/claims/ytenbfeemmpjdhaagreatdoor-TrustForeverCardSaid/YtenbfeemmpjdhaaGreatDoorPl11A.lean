/- Rotation of a root document, and what is revoked for ever: plain laws. By an AI agent. -/
import Derived.Test.YtenbfeemmpjdhaaGreatDoorHySq
import Derived.Test.YtenbfeemmpjdhaaGreatDoorHyTd
import Derived.Test.YtenbfeemmpjdhaaGreatDoorHlZb
import Derived.Test.YtenbfeemmpjdhaaGreatDoorPl11q
import Derived.Test.YtenbfeemmpjdhaaGreatDoorHyVa
import Derived.Test.YtenbfeemmpjdhaaGreatDoorHyT5
import Derived.Test.YtenbfeemmpjdhaaGreatDoorHlFl
import Derived.Test.YtenbfeemmpjdhaaGreatDoorHyTz
set_option linter.unusedSimpArgs false
set_option linter.unusedVariables false
set_option linter.defProp false
namespace Go.Proofs.YtenbfeemmpjdhaaGreatDoor
open Go Go.Hl Go.Pl
set_option maxRecDepth 10000
set_option maxHeartbeats 4000000
set_option linter.unusedSimpArgs false
set_option linter.unusedVariables false

theorem live_ok (r : Rt) (k : Ky) (t : Int) (hr : rSz r) : HPure Tryz.prog 56 [r.cv, k.cv, .int .i64 t] (fun v => v = .bool (liveB r k t)) := by
 refine hfn_walk Tryz.func56 rfl (by kernel_rfl) (locOk_nil _) (Nat.le_of_ble_eq_true rfl) ?_
 refine R0 ?_
 refine hw_seq fun K hK => hw_draw2 mixed [(0, [], []), (1, [], []), (2, [], []), (3, [], [0]), (4, [], []), (5, [], []), (6, [], []), (7, [], []), (8, [], []), (9, [], [])] [0, 0, 2, 6, 15, 31, 63, 63, 127, 511] (by kernel_rfl) (by kernel_rfl) (by kernel_rfl) (by kernel_rfl) rfl (by kernel_rfl) ?_
 iterate 3 refine W0 ?_
 refine hwalk2_step (g := none) rfl rfl fun K' hK' => ?_
 simp only [sH, ↓sP, sA, tyS, simprocAttr]
 refine call_pure (args := [_]) (pid_ok k.p) ⟨rfl, rfl, rfl, rfl⟩ ?_
 rintro u rfl
 refine AX (hK' _ _ ?_)
 clear hK' K'
 refine hwalk2_step (g := none) rfl rfl fun K' hK' => ?_
 simp only [sH, ↓sP, sA, tyS, simprocAttr]
 refine call_pure2 (args := [_, _]) (revoked_ok r (pid k.p) hr.2.2) ⟨rfl, rfl, rfl, rfl⟩ ?_
 rintro u v ⟨rfl, rfl⟩
 refine AX (hK' _ _ ?_)
 clear hK' K'
 iterate 5 refine W0 ?_
 refine T2 (hK _ _ _ ?_)
 clear hK K
 refine hw_seq fun K hK => Rg ?_
 iterate 5 refine S0 ?_
 refine hlex_cases 20 rfl (fun h2_20 => ?_) (fun h2_20 => ?_)
 ·
  iterate 6 refine S0 ?_ (e := fun _ h_ => by simp only [sH, ↓sP, sA, tyS, simprocAttr, h2_20]; exact AX h_)
  refine hlex_cases 25 rfl (fun h2_25 => ?_) (fun h2_25 => ?_)
  ·
   iterate 6 refine S0 ?_ (e := fun _ h_ => by simp only [sH, ↓sP, sA, tyS, simprocAttr, h2_20, h2_25]; exact AX h_)
   refine hlex_cases 31 rfl (fun h2_31 => ?_) (fun h2_31 => ?_)
   ·
    iterate 2 refine S0 ?_ (e := fun _ h_ => by simp only [sH, ↓sP, sA, tyS, simprocAttr, h2_20, h2_25, h2_31]; exact AX h_)
    refine hlex_cases 34 rfl (fun h2_34 => ?_) (fun h2_34 => ?_)
    ·
     iterate 7 refine S0 ?_ (e := fun _ h_ => by simp only [sH, ↓sP, sA, tyS, simprocAttr, h2_20, h2_25, h2_31, h2_34]; exact AX h_)
     refine hlex_cases 38 rfl (fun h2_38 => ?_) (fun h2_38 => ?_)
     ·
      simp only [h2_38]
      refine T2 (hK _ _ _ ?_)
      clear hK K
      refine hw_ret ?_
      simp only [hpost, Tryz.results56, hresL, hres1, tupOf, ↓sP, sA, tyS, simprocAttr]
      exact hret_pure [] (.bool false) rfl (by simp only [live_code, h2_20, h2_25, h2_31, h2_34, h2_38, Bool.and_true, Bool.and_false, Bool.true_and, Bool.false_and, Bool.not_true, Bool.not_false])
     simp only [h2_38]
     refine T2 (hK _ _ _ ?_)
     clear hK K
     refine hw_ret ?_
     simp only [hpost, Tryz.results56, hresL, hres1, tupOf, ↓sP, sA, tyS, simprocAttr]
     exact hret_pure [] (.bool true) rfl (by simp only [live_code, h2_20, h2_25, h2_31, h2_34, h2_38, Bool.and_true, Bool.and_false, Bool.true_and, Bool.false_and, Bool.not_true, Bool.not_false])
    iterate 7 refine S0 ?_ (e := fun _ h_ => by simp only [sH, ↓sP, sA, tyS, simprocAttr, h2_20, h2_25, h2_31, h2_34]; exact AX h_)
    refine T2 (hK _ _ _ ?_)
    clear hK K
    refine hw_ret ?_
    simp only [hpost, Tryz.results56, hresL, hres1, tupOf, ↓sP, sA, tyS, simprocAttr]
    exact hret_pure [] (.bool true) rfl (by simp only [live_code, h2_20, h2_25, h2_31, h2_34, Bool.and_true, Bool.and_false, Bool.true_and, Bool.false_and, Bool.not_true, Bool.not_false])
   iterate 9 refine S0 ?_ (e := fun _ h_ => by simp only [sH, ↓sP, sA, tyS, simprocAttr, h2_20, h2_25, h2_31]; exact AX h_)
   refine T2 (hK _ _ _ ?_)
   clear hK K
   refine hw_ret ?_
   simp only [hpost, Tryz.results56, hresL, hres1, tupOf, ↓sP, sA, tyS, simprocAttr]
   exact hret_pure [] (.bool false) rfl (by simp only [live_code, h2_20, h2_25, h2_31, Bool.and_true, Bool.and_false, Bool.true_and, Bool.false_and, Bool.not_true, Bool.not_false])
  iterate 15 refine S0 ?_ (e := fun _ h_ => by simp only [sH, ↓sP, sA, tyS, simprocAttr, h2_20, h2_25]; exact AX h_)
  refine T2 (hK _ _ _ ?_)
  clear hK K
  refine hw_ret ?_
  simp only [hpost, Tryz.results56, hresL, hres1, tupOf, ↓sP, sA, tyS, simprocAttr]
  exact hret_pure [] (.bool false) rfl (by simp only [live_code, h2_20, h2_25, Bool.and_true, Bool.and_false, Bool.true_and, Bool.false_and, Bool.not_true, Bool.not_false])
 iterate 21 refine S0 ?_ (e := fun _ h_ => by simp only [sH, ↓sP, sA, tyS, simprocAttr, h2_20]; exact AX h_)
 refine T2 (hK _ _ _ ?_)
 clear hK K
 refine hw_ret ?_
 simp only [hpost, Tryz.results56, hresL, hres1, tupOf, ↓sP, sA, tyS, simprocAttr]
 exact hret_pure [] (.bool false) rfl (by simp only [live_code, h2_20, Bool.and_true, Bool.and_false, Bool.true_and, Bool.false_and, Bool.not_true, Bool.not_false])


theorem vclo_ok (r : Rt) (l : List Dig) (t : Int) (hr : rSz r) (hl : l.length < 2 ^ 40) (k : Ky) : HPure Tryz.prog 121 [k.cv, .rp (.slc (l.map dg)), .rp r.cv, .rp (.int .i64 t)] (fun v => v = .bool (l.contains (kid k) && liveB r k t)) := by
 refine hfn_walk Tryz.func121 rfl (by kernel_rfl) (locOk_nil _) (Nat.le_of_ble_eq_true rfl) ?_
 refine R0 ?_
 refine hw_seq fun K hK => hw_draw2 mixed [(0, [], []), (1, [], []), (2, [], []), (3, [], [0]), (4, [], []), (5, [], []), (6, [], []), (7, [], []), (8, [], []), (9, [], []), (10, [], []), (11, [], [])] [0, 0, 2, 6, 15, 31, 63, 63, 63, 511, 1023, 2047] (by kernel_rfl) (by kernel_rfl) (by kernel_rfl) (by kernel_rfl) rfl (by kernel_rfl) ?_
 iterate 3 refine W0 ?_ (e := fun _ h_ => by simp only [sH, ↓sP, sA, tyS, simprocAttr, denilL_dg]; exact AX h_)
 refine hwalk2_step (g := none) rfl rfl fun K' hK' => ?_
 simp only [sH, ↓sP, sA, tyS, simprocAttr, denilL_dg]
 refine call_pure (args := [_]) (pid_ok k.p) ⟨rfl, rfl, rfl, rfl⟩ ?_
 rintro u rfl
 refine AX (hK' _ _ ?_)
 clear hK' K'
 refine hwalk2_step (g := none) rfl rfl fun K' hK' => ?_
 simp only [sH, ↓sP, sA, tyS, simprocAttr, denilL_dg]
 refine call_pure (args := [_, _]) (contd_ok l (pid k.p) hl) ⟨rfl, rfl, rfl, rfl⟩ ?_
 rintro u rfl
 refine AX (hK' _ _ ?_)
 clear hK' K'
 refine W0 ?_ (e := fun _ h_ => by simp only [sH, ↓sP, sA, tyS, simprocAttr, denilL_dg]; exact AX h_)
 refine hwalk2_cases 10 rfl (fun h1_10 => ?_) (fun h1_10 => ?_)
 ·
  iterate 3 refine W0 ?_ (e := fun _ h_ => by simp only [sH, ↓sP, sA, tyS, simprocAttr, denilL_dg, h1_10]; exact AX h_)
  refine hwalk2_step (g := some (11, true)) rfl rfl fun K' hK' => ?_
  simp only [sH, ↓sP, sA, tyS, simprocAttr, denilL_dg, h1_10]
  refine call_pure (args := [_, _, _]) (live_ok r k t hr) ⟨rfl, rfl, rfl, rfl⟩ ?_
  rintro u rfl
  refine AX (hK' _ _ ?_)
  clear hK' K'
  iterate 2 refine W0 ?_ (e := fun _ h_ => by simp only [sH, ↓sP, sA, tyS, simprocAttr, denilL_dg, h1_10]; exact AX h_)
  refine hwalk2_cases 15 rfl (fun h1_15 => ?_) (fun h1_15 => ?_)
  ·
   simp only [h1_15]
   refine T2 (hK _ _ _ ?_)
   clear hK K
   refine hw_ret ?_
   simp only [hpost, Tryz.results121, hresL, hres1, tupOf, ↓sP, sA, tyS, simprocAttr]
   exact hret_pure [] (.bool true) rfl (by simp only [kid, h1_10, h1_15, Bool.and_true, Bool.and_false, Bool.true_and, Bool.false_and])
  simp only [h1_15]
  refine T2 (hK _ _ _ ?_)
  clear hK K
  refine hw_ret ?_
  simp only [hpost, Tryz.results121, hresL, hres1, tupOf, ↓sP, sA, tyS, simprocAttr]
  exact hret_pure [] (.bool false) rfl (by simp only [kid, h1_10, h1_15, Bool.and_true, Bool.and_false, Bool.true_and, Bool.false_and])
 iterate 6 refine W0 ?_ (e := fun _ h_ => by simp only [sH, ↓sP, sA, tyS, simprocAttr, denilL_dg, h1_10]; exact AX h_)
 refine T2 (hK _ _ _ ?_)
 clear hK K
 refine hw_ret ?_
 simp only [hpost, Tryz.results121, hresL, hres1, tupOf, ↓sP, sA, tyS, simprocAttr]
 exact hret_pure [] (.bool false) rfl (by simp only [kid, h1_10, Bool.and_true, Bool.and_false, Bool.true_and, Bool.false_and])


theorem towners_ok (r : Rt) (role : Word) (g : FuncId) (caps : List CV) (p : Ky → Bool) (hr : rSz r) (hp : ∀ k ∈ r.k, HPure Tryz.prog g (k.cv :: caps) (fun v => v = .bool (p k))) :
  HPureH Tryz.prog 36 [.c r.cv, .c (.str role), .clo g (caps.map .c)] (fun v => v = .slc ((ownB r.k role p).map .str)) := by
 refine hfn_walk Tryz.func36 rfl (by kernel_rfl) (locOk_h (by simp [HV.menL, HV.men, HV.menL_c])) (Nat.le_of_ble_eq_true rfl) ?_
 have hlk : r.k.length < 2 ^ 40 := hr.2.1.1
 refine R0 ?_
 refine R0 ?_
 refine hw_seq fun K hK => ?_
 refine hw_seq fun K hK => Rg ?_
 iterate 4 refine S0 ?_
 refine T2 (hK _ _ _ ?_)
 clear hK K
 refine hw_block ?_
 refine hw_own 7 0 9 1 rfl rfl rfl rfl ?_
 refine hw_loop (α := {i : Nat // i ≤ r.k.length}) (fun i => (fin [(1, .c (.str role)), (2, .clo g (caps.map .c)), (7, .own 28 (ownF (r.k.take i.1) role p).length), (11, .c (.slc (r.k.map Ky.cv))), (12, .c (.int .i64 r.k.length)), (13, .c (.int .i64 i.1))], fob [(28, .row 9 1 ((ownF (r.k.take i.1) role p).map .str))])) 100 (fun i => r.k.length - i.1) ⟨0, by omega⟩ (fits_fin (by omega) (by simp [FinOk, fin_at, finA_at, upd_at, HV.men, HV.menL, HV.norm, HV.toC, HV.toCL, HV.menL_c, ownF]) (by simp [FobOk, fob_at, upd_at, none0_at, gone, HO.men, HV.men, HV.menL, HV.norm, HV.toC, HV.toCL, ownF])) ?_
 rintro ⟨i, hi⟩
 refine R0 ?_
 refine hw_seq fun K hK => ?_
 refine hw_cond (b := decide ((i : Int) < r.k.length)) rfl (fun hb => ?_) (fun hb => ?_)
 ·
  have hlt : i < r.k.length := by simpa using hb
  have hk := hr.2.1.2 _ (List.getElem_mem hlt)
  have hof := ownF_len (r.k.take i) role p
  have hti : (r.k.take i).length = i := by simp; omega
  refine hw_skip ?_
  refine T0 (hK _ _ _ ?_)
  clear hK K
  refine hw_seq fun K hK => ?_
  have key : ∀ (m : List Word) fr ob nx, m = ownF (r.k.take (i + 1)) role p → Fits 0 fr ob (fin [(1, .c (.str role)), (2, .clo g (caps.map .c)), (7, .own 28 m.length), (11, .c (.slc (r.k.map Ky.cv))), (12, .c (.int .i64 r.k.length)), (13, .c (.int .i64 i))]) (fob [(28, .row 9 1 (m.map .str))]) 500 → K fr ob nx := by
   rintro m fr ob nx rfl hf
   refine hK _ _ _ (hw_fits hf ?_)
   clear hf hK K
   refine hw_region (by kernel_rfl) ?_
   simp only [↓sP, sA, tyS, simprocAttr, i64s i]
   refine ⟨⟨i + 1, hlt⟩, fits_fin (by omega) (by simp [FinOk, fin_at, finA_at, upd_at, HV.men, HV.menL, HV.norm, HV.toC, HV.toCL, HV.menL_c]) (by simp [FobOk, fob_at, upd_at, none0_at, gone, HO.men, HV.men, HV.menL, HV.norm, HV.toC, HV.toCL]), ?_⟩
   show r.k.length - (i + 1) < r.k.length - i
   omega
  refine hw_block ?_
  refine hw_seq fun K hK => Rg ?_
  iterate 4 refine S0 ?_ (e := fun _ h_ => by simp only [sH, ↓sP, sA, tyS, simprocAttr, Int.natCast_nonneg, Int.ofNat_lt, hlt, nth_map hlt]; exact AX h_)
  refine T2 (hK _ _ _ ?_)
  clear hK K
  refine hw_seq fun K hK => Rg ?_
  iterate 3 refine S0 ?_
  refine hlex_step (g := none) rfl rfl fun K' hK' => ?_
  simp only [sH, ↓sP, sA, tyS, simprocAttr]
  refine call_pure (args := [_, _]) (cont_ok r.k[i].rs role hk.2.1) ⟨rfl, rfl, rfl, rfl⟩ ?_
  rintro u rfl
  refine AX (hK' _ _ ?_)
  clear hK' K'
  refine S0 ?_
  refine hlex_cases 20 rfl (fun h5_20 => ?_) (fun h5_20 => ?_)
  ·
   iterate 2 refine S0 ?_ (e := fun _ h_ => by simp only [sH, ↓sP, sA, tyS, simprocAttr, h5_20]; exact AX h_)
   refine hlex_step (g := some (21, true)) rfl rfl fun K' hK' => ?_
   simp only [sH, ↓sP, sA, tyS, simprocAttr, h5_20]
   refine call_pure (args := r.k[i].cv :: caps) (hp _ (List.getElem_mem hlt)) ⟨rfl, rfl, rfl, rfl⟩ ?_
   rintro u rfl
   refine AX (hK' _ _ ?_)
   clear hK' K'
   refine S0 ?_ (e := fun _ h_ => by simp only [sH, ↓sP, sA, tyS, simprocAttr, h5_20]; exact AX h_)
   refine hlex_cases 24 rfl (fun h5_24 => ?_) (fun h5_24 => ?_)
   ·
    simp only [h5_24]
    refine T2 (hK _ _ _ ?_)
    clear hK K
    refine hw_cond (b := true) rfl (fun hb => ?_) (fun hb => ?_)
    ·
     refine hw_region (by kernel_rfl) ?_
     simp only [sR, simprocAttr]
     iterate 6 refine S0 ?_ (e := fun _ h_ => by simp only [sH, ↓sP, sA, tyS, simprocAttr, List.length_append, hti, h5_20, h5_24]; exact AX h_)
     simp only [sE, ↓reduceIte, simprocAttr]
     refine key (ownF (r.k.take i) role p ++ [r.k[i].o]) _ _ _ (by rw [ownF_take hlt]; simp only [h5_20, h5_24, Bool.and_self, if_true]) ?_
     exact fits_fin (by omega) (by simp [FinOk, fin_at, finA_at, upd_at, HV.men, HV.menL, HV.norm, HV.toC, HV.toCL, HV.menL_c]) (by simp [FobOk, fob_at, upd_at, none0_at, gone, HO.men, HV.men, HV.menL, HV.norm, HV.toC, HV.toCL])
    cases hb
   simp only [h5_24]
   refine T2 (hK _ _ _ ?_)
   clear hK K
   refine hw_cond (b := false) rfl (fun hb => ?_) (fun hb => ?_)
   ·
    cases hb
   refine hw_skip ?_
   simp only [↓sP, sA, tyS, simprocAttr]
   refine key (ownF (r.k.take i) role p) _ _ _ (by rw [ownF_take hlt]; simp only [h5_20, h5_24, Bool.and_true, Bool.and_false, Bool.true_and, Bool.false_and]; try simp) ?_
   exact fits_fin (by omega) (by simp [FinOk, fin_at, finA_at, upd_at, HV.men, HV.menL, HV.norm, HV.toC, HV.toCL, HV.menL_c]) (by simp [FobOk, fob_at, upd_at, none0_at, gone, HO.men, HV.men, HV.menL, HV.norm, HV.toC, HV.toCL])
  iterate 4 refine S0 ?_ (e := fun _ h_ => by simp only [sH, ↓sP, sA, tyS, simprocAttr, h5_20]; exact AX h_)
  refine T2 (hK _ _ _ ?_)
  clear hK K
  refine hw_cond (b := false) rfl (fun hb => ?_) (fun hb => ?_)
  ·
   cases hb
  refine hw_skip ?_
  simp only [↓sP, sA, tyS, simprocAttr]
  refine key (ownF (r.k.take i) role p) _ _ _ (by rw [ownF_take hlt]; simp only [h5_20, Bool.and_true, Bool.and_false, Bool.true_and, Bool.false_and]; try simp) ?_
  exact fits_fin (by omega) (by simp [FinOk, fin_at, finA_at, upd_at, HV.men, HV.menL, HV.norm, HV.toC, HV.toCL, HV.menL_c]) (by simp [FobOk, fob_at, upd_at, none0_at, gone, HO.men, HV.men, HV.menL, HV.norm, HV.toC, HV.toCL])
 have hei : i = r.k.length := by simp at hb; omega
 subst hei
 clear hb
 rw [List.take_length]
 have hof := ownF_len r.k role p
 have hsl : ((ownF r.k role p).mergeSort leW).length = (ownF r.k role p).length := (List.mergeSort_perm _ _).length_eq
 refine hw_exit ?_
 simp only [↓sP, sA, tyS, simprocAttr]
 clear hK K
 refine AX (hK _ _ _ ?_)
 clear hK K
 refine hw_seq fun K hK => Rg ?_
 refine S0 ?_
 refine hlex_step (g := none) rfl rfl fun K' hK' => ?_
 simp only [sH, ↓sP, sA, tyS, simprocAttr]
 refine call_sort (sort_ok (ownF r.k role p) (by omega)) rfl rfl (by simp) ⟨rfl, rfl, rfl, rfl⟩ ?_
 refine AX (hK' _ _ ?_)
 clear hK' K'
 refine T2 (hK _ _ _ ?_)
 clear hK K
 refine hw_seq fun K hK => Rg ?_
 refine S0 ?_
 refine hlex_step (g := none) rfl rfl fun K' hK' => ?_
 simp only [sH, ↓sP, sA, tyS, simprocAttr]
 refine call_take (compact_ok ((ownF r.k role p).mergeSort leW) (by omega)) rfl (by rw [List.length_map, hsl]) (by simp) ⟨rfl, rfl, rfl, rfl⟩ ?_
 rintro u rfl
 refine AX (hK' _ _ ?_)
 clear hK' K'
 refine S0 ?_
 refine T2 (hK _ _ _ ?_)
 clear hK K
 refine hw_ret ?_
 simp only [hpost, Tryz.results36, hresL, hres1, tupOf, ↓sP, sA, tyS, simprocAttr]
 refine hret_pure [] (.slc ((ownB r.k role p).map .str)) ?_ rfl
 rw [dedup_ms]
 exact close_c (by simp only [CV.denil, denilL_str])


theorem yes_ok (k : Ky) : HPure Tryz.prog 37 [k.cv] (fun v => v = .bool true) := by
 refine hfn_walk Tryz.func37 rfl (by kernel_rfl) (locOk_nil _) (Nat.le_of_ble_eq_true rfl) ?_
 refine R0 ?_
 refine R0 ?_
 refine hw_ret ?_
 simp only [hpost, Tryz.results37, hresL, hres1, tupOf, ↓sP, sA, tyS, simprocAttr]
 exact hret_pure [] (.bool true) rfl rfl


theorem valid_ok (r : Rt) (hr : rSz r) : HPure Tryz.prog 10 [r.cv] (fun v => v = .bool (validR r)) := by
 refine hfn_walk Tryz.func10 rfl (by kernel_rfl) (locOk_nil _) (Nat.le_of_ble_eq_true rfl) ?_
 refine R0 ?_
 refine hw_seq fun K hK => ?_
 refine hw_seq fun K hK => Rg ?_
 iterate 2 refine S0 ?_
 refine hlex_step (g := none) rfl rfl fun K' hK' => ?_
 simp only [sH, ↓sP, sA, tyS, simprocAttr]
 refine call_pure (args := [_, _]) (within_ok 1 r.v) ⟨rfl, rfl, rfl, rfl⟩ ?_
 rintro u rfl
 refine AX (hK' _ _ ?_)
 clear hK' K'
 iterate 2 refine S0 ?_
 refine hlex_cases 6 rfl (fun h1_6 => ?_) (fun h1_6 => ?_)
 ·
  iterate 2 refine S0 ?_ (e := fun _ h_ => by simp only [sH, ↓sP, sA, tyS, simprocAttr, h1_6]; exact AX h_)
  refine hlex_step (g := some (8, false)) rfl rfl fun K' hK' => ?_
  simp only [sH, ↓sP, sA, tyS, simprocAttr, h1_6]
  refine call_pure (args := [_, _]) (within_ok 0 r.e) ⟨rfl, rfl, rfl, rfl⟩ ?_
  rintro u rfl
  refine AX (hK' _ _ ?_)
  clear hK' K'
  iterate 3 refine S0 ?_ (e := fun _ h_ => by simp only [sH, ↓sP, sA, tyS, simprocAttr, h1_6]; exact AX h_)
  refine hlex_cases 11 rfl (fun h1_11 => ?_) (fun h1_11 => ?_)
  ·
   iterate 2 refine S0 ?_ (e := fun _ h_ => by simp only [sH, ↓sP, sA, tyS, simprocAttr, h1_6, h1_11]; exact AX h_)
   refine hlex_step (g := some (14, false)) rfl rfl fun K' hK' => ?_
   simp only [sH, ↓sP, sA, tyS, simprocAttr, h1_6, h1_11]
   refine call_pure (args := [_]) (quotas_ok r.q hr.1.1 hr.1.2) ⟨rfl, rfl, rfl, rfl⟩ ?_
   rintro u rfl
   refine AX (hK' _ _ ?_)
   clear hK' K'
   iterate 3 refine S0 ?_ (e := fun _ h_ => by simp only [sH, ↓sP, sA, tyS, simprocAttr, h1_6, h1_11]; exact AX h_)
   refine hlex_cases 17 rfl (fun h1_17 => ?_) (fun h1_17 => ?_)
   ·
    iterate 2 refine S0 ?_ (e := fun _ h_ => by simp only [sH, ↓sP, sA, tyS, simprocAttr, h1_6, h1_11, h1_17]; exact AX h_)
    refine hlex_step (g := some (20, false)) rfl rfl fun K' hK' => ?_
    simp only [sH, ↓sP, sA, tyS, simprocAttr, h1_6, h1_11, h1_17]
    refine call_pure (args := [_]) (keys_ok pid_ok r.k hr.2.1.1 hr.2.1.2) ⟨rfl, rfl, rfl, rfl⟩ ?_
    rintro u rfl
    refine AX (hK' _ _ ?_)
    clear hK' K'
    iterate 3 refine S0 ?_ (e := fun _ h_ => by simp only [sH, ↓sP, sA, tyS, simprocAttr, h1_6, h1_11, h1_17]; exact AX h_)
    refine hlex_cases 23 rfl (fun h1_23 => ?_) (fun h1_23 => ?_)
    ·
     iterate 2 refine S0 ?_ (e := fun _ h_ => by simp only [sH, ↓sP, sA, tyS, simprocAttr, h1_6, h1_11, h1_17, h1_23]; exact AX h_)
     refine hlex_step (g := some (26, false)) rfl rfl fun K' hK' => ?_
     simp only [sH, ↓sP, sA, tyS, simprocAttr, h1_6, h1_11, h1_17, h1_23]
     refine call_pure (args := [_]) (revocations_ok r.x hr.2.2) ⟨rfl, rfl, rfl, rfl⟩ ?_
     rintro u rfl
     refine AX (hK' _ _ ?_)
     clear hK' K'
     iterate 2 refine S0 ?_ (e := fun _ h_ => by simp only [sH, ↓sP, sA, tyS, simprocAttr, h1_6, h1_11, h1_17, h1_23]; exact AX h_)
     refine hlex_cases 29 rfl (fun h1_29 => ?_) (fun h1_29 => ?_)
     ·
      simp only [h1_29]
      refine T2 (hK _ _ _ ?_)
      clear hK K
      refine hw_cond (b := false) rfl (fun hb => ?_) (fun hb => ?_)
      ·
       cases hb
      refine hw_skip ?_
      refine T0 (hK _ _ _ ?_)
      clear hK K
      refine hw_seq fun K hK => Rg ?_
      refine S0 ?_ (e := fun _ h_ => by simp only [sH, ↓sP, sA, tyS, simprocAttr, h1_6, h1_11, h1_17, h1_23, h1_29]; exact AX h_)
      refine hlex_step (g := none) rfl rfl fun K' hK' => ?_
      simp only [sH, ↓sP, sA, tyS, simprocAttr, h1_6, h1_11, h1_17, h1_23, h1_29]
      refine call_pure (args := [_, _]) (need_ok r wRoot hr.1.1) ⟨rfl, rfl, rfl, rfl⟩ ?_
      rintro u rfl
      refine AX (hK' _ _ ?_)
      clear hK' K'
      refine S0 ?_ (e := fun _ h_ => by simp only [sH, ↓sP, sA, tyS, simprocAttr, h1_6, h1_11, h1_17, h1_23, h1_29]; exact AX h_)
      refine T2 (hK _ _ _ ?_)
      clear hK K
      refine hw_seq fun K hK => Rg ?_
      iterate 3 refine S0 ?_ (e := fun _ h_ => by simp only [sH, ↓sP, sA, tyS, simprocAttr, h1_6, h1_11, h1_17, h1_23, h1_29]; exact AX h_)
      refine hlex_cases 35 rfl (fun h4_35 => ?_) (fun h4_35 => ?_)
      ·
       refine S0 ?_ (e := fun _ h_ => by simp only [sH, ↓sP, sA, tyS, simprocAttr, h1_6, h1_11, h1_17, h1_23, h1_29, h4_35]; exact AX h_)
       refine hlex_step (g := some (36, true)) rfl rfl fun K' hK' => ?_
       simp only [sH, ↓sP, sA, tyS, simprocAttr, h1_6, h1_11, h1_17, h1_23, h1_29, h4_35]
       refine call_pureh (hpureh_fn (towners_ok r wRoot 37 [] (fun _ => true) hr fun k _ => yes_ok k)) (by simp [HV.menL, HV.men]) (fun m => by simp [HV.renL, HV.ren]) ⟨rfl, rfl, rfl, rfl⟩ ?_
       rintro u rfl
       refine AX (hK' _ _ ?_)
       clear hK' K'
       iterate 5 refine S0 ?_ (e := fun _ h_ => by simp only [sH, ↓sP, sA, tyS, simprocAttr, h1_6, h1_11, h1_17, h1_23, h1_29, h4_35]; exact AX h_)
       refine hlex_cases 41 rfl (fun h4_41 => ?_) (fun h4_41 => ?_)
       ·
        simp only [h4_41]
        refine T2 (hK _ _ _ ?_)
        clear hK K
        refine hw_ret ?_
        simp only [hpost, Tryz.results10, hresL, hres1, tupOf, ↓sP, sA, tyS, simprocAttr]
        exact hret_pure [] (.bool true) rfl (by simp only [valid_code, h1_6, h1_11, h1_17, h1_23, h1_29, h4_35, h4_41, Bool.and_true, Bool.true_and])
       simp only [h4_41]
       refine T2 (hK _ _ _ ?_)
       clear hK K
       refine hw_ret ?_
       simp only [hpost, Tryz.results10, hresL, hres1, tupOf, ↓sP, sA, tyS, simprocAttr]
       exact hret_pure [] (.bool false) rfl (by simp only [valid_code, h1_6, h1_11, h1_17, h1_23, h1_29, h4_35, h4_41, Bool.and_true, Bool.and_false, Bool.true_and, Bool.false_and])
      iterate 7 refine S0 ?_ (e := fun _ h_ => by simp only [sH, ↓sP, sA, tyS, simprocAttr, h1_6, h1_11, h1_17, h1_23, h1_29, h4_35]; exact AX h_)
      refine T2 (hK _ _ _ ?_)
      clear hK K
      refine hw_ret ?_
      simp only [hpost, Tryz.results10, hresL, hres1, tupOf, ↓sP, sA, tyS, simprocAttr]
      exact hret_pure [] (.bool false) rfl (by simp only [valid_code, h1_6, h1_11, h1_17, h1_23, h1_29, h4_35, Bool.and_true, Bool.and_false, Bool.true_and, Bool.false_and])
     simp only [h1_29]
     refine T2 (hK _ _ _ ?_)
     clear hK K
     refine hw_cond (b := true) rfl (fun hb => ?_) (fun hb => ?_)
     ·
      refine R0 ?_
      refine hw_ret ?_
      simp only [hpost, Tryz.results10, hresL, hres1, tupOf, ↓sP, sA, tyS, simprocAttr]
      exact hret_pure [] (.bool false) rfl (by simp only [valid_code, h1_6, h1_11, h1_17, h1_23, h1_29, Bool.and_true, Bool.and_false, Bool.true_and, Bool.false_and])
     cases hb
    iterate 5 refine S0 ?_ (e := fun _ h_ => by simp only [sH, ↓sP, sA, tyS, simprocAttr, h1_6, h1_11, h1_17, h1_23]; exact AX h_)
    refine T2 (hK _ _ _ ?_)
    clear hK K
    refine hw_cond (b := true) rfl (fun hb => ?_) (fun hb => ?_)
    ·
     refine R0 ?_
     refine hw_ret ?_
     simp only [hpost, Tryz.results10, hresL, hres1, tupOf, ↓sP, sA, tyS, simprocAttr]
     exact hret_pure [] (.bool false) rfl (by simp only [valid_code, h1_6, h1_11, h1_17, h1_23, Bool.and_true, Bool.and_false, Bool.true_and, Bool.false_and])
    cases hb
   iterate 11 refine S0 ?_ (e := fun _ h_ => by simp only [sH, ↓sP, sA, tyS, simprocAttr, h1_6, h1_11, h1_17]; exact AX h_)
   refine T2 (hK _ _ _ ?_)
   clear hK K
   refine hw_cond (b := true) rfl (fun hb => ?_) (fun hb => ?_)
   ·
    refine R0 ?_
    refine hw_ret ?_
    simp only [hpost, Tryz.results10, hresL, hres1, tupOf, ↓sP, sA, tyS, simprocAttr]
    exact hret_pure [] (.bool false) rfl (by simp only [valid_code, h1_6, h1_11, h1_17, Bool.and_true, Bool.and_false, Bool.true_and, Bool.false_and])
   cases hb
  iterate 17 refine S0 ?_ (e := fun _ h_ => by simp only [sH, ↓sP, sA, tyS, simprocAttr, h1_6, h1_11]; exact AX h_)
  refine T2 (hK _ _ _ ?_)
  clear hK K
  refine hw_cond (b := true) rfl (fun hb => ?_) (fun hb => ?_)
  ·
   refine R0 ?_
   refine hw_ret ?_
   simp only [hpost, Tryz.results10, hresL, hres1, tupOf, ↓sP, sA, tyS, simprocAttr]
   exact hret_pure [] (.bool false) rfl (by simp only [valid_code, h1_6, h1_11, Bool.and_true, Bool.and_false, Bool.true_and, Bool.false_and])
  cases hb
 iterate 23 refine S0 ?_ (e := fun _ h_ => by simp only [sH, ↓sP, sA, tyS, simprocAttr, h1_6]; exact AX h_)
 refine T2 (hK _ _ _ ?_)
 clear hK K
 refine hw_cond (b := true) rfl (fun hb => ?_) (fun hb => ?_)
 ·
  refine R0 ?_
  refine hw_ret ?_
  simp only [hpost, Tryz.results10, hresL, hres1, tupOf, ↓sP, sA, tyS, simprocAttr]
  exact hret_pure [] (.bool false) rfl (by simp only [valid_code, h1_6, Bool.and_true, Bool.and_false, Bool.true_and, Bool.false_and])
 cases hb


theorem tneed_ok (r : Rt) (w : Word) (hr : rSz r) : HPure Tryz.prog 45 [r.cv, .str w] (fun v => v = .int .i64 (needV r w)) := by
 refine hfn_walk Tryz.func45 rfl (by kernel_rfl) (locOk_nil _) (Nat.le_of_ble_eq_true rfl) ?_
 refine R0 ?_
 refine hw_seq fun K hK => ?_
 refine hw_seq fun K hK => Rg ?_
 refine S0 ?_
 refine hlex_step (g := none) rfl rfl fun K' hK' => ?_
 simp only [sH, ↓sP, sA, tyS, simprocAttr]
 refine call_pure (args := [_]) (valid_ok r hr) ⟨rfl, rfl, rfl, rfl⟩ ?_
 rintro u rfl
 refine AX (hK' _ _ ?_)
 clear hK' K'
 refine S0 ?_
 refine T2 (hK _ _ _ ?_)
 clear hK K
 refine hw_cond (b := !validR r) rfl (fun hb => ?_) (fun hb => ?_)
 ·
  refine R0 ?_
  refine hw_ret ?_
  simp only [hpost, Tryz.results45, hresL, hres1, tupOf, ↓sP, sA, tyS, simprocAttr]
  exact hret_pure [] (.int .i64 0) rfl (by unfold needV; rw [if_neg (by simpa using hb)])
 refine hw_skip ?_
 refine T0 (hK _ _ _ ?_)
 clear hK K
 refine hw_seq fun K hK => Rg ?_
 iterate 2 refine S0 ?_
 refine hlex_step (g := none) rfl rfl fun K' hK' => ?_
 simp only [sH, ↓sP, sA, tyS, simprocAttr]
 refine call_pure (args := [_, _]) (need_ok r w hr.1.1) ⟨rfl, rfl, rfl, rfl⟩ ?_
 rintro u rfl
 refine AX (hK' _ _ ?_)
 clear hK' K'
 refine S0 ?_
 refine T2 (hK _ _ _ ?_)
 clear hK K
 refine hw_ret ?_
 simp only [hpost, Tryz.results45, hresL, hres1, tupOf, ↓sP, sA, tyS, simprocAttr]
 exact hret_pure [] (.int .i64 _) rfl (by unfold needV; rw [if_pos (by simpa using hb)])


theorem vouched_ok (r : Rt) (role : Word) (l : List Dig) (t : Int) (hr : rSz r) (hl : l.length < 2 ^ 40) : HPure Tryz.prog 90 [r.cv, .str role, .slc (l.map dg), .int .i64 t] (fun v => v = .slc ((vouched r role l t).map .str)) := by
 refine hfn_walk Tryz.func90 rfl (by kernel_rfl) (locOk_nil _) (Nat.le_of_ble_eq_true rfl) ?_
 refine hw_seq fun K hK => Rg ?_
 iterate 4 refine S0 ?_
 refine T2 (hK _ _ _ ?_)
 clear hK K
 refine hw_seq fun K hK => ?_
 refine hw_seq fun K hK => Rg ?_
 refine S0 ?_
 refine hlex_step (g := none) rfl rfl fun K' hK' => ?_
 simp only [sH, ↓sP, sA, tyS, simprocAttr]
 refine call_pure (args := [_]) (valid_ok r hr) ⟨rfl, rfl, rfl, rfl⟩ ?_
 rintro u rfl
 refine AX (hK' _ _ ?_)
 clear hK' K'
 refine S0 ?_
 refine T2 (hK _ _ _ ?_)
 clear hK K
 refine hw_cond (b := !validR r) rfl (fun hb => ?_) (fun hb => ?_)
 ·
  refine R0 ?_
  refine hw_ret ?_
  simp only [hpost, Tryz.results90, hresL, hres1, tupOf, ↓sP, sA, tyS, simprocAttr]
  exact hret_pure [] (.slc []) rfl (by unfold vouched; rw [if_neg (by simpa using hb)]; rfl)
 refine hw_skip ?_
 refine T0 (hK _ _ _ ?_)
 clear hK K
 refine hw_freeze 4 0 rfl rfl ?_
 refine hw_freeze 6 4 rfl rfl ?_
 refine hw_freeze 7 8 rfl rfl ?_
 refine hw_seq fun K hK => Rg ?_
 iterate 3 refine S0 ?_
 refine hlex_step (g := none) rfl rfl fun K' hK' => ?_
 simp only [sH, ↓sP, sA, tyS, simprocAttr]
 refine call_pureh (towners_ok r role 121 [.rp (.slc (l.map dg)), .rp r.cv, .rp (.int .i64 t)] (fun k => l.contains (kid k) && liveB r k t) hr fun k _ => vclo_ok r l t hr hl k) (by simp [HV.menL, HV.men]) (fun m => by simp [HV.renL, HV.ren]) ⟨rfl, rfl, rfl, rfl⟩ ?_
 rintro u rfl
 refine AX (hK' _ _ ?_)
 clear hK' K'
 refine S0 ?_
 refine T2 (hK _ _ _ ?_)
 clear hK K
 refine hw_ret ?_
 simp only [hpost, Tryz.results90, hresL, hres1, tupOf, ↓sP, sA, tyS, simprocAttr]
 refine hret_pure [] (.slc ((ownB r.k role fun k => l.contains (kid k) && liveB r k t).map .str)) ?_ (by unfold vouched; rw [if_pos (by simpa using hb)])
 exact close_c (by simp only [CV.denil, denilL_str])


theorem enough_ok (r : Rt) (role : Word) (l : List Dig) (t : Int) (hr : rSz r) (hl : l.length < 2 ^ 40) : HPure Tryz.prog 46 [r.cv, .str role, .slc (l.map dg), .int .i64 t] (fun v => v = .bool (enough r role l t)) := by
 refine hfn_walk Tryz.func46 rfl (by kernel_rfl) (locOk_nil _) (Nat.le_of_ble_eq_true rfl) ?_
 refine R0 ?_
 refine hw_seq fun K hK => Rg ?_
 iterate 2 refine S0 ?_
 refine hlex_step (g := none) rfl rfl fun K' hK' => ?_
 simp only [sH, ↓sP, sA, tyS, simprocAttr]
 refine call_pure (args := [_, _]) (tneed_ok r role hr) ⟨rfl, rfl, rfl, rfl⟩ ?_
 rintro u rfl
 refine AX (hK' _ _ ?_)
 clear hK' K'
 refine S0 ?_
 refine T2 (hK _ _ _ ?_)
 clear hK K
 refine hw_seq fun K hK => Rg ?_
 iterate 3 refine S0 ?_ (e := fun _ h_ => by simp only [sH, ↓sP, sA, tyS, simprocAttr, denilL_dg]; exact AX h_)
 refine hlex_cases 14 rfl (fun h2_14 => ?_) (fun h2_14 => ?_)
 ·
  iterate 5 refine S0 ?_ (e := fun _ h_ => by simp only [sH, ↓sP, sA, tyS, simprocAttr, denilL_dg, h2_14]; exact AX h_)
  refine hlex_step (g := some (15, true)) rfl rfl fun K' hK' => ?_
  simp only [sH, ↓sP, sA, tyS, simprocAttr, denilL_dg, h2_14]
  refine call_pure (args := [_, _, _, _]) (vouched_ok r role l t hr hl) ⟨rfl, rfl, rfl, rfl⟩ ?_
  rintro u rfl
  refine AX (hK' _ _ ?_)
  clear hK' K'
  iterate 4 refine S0 ?_ (e := fun _ h_ => by simp only [sH, ↓sP, sA, tyS, simprocAttr, denilL_dg, h2_14]; exact AX h_)
  refine hlex_cases 23 rfl (fun h2_23 => ?_) (fun h2_23 => ?_)
  ·
   simp only [h2_23]
   refine T2 (hK _ _ _ ?_)
   clear hK K
   refine hw_ret ?_
   simp only [hpost, Tryz.results46, hresL, hres1, tupOf, ↓sP, sA, tyS, simprocAttr]
   exact hret_pure [] (.bool true) rfl (by simp only [enough, h2_14, h2_23, Bool.and_true, Bool.and_false, Bool.true_and, Bool.false_and])
  simp only [h2_23]
  refine T2 (hK _ _ _ ?_)
  clear hK K
  refine hw_ret ?_
  simp only [hpost, Tryz.results46, hresL, hres1, tupOf, ↓sP, sA, tyS, simprocAttr]
  exact hret_pure [] (.bool false) rfl (by simp only [enough, h2_14, h2_23, Bool.and_true, Bool.and_false, Bool.true_and, Bool.false_and])
 iterate 10 refine S0 ?_ (e := fun _ h_ => by simp only [sH, ↓sP, sA, tyS, simprocAttr, denilL_dg, h2_14]; exact AX h_)
 refine T2 (hK _ _ _ ?_)
 clear hK K
 refine hw_ret ?_
 simp only [hpost, Tryz.results46, hresL, hres1, tupOf, ↓sP, sA, tyS, simprocAttr]
 exact hret_pure [] (.bool false) rfl (by simp only [enough, h2_14, Bool.and_true, Bool.and_false, Bool.true_and, Bool.false_and])

end Go.Proofs.YtenbfeemmpjdhaaGreatDoor

namespace Go.Pl
open Go Go.Hl

def rootW : Word := [114, 111, 111, 116]
def secN (j : Nat) : Word := ([[113, 117, 111, 116, 97], [107, 101, 121], [114, 101, 118, 111, 107, 101, 100]] : List Word).getD j []
def secF (j : Nat) (l : List Word) (x : Rt) : Option Rt := if j = 0 then quotaP l x else if j = 1 then keyP l x else revP l x
def runS (j : Nat) : List (List Word) → Rt → Option (List (List Word) × Rt)
 | [], x => some ([], x)
 | l :: ls, x => if wd l 0 = secN j then match secF j l x with | some y => runS j ls y | none => none else some (l :: ls, x)
def runA : Nat → Nat → List (List Word) → Rt → Option (List (List Word) × Rt)
 | 0, _, ls, x => some (ls, x)
 | n + 1, j, ls, x => match runS j ls x with | some (ls', y) => runA n (j + 1) ls' y | none => none
def rt0 : Rt := ⟨0, 0, [], [], []⟩
def rootV (lines : List (List Word)) : Option Rt := match lines with
 | [] => none
 | l0 :: ls => if wd l0 0 = rootW then match hdrP l0 rt0 with
   | some x => match runA 3 0 ls x with | some ([], y) => some y | _ => none
   | none => none
  else none

section
variable {l0 : List Word} {ls : List (List Word)} {x : Rt}
theorem rootV_word (h : wd l0 0 ≠ rootW) : rootV (l0 :: ls) = none := by unfold rootV; simp only; rw [if_neg h]
theorem rootV_hdr (h : wd l0 0 = rootW) (hn : hdrP l0 rt0 = none) : rootV (l0 :: ls) = none := by unfold rootV; simp only; rw [if_pos h, hn]
theorem rootV_run (h : wd l0 0 = rootW) (hx : hdrP l0 rt0 = some x) (hr : runA 3 0 ls x = none) : rootV (l0 :: ls) = none := by unfold rootV; simp only; rw [if_pos h, hx]; simp only; rw [hr]
theorem rootV_more {l : List Word} {ls' : List (List Word)} {y : Rt} (h : wd l0 0 = rootW) (hx : hdrP l0 rt0 = some x) (hr : runA 3 0 ls x = some (l :: ls', y)) : rootV (l0 :: ls) = none := by unfold rootV; simp only; rw [if_pos h, hx]; simp only; rw [hr]
theorem rootV_some {y : Rt} (h : wd l0 0 = rootW) (hx : hdrP l0 rt0 = some x) (hr : runA 3 0 ls x = some ([], y)) : rootV (l0 :: ls) = some y := by unfold rootV; simp only; rw [if_pos h, hx]; simp only; rw [hr]
end
theorem runS_hit {j : Nat} {l : List Word} {ls : List (List Word)} {x y : Rt} (h : wd l 0 = secN j) (hy : secF j l x = some y) : runS j (l :: ls) x = runS j ls y := by
 rw [runS, if_pos h, hy]
theorem runS_fail {j : Nat} {l : List Word} {ls : List (List Word)} {x : Rt} (h : wd l 0 = secN j) (hy : secF j l x = none) : runS j (l :: ls) x = none := by
 rw [runS, if_pos h, hy]
theorem runS_miss {j : Nat} {l : List Word} {ls : List (List Word)} {x : Rt} (h : wd l 0 ≠ secN j) : runS j (l :: ls) x = some (l :: ls, x) := by
 rw [runS, if_neg h]
theorem runA_hit {n j : Nat} {l : List Word} {ls : List (List Word)} {x y : Rt} (h : wd l 0 = secN j) (hy : secF j l x = some y) : runA (n + 1) j (l :: ls) x = runA (n + 1) j ls y := by
 simp only [runA, runS_hit h hy]
theorem runA_fail {n j : Nat} {l : List Word} {ls : List (List Word)} {x : Rt} (h : wd l 0 = secN j) (hy : secF j l x = none) : runA (n + 1) j (l :: ls) x = none := by
 simp only [runA, runS_fail h hy]
theorem runA_miss {n j : Nat} {l : List Word} {ls : List (List Word)} {x : Rt} (h : wd l 0 ≠ secN j) : runA (n + 1) j (l :: ls) x = runA n (j + 1) (l :: ls) x := by
 simp only [runA, runS_miss h]
theorem runA_nil {n j : Nat} {x : Rt} : runA (n + 1) j [] x = runA n (j + 1) [] x := by
 simp only [runA, runS]

def wOk (l : List Word) : Prop := l ≠ [] ∧ l.length ≤ 120 ∧ ∀ w ∈ l, w.length ≤ 32768
theorem wOk.wd {l : List Word} (h : wOk l) (i : Nat) : (wd l i).length ≤ 32768 := by
 unfold Pl.wd
 rw [List.getD_eq_getElem?_getD]
 rcases Nat.lt_or_ge i l.length with h' | h'
 ·
  rw [List.getElem?_eq_getElem h']; exact h.2.2 _ (List.getElem_mem h')
 ·
  rw [List.getElem?_eq_none h']; simp
def rRead (m : Nat) (x : Rt) : Prop := x.q.length + x.k.length + x.x.length ≤ m ∧ (∀ q ∈ x.q, q.r.length ≤ 32768) ∧ ∀ k ∈ x.k, k.o.length ≤ 32768 ∧ k.rs.length ≤ 120 ∧ ∀ w ∈ k.rs, w.length ≤ 32768
theorem rRead0 {v e : Int} : rRead 0 ⟨v, e, [], [], []⟩ := ⟨by simp, by simp, by simp⟩
theorem hdrP_read {l : List Word} {x y : Rt} {m : Nat} (h : hdrP l x = some y) (hx : rRead m x) : rRead m y := by
 unfold hdrP at h
 split at h
 ·
  split at h
  ·
   cases h; exact hx
  ·
   cases h
 ·
  cases h
theorem secF_read {j : Nat} {l : List Word} {x y : Rt} {m : Nat} (hl : wOk l) (h : secF j l x = some y) (hx : rRead m x) : rRead (m + 1) y := by
 obtain ⟨h1, h2, h3⟩ := hx
 unfold secF at h
 split at h
 ·
  unfold quotaP at h
  split at h
  ·
   split at h
   ·
    cases h
    refine ⟨by simp only [List.length_append, List.length_singleton]; omega, fun q hq => ?_, h3⟩
    rcases List.mem_append.1 hq with hq | hq
    ·
     exact h2 q hq
    ·
     simp only [List.mem_singleton] at hq; subst hq; exact hl.wd 1
   ·
    cases h
  ·
   cases h
 ·
  split at h
  ·
   unfold keyP at h
   split at h
   ·
    cases h
   ·
    split at h
    ·
     cases h
     refine ⟨by simp only [List.length_append, List.length_singleton]; omega, h2, fun k hk => ?_⟩
     rcases List.mem_append.1 hk with hk | hk
     ·
      exact h3 k hk
     ·
      simp only [List.mem_singleton] at hk; subst hk
      exact ⟨hl.wd 3, by show (l.drop 6).length ≤ 120; rw [List.length_drop]; have := hl.2.1; omega, fun w hw => hl.2.2 w (List.mem_of_mem_drop hw)⟩
    ·
     cases h
  ·
   unfold revP at h
   split at h
   ·
    split at h
    ·
     cases h
     exact ⟨by simp only [List.length_append, List.length_singleton]; omega, h2, h3⟩
    ·
     cases h
   ·
    cases h
theorem rRead.sz {m : Nat} {x : Rt} (h : rRead m x) (hm : m ≤ 100000) : rSz x := by
 obtain ⟨h1, h2, h3⟩ := h
 refine ⟨⟨by omega, fun q hq => by have := h2 q hq; omega⟩, ⟨by omega, fun k hk => ?_⟩, by omega⟩
 obtain ⟨k1, k2, k3⟩ := h3 k hk
 exact ⟨by omega, by omega, fun w hw => by have := k3 w hw; omega⟩
def RtSt (ls0 : List (List Word)) (x0 : Rt) (j : Nat) (rest : List (List Word)) (x : Rt) : Prop :=
 j ≤ 3 ∧ runA 3 0 ls0 x0 = runA (3 - j) j rest x ∧ (∀ l ∈ rest, wOk l) ∧ rest.length ≤ ls0.length ∧ rRead (ls0.length - rest.length) x
section
variable {ls0 rest : List (List Word)} {x0 x : Rt} {j : Nat} {l : List Word}
theorem RtSt.init (h : ∀ l ∈ ls0, wOk l) (hx : rRead 0 x0) : RtSt ls0 x0 0 ls0 x0 := ⟨by omega, rfl, h, Nat.le_refl _, by rw [Nat.sub_self]; exact hx⟩
theorem RtSt.hit {y : Rt} (h : RtSt ls0 x0 j (l :: rest) x) (hj : j < 3) (hw : wd l 0 = secN j) (hy : secF j l x = some y) : RtSt ls0 x0 j rest y := by
 obtain ⟨h1, h2, h3, h4, h5⟩ := h
 obtain ⟨n, hn⟩ : ∃ n, 3 - j = n + 1 := ⟨2 - j, by omega⟩
 simp only [List.length_cons] at h4 h5
 refine ⟨h1, by rw [h2, hn, runA_hit hw hy], fun l hl => h3 l (List.mem_cons_of_mem _ hl), by omega, ?_⟩
 have := secF_read (h3 l List.mem_cons_self) hy h5
 have e : ls0.length - (rest.length + 1) + 1 = ls0.length - rest.length := by omega
 rwa [e] at this
theorem RtSt.fail (h : RtSt ls0 x0 j (l :: rest) x) (hj : j < 3) (hw : wd l 0 = secN j) (hy : secF j l x = none) : runA 3 0 ls0 x0 = none := by
 obtain ⟨n, hn⟩ : ∃ n, 3 - j = n + 1 := ⟨2 - j, by omega⟩
 rw [h.2.1, hn, runA_fail hw hy]
theorem RtSt.next (h : RtSt ls0 x0 j rest x) (hj : j < 3) (hw : ∀ l ls, rest = l :: ls → wd l 0 ≠ secN j) : RtSt ls0 x0 (j + 1) rest x := by
 obtain ⟨h1, h2, h3, h4, h5⟩ := h
 obtain ⟨n, hn⟩ : ∃ n, 3 - j = n + 1 := ⟨2 - j, by omega⟩
 have hn2 : 3 - (j + 1) = n := by omega
 refine ⟨by omega, ?_, h3, h4, h5⟩
 rw [h2, hn, hn2]
 cases rest with
 | nil => exact runA_nil
 | cons l ls => exact runA_miss (hw l ls rfl)
theorem RtSt.fin (h : RtSt ls0 x0 3 rest x) : runA 3 0 ls0 x0 = some (rest, x) := by rw [h.2.1]; rfl
end
def rootE (b : Word) : Int := if decE b ≠ 0 then decE b else match rootV (decO b) with | none => 2 | some x => if validR x then 0 else 1
def rootO (b : Word) : Rt := if rootE b = 0 then (rootV (decO b)).getD rt0 else rt0
theorem decO_ok {b : Word} : ∀ l ∈ decO b, wOk l := by
 intro l hl
 unfold decO at hl
 split at hl
 ·
  cases hv : decV b with
  | none => rw [hv] at hl; simp at hl
  | some ls =>
   rw [hv] at hl
   simp only [Option.getD_some] at hl
   unfold decV at hv
   split at hv
   ·
    cases hv; simp at hl
   ·
    split at hv
    ·
     have key : ∀ {rs : List Word} {ls : List (List Word)}, rs.mapM unR = some ls → ∀ l ∈ ls, okL l = true := by
      intro rs
      induction rs with
      | nil => intro ls h l hl; simp only [List.mapM_nil] at h; cases h; simp at hl
      | cons r rs ih =>
       intro ls h l hl
       rw [List.mapM_cons] at h
       cases hr : unR r with
       | none => rw [hr] at h; cases h
       | some a =>
        rw [hr] at h
        cases hm : rs.mapM unR with
        | none => rw [hm] at h; cases h
        | some m =>
         rw [hm] at h
         cases h
         rcases List.mem_cons.1 hl with rfl | hl
         ·
          unfold unR at hr
          split at hr
          ·
           split at hr
           ·
            rename_i hk; cases hr; exact hk
           ·
            cases hr
          ·
           cases hr
         ·
          exact ih hm l hl
     exact (okL_iff l).1 (key hv l hl)
    ·
     cases hv
 ·
  simp at hl
theorem decO_len {b : Word} : (decO b).length ≤ 1000 := by
 unfold decO
 split
 ·
  rename_i h
  unfold decE at h
  split at h
  ·
   cases h
  ·
   cases hv : decV b with
   | none => simp
   | some ls =>
    rw [hv] at h
    simp only at h
    split at h
    ·
     cases h
    ·
     simp only [Option.getD_some]; omega
 ·
  simp
theorem rootV_read {lines : List (List Word)} {y : Rt} (hl : ∀ l ∈ lines, wOk l) (h : rootV lines = some y) : rRead lines.length y := by
 have keyS : ∀ {j : Nat} {ls : List (List Word)} {x : Rt} {ls' : List (List Word)} {y : Rt} {m : Nat}, (∀ l ∈ ls, wOk l) → rRead m x → runS j ls x = some (ls', y) → (∀ l ∈ ls', wOk l) ∧ ls'.length ≤ ls.length ∧ rRead (m + (ls.length - ls'.length)) y := by
  intro j ls
  induction ls with
  | nil => intro x ls' y m _ hx h; simp only [runS, Option.some.injEq, Prod.mk.injEq] at h; obtain ⟨rfl, rfl⟩ := h; exact ⟨by simp, by simp, by simpa using hx⟩
  | cons l ls ih =>
   intro x ls' y m hl hx h
   by_cases hw : wd l 0 = secN j
   ·
    cases hf : secF j l x with
    | none => rw [runS_fail hw hf] at h; cases h
    | some z =>
     rw [runS_hit hw hf] at h
     obtain ⟨h1, h2, h3⟩ := ih (fun l h => hl l (List.mem_cons_of_mem _ h)) (secF_read (hl l List.mem_cons_self) hf hx) h
     refine ⟨h1, by simp only [List.length_cons]; omega, ?_⟩
     have e : m + 1 + (ls.length - ls'.length) = m + ((l :: ls).length - ls'.length) := by simp only [List.length_cons]; omega
     rwa [e] at h3
   ·
    rw [runS_miss hw] at h
    simp only [Option.some.injEq, Prod.mk.injEq] at h
    obtain ⟨rfl, rfl⟩ := h
    exact ⟨hl, Nat.le_refl _, by rw [Nat.sub_self]; exact hx⟩
 have keyA : ∀ {n j : Nat} {ls : List (List Word)} {x : Rt} {ls' : List (List Word)} {y : Rt} {m : Nat}, (∀ l ∈ ls, wOk l) → rRead m x → runA n j ls x = some (ls', y) → ls'.length ≤ ls.length ∧ rRead (m + (ls.length - ls'.length)) y := by
  intro n
  induction n with
  | zero => intro j ls x ls' y m _ hx h; simp only [runA, Option.some.injEq, Prod.mk.injEq] at h; obtain ⟨rfl, rfl⟩ := h; exact ⟨Nat.le_refl _, by rw [Nat.sub_self]; exact hx⟩
  | succ n ih =>
   intro j ls x ls' y m hl hx h
   simp only [runA] at h
   cases hs : runS j ls x with
   | none => rw [hs] at h; cases h
   | some p =>
    obtain ⟨ls1, z⟩ := p
    rw [hs] at h
    obtain ⟨h1, h2, h3⟩ := keyS hl hx hs
    obtain ⟨h4, h5⟩ := ih h1 h3 h
    refine ⟨by omega, ?_⟩
    have e : m + (ls.length - ls1.length) + (ls1.length - ls'.length) = m + (ls.length - ls'.length) := by omega
    rwa [e] at h5
 unfold rootV at h
 cases lines with
 | nil => cases h
 | cons l0 ls =>
  simp only at h
  split at h
  ·
   cases hh : hdrP l0 rt0 with
   | none => rw [hh] at h; cases h
   | some x =>
    rw [hh] at h
    simp only at h
    split at h
    ·
     rename_i y' hy
     cases h
     have h1 := keyA (m := 0) (fun l h => hl l (List.mem_cons_of_mem _ h)) (hdrP_read hh rRead0) hy
     obtain ⟨h2, h3, h4⟩ := h1.2
     exact ⟨by simp only [List.length_cons, List.length_nil] at h2 ⊢; omega, h3, h4⟩
    ·
     cases h
  ·
   cases h
end Go.Pl

namespace Go.Proofs.YtenbfeemmpjdhaaGreatDoor
open Go Go.Hl Go.Pl
set_option maxRecDepth 10000
set_option maxHeartbeats 4000000
set_option linter.unusedSimpArgs false
set_option linter.unusedVariables false

theorem cells_lsC {l : List (List Word)} : (∀ a ∈ l.map lsC, a.cells = 1) ↔ True := iff_true_intro fun v h => by obtain ⟨d, _, rfl⟩ := List.mem_map.1 h; rfl
theorem nth_c0 (v : CV) (l : List CV) : nth (v :: l) 0 = v := rfl
def secC : List CV := [.agg [.str (secN 0), .fn 62], .agg [.str (secN 1), .fn 63], .agg [.str (secN 2), .fn 64]]
theorem secC_at {j : Nat} (h : j < 3) : nth secC j = .agg [.str (secN j), .fn (62 + j)] := by
 match j, h with
 | 0, _ => rfl
 | 1, _ => rfl
 | 2, _ => rfl
theorem psec_ok (j : Nat) (hj : j < 3) (l : List Word) (x : Rt) (hl : l.length < 2 ^ 40) (hw : ∀ w ∈ l, w.length < 2 ^ 40) (hx : x.q.length + x.k.length + x.x.length < 2 ^ 40) : HPars Tryz.prog (62 + j) 104 64 70 51 l x (secF j l x) := by
 match j, hj with
 | 0, _ => exact pquota_ok l x hl (by omega)
 | 1, _ => exact pkey_ok l x hl hw (by omega)
 | 2, _ => exact prev_ok l x hl hw (by omega)

theorem tdec_ok (b : Word) (hl : b.length < 2 ^ 40) : HPure2 Tryz.prog 20 [.slc (b.map u8)] (fun u v => u = (rootO b).cv ∧ v = .int .i64 (rootE b)) := by
 refine hfn_walk Tryz.func20 rfl (by kernel_rfl) (locOk_nil _) (Nat.le_of_ble_eq_true rfl) ?_
 refine R0 ?_
 refine hw_seq fun K hK => Rg ?_
 refine S0 ?_ (e := fun _ h_ => by simp only [sH, ↓sP, sA, tyS, simprocAttr, denilL_u8]; exact AX h_)
 refine hlex_step (g := none) rfl rfl fun K' hK' => ?_
 simp only [sH, ↓sP, sA, tyS, simprocAttr, denilL_u8]
 refine call_pure2 (args := [_]) (dec_ok b hl) ⟨rfl, rfl, rfl, rfl⟩ ?_
 rintro u v ⟨rfl, rfl⟩
 refine AX (hK' _ _ ?_)
 clear hK' K'
 iterate 5 refine S0 ?_ (e := fun _ h_ => by simp only [sH, ↓sP, sA, tyS, simprocAttr, denilL_u8]; exact AX h_)
 refine T2 (hK _ _ _ ?_)
 clear hK K
 refine hw_seq fun K hK => ?_
 refine R0 ?_
 refine hw_cond (b := decE b != 0) rfl (fun hb => ?_) (fun hb => ?_)
 ·
  refine hw_seq fun K hK => Rg ?_
  iterate 4 refine S0 ?_
  refine T2 (hK _ _ _ ?_)
  clear hK K
  refine hw_ret ?_
  simp only [hpost, Tryz.results20, hresL, hres1, tupOf, ↓sP, sA, tyS, simprocAttr]
  have hE : rootE b = decE b := by unfold rootE; rw [if_pos (by simpa using hb)]
  have hO : rootO b = rt0 := by unfold rootO; rw [if_neg (by rw [hE]; simpa using hb)]
  exact hret_pure2 [] rt0.cv (.int .i64 (decE b)) rfl ⟨by rw [hO], by rw [hE]⟩
 have hd0 : decE b = 0 := by simpa using hb
 clear hb
 obtain ⟨lines, hlines⟩ : ∃ lines, lines = decO b := ⟨_, rfl⟩
 have hok := decO_ok (b := b)
 have hlen := decO_len (b := b)
 have hEn : rootV lines = none → rootE b = 2 := fun h => by unfold rootE; rw [if_neg (by rw [hd0]; simp), ← hlines, h]
 have hOn : rootE b ≠ 0 → rootO b = rt0 := fun h => by unfold rootO; rw [if_neg h]
 have hEs : ∀ x, rootV lines = some x → rootE b = if validR x then 0 else 1 := fun x h => by unfold rootE; rw [if_neg (by rw [hd0]; simp), ← hlines, h]
 have hOs : ∀ x, rootV lines = some x → rootE b = 0 → rootO b = x := fun x h h0 => by unfold rootO; rw [if_pos h0, ← hlines, h]; rfl
 rw [← hlines] at hok hlen ⊢
 clear hlines hd0
 refine hw_skip ?_
 refine T0 (hK _ _ _ ?_)
 clear hK K
 refine hw_seq fun K hK => ?_
 cases lines
 ·
  refine hw_seq fun K hK => Rg ?_
  iterate 11 refine S0 ?_
  refine T2 (hK _ _ _ ?_)
  clear hK K
  refine hw_cond (b := true) rfl (fun hb => ?_) (fun hb => ?_)
  ·
   refine R0 ?_
   refine hw_ret ?_
   simp only [hpost, Tryz.results20, hresL, hres1, tupOf, ↓sP, sA, tyS, simprocAttr]
   have hE := hEn rfl
   exact hret_pure2 [] rt0.cv (.int .i64 2) rfl ⟨by rw [hOn (by rw [hE]; decide)], by rw [hE]⟩
  cases hb
 rename_i l0 ls
 have hw0 := hok l0 List.mem_cons_self
 have hl00 : 0 < l0.length := List.length_pos_iff.2 hw0.1
 have hz0 : (((ls.length + 1 : Nat) : Int) == 0) = false := by rw [beq_eq_false_iff_ne]; omega
 refine hw_seq fun K hK => Rg ?_
 iterate 11 refine S0 ?_ (e := fun _ h_ => by simp only [sH, ↓sP, sA, tyS, simprocAttr, List.map_cons, hz0, nth_c0, lsC, nth_wd hl00, List.length_map, lsC_cells]; exact AX h_)
 refine T2 (hK _ _ _ ?_)
 clear hK K
 refine hw_cond (b := wd l0 0 != rootW) rfl (fun hb => ?_) (fun hb => ?_)
 ·
  refine R0 ?_
  refine hw_ret ?_
  simp only [hpost, Tryz.results20, hresL, hres1, tupOf, ↓sP, sA, tyS, simprocAttr]
  have hE := hEn (rootV_word (by simpa using hb))
  exact hret_pure2 [] rt0.cv (.int .i64 2) rfl ⟨by rw [hOn (by rw [hE]; decide)], by rw [hE]⟩
 refine hw_skip ?_
 refine T0 (hK _ _ _ ?_)
 clear hK K
 have hroot : wd l0 0 = rootW := by simpa using hb
 clear hb
 refine R0 ?_
 refine hw_seq fun K hK => ?_
 refine hw_flat 88 rfl ?_
 refine hw_ownb 88 2 64 2 rfl rfl rfl rfl ?_
 refine hw_ownb 88 3 70 21 rfl rfl rfl rfl ?_
 refine hw_ownb 88 4 51 33 rfl rfl rfl rfl ?_
 refine hw_seq fun K hK => Rg ?_
 iterate 3 refine S0 ?_ (e := fun _ h_ => by simp only [sH, ↓sP, sA, tyS, simprocAttr, List.map_cons, nth_c0, lsC, List.length_map, lsC_cells]; exact AX h_)
 refine hlex_step (g := none) rfl rfl fun K' hK' => ?_
 simp only [sH, ↓sP, sA, tyS, simprocAttr, List.map_cons, nth_c0, lsC, List.length_map, lsC_cells]
 refine call_pars 88 92 93 94 (phdr_ok l0 rt0 (by have := hw0.2.1; omega)) ⟨rfl, rfl, rfl, rfl⟩ (by decide) (by simp) ⟨rfl, rfl, rfl, rfl⟩ ?_
 intro y hy
 unfold pUpd
 refine AX (hK' _ _ ?_)
 clear hK' K'
 refine S0 ?_ (e := fun _ h_ => by simp only [sH, ↓sP, sA, tyS, simprocAttr, List.map_cons, nth_c0, lsC, List.length_map, lsC_cells]; exact AX h_)
 refine T2 (hK _ _ _ ?_)
 clear hK K
 refine hw_cond (b := !(hdrP l0 rt0).isSome) rfl (fun hb => ?_) (fun hb => ?_)
 ·
  refine R0 ?_
  refine hw_ret ?_
  simp only [hpost, Tryz.results20, hresL, hres1, tupOf, ↓sP, sA, tyS, simprocAttr]
  have hE := hEn (rootV_hdr hroot (by simpa using hb))
  exact hret_pure2 [] rt0.cv (.int .i64 2) rfl ⟨by rw [hOn (by rw [hE]; decide)], by rw [hE]⟩
 refine hw_skip ?_
 refine T0 (hK _ _ _ ?_)
 clear hK K
 obtain ⟨x1, hx1⟩ := Option.isSome_iff_exists.1 (show (hdrP l0 rt0).isSome = true by simpa using hb)
 clear hb
 have := hy x1 hx1
 subst this
 have hrd1 := hdrP_read hx1 rRead0
 have hz1 : (1 : Int) ≤ ((ls.length + 1 : Nat) : Int) := by omega
 have htk0 : List.take ls.length (ls.map lsC) = ls.map lsC := List.take_of_length_le (by simp)
 refine R0 ?_ (e := fun _ h_ => by simp only [↓sP, sA, tyS, simprocAttr, List.map_cons, List.length_cons, List.length_map, List.drop_succ_cons, List.drop_zero, Nat.add_sub_cancel, htk0, lsC_cells, cells_lsC, hz1, Int.le_refl, CV.cells]; exact AX h_)
 refine hw_seq fun K hK => ?_
 refine hw_seq fun K hK => hw_regionG (by kernel_rfl) ?_
 simp only [sR, simprocAttr]
 iterate 3 refine SG0 ?_
 refine hlexG_stepC (g := none) 139 rfl rfl fun K' hK' => ?_
 simp only [hop1C, mkId, sH, ↓sP, sA, tyS, simprocAttr]
 repeat refine AI ?_
 refine closeK_mk (by first | rfl | simp) ?_
 try simp only [sH, ↓sP, sA, tyS, simprocAttr]
 refine AX (hK' _ _ ?_)
 clear hK' K'
 iterate 2 refine SG0 ?_
 refine T2 (hK _ _ _ ?_)
 clear hK K
 refine hw_block ?_
 refine hw_close [] ?_
 refine hw_loop (α := {z : Nat × List (List Word) × Rt // RtSt ls y z.1 z.2.1 z.2.2}) (fun z => (fin [(2, .ptr 0 0), (4, .c (.slc (z.1.2.1.map lsC))), (6, .ptr 88 0), (41, .c (.slc secC)), (42, .c (.int .i64 3)), (43, .c (.int .i64 z.1.1))], fob [(0, .box 26 (.c rt0.cv)), (88, .box 104 (.agg [.c (.int .i64 z.1.2.2.v), .c (.int .i64 z.1.2.2.e), .own 92 z.1.2.2.q.length, .own 93 z.1.2.2.k.length, .own 94 z.1.2.2.x.length])), (92, .row 64 2 (z.1.2.2.q.map Qt.cv)), (93, .row 70 21 (z.1.2.2.k.map Ky.cv)), (94, .row 51 33 (z.1.2.2.x.map Rv.cv))])) 300 (fun z => 3 - z.1.1) ⟨(0, ls, y), RtSt.init (fun l h => hok l (List.mem_cons_of_mem _ h)) hrd1⟩ (fits_fin (by omega) (by simp [FinOk, clF_at, fin_at, finA_at, upd_at, fob_at, HV.close, HV.closeL, CV.denil, CV.denilL, denilL_lsC, lsC_denil, secC, secN, HV.men, HV.menL, HV.norm, HV.toC, HV.toCL]) (by simp [FobOk, clO_at, fob_at, upd_at, none0_at, gone, rt0, Rt.cv, HO.close, HV.close, HV.closeL, CV.denil, CV.denilL, HO.men, HV.men, HV.menL, HV.norm, HV.toC, HV.toCL])) ?_
 rintro ⟨⟨j, rest, x⟩, hst⟩
 simp only at hst
 refine R0 ?_
 refine hw_seq fun K hK => ?_
 refine hw_cond (b := decide ((j : Int) < 3)) rfl (fun hb => ?_) (fun hb => ?_)
 ·
  have hj : j < 3 := by simp at hb; omega
  clear hb
  have hsec := secC_at hj
  have hsl : secC.length = 3 := rfl
  refine hw_skip ?_
  refine T0 (hK _ _ _ ?_)
  clear hK K
  refine hw_seq fun K hK => ?_
  refine hw_block ?_
  refine hw_seq fun K hK => Rg ?_
  iterate 4 refine S0 ?_ (e := fun _ h_ => by simp only [sH, ↓sP, sA, tyS, simprocAttr, hsl, hsec, Int.natCast_nonneg]; exact AX h_)
  refine T2 (hK _ _ _ ?_)
  clear hK K
  refine hw_block ?_
  refine hw_loop (α := {z : List (List Word) × Rt // RtSt ls y j z.1 z.2}) (fun z => (fin [(2, .ptr 0 0), (4, .c (.slc (z.1.1.map lsC))), (6, .ptr 88 0), (8, .ptr 312 0), (41, .c (.slc secC)), (42, .c (.int .i64 3)), (43, .c (.int .i64 j))], fob [(0, .box 26 (.c rt0.cv)), (88, .box 104 (.agg [.c (.int .i64 z.1.2.v), .c (.int .i64 z.1.2.e), .own 92 z.1.2.q.length, .own 93 z.1.2.k.length, .own 94 z.1.2.x.length])), (92, .row 64 2 (z.1.2.q.map Qt.cv)), (93, .row 70 21 (z.1.2.k.map Ky.cv)), (94, .row 51 33 (z.1.2.x.map Rv.cv)), (312, .box 109 (.c (.agg [.str (secN j), .fn (62 + j)])))])) 400 (fun z => z.1.1.length) ⟨(rest, x), hst⟩ (fF) ?_
  rintro ⟨⟨rest, x⟩, hst⟩
  simp only at hst
  have hrl := hst.2.2.2.1
  have hrd := hst.2.2.2.2.1
  refine hw_seq fun K hK => ?_
  by_cases hre : rest = []
  ·
   subst hre
   refine hw_seq fun K hK => hw_quiet mixed (by kernel_rfl) (by kernel_rfl) (by kernel_rfl) ?_
   simp only [sR, simprocAttr]
   iterate 13 refine S0 ?_
   refine T2 (hK _ _ _ ?_)
   clear hK K
   refine hw_cond (b := false) rfl (fun hb => ?_) (fun hb => ?_)
   ·
    cases hb
   refine hw_exit ?_
   simp only [↓sP, sA, tyS, simprocAttr]
   clear hK K
   refine AX (hK _ _ _ ?_)
   clear hK K
   refine hw_region (by kernel_rfl) ?_
   simp only [↓sP, sA, tyS, simprocAttr, i64s j]
   exact ⟨⟨(j + 1, [], x), hst.next hj (fun l ls h => by cases h)⟩, fF, (by show 3 - (j + 1) < 3 - j; omega)⟩
  obtain ⟨l, rest', rfl⟩ := List.exists_cons_of_ne_nil hre
  clear hre
  have hwl := hst.2.2.1 l List.mem_cons_self
  have hl0' : 0 < l.length := List.length_pos_iff.2 hwl.1
  have hzb : decide ((0 : Int) < ((rest'.length + 1 : Nat) : Int)) = true := decide_eq_true (by omega)
  have hzc : (1 : Int) ≤ ((rest'.length + 1 : Nat) : Int) := by omega
  have htk1 : List.take rest'.length (rest'.map lsC) = rest'.map lsC := List.take_of_length_le (by simp)
  refine hw_seq fun K hK => hw_quiet mixed (by kernel_rfl) (by kernel_rfl) (by kernel_rfl) ?_
  simp only [sR, simprocAttr]
  iterate 13 refine S0 ?_ (e := fun _ h_ => by simp only [sH, ↓sP, sA, tyS, simprocAttr, List.map_cons, List.length_cons, List.length_map, hzb, nth_c0, lsC, nth_wd hl0', lsC_cells, CV.cells]; exact AX h_)
  refine T2 (hK _ _ _ ?_)
  clear hK K
  refine hw_cond (b := wd l 0 == secN j) rfl (fun hb => ?_) (fun hb => ?_)
  ·
   have hws : wd l 0 = secN j := by simpa using hb
   clear hb
   refine hw_skip ?_
   refine T0 (hK _ _ _ ?_)
   clear hK K
   refine hw_block ?_
   refine hw_seq fun K hK => ?_
   refine hw_seq fun K hK => hw_draw2 mixed [(0, [], []), (1, [], []), (2, [], []), (3, [], []), (4, [], []), (5, [], []), (6, [], [])] [0, 1, 0, 4, 12, 31, 63] (by kernel_rfl) (by kernel_rfl) (by kernel_rfl) (by kernel_rfl) rfl (by kernel_rfl) ?_
   iterate 5 refine W0 ?_ (e := fun _ h_ => by simp only [sH, ↓sP, sA, tyS, simprocAttr, List.map_cons, List.length_cons, List.length_map, nth_c0, lsC, lsC_cells, CV.cells]; exact AX h_)
   refine hwalk2_step (g := none) rfl rfl fun K' hK' => ?_
   simp only [sH, ↓sP, sA, tyS, simprocAttr, List.map_cons, List.length_cons, List.length_map, nth_c0, lsC, lsC_cells, CV.cells]
   refine call_pars 88 92 93 94 (psec_ok j hj l x (by have := hwl.2.1; omega) (fun w hw => by have := hwl.2.2 w hw; omega) (by simp only [List.length_cons] at *; omega)) ⟨rfl, rfl, rfl, rfl⟩ (by decide) (by simp) ⟨rfl, rfl, rfl, rfl⟩ ?_
   intro y' hy'
   unfold pUpd
   refine AX (hK' _ _ ?_)
   clear hK' K'
   refine W0 ?_ (e := fun _ h_ => by simp only [sH, ↓sP, sA, tyS, simprocAttr, List.map_cons, List.length_cons, List.length_map, nth_c0, lsC, lsC_cells, CV.cells]; exact AX h_)
   refine T2 (hK _ _ _ ?_)
   clear hK K
   refine hw_cond (b := !(secF j l x).isSome) rfl (fun hb => ?_) (fun hb => ?_)
   ·
    refine R0 ?_
    refine hw_ret ?_
    simp only [hpost, Tryz.results20, hresL, hres1, tupOf, ↓sP, sA, tyS, simprocAttr]
    have hE := hEn (rootV_run hroot hx1 (hst.fail hj hws (by simpa using hb)))
    exact hret_pure2 [] rt0.cv (.int .i64 2) rfl ⟨by rw [hOn (by rw [hE]; decide)], by rw [hE]⟩
   refine hw_skip ?_
   refine T0 (hK _ _ _ ?_)
   clear hK K
   obtain ⟨z, hz⟩ := Option.isSome_iff_exists.1 (show (secF j l x).isSome = true by simpa using hb)
   clear hb
   have := hy' z hz
   subst this
   refine hw_region (by kernel_rfl) ?_
   simp only [↓sP, sA, tyS, simprocAttr, List.map_cons, List.length_cons, List.length_map, List.drop_succ_cons, List.drop_zero, Nat.add_sub_cancel, htk1, lsC_cells, cells_lsC, hzc, Int.le_refl, CV.cells]
   exact ⟨⟨(rest', y'), hst.hit hj hws hz⟩, fF, Nat.lt_succ_self _⟩
  refine hw_exit ?_
  simp only [↓sP, sA, tyS, simprocAttr]
  clear hK K
  refine AX (hK _ _ _ ?_)
  clear hK K
  refine hw_region (by kernel_rfl) ?_
  simp only [↓sP, sA, tyS, simprocAttr, i64s j]
  exact ⟨⟨(j + 1, l :: rest', x), hst.next hj (fun l' ls' h => by cases h; simpa using hb)⟩, fits_fin (by omega) (by simp [FinOk, fin_at, finA_at, upd_at, HV.men, HV.menL, HV.norm, HV.toC, HV.toCL, lsC]) (by simp [FobOk, fob_at, upd_at, none0_at, gone, HO.men, HV.men, HV.menL, HV.norm, HV.toC, HV.toCL]), (by show 3 - (j + 1) < 3 - j; omega)⟩
 refine hw_exit ?_
 simp only [↓sP, sA, tyS, simprocAttr]
 clear hK K
 refine AX (hK _ _ _ ?_)
 clear hK K
 refine hw_seq fun K hK => ?_
 have hj3 : j = 3 := by have := hst.1; simp at hb; omega
 subst hj3
 clear hb
 have hfin := hst.fin
 have hrd := hst.2.2.2.2
 have hrl := hst.2.2.2.1
 refine R0 ?_ (e := fun _ h_ => by simp only [↓sP, sA, tyS, simprocAttr, List.length_map]; exact AX h_)
 refine hw_cond (b := decide ((0 : Int) < rest.length)) rfl (fun hb => ?_) (fun hb => ?_)
 ·
  refine R0 ?_
  refine hw_ret ?_
  simp only [hpost, Tryz.results20, hresL, hres1, tupOf, ↓sP, sA, tyS, simprocAttr]
  have hE := hEn (by
   cases hr : rest with
   | nil => rw [hr] at hb; simp at hb
   | cons l ls' => rw [hr] at hfin; exact rootV_more hroot hx1 hfin)
  exact hret_pure2 [] rt0.cv (.int .i64 2) rfl ⟨by rw [hOn (by rw [hE]; decide)], by rw [hE]⟩
 refine hw_skip ?_
 refine T0 (hK _ _ _ ?_)
 clear hK K
 refine hw_seq fun K hK => ?_
 have hr0 : rest = [] := by simpa using hb
 subst hr0
 clear hb
 have hrs := rootV_some hroot hx1 hfin
 have hsz := hrd.sz (by simp only [List.length_cons] at hlen; omega)
 have hEx := hEs x hrs
 have hOx := hOs x hrs
 refine hw_close [92, 93, 94] (hw_fits (fr2 := fin [(2, .ptr 0 0), (6, .ptr 88 0)]) (ob2 := fob [(0, .box 26 (.c rt0.cv)), (88, .box 104 (.c x.cv))]) (nx2 := 500) (fits_fin (by omega) (by simp [FinOk, clF_at, fin_at, finA_at, upd_at, fob_at, HV.close, HV.closeL, CV.denil, CV.denilL, denilL_lsC, lsC_denil, secC, secN, HV.men, HV.menL, HV.norm, HV.toC, HV.toCL]) (by simp [FobOk, clO_at, fob_at, upd_at, none0_at, gone, rt0, Rt.cv, HO.close, HV.close, HV.closeL, CV.denil, CV.denilL, denilL_Qt, denilL_Ky, denilL_Rv, HO.men, HV.men, HV.menL, HV.norm, HV.toC, HV.toCL])) ?_)
 refine hw_seq fun K hK => Rg ?_
 iterate 2 refine S0 ?_
 refine hlex_step (g := none) rfl rfl fun K' hK' => ?_
 simp only [sH, ↓sP, sA, tyS, simprocAttr]
 refine call_pure (args := [_]) (valid_ok x hsz) ⟨rfl, rfl, rfl, rfl⟩ ?_
 rintro u rfl
 refine AX (hK' _ _ ?_)
 clear hK' K'
 refine S0 ?_
 refine T2 (hK _ _ _ ?_)
 clear hK K
 refine hw_cond (b := !(validR x)) rfl (fun hb => ?_) (fun hb => ?_)
 ·
  refine R0 ?_
  refine hw_ret ?_
  simp only [hpost, Tryz.results20, hresL, hres1, tupOf, ↓sP, sA, tyS, simprocAttr]
  have hE : rootE b = 1 := by rw [hEx, if_neg (by simpa using hb)]
  exact hret_pure2 [] rt0.cv (.int .i64 1) rfl ⟨by rw [hOn (by rw [hE]; decide)], by rw [hE]⟩
 refine hw_skip ?_
 refine T0 (hK _ _ _ ?_)
 clear hK K
 refine hw_seq fun K hK => Rg ?_
 iterate 4 refine S0 ?_
 refine T2 (hK _ _ _ ?_)
 clear hK K
 refine hw_ret ?_
 simp only [hpost, Tryz.results20, hresL, hres1, tupOf, ↓sP, sA, tyS, simprocAttr]
 have hE : rootE b = 0 := by rw [hEx, if_pos (by simpa using hb)]
 refine hret_pure2 [] x.cv (.int .i64 0) ?_ ⟨by rw [hOx hE], by rw [hE]⟩
 simp [HV.close, HV.closeL, HV.norm, HV.toC, HV.toCL, CV.denil, Rt.denil]

end Go.Proofs.YtenbfeemmpjdhaaGreatDoor

namespace Go.Pl
open Go Go.Hl

theorem Ky.get_ph (x : Ky) : CV.getAt 0 1 false x.cv = some (.int .i64 x.p.h) := by simp [Ky.cv, Pk.cv, CV.getAt, CV.getAtL, CV.cells, CV.cellsL, dg_cells, hf_cells, Pk.cells]
theorem Ky.get_pr (x : Ky) : CV.getAt 1 16 true x.cv = some (hf x.p.r) := by simp [Ky.cv, Pk.cv, CV.getAt, CV.getAtL, CV.cells, CV.cellsL, dg_cells, hf_cells, Pk.cells, hf_getAt]
def wQuota : Word := [113, 117, 111, 116, 97]
def wKey : Word := [107, 101, 121]
def wRevoked : Word := [114, 101, 118, 111, 107, 101, 100]
def lnC (l : List Word) : CV := .slc (l.map .str)
theorem lnC_denil (l : List Word) : (lnC l).denil = lnC l := by simp only [lnC, CV.denil, denilL_str]
theorem denilL_ln (l : List (List Word)) : CV.denilL (l.map lnC) = l.map lnC := denilL_map lnC_denil l
def linH (r : Rt) : List Word := [wRoot, numW r.v, numW r.e]
def linQ (q : Qt) : List Word := [wQuota, q.r, numW q.n]
def linK (k : Ky) : List Word := [wKey, numW k.p.h, fmtH k.p.r, k.o, numW k.fr, numW k.un] ++ k.rs
def linX (x : Rv) : List Word := [wRevoked, fmtD x.k, numW x.t]
def linR (r : Rt) : List (List Word) := [linH r] ++ r.q.map linQ ++ r.k.map linK ++ r.x.map linX
def encR (r : Rt) : Word := if validR r then encO (linR r) else []
def errR (r : Rt) : Int := if validR r then encE (linR r) else 1
def rNum (r : Rt) : Prop := (0 ≤ r.v ∧ r.v ≤ maxN) ∧ (0 ≤ r.e ∧ r.e ≤ maxN) ∧ (∀ q ∈ r.q, 0 ≤ q.n ∧ q.n ≤ 32) ∧ (∀ k ∈ r.k, (0 ≤ k.p.h ∧ k.p.h ≤ 6) ∧ (0 ≤ k.fr ∧ k.fr ≤ maxN) ∧ (0 ≤ k.un ∧ k.un ≤ maxN)) ∧ ∀ x ∈ r.x, 0 ≤ x.t ∧ x.t ≤ maxN
theorem inN_iff {n : Int} (h : inN n = true) : 0 ≤ n ∧ n ≤ maxN := by unfold inN at h; simpa using h
theorem rNum_of_valid {r : Rt} (h : validR r = true) : rNum r := by
 unfold validR quotasB keysB revsB at h
 simp only [Bool.and_eq_true, decide_eq_true_eq, List.all_eq_true] at h
 obtain ⟨⟨v1, v2⟩, he, ⟨hq1, -, hq2⟩, ⟨hk1, -, hk2⟩, ⟨hx1, -, hx⟩, hn1, hn2⟩ := h
 refine ⟨⟨by omega, v2⟩, inN_iff he, fun q hq => ?_, fun k hk => ?_, fun x hx => inN_iff (hx1 x hx)⟩
 ·
  have := hq1 q hq
  unfold quotaB at this
  simp only [Bool.and_eq_true, decide_eq_true_eq] at this
  omega
 ·
  have := hk1 k hk
  unfold keyB at this
  simp only [Bool.and_eq_true, decide_eq_true_eq] at this
  obtain ⟨h1, h2, h3, h4, h5, h6, h7⟩ := this
  exact ⟨h1, inN_iff h5, inN_iff h6⟩
theorem maxN_val : maxN = 1099511627776 := rfl
theorem linR_ok {r : Rt} (h : validR r = true) : (linR r).length < 2 ^ 40 ∧ ∀ l ∈ linR r, l.length < 2 ^ 40 := by
 obtain ⟨⟨⟨q1, q2⟩, ⟨k1, k2⟩, x1⟩, -, -, x2⟩ := rMid_of_valid h
 constructor
 ·
  simp only [linR, List.length_append, List.length_map, List.length_cons, List.length_nil]; omega
 ·
  intro l hl
  simp only [linR, List.mem_append, List.mem_map, List.mem_singleton] at hl
  rcases hl with ((rfl | ⟨q, hq, rfl⟩) | ⟨k, hk, rfl⟩) | ⟨x, hx, rfl⟩
  ·
   simp [linH]
  ·
   simp [linQ]
  ·
   have := (k2 k hk).2.1
   simp [linK]; omega
  ·
   simp [linX]
end Go.Pl

namespace Go.Pl
open Go Go.Hl

theorem rootE_zero {b : Word} (h : rootE b = 0) : validR (rootO b) = true ∧ rSz (rootO b) := by
 have hO : rootO b = (rootV (decO b)).getD rt0 := by unfold rootO; rw [if_pos h]
 unfold rootE at h
 split at h
 ·
  rename_i h1; exact absurd h h1
 ·
  cases hv : rootV (decO b) with
  | none => rw [hv] at h; simp at h
  | some x =>
   rw [hv] at h hO
   simp only at h
   rw [hO]
   refine ⟨?_, (rootV_read (fun l hl => decO_ok l hl) hv).sz (by have := decO_len (b := b); omega)⟩
   by_cases hx : validR x = true
   ·
    exact hx
   ·
    rw [if_neg hx] at h; cases h
theorem rootO_sz (b : Word) : rSz (rootO b) := by
 by_cases h : rootE b = 0
 ·
  exact (rootE_zero h).2
 ·
  unfold rootO; rw [if_neg h]; exact ⟨⟨by simp [rt0], by simp [rt0]⟩, ⟨by simp [rt0], by simp [rt0]⟩, by simp [rt0]⟩
def keptB (a b : Rt) : Bool := a.x.all fun x => revS b.x x.k && decide (revZ b.x x.k ≤ x.t)
theorem kept_miss {a b : Rt} {i : Nat} (hi : i < a.x.length) (h : (!revS b.x a.x[i].k || decide (a.x[i].t < revZ b.x a.x[i].k)) = true) : keptB a b = false := by
 unfold keptB
 rw [List.all_eq_false]
 refine ⟨a.x[i], List.getElem_mem hi, fun hc => ?_⟩
 simp only [Bool.and_eq_true, decide_eq_true_eq] at hc
 simp only [hc.1, Bool.not_true, Bool.false_or, decide_eq_true_eq] at h
 omega
theorem kept_all {a b : Rt} (h : ∀ x ∈ a.x, (!revS b.x x.k || decide (x.t < revZ b.x x.k)) = false) : keptB a b = true := by
 unfold keptB
 rw [List.all_eq_true]
 intro x hx
 have := h x hx
 simp only [Bool.or_eq_false_iff, decide_eq_false_iff_not, Bool.not_eq_false'] at this
 simp only [this.1, Bool.true_and, decide_eq_true_eq]
 omega
def rotE (r : Rt) (b : Word) (l : List Dig) (t : Int) : Int :=
 if validR r = false then 1 else if rootE b ≠ 0 then rootE b else if (rootO b).v ≠ IntKind.i64.wrap (r.v + 1) then 6 else if keptB r (rootO b) = false then 1
 else if enough r wRoot l t && enough (rootO b) wRoot l t then 0 else 7
def rotO (r : Rt) (b : Word) (l : List Dig) (t : Int) : Rt := if rotE r b l t = 0 then rootO b else rt0
theorem rotE_zero {r : Rt} {b : Word} {l : List Dig} {t : Int} (h : rotE r b l t = 0) :
  rootE b = 0 ∧ (rootO b).v = IntKind.i64.wrap (r.v + 1) ∧ keptB r (rootO b) = true ∧ rotO r b l t = rootO b := by
 refine ⟨?_, ?_, ?_, by unfold rotO; rw [if_pos h]⟩
 all_goals
  unfold rotE at h
  by_cases h0 : validR r = false
  ·
   rw [if_pos h0] at h; cases h
  rw [if_neg h0] at h
  by_cases h1 : rootE b = 0
  ·
   rw [if_neg (by simpa using h1)] at h
   by_cases h2 : (rootO b).v = IntKind.i64.wrap (r.v + 1)
   ·
    rw [if_neg (by simpa using h2)] at h
    by_cases h3 : keptB r (rootO b) = false
    ·
     rw [if_pos h3] at h; cases h
    ·
     first | exact h1 | exact h2 | simpa using h3
   ·
    rw [if_pos h2] at h; cases h
  ·
   rw [if_pos h1] at h; exact absurd h h1

theorem revs_self {l : List Rv} (h : revsB l = true) {x : Rv} (hx : x ∈ l) : revoked l x.k = some x.t := by
 have h1 : ascD (l.map Rv.k) = true := by
  unfold revsB at h
  simp only [Bool.and_eq_true] at h
  exact h.2.1
 have h2 : ascB (l.map fun x => x.k.1) = true := by
  rw [ascB_adj, adjB_map]
  rw [ascD_adj, adjB_map] at h1
  exact h1
 have h3 : Asc (l.map fun x => x.k.1) := ascB_Asc h2
 obtain ⟨i, hi, rfl⟩ := List.mem_iff_getElem.1 hx
 refine rev_hit hi (by simp) fun y hy => ?_
 obtain ⟨j, hj, rfl⟩ := List.mem_take_iff_getElem.1 hy
 refine beq_eq_false_iff_ne.2 fun e => ?_
 have h4 := List.pairwise_iff_getElem.1 h3 j i (by simp; omega) (by simpa using hi) (by omega)
 simp only [List.getElem_map] at h4
 rw [e] at h4
 exact List.lt_irrefl _ h4
theorem rev_mem {l : List Rv} {d : Dig} (h : revS l d = true) : ∃ x ∈ l, x.k = d ∧ x.t = revZ l d := by
 unfold revS revZ revoked at *
 cases hf : l.find? (fun x => x.k == d) with
 | none => rw [hf] at h; simp at h
 | some x => exact ⟨x, List.mem_of_find?_eq_some hf, eq_of_beq (List.find?_some (p := fun x : Rv => x.k == d) hf), by simp⟩
def Gone (g : List Rv) (r : Rt) : Prop := ∀ x ∈ g, revS r.x x.k = true ∧ revZ r.x x.k ≤ x.t ∧ 0 ≤ x.t ∧ x.t ≤ maxN
theorem Gone.nil {r : Rt} : Gone [] r := fun x h => by cases h
theorem Gone.kept {g : List Rv} {a b : Rt} (h : Gone g a) (hk : keptB a b = true) : Gone g b := by
 intro x hx
 obtain ⟨h1, h2, h3⟩ := h x hx
 obtain ⟨y, hy, hyk, hyt⟩ := rev_mem h1
 unfold keptB at hk
 have := List.all_eq_true.1 hk y hy
 simp only [Bool.and_eq_true, decide_eq_true_eq, hyk] at this
 exact ⟨this.1, by omega, h3⟩
theorem Gone.own {b : Rt} (h : validR b = true) : Gone b.x b := by
 intro x hx
 have hr : revsB b.x = true := by
  unfold validR at h
  simp only [Bool.and_eq_true] at h
  exact h.2.2.2.2.1
 have hs := revs_self hr hx
 unfold revsB at hr
 simp only [Bool.and_eq_true] at hr
 have hn := inN_iff (List.all_eq_true.1 hr.1 x hx)
 unfold revS revZ
 rw [hs]
 exact ⟨rfl, Int.le_refl _, hn⟩
theorem Gone.append {g h : List Rv} {r : Rt} (h1 : Gone g r) (h2 : Gone h r) : Gone (g ++ h) r := fun x hx => by
 rcases List.mem_append.1 hx with hx | hx
 ·
  exact h1 x hx
 ·
  exact h2 x hx
theorem Gone.not {g : List Rv} {r : Rt} (h : Gone g r) {x : Rv} (hx : x ∈ g) {n : Int} (hn : 0 ≤ n) : countsR r x.k (x.t + n) = false := by
 obtain ⟨h1, h2, -⟩ := h x hx
 have e : decide (revZ r.x x.k ≤ x.t + n) = true := decide_eq_true (by omega)
 unfold countsR
 rw [rlive_code, h1, e]
 simp
theorem Gone.not0 {g : List Rv} {r : Rt} (h : Gone g r) {x : Rv} (hx : x ∈ g) : countsR r x.k x.t = false := by
 have := h.not hx (n := 0) (by omega)
 rwa [Int.add_zero] at this
theorem encR_len (r : Rt) : (encR r).length ≤ 262144 := by
 unfold encR
 split
 ·
  unfold encO
  split
  ·
   rename_i h
   unfold encE at h
   split at h
   ·
    cases h
   ·
    split at h
    ·
     rename_i l hl
     have := List.find?_some hl
     unfold okL at this
     rw [h] at this
     simp at this
    ·
     split at h
     ·
      cases h
     ·
      omega
  ·
   simp
 ·
  simp
end Go.Pl
