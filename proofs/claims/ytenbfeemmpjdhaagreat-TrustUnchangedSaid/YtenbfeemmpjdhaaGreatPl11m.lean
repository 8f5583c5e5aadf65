/- Plain Lean: a root document's validity as the reference asks for it. By an AI agent. -/
import Derived.Test.YtenbfeemmpjdhaaGreatPl11l
import Derived.Test.YtenbfeemmpjdhaaGreatHxSb
set_option linter.unusedSimpArgs false
set_option linter.unusedVariables false
set_option linter.defProp false
namespace Go.Proofs.YtenbfeemmpjdhaaGreat
open Go Go.Hl Go.Pl
set_option maxRecDepth 10000
set_option maxHeartbeats 4000000
set_option linter.unusedSimpArgs false
set_option linter.unusedVariables false

theorem live_ok (r : Rt) (k : Ky) (t : Int) (hr : rSz r) : HPure Tryz.prog 45 [r.cv, k.cv, .int .i64 t] (fun v => v = .bool (liveB r k t)) := by
 refine hfn_walk Tryz.func45 rfl (by kernel_rfl) (locOk_nil _) (Nat.le_of_ble_eq_true rfl) ?_
 refine hw_seq fun K hK => hw_region (by kernel_rfl) ?_
 simp (maxSteps := 4000000) only [↓sP, sA, tyS, simprocAttr]
 repeat refine AI ?_
 refine hK _ _ _ ?_
 clear hK K
 refine hw_seq fun K hK => hw_draw2 mixed [(0, [], []), (1, [], []), (2, [], []), (3, [], [0]), (4, [], []), (5, [], []), (6, [], []), (7, [], []), (8, [], []), (9, [], [])] [0, 0, 2, 6, 15, 31, 63, 63, 127, 511] (by kernel_rfl) (by kernel_rfl) (by kernel_rfl) (by kernel_rfl) rfl (by kernel_rfl) ?_
 iterate 3
  (refine hwalk2_step (g := none) rfl rfl fun K' hK' => ?_; simp only [sH, ↓sP, sA, tyS, simprocAttr]; (repeat refine AI ?_); refine hK' _ _ ?_; clear hK' K')
 refine hwalk2_step (g := none) rfl rfl fun K' hK' => ?_
 simp (maxSteps := 4000000) only [sH, ↓sP, sA, tyS, simprocAttr]
 refine call_pure (args := [_]) (pid_ok k.p) ⟨rfl, rfl, rfl, rfl⟩ ?_
 rintro u rfl
 repeat refine AI ?_
 refine hK' _ _ ?_
 clear hK' K'
 refine hwalk2_step (g := none) rfl rfl fun K' hK' => ?_
 simp (maxSteps := 4000000) only [sH, ↓sP, sA, tyS, simprocAttr]
 refine call_pure2 (args := [_, _]) (revoked_ok r (pid k.p) hr.2.2) ⟨rfl, rfl, rfl, rfl⟩ ?_
 rintro u v ⟨rfl, rfl⟩
 repeat refine AI ?_
 refine hK' _ _ ?_
 clear hK' K'
 iterate 5
  (refine hwalk2_step (g := none) rfl rfl fun K' hK' => ?_; simp only [sH, ↓sP, sA, tyS, simprocAttr]; (repeat refine AI ?_); refine hK' _ _ ?_; clear hK' K')
 simp only [sE, ↓reduceIte, simprocAttr]
 repeat refine AI ?_
 refine hK _ _ _ ?_
 clear hK K
 refine hw_seq fun K hK => hw_region (by kernel_rfl) ?_
 simp only [sR, simprocAttr]
 iterate 5
  (refine hlex_step (g := none) rfl rfl fun K' hK' => ?_; simp only [sH, ↓sP, sA, tyS, simprocAttr]; (repeat refine AI ?_); refine hK' _ _ ?_; clear hK' K')
 refine hlex_cases 20 rfl (fun h2_20 => ?_) (fun h2_20 => ?_)
 ·
  iterate 4
   (refine hlex_step (g := some (21, true)) rfl rfl fun K' hK' => ?_; simp only [sH, ↓sP, sA, tyS, simprocAttr, h2_20]; (repeat refine AI ?_); refine hK' _ _ ?_; clear hK' K')
  iterate 2
   (refine hlex_step (g := none) rfl rfl fun K' hK' => ?_; simp only [sH, ↓sP, sA, tyS, simprocAttr, h2_20]; (repeat refine AI ?_); refine hK' _ _ ?_; clear hK' K')
  refine hlex_cases 25 rfl (fun h2_25 => ?_) (fun h2_25 => ?_)
  ·
   iterate 4
    (refine hlex_step (g := some (27, true)) rfl rfl fun K' hK' => ?_; simp only [sH, ↓sP, sA, tyS, simprocAttr, h2_20, h2_25]; (repeat refine AI ?_); refine hK' _ _ ?_; clear hK' K')
   iterate 2
    (refine hlex_step (g := none) rfl rfl fun K' hK' => ?_; simp only [sH, ↓sP, sA, tyS, simprocAttr, h2_20, h2_25]; (repeat refine AI ?_); refine hK' _ _ ?_; clear hK' K')
   refine hlex_cases 31 rfl (fun h2_31 => ?_) (fun h2_31 => ?_)
   ·
    iterate 2
     (refine hlex_step (g := some (33, true)) rfl rfl fun K' hK' => ?_; simp only [sH, ↓sP, sA, tyS, simprocAttr, h2_20, h2_25, h2_31]; (repeat refine AI ?_); refine hK' _ _ ?_; clear hK' K')
    refine hlex_cases 34 rfl (fun h2_34 => ?_) (fun h2_34 => ?_)
    ·
     iterate 3
      (refine hlex_step (g := some (35, true)) rfl rfl fun K' hK' => ?_; simp only [sH, ↓sP, sA, tyS, simprocAttr, h2_20, h2_25, h2_31, h2_34]; (repeat refine AI ?_); refine hK' _ _ ?_; clear hK' K')
     iterate 2
      (refine hlex_step (g := some (33, true)) rfl rfl fun K' hK' => ?_; simp only [sH, ↓sP, sA, tyS, simprocAttr, h2_20, h2_25, h2_31, h2_34]; (repeat refine AI ?_); refine hK' _ _ ?_; clear hK' K')
     iterate 2
      (refine hlex_step (g := none) rfl rfl fun K' hK' => ?_; simp only [sH, ↓sP, sA, tyS, simprocAttr, h2_20, h2_25, h2_31, h2_34]; (repeat refine AI ?_); refine hK' _ _ ?_; clear hK' K')
     refine hlex_cases 38 rfl (fun h2_38 => ?_) (fun h2_38 => ?_)
     ·
      simp only [h2_38]
      simp only [sE, ↓reduceIte, simprocAttr]
      repeat refine AI ?_
      refine hK _ _ _ ?_
      clear hK K
      refine hw_ret ?_
      simp (maxSteps := 4000000) only [hpost, Tryz.results45, hresL, hres1, tupOf, ↓sP, sA, tyS, simprocAttr]
      exact hret_pure [] (.bool false) rfl (by simp only [live_code, h2_20, h2_25, h2_31, h2_34, h2_38, Bool.and_true, Bool.and_false, Bool.true_and, Bool.false_and, Bool.not_true, Bool.not_false])
     simp only [h2_38]
     simp only [sE, ↓reduceIte, simprocAttr]
     repeat refine AI ?_
     refine hK _ _ _ ?_
     clear hK K
     refine hw_ret ?_
     simp (maxSteps := 4000000) only [hpost, Tryz.results45, hresL, hres1, tupOf, ↓sP, sA, tyS, simprocAttr]
     exact hret_pure [] (.bool true) rfl (by simp only [live_code, h2_20, h2_25, h2_31, h2_34, h2_38, Bool.and_true, Bool.and_false, Bool.true_and, Bool.false_and, Bool.not_true, Bool.not_false])
    iterate 3
     (refine hlex_step (g := some (35, true)) rfl rfl fun K' hK' => ?_; simp only [sH, ↓sP, sA, tyS, simprocAttr, h2_20, h2_25, h2_31, h2_34]; (repeat refine AI ?_); refine hK' _ _ ?_; clear hK' K')
    iterate 2
     (refine hlex_step (g := some (33, true)) rfl rfl fun K' hK' => ?_; simp only [sH, ↓sP, sA, tyS, simprocAttr, h2_20, h2_25, h2_31, h2_34]; (repeat refine AI ?_); refine hK' _ _ ?_; clear hK' K')
    iterate 2
     (refine hlex_step (g := none) rfl rfl fun K' hK' => ?_; simp only [sH, ↓sP, sA, tyS, simprocAttr, h2_20, h2_25, h2_31, h2_34]; (repeat refine AI ?_); refine hK' _ _ ?_; clear hK' K')
    simp only [sE, ↓reduceIte, simprocAttr]
    repeat refine AI ?_
    refine hK _ _ _ ?_
    clear hK K
    refine hw_ret ?_
    simp (maxSteps := 4000000) only [hpost, Tryz.results45, hresL, hres1, tupOf, ↓sP, sA, tyS, simprocAttr]
    exact hret_pure [] (.bool true) rfl (by simp only [live_code, h2_20, h2_25, h2_31, h2_34, Bool.and_true, Bool.and_false, Bool.true_and, Bool.false_and, Bool.not_true, Bool.not_false])
   iterate 2
    (refine hlex_step (g := some (33, true)) rfl rfl fun K' hK' => ?_; simp only [sH, ↓sP, sA, tyS, simprocAttr, h2_20, h2_25, h2_31]; (repeat refine AI ?_); refine hK' _ _ ?_; clear hK' K')
   iterate 3
    (refine hlex_step (g := some (35, true)) rfl rfl fun K' hK' => ?_; simp only [sH, ↓sP, sA, tyS, simprocAttr, h2_20, h2_25, h2_31]; (repeat refine AI ?_); refine hK' _ _ ?_; clear hK' K')
   iterate 2
    (refine hlex_step (g := some (33, true)) rfl rfl fun K' hK' => ?_; simp only [sH, ↓sP, sA, tyS, simprocAttr, h2_20, h2_25, h2_31]; (repeat refine AI ?_); refine hK' _ _ ?_; clear hK' K')
   iterate 2
    (refine hlex_step (g := none) rfl rfl fun K' hK' => ?_; simp only [sH, ↓sP, sA, tyS, simprocAttr, h2_20, h2_25, h2_31]; (repeat refine AI ?_); refine hK' _ _ ?_; clear hK' K')
   simp only [sE, ↓reduceIte, simprocAttr]
   repeat refine AI ?_
   refine hK _ _ _ ?_
   clear hK K
   refine hw_ret ?_
   simp (maxSteps := 4000000) only [hpost, Tryz.results45, hresL, hres1, tupOf, ↓sP, sA, tyS, simprocAttr]
   exact hret_pure [] (.bool false) rfl (by simp only [live_code, h2_20, h2_25, h2_31, Bool.and_true, Bool.and_false, Bool.true_and, Bool.false_and, Bool.not_true, Bool.not_false])
  iterate 4
   (refine hlex_step (g := some (27, true)) rfl rfl fun K' hK' => ?_; simp only [sH, ↓sP, sA, tyS, simprocAttr, h2_20, h2_25]; (repeat refine AI ?_); refine hK' _ _ ?_; clear hK' K')
  iterate 2
   (refine hlex_step (g := none) rfl rfl fun K' hK' => ?_; simp only [sH, ↓sP, sA, tyS, simprocAttr, h2_20, h2_25]; (repeat refine AI ?_); refine hK' _ _ ?_; clear hK' K')
  iterate 2
   (refine hlex_step (g := some (33, true)) rfl rfl fun K' hK' => ?_; simp only [sH, ↓sP, sA, tyS, simprocAttr, h2_20, h2_25]; (repeat refine AI ?_); refine hK' _ _ ?_; clear hK' K')
  iterate 3
   (refine hlex_step (g := some (35, true)) rfl rfl fun K' hK' => ?_; simp only [sH, ↓sP, sA, tyS, simprocAttr, h2_20, h2_25]; (repeat refine AI ?_); refine hK' _ _ ?_; clear hK' K')
  iterate 2
   (refine hlex_step (g := some (33, true)) rfl rfl fun K' hK' => ?_; simp only [sH, ↓sP, sA, tyS, simprocAttr, h2_20, h2_25]; (repeat refine AI ?_); refine hK' _ _ ?_; clear hK' K')
  iterate 2
   (refine hlex_step (g := none) rfl rfl fun K' hK' => ?_; simp only [sH, ↓sP, sA, tyS, simprocAttr, h2_20, h2_25]; (repeat refine AI ?_); refine hK' _ _ ?_; clear hK' K')
  simp only [sE, ↓reduceIte, simprocAttr]
  repeat refine AI ?_
  refine hK _ _ _ ?_
  clear hK K
  refine hw_ret ?_
  simp (maxSteps := 4000000) only [hpost, Tryz.results45, hresL, hres1, tupOf, ↓sP, sA, tyS, simprocAttr]
  exact hret_pure [] (.bool false) rfl (by simp only [live_code, h2_20, h2_25, Bool.and_true, Bool.and_false, Bool.true_and, Bool.false_and, Bool.not_true, Bool.not_false])
 iterate 4
  (refine hlex_step (g := some (21, true)) rfl rfl fun K' hK' => ?_; simp only [sH, ↓sP, sA, tyS, simprocAttr, h2_20]; (repeat refine AI ?_); refine hK' _ _ ?_; clear hK' K')
 iterate 2
  (refine hlex_step (g := none) rfl rfl fun K' hK' => ?_; simp only [sH, ↓sP, sA, tyS, simprocAttr, h2_20]; (repeat refine AI ?_); refine hK' _ _ ?_; clear hK' K')
 iterate 4
  (refine hlex_step (g := some (27, true)) rfl rfl fun K' hK' => ?_; simp only [sH, ↓sP, sA, tyS, simprocAttr, h2_20]; (repeat refine AI ?_); refine hK' _ _ ?_; clear hK' K')
 iterate 2
  (refine hlex_step (g := none) rfl rfl fun K' hK' => ?_; simp only [sH, ↓sP, sA, tyS, simprocAttr, h2_20]; (repeat refine AI ?_); refine hK' _ _ ?_; clear hK' K')
 iterate 2
  (refine hlex_step (g := some (33, true)) rfl rfl fun K' hK' => ?_; simp only [sH, ↓sP, sA, tyS, simprocAttr, h2_20]; (repeat refine AI ?_); refine hK' _ _ ?_; clear hK' K')
 iterate 3
  (refine hlex_step (g := some (35, true)) rfl rfl fun K' hK' => ?_; simp only [sH, ↓sP, sA, tyS, simprocAttr, h2_20]; (repeat refine AI ?_); refine hK' _ _ ?_; clear hK' K')
 iterate 2
  (refine hlex_step (g := some (33, true)) rfl rfl fun K' hK' => ?_; simp only [sH, ↓sP, sA, tyS, simprocAttr, h2_20]; (repeat refine AI ?_); refine hK' _ _ ?_; clear hK' K')
 iterate 2
  (refine hlex_step (g := none) rfl rfl fun K' hK' => ?_; simp only [sH, ↓sP, sA, tyS, simprocAttr, h2_20]; (repeat refine AI ?_); refine hK' _ _ ?_; clear hK' K')
 simp only [sE, ↓reduceIte, simprocAttr]
 repeat refine AI ?_
 refine hK _ _ _ ?_
 clear hK K
 refine hw_ret ?_
 simp (maxSteps := 4000000) only [hpost, Tryz.results45, hresL, hres1, tupOf, ↓sP, sA, tyS, simprocAttr]
 exact hret_pure [] (.bool false) rfl (by simp only [live_code, h2_20, Bool.and_true, Bool.and_false, Bool.true_and, Bool.false_and, Bool.not_true, Bool.not_false])


theorem vclo_ok (r : Rt) (l : List Dig) (t : Int) (hr : rSz r) (hl : l.length < 2 ^ 40) (k : Ky) : HPure Tryz.prog 43 [k.cv, .rp (.slc (l.map dg)), .rp r.cv, .rp (.int .i64 t)] (fun v => v = .bool (l.contains (kid k) && liveB r k t)) := by
 refine hfn_walk Tryz.func43 rfl (by kernel_rfl) (locOk_nil _) (Nat.le_of_ble_eq_true rfl) ?_
 refine hw_seq fun K hK => hw_region (by kernel_rfl) ?_
 simp (maxSteps := 4000000) only [↓sP, sA, tyS, simprocAttr]
 repeat refine AI ?_
 refine hK _ _ _ ?_
 clear hK K
 refine hw_seq fun K hK => hw_draw2 mixed [(0, [], []), (1, [], []), (2, [], []), (3, [], [0]), (4, [], []), (5, [], []), (6, [], []), (7, [], []), (8, [], []), (9, [], []), (10, [], []), (11, [], [])] [0, 0, 2, 6, 15, 31, 63, 63, 63, 511, 1023, 2047] (by kernel_rfl) (by kernel_rfl) (by kernel_rfl) (by kernel_rfl) rfl (by kernel_rfl) ?_
 iterate 3
  (refine hwalk2_step (g := none) rfl rfl fun K' hK' => ?_; simp only [sH, ↓sP, sA, tyS, simprocAttr, denilL_dg]; (repeat refine AI ?_); refine hK' _ _ ?_; clear hK' K')
 refine hwalk2_step (g := none) rfl rfl fun K' hK' => ?_
 simp (maxSteps := 4000000) only [sH, ↓sP, sA, tyS, simprocAttr, denilL_dg]
 refine call_pure (args := [_]) (pid_ok k.p) ⟨rfl, rfl, rfl, rfl⟩ ?_
 rintro u rfl
 repeat refine AI ?_
 refine hK' _ _ ?_
 clear hK' K'
 refine hwalk2_step (g := none) rfl rfl fun K' hK' => ?_
 simp (maxSteps := 4000000) only [sH, ↓sP, sA, tyS, simprocAttr, denilL_dg]
 refine call_pure (args := [_, _]) (contd_ok l (pid k.p) hl) ⟨rfl, rfl, rfl, rfl⟩ ?_
 rintro u rfl
 repeat refine AI ?_
 refine hK' _ _ ?_
 clear hK' K'
 refine hwalk2_step (g := none) rfl rfl fun K' hK' => ?_
 simp (maxSteps := 4000000) only [sH, ↓sP, sA, tyS, simprocAttr, denilL_dg]
 repeat refine AI ?_
 refine hK' _ _ ?_
 clear hK' K'
 refine hwalk2_cases 10 rfl (fun h1_10 => ?_) (fun h1_10 => ?_)
 ·
  iterate 3
   (refine hwalk2_step (g := some (11, true)) rfl rfl fun K' hK' => ?_; simp only [sH, ↓sP, sA, tyS, simprocAttr, denilL_dg, h1_10]; (repeat refine AI ?_); refine hK' _ _ ?_; clear hK' K')
  refine hwalk2_step (g := some (11, true)) rfl rfl fun K' hK' => ?_
  simp (maxSteps := 4000000) only [sH, ↓sP, sA, tyS, simprocAttr, denilL_dg, h1_10]
  refine call_pure (args := [_, _, _]) (live_ok r k t hr) ⟨rfl, rfl, rfl, rfl⟩ ?_
  rintro u rfl
  repeat refine AI ?_
  refine hK' _ _ ?_
  clear hK' K'
  iterate 2
   (refine hwalk2_step (g := none) rfl rfl fun K' hK' => ?_; simp only [sH, ↓sP, sA, tyS, simprocAttr, denilL_dg, h1_10]; (repeat refine AI ?_); refine hK' _ _ ?_; clear hK' K')
  refine hwalk2_cases 15 rfl (fun h1_15 => ?_) (fun h1_15 => ?_)
  ·
   simp only [h1_15]
   simp only [sE, ↓reduceIte, simprocAttr]
   repeat refine AI ?_
   refine hK _ _ _ ?_
   clear hK K
   refine hw_ret ?_
   simp (maxSteps := 4000000) only [hpost, Tryz.results43, hresL, hres1, tupOf, ↓sP, sA, tyS, simprocAttr]
   exact hret_pure [] (.bool true) rfl (by simp only [kid, h1_10, h1_15, Bool.and_true, Bool.and_false, Bool.true_and, Bool.false_and])
  simp only [h1_15]
  simp only [sE, ↓reduceIte, simprocAttr]
  repeat refine AI ?_
  refine hK _ _ _ ?_
  clear hK K
  refine hw_ret ?_
  simp (maxSteps := 4000000) only [hpost, Tryz.results43, hresL, hres1, tupOf, ↓sP, sA, tyS, simprocAttr]
  exact hret_pure [] (.bool false) rfl (by simp only [kid, h1_10, h1_15, Bool.and_true, Bool.and_false, Bool.true_and, Bool.false_and])
 iterate 4
  (refine hwalk2_step (g := some (11, true)) rfl rfl fun K' hK' => ?_; simp only [sH, ↓sP, sA, tyS, simprocAttr, denilL_dg, h1_10]; (repeat refine AI ?_); refine hK' _ _ ?_; clear hK' K')
 iterate 2
  (refine hwalk2_step (g := none) rfl rfl fun K' hK' => ?_; simp only [sH, ↓sP, sA, tyS, simprocAttr, denilL_dg, h1_10]; (repeat refine AI ?_); refine hK' _ _ ?_; clear hK' K')
 simp only [sE, ↓reduceIte, simprocAttr]
 repeat refine AI ?_
 refine hK _ _ _ ?_
 clear hK K
 refine hw_ret ?_
 simp (maxSteps := 4000000) only [hpost, Tryz.results43, hresL, hres1, tupOf, ↓sP, sA, tyS, simprocAttr]
 exact hret_pure [] (.bool false) rfl (by simp only [kid, h1_10, Bool.and_true, Bool.and_false, Bool.true_and, Bool.false_and])


theorem towners_ok (r : Rt) (role : Word) (g : FuncId) (caps : List CV) (p : Ky → Bool) (hr : rSz r) (hp : ∀ k ∈ r.k, HPure Tryz.prog g (k.cv :: caps) (fun v => v = .bool (p k))) :
  HPureH Tryz.prog 42 [.c r.cv, .c (.str role), .clo g (caps.map .c)] (fun v => v = .slc ((ownB r.k role p).map .str)) := by
 refine hfn_walk Tryz.func42 rfl (by kernel_rfl) (locOk_h (by simp [HV.menL, HV.men, HV.menL_c])) (Nat.le_of_ble_eq_true rfl) ?_
 have hlk : r.k.length < 2 ^ 40 := hr.2.1.1
 refine hw_seq fun K hK => hw_region (by kernel_rfl) ?_
 simp (maxSteps := 4000000) only [↓sP, sA, tyS, simprocAttr]
 repeat refine AI ?_
 refine hK _ _ _ ?_
 clear hK K
 refine hw_seq fun K hK => hw_region (by kernel_rfl) ?_
 simp (maxSteps := 4000000) only [↓sP, sA, tyS, simprocAttr]
 repeat refine AI ?_
 refine hK _ _ _ ?_
 clear hK K
 refine hw_seq fun K hK => ?_
 refine hw_seq fun K hK => hw_region (by kernel_rfl) ?_
 simp only [sR, simprocAttr]
 iterate 4
  (refine hlex_step (g := none) rfl rfl fun K' hK' => ?_; simp only [sH, ↓sP, sA, tyS, simprocAttr]; (repeat refine AI ?_); refine hK' _ _ ?_; clear hK' K')
 simp only [sE, ↓reduceIte, simprocAttr]
 repeat refine AI ?_
 refine hK _ _ _ ?_
 clear hK K
 refine hw_block ?_
 refine hw_own 7 0 9 1 rfl rfl rfl rfl ?_
 refine hw_loop (α := {i : Nat // i ≤ r.k.length}) (fun i => (fin [(1, .c (.str role)), (2, .clo g (caps.map .c)), (7, .own 28 (ownF (r.k.take i.1) role p).length), (11, .c (.slc (r.k.map Ky.cv))), (12, .c (.int .i64 r.k.length)), (13, .c (.int .i64 i.1))], fob [(28, .row 9 1 ((ownF (r.k.take i.1) role p).map .str))])) 100 (fun i => r.k.length - i.1) ⟨0, by omega⟩ (fits_fin (by omega) (by simp [FinOk, fin_at, finA_at, upd_at, HV.men, HV.menL, HV.norm, HV.toC, HV.toCL, HV.menL_c, ownF]) (by simp [FobOk, fob_at, upd_at, none0_at, gone, HO.men, HV.men, HV.menL, HV.norm, HV.toC, HV.toCL, ownF])) ?_
 rintro ⟨i, hi⟩
 refine hw_seq fun K hK => hw_region (by kernel_rfl) ?_
 simp (maxSteps := 4000000) only [↓sP, sA, tyS, simprocAttr]
 repeat refine AI ?_
 refine hK _ _ _ ?_
 clear hK K
 refine hw_seq fun K hK => ?_
 refine hw_cond (b := decide ((i : Int) < r.k.length)) rfl (fun hb => ?_) (fun hb => ?_)
 ·
  have hlt : i < r.k.length := by simpa using hb
  have hk := hr.2.1.2 _ (List.getElem_mem hlt)
  have hof := ownF_len (r.k.take i) role p
  have hti : (r.k.take i).length = i := by simp; omega
  refine hw_skip ?_
  simp (maxSteps := 4000000) only [↓sP, sA, tyS, simprocAttr]
  repeat refine AI ?_
  refine hK _ _ _ ?_
  clear hK K
  refine hw_seq fun K hK => ?_
  have key : ∀ (m : List Word) fr ob nx, m = ownF (r.k.take (i + 1)) role p → Fits 0 fr ob (fin [(1, .c (.str role)), (2, .clo g (caps.map .c)), (7, .own 28 m.length), (11, .c (.slc (r.k.map Ky.cv))), (12, .c (.int .i64 r.k.length)), (13, .c (.int .i64 i))]) (fob [(28, .row 9 1 (m.map .str))]) 500 → K fr ob nx := by
   rintro m fr ob nx rfl hf
   refine hK _ _ _ (hw_fits hf ?_)
   clear hf hK K
   refine hw_region (by kernel_rfl) ?_
   simp (maxSteps := 4000000) only [↓sP, sA, tyS, simprocAttr, IntWalk.i64_in _ (show -9223372036854775808 ≤ (i : Int) + 1 ∧ (i : Int) + 1 ≤ 9223372036854775807 by omega)]
   refine ⟨⟨i + 1, hlt⟩, fits_fin (by omega) (by simp [FinOk, fin_at, finA_at, upd_at, HV.men, HV.menL, HV.norm, HV.toC, HV.toCL, HV.menL_c]) (by simp [FobOk, fob_at, upd_at, none0_at, gone, HO.men, HV.men, HV.menL, HV.norm, HV.toC, HV.toCL]), ?_⟩
   show r.k.length - (i + 1) < r.k.length - i
   omega
  refine hw_block ?_
  refine hw_seq fun K hK => hw_region (by kernel_rfl) ?_
  simp only [sR, simprocAttr]
  iterate 4
   (refine hlex_step (g := none) rfl rfl fun K' hK' => ?_; simp only [sH, ↓sP, sA, tyS, simprocAttr, Int.natCast_nonneg, Int.ofNat_lt, hlt, nth_map hlt]; (repeat refine AI ?_); refine hK' _ _ ?_; clear hK' K')
  simp only [sE, ↓reduceIte, simprocAttr]
  repeat refine AI ?_
  refine hK _ _ _ ?_
  clear hK K
  refine hw_seq fun K hK => hw_region (by kernel_rfl) ?_
  simp only [sR, simprocAttr]
  iterate 3
   (refine hlex_step (g := none) rfl rfl fun K' hK' => ?_; simp only [sH, ↓sP, sA, tyS, simprocAttr]; (repeat refine AI ?_); refine hK' _ _ ?_; clear hK' K')
  refine hlex_step (g := none) rfl rfl fun K' hK' => ?_
  simp (maxSteps := 4000000) only [sH, ↓sP, sA, tyS, simprocAttr]
  refine call_pure (args := [_, _]) (cont_ok r.k[i].rs role hk.2.1) ⟨rfl, rfl, rfl, rfl⟩ ?_
  rintro u rfl
  repeat refine AI ?_
  refine hK' _ _ ?_
  clear hK' K'
  refine hlex_step (g := none) rfl rfl fun K' hK' => ?_
  simp (maxSteps := 4000000) only [sH, ↓sP, sA, tyS, simprocAttr]
  repeat refine AI ?_
  refine hK' _ _ ?_
  clear hK' K'
  refine hlex_cases 20 rfl (fun h5_20 => ?_) (fun h5_20 => ?_)
  ·
   iterate 2
    (refine hlex_step (g := some (21, true)) rfl rfl fun K' hK' => ?_; simp only [sH, ↓sP, sA, tyS, simprocAttr, h5_20]; (repeat refine AI ?_); refine hK' _ _ ?_; clear hK' K')
   refine hlex_step (g := some (21, true)) rfl rfl fun K' hK' => ?_
   simp (maxSteps := 4000000) only [sH, ↓sP, sA, tyS, simprocAttr, h5_20]
   refine call_pure (args := r.k[i].cv :: caps) (hp _ (List.getElem_mem hlt)) ⟨rfl, rfl, rfl, rfl⟩ ?_
   rintro u rfl
   repeat refine AI ?_
   refine hK' _ _ ?_
   clear hK' K'
   refine hlex_step (g := none) rfl rfl fun K' hK' => ?_
   simp (maxSteps := 4000000) only [sH, ↓sP, sA, tyS, simprocAttr, h5_20]
   repeat refine AI ?_
   refine hK' _ _ ?_
   clear hK' K'
   refine hlex_cases 24 rfl (fun h5_24 => ?_) (fun h5_24 => ?_)
   ·
    simp only [h5_24]
    simp only [sE, ↓reduceIte, simprocAttr]
    repeat refine AI ?_
    refine hK _ _ _ ?_
    clear hK K
    refine hw_cond (b := true) rfl (fun hb => ?_) (fun hb => ?_)
    ·
     refine hw_region (by kernel_rfl) ?_
     simp only [sR, simprocAttr]
     iterate 6
      (refine hlex_step (g := none) rfl rfl fun K' hK' => ?_; simp only [sH, ↓sP, sA, tyS, simprocAttr, List.length_append, hti, h5_20, h5_24]; (repeat refine AI ?_); refine hK' _ _ ?_; clear hK' K')
     simp only [sE, ↓reduceIte, simprocAttr]
     refine key (ownF (r.k.take i) role p ++ [r.k[i].o]) _ _ _ (by rw [ownF_take hlt]; simp only [h5_20, h5_24, Bool.and_self, if_true]) ?_
     exact fits_fin (by omega) (by simp [FinOk, fin_at, finA_at, upd_at, HV.men, HV.menL, HV.norm, HV.toC, HV.toCL, HV.menL_c]) (by simp [FobOk, fob_at, upd_at, none0_at, gone, HO.men, HV.men, HV.menL, HV.norm, HV.toC, HV.toCL])
    cases hb
   simp only [h5_24]
   simp only [sE, ↓reduceIte, simprocAttr]
   repeat refine AI ?_
   refine hK _ _ _ ?_
   clear hK K
   refine hw_cond (b := false) rfl (fun hb => ?_) (fun hb => ?_)
   ·
    cases hb
   refine hw_skip ?_
   simp (maxSteps := 4000000) only [↓sP, sA, tyS, simprocAttr]
   refine key (ownF (r.k.take i) role p) _ _ _ (by rw [ownF_take hlt]; simp only [h5_20, h5_24, Bool.and_true, Bool.and_false, Bool.true_and, Bool.false_and]; try simp) ?_
   exact fits_fin (by omega) (by simp [FinOk, fin_at, finA_at, upd_at, HV.men, HV.menL, HV.norm, HV.toC, HV.toCL, HV.menL_c]) (by simp [FobOk, fob_at, upd_at, none0_at, gone, HO.men, HV.men, HV.menL, HV.norm, HV.toC, HV.toCL])
  iterate 3
   (refine hlex_step (g := some (21, true)) rfl rfl fun K' hK' => ?_; simp only [sH, ↓sP, sA, tyS, simprocAttr, h5_20]; (repeat refine AI ?_); refine hK' _ _ ?_; clear hK' K')
  refine hlex_step (g := none) rfl rfl fun K' hK' => ?_
  simp (maxSteps := 4000000) only [sH, ↓sP, sA, tyS, simprocAttr, h5_20]
  repeat refine AI ?_
  refine hK' _ _ ?_
  clear hK' K'
  simp only [sE, ↓reduceIte, simprocAttr]
  repeat refine AI ?_
  refine hK _ _ _ ?_
  clear hK K
  refine hw_cond (b := false) rfl (fun hb => ?_) (fun hb => ?_)
  ·
   cases hb
  refine hw_skip ?_
  simp (maxSteps := 4000000) only [↓sP, sA, tyS, simprocAttr]
  refine key (ownF (r.k.take i) role p) _ _ _ (by rw [ownF_take hlt]; simp only [h5_20, Bool.and_true, Bool.and_false, Bool.true_and, Bool.false_and]; try simp) ?_
  exact fits_fin (by omega) (by simp [FinOk, fin_at, finA_at, upd_at, HV.men, HV.menL, HV.norm, HV.toC, HV.toCL, HV.menL_c]) (by simp [FobOk, fob_at, upd_at, none0_at, gone, HO.men, HV.men, HV.menL, HV.norm, HV.toC, HV.toCL])
 have hei : i = r.k.length := by simp at hb; omega
 subst hei
 clear hb
 rw [List.take_length]
 have hof := ownF_len r.k role p
 have hsl : ((ownF r.k role p).mergeSort leW).length = (ownF r.k role p).length := (List.mergeSort_perm _ _).length_eq
 refine hw_exit ?_
 simp (maxSteps := 4000000) only [↓sP, sA, tyS, simprocAttr]
 clear hK K
 repeat refine AI ?_
 refine hK _ _ _ ?_
 clear hK K
 refine hw_seq fun K hK => hw_region (by kernel_rfl) ?_
 simp only [sR, simprocAttr]
 refine hlex_step (g := none) rfl rfl fun K' hK' => ?_
 simp (maxSteps := 4000000) only [sH, ↓sP, sA, tyS, simprocAttr]
 repeat refine AI ?_
 refine hK' _ _ ?_
 clear hK' K'
 refine hlex_step (g := none) rfl rfl fun K' hK' => ?_
 simp (maxSteps := 4000000) only [sH, ↓sP, sA, tyS, simprocAttr]
 refine call_sort (sort_ok (ownF r.k role p) (by omega)) rfl rfl (by simp) ⟨rfl, rfl, rfl, rfl⟩ ?_
 repeat refine AI ?_
 refine hK' _ _ ?_
 clear hK' K'
 simp only [sE, ↓reduceIte, simprocAttr]
 repeat refine AI ?_
 refine hK _ _ _ ?_
 clear hK K
 refine hw_seq fun K hK => hw_region (by kernel_rfl) ?_
 simp only [sR, simprocAttr]
 refine hlex_step (g := none) rfl rfl fun K' hK' => ?_
 simp (maxSteps := 4000000) only [sH, ↓sP, sA, tyS, simprocAttr]
 repeat refine AI ?_
 refine hK' _ _ ?_
 clear hK' K'
 refine hlex_step (g := none) rfl rfl fun K' hK' => ?_
 simp (maxSteps := 4000000) only [sH, ↓sP, sA, tyS, simprocAttr]
 refine call_take (compact_ok ((ownF r.k role p).mergeSort leW) (by omega)) rfl (by rw [List.length_map, hsl]) (by simp) ⟨rfl, rfl, rfl, rfl⟩ ?_
 rintro u rfl
 repeat refine AI ?_
 refine hK' _ _ ?_
 clear hK' K'
 refine hlex_step (g := none) rfl rfl fun K' hK' => ?_
 simp (maxSteps := 4000000) only [sH, ↓sP, sA, tyS, simprocAttr]
 repeat refine AI ?_
 refine hK' _ _ ?_
 clear hK' K'
 simp only [sE, ↓reduceIte, simprocAttr]
 repeat refine AI ?_
 refine hK _ _ _ ?_
 clear hK K
 refine hw_ret ?_
 simp (maxSteps := 4000000) only [hpost, Tryz.results42, hresL, hres1, tupOf, ↓sP, sA, tyS, simprocAttr]
 refine hret_pure [] (.slc ((ownB r.k role p).map .str)) ?_ rfl
 rw [dedup_ms]
 exact close_c (by simp only [CV.denil, denilL_str])


theorem yes_ok (k : Ky) : HPure Tryz.prog 58 [k.cv] (fun v => v = .bool true) := by
 refine hfn_walk Tryz.func58 rfl (by kernel_rfl) (locOk_nil _) (Nat.le_of_ble_eq_true rfl) ?_
 refine hw_seq fun K hK => hw_region (by kernel_rfl) ?_
 simp (maxSteps := 4000000) only [↓sP, sA, tyS, simprocAttr]
 repeat refine AI ?_
 refine hK _ _ _ ?_
 clear hK K
 refine hw_seq fun K hK => hw_region (by kernel_rfl) ?_
 simp (maxSteps := 4000000) only [↓sP, sA, tyS, simprocAttr]
 repeat refine AI ?_
 refine hK _ _ _ ?_
 clear hK K
 refine hw_ret ?_
 simp (maxSteps := 4000000) only [hpost, Tryz.results58, hresL, hres1, tupOf, ↓sP, sA, tyS, simprocAttr]
 exact hret_pure [] (.bool true) rfl rfl


theorem valid_ok (r : Rt) (hr : rSz r) : HPure Tryz.prog 27 [r.cv] (fun v => v = .bool (validR r)) := by
 refine hfn_walk Tryz.func27 rfl (by kernel_rfl) (locOk_nil _) (Nat.le_of_ble_eq_true rfl) ?_
 refine hw_seq fun K hK => hw_region (by kernel_rfl) ?_
 simp (maxSteps := 4000000) only [↓sP, sA, tyS, simprocAttr]
 repeat refine AI ?_
 refine hK _ _ _ ?_
 clear hK K
 refine hw_seq fun K hK => ?_
 refine hw_seq fun K hK => hw_region (by kernel_rfl) ?_
 simp only [sR, simprocAttr]
 iterate 2
  (refine hlex_step (g := none) rfl rfl fun K' hK' => ?_; simp only [sH, ↓sP, sA, tyS, simprocAttr]; (repeat refine AI ?_); refine hK' _ _ ?_; clear hK' K')
 refine hlex_step (g := none) rfl rfl fun K' hK' => ?_
 simp (maxSteps := 4000000) only [sH, ↓sP, sA, tyS, simprocAttr]
 refine call_pure (args := [_, _]) (within_ok 1 r.v) ⟨rfl, rfl, rfl, rfl⟩ ?_
 rintro u rfl
 repeat refine AI ?_
 refine hK' _ _ ?_
 clear hK' K'
 iterate 2
  (refine hlex_step (g := none) rfl rfl fun K' hK' => ?_; simp only [sH, ↓sP, sA, tyS, simprocAttr]; (repeat refine AI ?_); refine hK' _ _ ?_; clear hK' K')
 refine hlex_cases 6 rfl (fun h1_6 => ?_) (fun h1_6 => ?_)
 ·
  iterate 2
   (refine hlex_step (g := some (8, false)) rfl rfl fun K' hK' => ?_; simp only [sH, ↓sP, sA, tyS, simprocAttr, h1_6]; (repeat refine AI ?_); refine hK' _ _ ?_; clear hK' K')
  refine hlex_step (g := some (8, false)) rfl rfl fun K' hK' => ?_
  simp (maxSteps := 4000000) only [sH, ↓sP, sA, tyS, simprocAttr, h1_6]
  refine call_pure (args := [_, _]) (within_ok 0 r.e) ⟨rfl, rfl, rfl, rfl⟩ ?_
  rintro u rfl
  repeat refine AI ?_
  refine hK' _ _ ?_
  clear hK' K'
  refine hlex_step (g := some (8, false)) rfl rfl fun K' hK' => ?_
  simp (maxSteps := 4000000) only [sH, ↓sP, sA, tyS, simprocAttr, h1_6]
  repeat refine AI ?_
  refine hK' _ _ ?_
  clear hK' K'
  iterate 2
   (refine hlex_step (g := none) rfl rfl fun K' hK' => ?_; simp only [sH, ↓sP, sA, tyS, simprocAttr, h1_6]; (repeat refine AI ?_); refine hK' _ _ ?_; clear hK' K')
  refine hlex_cases 11 rfl (fun h1_11 => ?_) (fun h1_11 => ?_)
  ·
   iterate 2
    (refine hlex_step (g := some (14, false)) rfl rfl fun K' hK' => ?_; simp only [sH, ↓sP, sA, tyS, simprocAttr, h1_6, h1_11]; (repeat refine AI ?_); refine hK' _ _ ?_; clear hK' K')
   refine hlex_step (g := some (14, false)) rfl rfl fun K' hK' => ?_
   simp (maxSteps := 4000000) only [sH, ↓sP, sA, tyS, simprocAttr, h1_6, h1_11]
   refine call_pure (args := [_]) (quotas_ok r.q hr.1.1 hr.1.2) ⟨rfl, rfl, rfl, rfl⟩ ?_
   rintro u rfl
   repeat refine AI ?_
   refine hK' _ _ ?_
   clear hK' K'
   refine hlex_step (g := some (14, false)) rfl rfl fun K' hK' => ?_
   simp (maxSteps := 4000000) only [sH, ↓sP, sA, tyS, simprocAttr, h1_6, h1_11]
   repeat refine AI ?_
   refine hK' _ _ ?_
   clear hK' K'
   iterate 2
    (refine hlex_step (g := none) rfl rfl fun K' hK' => ?_; simp only [sH, ↓sP, sA, tyS, simprocAttr, h1_6, h1_11]; (repeat refine AI ?_); refine hK' _ _ ?_; clear hK' K')
   refine hlex_cases 17 rfl (fun h1_17 => ?_) (fun h1_17 => ?_)
   ·
    iterate 2
     (refine hlex_step (g := some (20, false)) rfl rfl fun K' hK' => ?_; simp only [sH, ↓sP, sA, tyS, simprocAttr, h1_6, h1_11, h1_17]; (repeat refine AI ?_); refine hK' _ _ ?_; clear hK' K')
    refine hlex_step (g := some (20, false)) rfl rfl fun K' hK' => ?_
    simp (maxSteps := 4000000) only [sH, ↓sP, sA, tyS, simprocAttr, h1_6, h1_11, h1_17]
    refine call_pure (args := [_]) (keys_ok pid_ok r.k hr.2.1.1 hr.2.1.2) ⟨rfl, rfl, rfl, rfl⟩ ?_
    rintro u rfl
    repeat refine AI ?_
    refine hK' _ _ ?_
    clear hK' K'
    refine hlex_step (g := some (20, false)) rfl rfl fun K' hK' => ?_
    simp (maxSteps := 4000000) only [sH, ↓sP, sA, tyS, simprocAttr, h1_6, h1_11, h1_17]
    repeat refine AI ?_
    refine hK' _ _ ?_
    clear hK' K'
    iterate 2
     (refine hlex_step (g := none) rfl rfl fun K' hK' => ?_; simp only [sH, ↓sP, sA, tyS, simprocAttr, h1_6, h1_11, h1_17]; (repeat refine AI ?_); refine hK' _ _ ?_; clear hK' K')
    refine hlex_cases 23 rfl (fun h1_23 => ?_) (fun h1_23 => ?_)
    ·
     iterate 2
      (refine hlex_step (g := some (26, false)) rfl rfl fun K' hK' => ?_; simp only [sH, ↓sP, sA, tyS, simprocAttr, h1_6, h1_11, h1_17, h1_23]; (repeat refine AI ?_); refine hK' _ _ ?_; clear hK' K')
     refine hlex_step (g := some (26, false)) rfl rfl fun K' hK' => ?_
     simp (maxSteps := 4000000) only [sH, ↓sP, sA, tyS, simprocAttr, h1_6, h1_11, h1_17, h1_23]
     refine call_pure (args := [_]) (revocations_ok r.x hr.2.2) ⟨rfl, rfl, rfl, rfl⟩ ?_
     rintro u rfl
     repeat refine AI ?_
     refine hK' _ _ ?_
     clear hK' K'
     refine hlex_step (g := some (26, false)) rfl rfl fun K' hK' => ?_
     simp (maxSteps := 4000000) only [sH, ↓sP, sA, tyS, simprocAttr, h1_6, h1_11, h1_17, h1_23]
     repeat refine AI ?_
     refine hK' _ _ ?_
     clear hK' K'
     refine hlex_step (g := none) rfl rfl fun K' hK' => ?_
     simp (maxSteps := 4000000) only [sH, ↓sP, sA, tyS, simprocAttr, h1_6, h1_11, h1_17, h1_23]
     repeat refine AI ?_
     refine hK' _ _ ?_
     clear hK' K'
     refine hlex_cases 29 rfl (fun h1_29 => ?_) (fun h1_29 => ?_)
     ·
      simp only [h1_29]
      simp only [sE, ↓reduceIte, simprocAttr]
      repeat refine AI ?_
      refine hK _ _ _ ?_
      clear hK K
      refine hw_cond (b := false) rfl (fun hb => ?_) (fun hb => ?_)
      ·
       cases hb
      refine hw_skip ?_
      simp (maxSteps := 4000000) only [↓sP, sA, tyS, simprocAttr]
      repeat refine AI ?_
      refine hK _ _ _ ?_
      clear hK K
      refine hw_seq fun K hK => hw_region (by kernel_rfl) ?_
      simp only [sR, simprocAttr]
      refine hlex_step (g := none) rfl rfl fun K' hK' => ?_
      simp (maxSteps := 4000000) only [sH, ↓sP, sA, tyS, simprocAttr, h1_6, h1_11, h1_17, h1_23, h1_29]
      repeat refine AI ?_
      refine hK' _ _ ?_
      clear hK' K'
      refine hlex_step (g := none) rfl rfl fun K' hK' => ?_
      simp (maxSteps := 4000000) only [sH, ↓sP, sA, tyS, simprocAttr, h1_6, h1_11, h1_17, h1_23, h1_29]
      refine call_pure (args := [_, _]) (need_ok r wRoot hr.1.1) ⟨rfl, rfl, rfl, rfl⟩ ?_
      rintro u rfl
      repeat refine AI ?_
      refine hK' _ _ ?_
      clear hK' K'
      refine hlex_step (g := none) rfl rfl fun K' hK' => ?_
      simp (maxSteps := 4000000) only [sH, ↓sP, sA, tyS, simprocAttr, h1_6, h1_11, h1_17, h1_23, h1_29]
      repeat refine AI ?_
      refine hK' _ _ ?_
      clear hK' K'
      simp only [sE, ↓reduceIte, simprocAttr]
      repeat refine AI ?_
      refine hK _ _ _ ?_
      clear hK K
      refine hw_seq fun K hK => hw_region (by kernel_rfl) ?_
      simp only [sR, simprocAttr]
      iterate 3
       (refine hlex_step (g := none) rfl rfl fun K' hK' => ?_; simp only [sH, ↓sP, sA, tyS, simprocAttr, h1_6, h1_11, h1_17, h1_23, h1_29]; (repeat refine AI ?_); refine hK' _ _ ?_; clear hK' K')
      refine hlex_cases 35 rfl (fun h4_35 => ?_) (fun h4_35 => ?_)
      ·
       refine hlex_step (g := some (36, true)) rfl rfl fun K' hK' => ?_
       simp (maxSteps := 4000000) only [sH, ↓sP, sA, tyS, simprocAttr, h1_6, h1_11, h1_17, h1_23, h1_29, h4_35]
       repeat refine AI ?_
       refine hK' _ _ ?_
       clear hK' K'
       refine hlex_step (g := some (36, true)) rfl rfl fun K' hK' => ?_
       simp (maxSteps := 4000000) only [sH, ↓sP, sA, tyS, simprocAttr, h1_6, h1_11, h1_17, h1_23, h1_29, h4_35]
       refine call_pureh (hpureh_fn (towners_ok r wRoot 58 [] (fun _ => true) hr fun k _ => yes_ok k)) (by simp [HV.menL, HV.men]) (fun m => by simp [HV.renL, HV.ren]) ⟨rfl, rfl, rfl, rfl⟩ ?_
       rintro u rfl
       repeat refine AI ?_
       refine hK' _ _ ?_
       clear hK' K'
       iterate 3
        (refine hlex_step (g := some (36, true)) rfl rfl fun K' hK' => ?_; simp only [sH, ↓sP, sA, tyS, simprocAttr, h1_6, h1_11, h1_17, h1_23, h1_29, h4_35]; (repeat refine AI ?_); refine hK' _ _ ?_; clear hK' K')
       iterate 2
        (refine hlex_step (g := none) rfl rfl fun K' hK' => ?_; simp only [sH, ↓sP, sA, tyS, simprocAttr, h1_6, h1_11, h1_17, h1_23, h1_29, h4_35]; (repeat refine AI ?_); refine hK' _ _ ?_; clear hK' K')
       refine hlex_cases 41 rfl (fun h4_41 => ?_) (fun h4_41 => ?_)
       ·
        simp only [h4_41]
        simp only [sE, ↓reduceIte, simprocAttr]
        repeat refine AI ?_
        refine hK _ _ _ ?_
        clear hK K
        refine hw_ret ?_
        simp (maxSteps := 4000000) only [hpost, Tryz.results27, hresL, hres1, tupOf, ↓sP, sA, tyS, simprocAttr]
        exact hret_pure [] (.bool true) rfl (by simp only [valid_code, h1_6, h1_11, h1_17, h1_23, h1_29, h4_35, h4_41, Bool.and_true, Bool.true_and])
       simp only [h4_41]
       simp only [sE, ↓reduceIte, simprocAttr]
       repeat refine AI ?_
       refine hK _ _ _ ?_
       clear hK K
       refine hw_ret ?_
       simp (maxSteps := 4000000) only [hpost, Tryz.results27, hresL, hres1, tupOf, ↓sP, sA, tyS, simprocAttr]
       exact hret_pure [] (.bool false) rfl (by simp only [valid_code, h1_6, h1_11, h1_17, h1_23, h1_29, h4_35, h4_41, Bool.and_true, Bool.and_false, Bool.true_and, Bool.false_and])
      iterate 5
       (refine hlex_step (g := some (36, true)) rfl rfl fun K' hK' => ?_; simp only [sH, ↓sP, sA, tyS, simprocAttr, h1_6, h1_11, h1_17, h1_23, h1_29, h4_35]; (repeat refine AI ?_); refine hK' _ _ ?_; clear hK' K')
      iterate 2
       (refine hlex_step (g := none) rfl rfl fun K' hK' => ?_; simp only [sH, ↓sP, sA, tyS, simprocAttr, h1_6, h1_11, h1_17, h1_23, h1_29, h4_35]; (repeat refine AI ?_); refine hK' _ _ ?_; clear hK' K')
      simp only [sE, ↓reduceIte, simprocAttr]
      repeat refine AI ?_
      refine hK _ _ _ ?_
      clear hK K
      refine hw_ret ?_
      simp (maxSteps := 4000000) only [hpost, Tryz.results27, hresL, hres1, tupOf, ↓sP, sA, tyS, simprocAttr]
      exact hret_pure [] (.bool false) rfl (by simp only [valid_code, h1_6, h1_11, h1_17, h1_23, h1_29, h4_35, Bool.and_true, Bool.and_false, Bool.true_and, Bool.false_and])
     simp only [h1_29]
     simp only [sE, ↓reduceIte, simprocAttr]
     repeat refine AI ?_
     refine hK _ _ _ ?_
     clear hK K
     refine hw_cond (b := true) rfl (fun hb => ?_) (fun hb => ?_)
     ·
      refine hw_seq fun K hK => hw_region (by kernel_rfl) ?_
      simp (maxSteps := 4000000) only [↓sP, sA, tyS, simprocAttr]
      repeat refine AI ?_
      refine hK _ _ _ ?_
      clear hK K
      refine hw_ret ?_
      simp (maxSteps := 4000000) only [hpost, Tryz.results27, hresL, hres1, tupOf, ↓sP, sA, tyS, simprocAttr]
      exact hret_pure [] (.bool false) rfl (by simp only [valid_code, h1_6, h1_11, h1_17, h1_23, h1_29, Bool.and_true, Bool.and_false, Bool.true_and, Bool.false_and])
     cases hb
    iterate 4
     (refine hlex_step (g := some (26, false)) rfl rfl fun K' hK' => ?_; simp only [sH, ↓sP, sA, tyS, simprocAttr, h1_6, h1_11, h1_17, h1_23]; (repeat refine AI ?_); refine hK' _ _ ?_; clear hK' K')
    refine hlex_step (g := none) rfl rfl fun K' hK' => ?_
    simp (maxSteps := 4000000) only [sH, ↓sP, sA, tyS, simprocAttr, h1_6, h1_11, h1_17, h1_23]
    repeat refine AI ?_
    refine hK' _ _ ?_
    clear hK' K'
    simp only [sE, ↓reduceIte, simprocAttr]
    repeat refine AI ?_
    refine hK _ _ _ ?_
    clear hK K
    refine hw_cond (b := true) rfl (fun hb => ?_) (fun hb => ?_)
    ·
     refine hw_seq fun K hK => hw_region (by kernel_rfl) ?_
     simp (maxSteps := 4000000) only [↓sP, sA, tyS, simprocAttr]
     repeat refine AI ?_
     refine hK _ _ _ ?_
     clear hK K
     refine hw_ret ?_
     simp (maxSteps := 4000000) only [hpost, Tryz.results27, hresL, hres1, tupOf, ↓sP, sA, tyS, simprocAttr]
     exact hret_pure [] (.bool false) rfl (by simp only [valid_code, h1_6, h1_11, h1_17, h1_23, Bool.and_true, Bool.and_false, Bool.true_and, Bool.false_and])
    cases hb
   iterate 4
    (refine hlex_step (g := some (20, false)) rfl rfl fun K' hK' => ?_; simp only [sH, ↓sP, sA, tyS, simprocAttr, h1_6, h1_11, h1_17]; (repeat refine AI ?_); refine hK' _ _ ?_; clear hK' K')
   iterate 2
    (refine hlex_step (g := none) rfl rfl fun K' hK' => ?_; simp only [sH, ↓sP, sA, tyS, simprocAttr, h1_6, h1_11, h1_17]; (repeat refine AI ?_); refine hK' _ _ ?_; clear hK' K')
   iterate 4
    (refine hlex_step (g := some (26, false)) rfl rfl fun K' hK' => ?_; simp only [sH, ↓sP, sA, tyS, simprocAttr, h1_6, h1_11, h1_17]; (repeat refine AI ?_); refine hK' _ _ ?_; clear hK' K')
   refine hlex_step (g := none) rfl rfl fun K' hK' => ?_
   simp (maxSteps := 4000000) only [sH, ↓sP, sA, tyS, simprocAttr, h1_6, h1_11, h1_17]
   repeat refine AI ?_
   refine hK' _ _ ?_
   clear hK' K'
   simp only [sE, ↓reduceIte, simprocAttr]
   repeat refine AI ?_
   refine hK _ _ _ ?_
   clear hK K
   refine hw_cond (b := true) rfl (fun hb => ?_) (fun hb => ?_)
   ·
    refine hw_seq fun K hK => hw_region (by kernel_rfl) ?_
    simp (maxSteps := 4000000) only [↓sP, sA, tyS, simprocAttr]
    repeat refine AI ?_
    refine hK _ _ _ ?_
    clear hK K
    refine hw_ret ?_
    simp (maxSteps := 4000000) only [hpost, Tryz.results27, hresL, hres1, tupOf, ↓sP, sA, tyS, simprocAttr]
    exact hret_pure [] (.bool false) rfl (by simp only [valid_code, h1_6, h1_11, h1_17, Bool.and_true, Bool.and_false, Bool.true_and, Bool.false_and])
   cases hb
  iterate 4
   (refine hlex_step (g := some (14, false)) rfl rfl fun K' hK' => ?_; simp only [sH, ↓sP, sA, tyS, simprocAttr, h1_6, h1_11]; (repeat refine AI ?_); refine hK' _ _ ?_; clear hK' K')
  iterate 2
   (refine hlex_step (g := none) rfl rfl fun K' hK' => ?_; simp only [sH, ↓sP, sA, tyS, simprocAttr, h1_6, h1_11]; (repeat refine AI ?_); refine hK' _ _ ?_; clear hK' K')
  iterate 4
   (refine hlex_step (g := some (20, false)) rfl rfl fun K' hK' => ?_; simp only [sH, ↓sP, sA, tyS, simprocAttr, h1_6, h1_11]; (repeat refine AI ?_); refine hK' _ _ ?_; clear hK' K')
  iterate 2
   (refine hlex_step (g := none) rfl rfl fun K' hK' => ?_; simp only [sH, ↓sP, sA, tyS, simprocAttr, h1_6, h1_11]; (repeat refine AI ?_); refine hK' _ _ ?_; clear hK' K')
  iterate 4
   (refine hlex_step (g := some (26, false)) rfl rfl fun K' hK' => ?_; simp only [sH, ↓sP, sA, tyS, simprocAttr, h1_6, h1_11]; (repeat refine AI ?_); refine hK' _ _ ?_; clear hK' K')
  refine hlex_step (g := none) rfl rfl fun K' hK' => ?_
  simp (maxSteps := 4000000) only [sH, ↓sP, sA, tyS, simprocAttr, h1_6, h1_11]
  repeat refine AI ?_
  refine hK' _ _ ?_
  clear hK' K'
  simp only [sE, ↓reduceIte, simprocAttr]
  repeat refine AI ?_
  refine hK _ _ _ ?_
  clear hK K
  refine hw_cond (b := true) rfl (fun hb => ?_) (fun hb => ?_)
  ·
   refine hw_seq fun K hK => hw_region (by kernel_rfl) ?_
   simp (maxSteps := 4000000) only [↓sP, sA, tyS, simprocAttr]
   repeat refine AI ?_
   refine hK _ _ _ ?_
   clear hK K
   refine hw_ret ?_
   simp (maxSteps := 4000000) only [hpost, Tryz.results27, hresL, hres1, tupOf, ↓sP, sA, tyS, simprocAttr]
   exact hret_pure [] (.bool false) rfl (by simp only [valid_code, h1_6, h1_11, Bool.and_true, Bool.and_false, Bool.true_and, Bool.false_and])
  cases hb
 iterate 4
  (refine hlex_step (g := some (8, false)) rfl rfl fun K' hK' => ?_; simp only [sH, ↓sP, sA, tyS, simprocAttr, h1_6]; (repeat refine AI ?_); refine hK' _ _ ?_; clear hK' K')
 iterate 2
  (refine hlex_step (g := none) rfl rfl fun K' hK' => ?_; simp only [sH, ↓sP, sA, tyS, simprocAttr, h1_6]; (repeat refine AI ?_); refine hK' _ _ ?_; clear hK' K')
 iterate 4
  (refine hlex_step (g := some (14, false)) rfl rfl fun K' hK' => ?_; simp only [sH, ↓sP, sA, tyS, simprocAttr, h1_6]; (repeat refine AI ?_); refine hK' _ _ ?_; clear hK' K')
 iterate 2
  (refine hlex_step (g := none) rfl rfl fun K' hK' => ?_; simp only [sH, ↓sP, sA, tyS, simprocAttr, h1_6]; (repeat refine AI ?_); refine hK' _ _ ?_; clear hK' K')
 iterate 4
  (refine hlex_step (g := some (20, false)) rfl rfl fun K' hK' => ?_; simp only [sH, ↓sP, sA, tyS, simprocAttr, h1_6]; (repeat refine AI ?_); refine hK' _ _ ?_; clear hK' K')
 iterate 2
  (refine hlex_step (g := none) rfl rfl fun K' hK' => ?_; simp only [sH, ↓sP, sA, tyS, simprocAttr, h1_6]; (repeat refine AI ?_); refine hK' _ _ ?_; clear hK' K')
 iterate 4
  (refine hlex_step (g := some (26, false)) rfl rfl fun K' hK' => ?_; simp only [sH, ↓sP, sA, tyS, simprocAttr, h1_6]; (repeat refine AI ?_); refine hK' _ _ ?_; clear hK' K')
 refine hlex_step (g := none) rfl rfl fun K' hK' => ?_
 simp (maxSteps := 4000000) only [sH, ↓sP, sA, tyS, simprocAttr, h1_6]
 repeat refine AI ?_
 refine hK' _ _ ?_
 clear hK' K'
 simp only [sE, ↓reduceIte, simprocAttr]
 repeat refine AI ?_
 refine hK _ _ _ ?_
 clear hK K
 refine hw_cond (b := true) rfl (fun hb => ?_) (fun hb => ?_)
 ·
  refine hw_seq fun K hK => hw_region (by kernel_rfl) ?_
  simp (maxSteps := 4000000) only [↓sP, sA, tyS, simprocAttr]
  repeat refine AI ?_
  refine hK _ _ _ ?_
  clear hK K
  refine hw_ret ?_
  simp (maxSteps := 4000000) only [hpost, Tryz.results27, hresL, hres1, tupOf, ↓sP, sA, tyS, simprocAttr]
  exact hret_pure [] (.bool false) rfl (by simp only [valid_code, h1_6, Bool.and_true, Bool.and_false, Bool.true_and, Bool.false_and])
 cases hb


theorem tneed_ok (r : Rt) (w : Word) (hr : rSz r) : HPure Tryz.prog 41 [r.cv, .str w] (fun v => v = .int .i64 (needV r w)) := by
 refine hfn_walk Tryz.func41 rfl (by kernel_rfl) (locOk_nil _) (Nat.le_of_ble_eq_true rfl) ?_
 refine hw_seq fun K hK => hw_region (by kernel_rfl) ?_
 simp (maxSteps := 4000000) only [↓sP, sA, tyS, simprocAttr]
 repeat refine AI ?_
 refine hK _ _ _ ?_
 clear hK K
 refine hw_seq fun K hK => ?_
 refine hw_seq fun K hK => hw_region (by kernel_rfl) ?_
 simp only [sR, simprocAttr]
 refine hlex_step (g := none) rfl rfl fun K' hK' => ?_
 simp (maxSteps := 4000000) only [sH, ↓sP, sA, tyS, simprocAttr]
 repeat refine AI ?_
 refine hK' _ _ ?_
 clear hK' K'
 refine hlex_step (g := none) rfl rfl fun K' hK' => ?_
 simp (maxSteps := 4000000) only [sH, ↓sP, sA, tyS, simprocAttr]
 refine call_pure (args := [_]) (valid_ok r hr) ⟨rfl, rfl, rfl, rfl⟩ ?_
 rintro u rfl
 repeat refine AI ?_
 refine hK' _ _ ?_
 clear hK' K'
 refine hlex_step (g := none) rfl rfl fun K' hK' => ?_
 simp (maxSteps := 4000000) only [sH, ↓sP, sA, tyS, simprocAttr]
 repeat refine AI ?_
 refine hK' _ _ ?_
 clear hK' K'
 simp only [sE, ↓reduceIte, simprocAttr]
 repeat refine AI ?_
 refine hK _ _ _ ?_
 clear hK K
 refine hw_cond (b := !validR r) rfl (fun hb => ?_) (fun hb => ?_)
 ·
  refine hw_seq fun K hK => hw_region (by kernel_rfl) ?_
  simp (maxSteps := 4000000) only [↓sP, sA, tyS, simprocAttr]
  repeat refine AI ?_
  refine hK _ _ _ ?_
  clear hK K
  refine hw_ret ?_
  simp (maxSteps := 4000000) only [hpost, Tryz.results41, hresL, hres1, tupOf, ↓sP, sA, tyS, simprocAttr]
  exact hret_pure [] (.int .i64 0) rfl (by unfold needV; rw [if_neg (by simpa using hb)])
 refine hw_skip ?_
 simp (maxSteps := 4000000) only [↓sP, sA, tyS, simprocAttr]
 repeat refine AI ?_
 refine hK _ _ _ ?_
 clear hK K
 refine hw_seq fun K hK => hw_region (by kernel_rfl) ?_
 simp only [sR, simprocAttr]
 iterate 2
  (refine hlex_step (g := none) rfl rfl fun K' hK' => ?_; simp only [sH, ↓sP, sA, tyS, simprocAttr]; (repeat refine AI ?_); refine hK' _ _ ?_; clear hK' K')
 refine hlex_step (g := none) rfl rfl fun K' hK' => ?_
 simp (maxSteps := 4000000) only [sH, ↓sP, sA, tyS, simprocAttr]
 refine call_pure (args := [_, _]) (need_ok r w hr.1.1) ⟨rfl, rfl, rfl, rfl⟩ ?_
 rintro u rfl
 repeat refine AI ?_
 refine hK' _ _ ?_
 clear hK' K'
 refine hlex_step (g := none) rfl rfl fun K' hK' => ?_
 simp (maxSteps := 4000000) only [sH, ↓sP, sA, tyS, simprocAttr]
 repeat refine AI ?_
 refine hK' _ _ ?_
 clear hK' K'
 simp only [sE, ↓reduceIte, simprocAttr]
 repeat refine AI ?_
 refine hK _ _ _ ?_
 clear hK K
 refine hw_ret ?_
 simp (maxSteps := 4000000) only [hpost, Tryz.results41, hresL, hres1, tupOf, ↓sP, sA, tyS, simprocAttr]
 exact hret_pure [] (.int .i64 _) rfl (by unfold needV; rw [if_pos (by simpa using hb)])


theorem vouched_ok (r : Rt) (role : Word) (l : List Dig) (t : Int) (hr : rSz r) (hl : l.length < 2 ^ 40) : HPure Tryz.prog 15 [r.cv, .str role, .slc (l.map dg), .int .i64 t] (fun v => v = .slc ((vouched r role l t).map .str)) := by
 refine hfn_walk Tryz.func15 rfl (by kernel_rfl) (locOk_nil _) (Nat.le_of_ble_eq_true rfl) ?_
 refine hw_seq fun K hK => hw_region (by kernel_rfl) ?_
 simp only [sR, simprocAttr]
 iterate 4
  (refine hlex_step (g := none) rfl rfl fun K' hK' => ?_; simp only [sH, ↓sP, sA, tyS, simprocAttr]; (repeat refine AI ?_); refine hK' _ _ ?_; clear hK' K')
 simp only [sE, ↓reduceIte, simprocAttr]
 repeat refine AI ?_
 refine hK _ _ _ ?_
 clear hK K
 refine hw_seq fun K hK => ?_
 refine hw_seq fun K hK => hw_region (by kernel_rfl) ?_
 simp only [sR, simprocAttr]
 refine hlex_step (g := none) rfl rfl fun K' hK' => ?_
 simp (maxSteps := 4000000) only [sH, ↓sP, sA, tyS, simprocAttr]
 repeat refine AI ?_
 refine hK' _ _ ?_
 clear hK' K'
 refine hlex_step (g := none) rfl rfl fun K' hK' => ?_
 simp (maxSteps := 4000000) only [sH, ↓sP, sA, tyS, simprocAttr]
 refine call_pure (args := [_]) (valid_ok r hr) ⟨rfl, rfl, rfl, rfl⟩ ?_
 rintro u rfl
 repeat refine AI ?_
 refine hK' _ _ ?_
 clear hK' K'
 refine hlex_step (g := none) rfl rfl fun K' hK' => ?_
 simp (maxSteps := 4000000) only [sH, ↓sP, sA, tyS, simprocAttr]
 repeat refine AI ?_
 refine hK' _ _ ?_
 clear hK' K'
 simp only [sE, ↓reduceIte, simprocAttr]
 repeat refine AI ?_
 refine hK _ _ _ ?_
 clear hK K
 refine hw_cond (b := !validR r) rfl (fun hb => ?_) (fun hb => ?_)
 ·
  refine hw_seq fun K hK => hw_region (by kernel_rfl) ?_
  simp (maxSteps := 4000000) only [↓sP, sA, tyS, simprocAttr]
  repeat refine AI ?_
  refine hK _ _ _ ?_
  clear hK K
  refine hw_ret ?_
  simp (maxSteps := 4000000) only [hpost, Tryz.results15, hresL, hres1, tupOf, ↓sP, sA, tyS, simprocAttr]
  exact hret_pure [] (.slc []) rfl (by unfold vouched; rw [if_neg (by simpa using hb)]; rfl)
 refine hw_skip ?_
 simp (maxSteps := 4000000) only [↓sP, sA, tyS, simprocAttr]
 repeat refine AI ?_
 refine hK _ _ _ ?_
 clear hK K
 refine hw_freeze 4 0 rfl rfl ?_
 refine hw_freeze 6 4 rfl rfl ?_
 refine hw_freeze 7 8 rfl rfl ?_
 refine hw_seq fun K hK => hw_region (by kernel_rfl) ?_
 simp only [sR, simprocAttr]
 iterate 3
  (refine hlex_step (g := none) rfl rfl fun K' hK' => ?_; simp only [sH, ↓sP, sA, tyS, simprocAttr]; (repeat refine AI ?_); refine hK' _ _ ?_; clear hK' K')
 refine hlex_step (g := none) rfl rfl fun K' hK' => ?_
 simp (maxSteps := 4000000) only [sH, ↓sP, sA, tyS, simprocAttr]
 refine call_pureh (towners_ok r role 43 [.rp (.slc (l.map dg)), .rp r.cv, .rp (.int .i64 t)] (fun k => l.contains (kid k) && liveB r k t) hr fun k _ => vclo_ok r l t hr hl k) (by simp [HV.menL, HV.men]) (fun m => by simp [HV.renL, HV.ren]) ⟨rfl, rfl, rfl, rfl⟩ ?_
 rintro u rfl
 repeat refine AI ?_
 refine hK' _ _ ?_
 clear hK' K'
 refine hlex_step (g := none) rfl rfl fun K' hK' => ?_
 simp (maxSteps := 4000000) only [sH, ↓sP, sA, tyS, simprocAttr]
 repeat refine AI ?_
 refine hK' _ _ ?_
 clear hK' K'
 simp only [sE, ↓reduceIte, simprocAttr]
 repeat refine AI ?_
 refine hK _ _ _ ?_
 clear hK K
 refine hw_ret ?_
 simp (maxSteps := 4000000) only [hpost, Tryz.results15, hresL, hres1, tupOf, ↓sP, sA, tyS, simprocAttr]
 refine hret_pure [] (.slc ((ownB r.k role fun k => l.contains (kid k) && liveB r k t).map .str)) ?_ (by unfold vouched; rw [if_pos (by simpa using hb)])
 exact close_c (by simp only [CV.denil, denilL_str])


theorem enough_ok (r : Rt) (role : Word) (l : List Dig) (t : Int) (hr : rSz r) (hl : l.length < 2 ^ 40) : HPure Tryz.prog 16 [r.cv, .str role, .slc (l.map dg), .int .i64 t] (fun v => v = .bool (enough r role l t)) := by
 refine hfn_walk Tryz.func16 rfl (by kernel_rfl) (locOk_nil _) (Nat.le_of_ble_eq_true rfl) ?_
 refine hw_seq fun K hK => hw_region (by kernel_rfl) ?_
 simp (maxSteps := 4000000) only [↓sP, sA, tyS, simprocAttr]
 repeat refine AI ?_
 refine hK _ _ _ ?_
 clear hK K
 refine hw_seq fun K hK => hw_region (by kernel_rfl) ?_
 simp only [sR, simprocAttr]
 iterate 2
  (refine hlex_step (g := none) rfl rfl fun K' hK' => ?_; simp only [sH, ↓sP, sA, tyS, simprocAttr]; (repeat refine AI ?_); refine hK' _ _ ?_; clear hK' K')
 refine hlex_step (g := none) rfl rfl fun K' hK' => ?_
 simp (maxSteps := 4000000) only [sH, ↓sP, sA, tyS, simprocAttr]
 refine call_pure (args := [_, _]) (tneed_ok r role hr) ⟨rfl, rfl, rfl, rfl⟩ ?_
 rintro u rfl
 repeat refine AI ?_
 refine hK' _ _ ?_
 clear hK' K'
 refine hlex_step (g := none) rfl rfl fun K' hK' => ?_
 simp (maxSteps := 4000000) only [sH, ↓sP, sA, tyS, simprocAttr]
 repeat refine AI ?_
 refine hK' _ _ ?_
 clear hK' K'
 simp only [sE, ↓reduceIte, simprocAttr]
 repeat refine AI ?_
 refine hK _ _ _ ?_
 clear hK K
 refine hw_seq fun K hK => hw_region (by kernel_rfl) ?_
 simp only [sR, simprocAttr]
 iterate 3
  (refine hlex_step (g := none) rfl rfl fun K' hK' => ?_; simp only [sH, ↓sP, sA, tyS, simprocAttr, denilL_dg]; (repeat refine AI ?_); refine hK' _ _ ?_; clear hK' K')
 refine hlex_cases 14 rfl (fun h2_14 => ?_) (fun h2_14 => ?_)
 ·
  iterate 5
   (refine hlex_step (g := some (15, true)) rfl rfl fun K' hK' => ?_; simp only [sH, ↓sP, sA, tyS, simprocAttr, denilL_dg, h2_14]; (repeat refine AI ?_); refine hK' _ _ ?_; clear hK' K')
  refine hlex_step (g := some (15, true)) rfl rfl fun K' hK' => ?_
  simp (maxSteps := 4000000) only [sH, ↓sP, sA, tyS, simprocAttr, denilL_dg, h2_14]
  refine call_pure (args := [_, _, _, _]) (vouched_ok r role l t hr hl) ⟨rfl, rfl, rfl, rfl⟩ ?_
  rintro u rfl
  repeat refine AI ?_
  refine hK' _ _ ?_
  clear hK' K'
  iterate 2
   (refine hlex_step (g := some (15, true)) rfl rfl fun K' hK' => ?_; simp only [sH, ↓sP, sA, tyS, simprocAttr, denilL_dg, h2_14]; (repeat refine AI ?_); refine hK' _ _ ?_; clear hK' K')
  iterate 2
   (refine hlex_step (g := none) rfl rfl fun K' hK' => ?_; simp only [sH, ↓sP, sA, tyS, simprocAttr, denilL_dg, h2_14]; (repeat refine AI ?_); refine hK' _ _ ?_; clear hK' K')
  refine hlex_cases 23 rfl (fun h2_23 => ?_) (fun h2_23 => ?_)
  ·
   simp only [h2_23]
   simp only [sE, ↓reduceIte, simprocAttr]
   repeat refine AI ?_
   refine hK _ _ _ ?_
   clear hK K
   refine hw_ret ?_
   simp (maxSteps := 4000000) only [hpost, Tryz.results16, hresL, hres1, tupOf, ↓sP, sA, tyS, simprocAttr]
   exact hret_pure [] (.bool true) rfl (by simp only [enough, h2_14, h2_23, Bool.and_true, Bool.and_false, Bool.true_and, Bool.false_and])
  simp only [h2_23]
  simp only [sE, ↓reduceIte, simprocAttr]
  repeat refine AI ?_
  refine hK _ _ _ ?_
  clear hK K
  refine hw_ret ?_
  simp (maxSteps := 4000000) only [hpost, Tryz.results16, hresL, hres1, tupOf, ↓sP, sA, tyS, simprocAttr]
  exact hret_pure [] (.bool false) rfl (by simp only [enough, h2_14, h2_23, Bool.and_true, Bool.and_false, Bool.true_and, Bool.false_and])
 iterate 8
  (refine hlex_step (g := some (15, true)) rfl rfl fun K' hK' => ?_; simp only [sH, ↓sP, sA, tyS, simprocAttr, denilL_dg, h2_14]; (repeat refine AI ?_); refine hK' _ _ ?_; clear hK' K')
 iterate 2
  (refine hlex_step (g := none) rfl rfl fun K' hK' => ?_; simp only [sH, ↓sP, sA, tyS, simprocAttr, denilL_dg, h2_14]; (repeat refine AI ?_); refine hK' _ _ ?_; clear hK' K')
 simp only [sE, ↓reduceIte, simprocAttr]
 repeat refine AI ?_
 refine hK _ _ _ ?_
 clear hK K
 refine hw_ret ?_
 simp (maxSteps := 4000000) only [hpost, Tryz.results16, hresL, hres1, tupOf, ↓sP, sA, tyS, simprocAttr]
 exact hret_pure [] (.bool false) rfl (by simp only [enough, h2_14, Bool.and_true, Bool.and_false, Bool.true_and, Bool.false_and])

end Go.Proofs.YtenbfeemmpjdhaaGreat

namespace Go.Pl
open Go Go.Hl

theorem valid_ref (r : Rt) : validR r = ((!decide (r.v < 1) && !decide ((1099511627776 : Int) < r.v)) && (inN r.e && (quotasB r.q && (keysB r.k && (revsB r.x && (decide (0 < need r.q wRoot) && decide (need r.q wRoot ≤ ((ownB r.k wRoot fun _ => true).length : Int)))))))) := by
  unfold validR; rw [nlt 1 r.v, nlt r.v maxN]; rfl
theorem quotasB_big {l : List Qt} (h : decide (12 < (l.length : Int)) = true) : quotasB l = false := by
  rw [quotasB_eq, Bool.and_eq_false_iff]; right
  simp at h ⊢; omega
theorem keysB_big {l : List Ky} (h : decide (32 < (l.length : Int)) = true) : keysB l = false := by
  rw [keysB_eq, Bool.and_eq_false_iff]; right
  simp at h ⊢; omega
theorem revsB_big {l : List Rv} (h : decide (64 < (l.length : Int)) = true) : revsB l = false := by
  rw [revsB_eq, Bool.and_eq_false_iff]; right
  simp at h ⊢; omega
theorem quotasB_ok {l : List Qt} (h : decide (12 < (l.length : Int)) = false) (h0 : GoodTo quotaB (fun a b => slt a.r b.r) l l.length) : quotasB l = true := by
  rw [quotasB_eq, h0.all, Bool.true_and, decide_eq_true_eq]
  simp at h; omega
theorem keysB_ok {l : List Ky} (h : decide (32 < (l.length : Int)) = false) (h0 : GoodTo keyB (fun a b => dlt (kid a) (kid b)) l l.length) : keysB l = true := by
  rw [keysB_eq, h0.all, Bool.true_and, decide_eq_true_eq]
  simp at h; omega
theorem revsB_ok {l : List Rv} (h : decide (64 < (l.length : Int)) = false) (h0 : GoodTo (fun x : Rv => inN x.t) (fun a b => dlt a.k b.k) l l.length) : revsB l = true := by
  rw [revsB_eq, h0.all, Bool.true_and, decide_eq_true_eq]
  simp at h; omega
theorem setW_len (l : List Word) : (setW l).length ≤ l.length := nodup_len _ _ (asc_nodup (setW_asc l)) fun w hw => mem_setW.1 hw
theorem setW_snoc (l : List Word) (w : Word) : setW (l ++ [w]) = addW (setW l) w := by unfold setW; rw [List.foldl_append]; rfl
end Go.Pl
