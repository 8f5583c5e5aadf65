/- Part of a proof: walks of functions of the program, by contracts, and the rules they use. By an AI agent. -/
import Derived.Test.YtenbfeemmpjdhaaGreatHxT4
import Derived.Test.YtenbfeemmpjdhaaGreatHxSb
import Derived.Test.YtenbfeemmpjdhaaGreatPl11h
set_option linter.unusedSimpArgs false
set_option linter.unusedVariables false
set_option linter.defProp false
namespace Go.Proofs.YtenbfeemmpjdhaaGreat
open Go Go.Hl Go.Pl
set_option maxRecDepth 10000
set_option maxHeartbeats 2000000
set_option linter.unusedSimpArgs false
set_option linter.unusedVariables false
def tp (L : List Int) (a : Nat) : CV := .agg [.slc (L.map (.int .i64)), .int .i64 a]
attribute [local simp] tp

theorem next_ok (L : List Int) (a : Nat) (n : Int) (ha : a < 2 ^ 40) (hn : n < 2 ^ 40) : HBox Tryz.prog 6 25 (tp L a) [.int .i64 n] (fun u v' => ∃ (x : Int) (a' : Nat), u = .int .i64 x ∧ v' = tp L a' ∧ a' ≤ a + 1 ∧ 0 ≤ x ∧ (n < 1 → x = 0) ∧ (1 ≤ n → x < n)) := by
 refine hfn_walk Tryz.func6 rfl (by kernel_rfl) (locOk_box _ _ _) (Nat.le_of_ble_eq_true rfl) ?_
 refine hw_seq fun K hK => hw_region (by kernel_rfl) ?_
 simp (maxSteps := 4000000) only [↓sP, sA, tyS, simprocAttr]
 repeat refine AI ?_
 refine hK _ _ _ ?_
 clear hK K
 refine hw_seq fun K hK => ?_
 refine hw_seq fun K hK => hw_region (by kernel_rfl) ?_
 simp (maxSteps := 4000000) only [↓sP, sA, tyS, simprocAttr]
 repeat refine AI ?_
 refine hK _ _ _ ?_
 clear hK K
 refine hw_cond (b := decide (n < 1)) rfl (fun hb => ?_) (fun hb => ?_)
 ·
  refine hw_seq fun K hK => hw_region (by kernel_rfl) ?_
  simp (maxSteps := 4000000) only [↓sP, sA, tyS, simprocAttr]
  repeat refine AI ?_
  refine hK _ _ _ ?_
  clear hK K
  refine hw_ret ?_
  simp (maxSteps := 4000000) only [hpost, Tryz.results6, hresL, hres1, tupOf, ↓sP, sA, tyS, simprocAttr]
  refine hret_box [] (.int .i64 0) (tp L a) rfl rfl ?_ (by simp) ⟨0, a, rfl, rfl, by omega, by omega, fun _ => rfl, fun h => by omega⟩
  simp [HV.close, tp, CV.denil, CV.denilL, denilL_int, HV.norm, HV.toC]
 refine hw_skip ?_
 simp (maxSteps := 4000000) only [↓sP, sA, tyS, simprocAttr]
 repeat refine AI ?_
 refine hK _ _ _ ?_
 clear hK K
 refine hw_seq fun K hK => hw_region (by kernel_rfl) ?_
 simp only [sR, simprocAttr]
 iterate 7
  (refine hlex_step (g := none) rfl rfl fun K' hK' => ?_; simp only [sH, ↓sP, sA, tyS, simprocAttr, tp]; (repeat refine AI ?_); refine hK' _ _ ?_; clear hK' K')
 simp only [sE, ↓reduceIte, simprocAttr]
 repeat refine AI ?_
 refine hK _ _ _ ?_
 clear hK K
 refine hw_seq fun K hK => ?_
 have key : ∀ (v : Int) fr ob nx, Fits 1 fr ob (fin [(0, .ptr 0 0), (1, .c (.int .i64 n)), (5, .c (.int .i64 v))]) (fob [(0, .box 25 (.c (tp L a)))]) 300 → K fr ob nx := by
  intro v fr ob nx hf
  refine hK _ _ _ (hw_fits hf ?_)
  clear hf hK K
  have hn1 : 1 ≤ n := by simp at hb; omega
  have e0 := Int.tmod_lt_of_pos v (b := n) (by omega)
  have e1 : -n < v.tmod n := Int.lt_tmod_of_pos v (by omega)
  refine hw_seq fun K hK => hw_region (by kernel_rfl) ?_
  simp only [sR, simprocAttr]
  iterate 8
   (refine hlex_step (g := none) rfl rfl fun K' hK' => ?_; simp only [sH, ↓sP, sA, tyS, simprocAttr, tp]; (repeat refine AI ?_); refine hK' _ _ ?_; clear hK' K')
  simp only [sE, ↓reduceIte, simprocAttr]
  repeat refine AI ?_
  refine hK _ _ _ ?_
  clear hK K
  refine hw_seq fun K hK => hw_region (by kernel_rfl) ?_
  simp only [sR, simprocAttr]
  iterate 8
   (refine hlex_step (g := none) rfl rfl fun K' hK' => ?_; simp only [sH, ↓sP, sA, tyS, simprocAttr, tp]; (repeat refine AI ?_); refine hK' _ _ ?_; clear hK' K')
  simp only [sE, ↓reduceIte, simprocAttr]
  repeat refine AI ?_
  refine hK _ _ _ ?_
  clear hK K
  refine hw_ret ?_
  simp (maxSteps := 4000000) only [hpost, Tryz.results6, hresL, hres1, tupOf, ↓sP, sA, tyS, simprocAttr]
  have e2 : IntKind.i64.wrap (v.tmod n + n) = v.tmod n + n := IntWalk.i64_in _ (by omega)
  have e3 : IntKind.i64.wrap ((a : Int) + 1) = ((a + 1 : Nat) : Int) := IntWalk.i64_in _ (by omega)
  refine hret_box [] (.int .i64 ((v.tmod n + n).tmod n)) (tp L (a + 1)) (by rw [e2]; rfl) rfl ?_ (by simp) ⟨_, a + 1, rfl, rfl, by omega, Int.tmod_nonneg _ (by omega), fun h => by omega, fun _ => Int.tmod_lt_of_pos _ (by omega)⟩
  simp [HV.close, HV.closeL, tp, CV.denil, CV.denilL, denilL_int, HV.norm, HV.toC, HV.toCL, e3]
 refine hw_seq fun K hK => hw_quiet mixed (by kernel_rfl) (by kernel_rfl) (by kernel_rfl) ?_
 simp only [sR, simprocAttr]
 iterate 10
  (refine hlex_step (g := none) rfl rfl fun K' hK' => ?_; simp only [sH, ↓sP, sA, tyS, simprocAttr, tp]; (repeat refine AI ?_); refine hK' _ _ ?_; clear hK' K')
 simp only [sE, ↓reduceIte, simprocAttr]
 repeat refine AI ?_
 refine hK _ _ _ ?_
 clear hK K
 refine hw_cond (b := decide ((a : Int) < L.length)) rfl (fun hb => ?_) (fun hb => ?_)
 ·
  refine hw_quiet mixed (by kernel_rfl) (by kernel_rfl) (by kernel_rfl) ?_
  simp only [sR, simprocAttr]
  iterate 11
   (refine hlex_step (g := none) rfl rfl fun K' hK' => ?_; simp only [sH, ↓sP, sA, tyS, simprocAttr, tp, Int.natCast_nonneg, (by simpa using hb : (a : Int) < L.length), nth_map (show a < L.length by simpa using hb)]; (repeat refine AI ?_); refine hK' _ _ ?_; clear hK' K')
  simp only [sE, ↓reduceIte, simprocAttr]
  exact key (L[a]'(by simpa using hb)) _ _ _ (fits_fin (by omega) (by simp [FinOk, fin_at, finA_at, upd_at, HV.men, HV.menL, HV.norm, HV.toC, HV.toCL]) (by simp [FobOk, fob_at, upd_at, none0_at, gone, HO.men, HV.men, HV.menL, HV.norm, HV.toC, HV.toCL]))
 refine hw_skip ?_
 simp (maxSteps := 4000000) only [↓sP, sA, tyS, simprocAttr]
 exact key (IntKind.i64.wrap (IntKind.i64.wrap (↑a * 7) + 3)) _ _ _ (fits_fin (by omega) (by simp [FinOk, fin_at, finA_at, upd_at, HV.men, HV.menL, HV.norm, HV.toC, HV.toCL]) (by simp [FobOk, fob_at, upd_at, none0_at, gone, HO.men, HV.men, HV.menL, HV.norm, HV.toC, HV.toCL]))


theorem pick_ok (L : List Int) (a : Nat) (l : List Word) (ha : a < 2 ^ 40) (hl : 1 ≤ l.length ∧ l.length < 2 ^ 40) : HBox Tryz.prog 7 25 (tp L a) [.slc (l.map .str)] (fun u v' => ∃ (w : Word) (a' : Nat), u = .str w ∧ w ∈ l ∧ v' = tp L a' ∧ a' ≤ a + 1) := by
 refine hfn_walk Tryz.func7 rfl (by kernel_rfl) (locOk_box _ _ _) (Nat.le_of_ble_eq_true rfl) ?_
 refine hw_seq fun K hK => hw_region (by kernel_rfl) ?_
 simp (maxSteps := 4000000) only [↓sP, sA, tyS, simprocAttr]
 repeat refine AI ?_
 refine hK _ _ _ ?_
 clear hK K
 refine hw_seq fun K hK => hw_region (by kernel_rfl) ?_
 simp (maxSteps := 4000000) only [↓sP, sA, tyS, simprocAttr]
 refine call_box (args := [_]) (next_ok L a l.length ha (by omega)) rfl (by simp) ⟨rfl, rfl, rfl, rfl⟩ ?_
 rintro u v' ⟨x, a', rfl, rfl, h1, h2, h3, h4⟩
 obtain ⟨i, rfl⟩ : ∃ i : Nat, x = i := ⟨x.toNat, by omega⟩
 have hlt : i < l.length := by omega
 simp only [↓sP, sA, tyS, simprocAttr, Int.natCast_nonneg, Int.ofNat_lt, hlt, nth_map hlt]
 repeat refine AI ?_
 refine hK _ _ _ ?_
 clear hK K
 refine hw_ret ?_
 simp (maxSteps := 4000000) only [hpost, Tryz.results7, hresL, hres1, tupOf, ↓sP, sA, tyS, simprocAttr]
 exact hret_box [] (.str l[i]) (tp L a') rfl rfl (by simp [HV.close, HV.closeL, tp, CV.denil, CV.denilL, denilL_int, HV.norm, HV.toC, HV.toCL]) (by simp) ⟨_, a', rfl, List.getElem_mem _, rfl, h1⟩


theorem bcmp0_ok (a b : List UInt8) : HPure Tryz.prog 90 [.slc (a.map u8), .slc (b.map u8)] (fun v => v = .int .i64 (cmpB a b)) :=
 compare_ok (f := 90) (fn := Tryz.f90) Tryz.func90 (by kernel_rfl) (by kernel_rfl) (by kernel_rfl) (by kernel_rfl) a b

theorem bcmp_ok (a b : List UInt8) : HPure Tryz.prog 62 [.slc (a.map u8), .slc (b.map u8)] (fun v => v = .int .i64 (cmpB a b)) := by
 refine hfn_walk Tryz.func62 rfl (by kernel_rfl) (locOk_nil _) (Nat.le_of_ble_eq_true rfl) ?_
 refine hw_seq fun K hK => hw_region (by kernel_rfl) ?_
 simp (maxSteps := 4000000) only [↓sP, sA, tyS, simprocAttr]
 repeat refine AI ?_
 refine hK _ _ _ ?_
 clear hK K
 refine hw_seq fun K hK => hw_region (by kernel_rfl) ?_
 simp only [sR, simprocAttr]
 iterate 2
  (refine hlex_step (g := none) rfl rfl fun K' hK' => ?_; simp only [sH, ↓sP, sA, tyS, simprocAttr, denilL_u8]; (repeat refine AI ?_); refine hK' _ _ ?_; clear hK' K')
 refine hlex_step (g := none) rfl rfl fun K' hK' => ?_
 simp (maxSteps := 4000000) only [sH, ↓sP, sA, tyS, simprocAttr, denilL_u8]
 refine call_pure (args := [_, _]) (bcmp0_ok a b) ⟨rfl, rfl, rfl, rfl⟩ ?_
 rintro u rfl
 repeat refine AI ?_
 refine hK' _ _ ?_
 clear hK' K'
 refine hlex_step (g := none) rfl rfl fun K' hK' => ?_
 simp (maxSteps := 4000000) only [sH, ↓sP, sA, tyS, simprocAttr, denilL_u8]
 repeat refine AI ?_
 refine hK' _ _ ?_
 clear hK' K'
 simp only [sE, ↓reduceIte, simprocAttr]
 repeat refine AI ?_
 refine hK _ _ _ ?_
 clear hK K
 refine hw_ret ?_
 simp (maxSteps := 4000000) only [hpost, Tryz.results62, hresL, hres1, tupOf, ↓sP, sA, tyS, simprocAttr]
 exact hret_pure [] (.int .i64 _) rfl rfl


theorem order_ok (a b : Dig) : HPure Tryz.prog 30 [dg a, dg b] (fun v => v = .int .i64 (cmpB a.1 b.1)) := by
 refine hfn_walk Tryz.func30 rfl (by kernel_rfl) (locOk_nil _) (Nat.le_of_ble_eq_true rfl) ?_
 refine hw_seq fun K hK => hw_region (by kernel_rfl) ?_
 simp (maxSteps := 4000000) only [↓sP, sA, tyS, simprocAttr]
 repeat refine AI ?_
 refine hK _ _ _ ?_
 clear hK K
 refine hw_freeze 2 0 rfl rfl ?_
 refine hw_freeze 3 4 rfl rfl ?_
 refine hw_seq fun K hK => hw_draw2 mixed [(0, [], []), (1, [], []), (2, [], []), (3, [], [])] [0, 0, 3, 7] (by kernel_rfl) (by kernel_rfl) (by kernel_rfl) (by kernel_rfl) rfl (by kernel_rfl) ?_
 iterate 2
  (refine hwalk2_step (g := none) rfl rfl fun K' hK' => ?_; simp only [sH, ↓sP, sA, tyS, simprocAttr, dg_us, cells_u8, a.2, b.2, denilL_u8, List.drop_zero, dg_take]; (repeat refine AI ?_); refine hK' _ _ ?_; clear hK' K')
 refine hwalk2_step (g := none) rfl rfl fun K' hK' => ?_
 simp (maxSteps := 4000000) only [sH, ↓sP, sA, tyS, simprocAttr, dg_us, cells_u8, a.2, b.2, denilL_u8, List.drop_zero, dg_take]
 refine call_pure (args := [_, _]) (bcmp_ok a.1 b.1) ⟨rfl, rfl, rfl, rfl⟩ ?_
 rintro u rfl
 repeat refine AI ?_
 refine hK' _ _ ?_
 clear hK' K'
 refine hwalk2_step (g := none) rfl rfl fun K' hK' => ?_
 simp (maxSteps := 4000000) only [sH, ↓sP, sA, tyS, simprocAttr, dg_us, cells_u8, a.2, b.2, denilL_u8, List.drop_zero, dg_take]
 repeat refine AI ?_
 refine hK' _ _ ?_
 clear hK' K'
 simp only [sE, ↓reduceIte, simprocAttr]
 repeat refine AI ?_
 refine hK _ _ _ ?_
 clear hK K
 refine hw_ret ?_
 simp (maxSteps := 4000000) only [hpost, Tryz.results30, hresL, hres1, tupOf, ↓sP, sA, tyS, simprocAttr]
 exact hret_pure [] (.int .i64 _) rfl rfl


theorem rname_ok (s : Word) (hl : s.length < 2 ^ 63) : HPure Tryz.prog 50 [.str s] (fun v => v = .bool (nameB s)) := by
 refine hfn_walk Tryz.func50 rfl (by kernel_rfl) (locOk_nil _) (Nat.le_of_ble_eq_true rfl) ?_
 refine hw_seq fun K hK => hw_region (by kernel_rfl) ?_
 simp (maxSteps := 4000000) only [↓sP, sA, tyS, simprocAttr]
 repeat refine AI ?_
 refine hK _ _ _ ?_
 clear hK K
 refine hw_seq fun K hK => ?_
 refine hw_seq fun K hK => ?_
 have key : ∀ (b : Bool) fr ob nx, b = badHead s → Fits 0 fr ob (fin [(0, .c (.str s)), (26, .c (.bool b))]) (fob []) 600 → K fr ob nx := by
  rintro b fr ob nx rfl hf
  refine hK _ _ _ (hw_fits hf ?_)
  clear hf hK K
  refine hw_cond (b := badHead s) rfl (fun hb => ?_) (fun hb => ?_)
  ·
   refine hw_seq fun K hK => hw_region (by kernel_rfl) ?_
   simp (maxSteps := 4000000) only [↓sP, sA, tyS, simprocAttr]
   repeat refine AI ?_
   refine hK _ _ _ ?_
   clear hK K
   refine hw_ret ?_
   simp (maxSteps := 4000000) only [hpost, Tryz.results50, hresL, hres1, tupOf, ↓sP, sA, tyS, simprocAttr]
   exact hret_pure [] (.bool false) rfl (by rw [nameB_head hb])
  refine hw_skip ?_
  simp (maxSteps := 4000000) only [↓sP, sA, tyS, simprocAttr]
  repeat refine AI ?_
  refine hK _ _ _ ?_
  clear hK K
  refine hw_seq fun K hK => ?_
  refine hw_seq fun K hK => hw_region (by kernel_rfl) ?_
  simp (maxSteps := 4000000) only [↓sP, sA, tyS, simprocAttr]
  repeat refine AI ?_
  refine hK _ _ _ ?_
  clear hK K
  refine hw_block ?_
  have hbad := hb
  refine hw_loop (α := {i : Nat // i ≤ s.length ∧ ∀ j (_ : j < i) (h : j < s.length), (alZ s[j] || puZ s[j]) = true}) (fun i => (fin [(0, .c (.str s)), (3, .c (.int .i64 i.1))], fob [])) 100 (fun i => s.length - i.1) ⟨0, by omega, fun j h => by omega⟩ (fits_fin (by omega) (by simp [FinOk, fin_at, finA_at, upd_at, HV.men, HV.menL, HV.norm, HV.toC, HV.toCL]) (by simp [FobOk, fob_at, upd_at, none0_at, gone, HO.men, HV.men, HV.menL, HV.norm, HV.toC, HV.toCL])) ?_
  clear hb
  rintro ⟨i, hi, h0⟩
  refine hw_seq fun K hK => ?_
  refine hw_seq fun K hK => hw_region (by kernel_rfl) ?_
  simp only [sR, simprocAttr]
  iterate 4
   (refine hlex_step (g := none) rfl rfl fun K' hK' => ?_; simp only [sH, ↓sP, sA, tyS, simprocAttr]; (repeat refine AI ?_); refine hK' _ _ ?_; clear hK' K')
  simp only [sE, ↓reduceIte, simprocAttr]
  repeat refine AI ?_
  refine hK _ _ _ ?_
  clear hK K
  refine hw_cond (b := decide ((i : Int) < s.length)) rfl (fun hb => ?_) (fun hb => ?_)
  ·
   have hlt : i < s.length := by simpa using hb
   have hgd : s.getD i 0 = s[i] := by simp [hlt]
   refine hw_skip ?_
   simp (maxSteps := 4000000) only [↓sP, sA, tyS, simprocAttr]
   repeat refine AI ?_
   refine hK _ _ _ ?_
   clear hK K
   refine hw_seq fun K hK => ?_
   refine hw_block ?_
   refine hw_seq fun K hK => hw_region (by kernel_rfl) ?_
   simp only [sR, simprocAttr]
   iterate 4
    (refine hlex_step (g := none) rfl rfl fun K' hK' => ?_; simp only [sH, ↓sP, sA, tyS, simprocAttr, Int.natCast_nonneg, Int.ofNat_lt, hlt, hgd]; (repeat refine AI ?_); refine hK' _ _ ?_; clear hK' K')
   simp only [sE, ↓reduceIte, simprocAttr]
   repeat refine AI ?_
   refine hK _ _ _ ?_
   clear hK K
   refine hw_seq fun K hK => ?_
   have key : ∀ (b : Bool) fr ob nx, b = (!(alZ s[i] || puZ s[i])) → Fits 0 fr ob (fin [(0, .c (.str s)), (3, .c (.int .i64 i)), (62, .c (.bool b))]) (fob []) 600 → K fr ob nx := by
    rintro b fr ob nx rfl hf
    refine hK _ _ _ (hw_fits hf ?_)
    clear hf hK K
    refine hw_cond (b := !(alZ s[i] || puZ s[i])) rfl (fun hb => ?_) (fun hb => ?_)
    ·
     refine hw_seq fun K hK => hw_region (by kernel_rfl) ?_
     simp (maxSteps := 4000000) only [↓sP, sA, tyS, simprocAttr]
     repeat refine AI ?_
     refine hK _ _ _ ?_
     clear hK K
     refine hw_ret ?_
     simp (maxSteps := 4000000) only [hpost, Tryz.results50, hresL, hres1, tupOf, ↓sP, sA, tyS, simprocAttr]
     exact hret_pure [] (.bool false) rfl (by rw [nameB_char hlt (by simpa using hb)])
    refine hw_skip ?_
    simp (maxSteps := 4000000) only [↓sP, sA, tyS, simprocAttr]
    repeat refine AI ?_
    refine hK _ _ _ ?_
    clear hK K
    refine hw_region (by kernel_rfl) ?_
    simp (maxSteps := 4000000) only [↓sP, sA, tyS, simprocAttr, IntWalk.i64_in _ (show -9223372036854775808 ≤ (i : Int) + 1 ∧ (i : Int) + 1 ≤ 9223372036854775807 by omega)]
    refine ⟨⟨i + 1, hlt, fun j hj h' => ?_⟩, fits_fin (by omega) (by simp [FinOk, fin_at, finA_at, upd_at, HV.men, HV.menL, HV.norm, HV.toC, HV.toCL]) (by simp [FobOk, fob_at, upd_at, none0_at, gone, HO.men, HV.men, HV.menL, HV.norm, HV.toC, HV.toCL]), ?_⟩
    ·
     rcases Nat.lt_or_ge j i with h1 | h1
     ·
      exact h0 j h1 h'
     have : j = i := by omega
     subst this
     rw [Bool.not_eq_false'] at hb
     exact hb
    show s.length - (i + 1) < s.length - i
    omega
   refine hw_region (by kernel_rfl) ?_
   simp only [sR, simprocAttr]
   iterate 3
    (refine hlex_step (g := none) rfl rfl fun K' hK' => ?_; simp only [sH, ↓sP, sA, tyS, simprocAttr]; (repeat refine AI ?_); refine hK' _ _ ?_; clear hK' K')
   refine hlex_cases 37 rfl (fun h7_37 => ?_) (fun h7_37 => ?_)
   ·
    iterate 2
     (refine hlex_step (g := some (38, true)) rfl rfl fun K' hK' => ?_; simp only [sH, ↓sP, sA, tyS, simprocAttr, h7_37]; (repeat refine AI ?_); refine hK' _ _ ?_; clear hK' K')
    iterate 2
     (refine hlex_step (g := none) rfl rfl fun K' hK' => ?_; simp only [sH, ↓sP, sA, tyS, simprocAttr, h7_37]; (repeat refine AI ?_); refine hK' _ _ ?_; clear hK' K')
    refine hlex_cases 40 rfl (fun h7_40 => ?_) (fun h7_40 => ?_)
    ·
     iterate 3
      (refine hlex_step (g := some (42, false)) rfl rfl fun K' hK' => ?_; simp only [sH, ↓sP, sA, tyS, simprocAttr, h7_37, h7_40]; (repeat refine AI ?_); refine hK' _ _ ?_; clear hK' K')
     iterate 2
      (refine hlex_step (g := some (45, true)) rfl rfl fun K' hK' => ?_; simp only [sH, ↓sP, sA, tyS, simprocAttr, h7_37, h7_40]; (repeat refine AI ?_); refine hK' _ _ ?_; clear hK' K')
     refine hlex_step (g := some (42, false)) rfl rfl fun K' hK' => ?_
     simp (maxSteps := 4000000) only [sH, ↓sP, sA, tyS, simprocAttr, h7_37, h7_40]
     repeat refine AI ?_
     refine hK' _ _ ?_
     clear hK' K'
     iterate 2
      (refine hlex_step (g := none) rfl rfl fun K' hK' => ?_; simp only [sH, ↓sP, sA, tyS, simprocAttr, h7_37, h7_40]; (repeat refine AI ?_); refine hK' _ _ ?_; clear hK' K')
     iterate 2
      (refine hlex_step (g := some (50, false)) rfl rfl fun K' hK' => ?_; simp only [sH, ↓sP, sA, tyS, simprocAttr, h7_37, h7_40]; (repeat refine AI ?_); refine hK' _ _ ?_; clear hK' K')
     iterate 2
      (refine hlex_step (g := none) rfl rfl fun K' hK' => ?_; simp only [sH, ↓sP, sA, tyS, simprocAttr, h7_37, h7_40]; (repeat refine AI ?_); refine hK' _ _ ?_; clear hK' K')
     iterate 2
      (refine hlex_step (g := some (54, false)) rfl rfl fun K' hK' => ?_; simp only [sH, ↓sP, sA, tyS, simprocAttr, h7_37, h7_40]; (repeat refine AI ?_); refine hK' _ _ ?_; clear hK' K')
     iterate 2
      (refine hlex_step (g := none) rfl rfl fun K' hK' => ?_; simp only [sH, ↓sP, sA, tyS, simprocAttr, h7_37, h7_40]; (repeat refine AI ?_); refine hK' _ _ ?_; clear hK' K')
     iterate 2
      (refine hlex_step (g := some (58, false)) rfl rfl fun K' hK' => ?_; simp only [sH, ↓sP, sA, tyS, simprocAttr, h7_37, h7_40]; (repeat refine AI ?_); refine hK' _ _ ?_; clear hK' K')
     iterate 2
      (refine hlex_step (g := none) rfl rfl fun K' hK' => ?_; simp only [sH, ↓sP, sA, tyS, simprocAttr, h7_37, h7_40]; (repeat refine AI ?_); refine hK' _ _ ?_; clear hK' K')
     simp only [sE, ↓reduceIte, simprocAttr]
     exact key false _ _ _ (by simp only [alZ, puZ, h7_37, h7_40, Bool.and_true, Bool.and_false, Bool.true_and, Bool.false_and, Bool.or_true, Bool.true_or, Bool.false_or, Bool.or_false, Bool.and_self, Bool.or_self, Bool.not_true, Bool.not_false]) (fits_fin (by omega) (by simp [FinOk, fin_at, finA_at, upd_at, HV.men, HV.menL, HV.norm, HV.toC, HV.toCL]) (by simp [FobOk, fob_at, upd_at, none0_at, gone, HO.men, HV.men, HV.menL, HV.norm, HV.toC, HV.toCL]))
    iterate 3
     (refine hlex_step (g := some (42, false)) rfl rfl fun K' hK' => ?_; simp only [sH, ↓sP, sA, tyS, simprocAttr, h7_37, h7_40]; (repeat refine AI ?_); refine hK' _ _ ?_; clear hK' K')
    refine hlex_cases 44 rfl (fun h7_44 => ?_) (fun h7_44 => ?_)
    ·
     iterate 2
      (refine hlex_step (g := some (45, true)) rfl rfl fun K' hK' => ?_; simp only [sH, ↓sP, sA, tyS, simprocAttr, h7_37, h7_40, h7_44]; (repeat refine AI ?_); refine hK' _ _ ?_; clear hK' K')
     refine hlex_step (g := some (42, false)) rfl rfl fun K' hK' => ?_
     simp (maxSteps := 4000000) only [sH, ↓sP, sA, tyS, simprocAttr, h7_37, h7_40, h7_44]
     repeat refine AI ?_
     refine hK' _ _ ?_
     clear hK' K'
     iterate 2
      (refine hlex_step (g := none) rfl rfl fun K' hK' => ?_; simp only [sH, ↓sP, sA, tyS, simprocAttr, h7_37, h7_40, h7_44]; (repeat refine AI ?_); refine hK' _ _ ?_; clear hK' K')
     refine hlex_cases 47 rfl (fun h7_47 => ?_) (fun h7_47 => ?_)
     ·
      iterate 2
       (refine hlex_step (g := some (50, false)) rfl rfl fun K' hK' => ?_; simp only [sH, ↓sP, sA, tyS, simprocAttr, h7_37, h7_40, h7_44, h7_47]; (repeat refine AI ?_); refine hK' _ _ ?_; clear hK' K')
      iterate 2
       (refine hlex_step (g := none) rfl rfl fun K' hK' => ?_; simp only [sH, ↓sP, sA, tyS, simprocAttr, h7_37, h7_40, h7_44, h7_47]; (repeat refine AI ?_); refine hK' _ _ ?_; clear hK' K')
      iterate 2
       (refine hlex_step (g := some (54, false)) rfl rfl fun K' hK' => ?_; simp only [sH, ↓sP, sA, tyS, simprocAttr, h7_37, h7_40, h7_44, h7_47]; (repeat refine AI ?_); refine hK' _ _ ?_; clear hK' K')
      iterate 2
       (refine hlex_step (g := none) rfl rfl fun K' hK' => ?_; simp only [sH, ↓sP, sA, tyS, simprocAttr, h7_37, h7_40, h7_44, h7_47]; (repeat refine AI ?_); refine hK' _ _ ?_; clear hK' K')
      iterate 2
       (refine hlex_step (g := some (58, false)) rfl rfl fun K' hK' => ?_; simp only [sH, ↓sP, sA, tyS, simprocAttr, h7_37, h7_40, h7_44, h7_47]; (repeat refine AI ?_); refine hK' _ _ ?_; clear hK' K')
      iterate 2
       (refine hlex_step (g := none) rfl rfl fun K' hK' => ?_; simp only [sH, ↓sP, sA, tyS, simprocAttr, h7_37, h7_40, h7_44, h7_47]; (repeat refine AI ?_); refine hK' _ _ ?_; clear hK' K')
      simp only [sE, ↓reduceIte, simprocAttr]
      exact key false _ _ _ (by simp only [alZ, puZ, h7_37, h7_40, h7_44, h7_47, Bool.and_true, Bool.and_false, Bool.true_and, Bool.false_and, Bool.or_true, Bool.true_or, Bool.false_or, Bool.or_false, Bool.and_self, Bool.or_self, Bool.not_true, Bool.not_false]) (fits_fin (by omega) (by simp [FinOk, fin_at, finA_at, upd_at, HV.men, HV.menL, HV.norm, HV.toC, HV.toCL]) (by simp [FobOk, fob_at, upd_at, none0_at, gone, HO.men, HV.men, HV.menL, HV.norm, HV.toC, HV.toCL]))
     iterate 2
      (refine hlex_step (g := some (50, false)) rfl rfl fun K' hK' => ?_; simp only [sH, ↓sP, sA, tyS, simprocAttr, h7_37, h7_40, h7_44, h7_47]; (repeat refine AI ?_); refine hK' _ _ ?_; clear hK' K')
     iterate 2
      (refine hlex_step (g := none) rfl rfl fun K' hK' => ?_; simp only [sH, ↓sP, sA, tyS, simprocAttr, h7_37, h7_40, h7_44, h7_47]; (repeat refine AI ?_); refine hK' _ _ ?_; clear hK' K')
     refine hlex_cases 52 rfl (fun h7_52 => ?_) (fun h7_52 => ?_)
     ·
      iterate 2
       (refine hlex_step (g := some (54, false)) rfl rfl fun K' hK' => ?_; simp only [sH, ↓sP, sA, tyS, simprocAttr, h7_37, h7_40, h7_44, h7_47, h7_52]; (repeat refine AI ?_); refine hK' _ _ ?_; clear hK' K')
      iterate 2
       (refine hlex_step (g := none) rfl rfl fun K' hK' => ?_; simp only [sH, ↓sP, sA, tyS, simprocAttr, h7_37, h7_40, h7_44, h7_47, h7_52]; (repeat refine AI ?_); refine hK' _ _ ?_; clear hK' K')
      iterate 2
       (refine hlex_step (g := some (58, false)) rfl rfl fun K' hK' => ?_; simp only [sH, ↓sP, sA, tyS, simprocAttr, h7_37, h7_40, h7_44, h7_47, h7_52]; (repeat refine AI ?_); refine hK' _ _ ?_; clear hK' K')
      iterate 2
       (refine hlex_step (g := none) rfl rfl fun K' hK' => ?_; simp only [sH, ↓sP, sA, tyS, simprocAttr, h7_37, h7_40, h7_44, h7_47, h7_52]; (repeat refine AI ?_); refine hK' _ _ ?_; clear hK' K')
      simp only [sE, ↓reduceIte, simprocAttr]
      exact key false _ _ _ (by simp only [alZ, puZ, h7_37, h7_40, h7_44, h7_47, h7_52, Bool.and_true, Bool.and_false, Bool.true_and, Bool.false_and, Bool.or_true, Bool.true_or, Bool.false_or, Bool.or_false, Bool.and_self, Bool.or_self, Bool.not_true, Bool.not_false]) (fits_fin (by omega) (by simp [FinOk, fin_at, finA_at, upd_at, HV.men, HV.menL, HV.norm, HV.toC, HV.toCL]) (by simp [FobOk, fob_at, upd_at, none0_at, gone, HO.men, HV.men, HV.menL, HV.norm, HV.toC, HV.toCL]))
     iterate 2
      (refine hlex_step (g := some (54, false)) rfl rfl fun K' hK' => ?_; simp only [sH, ↓sP, sA, tyS, simprocAttr, h7_37, h7_40, h7_44, h7_47, h7_52]; (repeat refine AI ?_); refine hK' _ _ ?_; clear hK' K')
     iterate 2
      (refine hlex_step (g := none) rfl rfl fun K' hK' => ?_; simp only [sH, ↓sP, sA, tyS, simprocAttr, h7_37, h7_40, h7_44, h7_47, h7_52]; (repeat refine AI ?_); refine hK' _ _ ?_; clear hK' K')
     refine hlex_cases 56 rfl (fun h7_56 => ?_) (fun h7_56 => ?_)
     ·
      iterate 2
       (refine hlex_step (g := some (58, false)) rfl rfl fun K' hK' => ?_; simp only [sH, ↓sP, sA, tyS, simprocAttr, h7_37, h7_40, h7_44, h7_47, h7_52, h7_56]; (repeat refine AI ?_); refine hK' _ _ ?_; clear hK' K')
      iterate 2
       (refine hlex_step (g := none) rfl rfl fun K' hK' => ?_; simp only [sH, ↓sP, sA, tyS, simprocAttr, h7_37, h7_40, h7_44, h7_47, h7_52, h7_56]; (repeat refine AI ?_); refine hK' _ _ ?_; clear hK' K')
      simp only [sE, ↓reduceIte, simprocAttr]
      exact key false _ _ _ (by simp only [alZ, puZ, h7_37, h7_40, h7_44, h7_47, h7_52, h7_56, Bool.and_true, Bool.and_false, Bool.true_and, Bool.false_and, Bool.or_true, Bool.true_or, Bool.false_or, Bool.or_false, Bool.and_self, Bool.or_self, Bool.not_true, Bool.not_false]) (fits_fin (by omega) (by simp [FinOk, fin_at, finA_at, upd_at, HV.men, HV.menL, HV.norm, HV.toC, HV.toCL]) (by simp [FobOk, fob_at, upd_at, none0_at, gone, HO.men, HV.men, HV.menL, HV.norm, HV.toC, HV.toCL]))
     iterate 2
      (refine hlex_step (g := some (58, false)) rfl rfl fun K' hK' => ?_; simp only [sH, ↓sP, sA, tyS, simprocAttr, h7_37, h7_40, h7_44, h7_47, h7_52, h7_56]; (repeat refine AI ?_); refine hK' _ _ ?_; clear hK' K')
     iterate 2
      (refine hlex_step (g := none) rfl rfl fun K' hK' => ?_; simp only [sH, ↓sP, sA, tyS, simprocAttr, h7_37, h7_40, h7_44, h7_47, h7_52, h7_56]; (repeat refine AI ?_); refine hK' _ _ ?_; clear hK' K')
     refine hlex_cases 60 rfl (fun h7_60 => ?_) (fun h7_60 => ?_)
     ·
      simp only [h7_60]
      simp only [sE, ↓reduceIte, simprocAttr]
      exact key false _ _ _ (by simp only [alZ, puZ, h7_37, h7_40, h7_44, h7_47, h7_52, h7_56, h7_60, Bool.and_true, Bool.and_false, Bool.true_and, Bool.false_and, Bool.or_true, Bool.true_or, Bool.false_or, Bool.or_false, Bool.and_self, Bool.or_self, Bool.not_true, Bool.not_false]) (fits_fin (by omega) (by simp [FinOk, fin_at, finA_at, upd_at, HV.men, HV.menL, HV.norm, HV.toC, HV.toCL]) (by simp [FobOk, fob_at, upd_at, none0_at, gone, HO.men, HV.men, HV.menL, HV.norm, HV.toC, HV.toCL]))
     simp only [h7_60]
     simp only [sE, ↓reduceIte, simprocAttr]
     exact key true _ _ _ (by simp only [alZ, puZ, h7_37, h7_40, h7_44, h7_47, h7_52, h7_56, h7_60, Bool.and_true, Bool.and_false, Bool.true_and, Bool.false_and, Bool.or_true, Bool.true_or, Bool.false_or, Bool.or_false, Bool.and_self, Bool.or_self, Bool.not_true, Bool.not_false]) (fits_fin (by omega) (by simp [FinOk, fin_at, finA_at, upd_at, HV.men, HV.menL, HV.norm, HV.toC, HV.toCL]) (by simp [FobOk, fob_at, upd_at, none0_at, gone, HO.men, HV.men, HV.menL, HV.norm, HV.toC, HV.toCL]))
    iterate 2
     (refine hlex_step (g := some (45, true)) rfl rfl fun K' hK' => ?_; simp only [sH, ↓sP, sA, tyS, simprocAttr, h7_37, h7_40, h7_44]; (repeat refine AI ?_); refine hK' _ _ ?_; clear hK' K')
    refine hlex_step (g := some (42, false)) rfl rfl fun K' hK' => ?_
    simp (maxSteps := 4000000) only [sH, ↓sP, sA, tyS, simprocAttr, h7_37, h7_40, h7_44]
    repeat refine AI ?_
    refine hK' _ _ ?_
    clear hK' K'
    iterate 2
     (refine hlex_step (g := none) rfl rfl fun K' hK' => ?_; simp only [sH, ↓sP, sA, tyS, simprocAttr, h7_37, h7_40, h7_44]; (repeat refine AI ?_); refine hK' _ _ ?_; clear hK' K')
    iterate 2
     (refine hlex_step (g := some (50, false)) rfl rfl fun K' hK' => ?_; simp only [sH, ↓sP, sA, tyS, simprocAttr, h7_37, h7_40, h7_44]; (repeat refine AI ?_); refine hK' _ _ ?_; clear hK' K')
    iterate 2
     (refine hlex_step (g := none) rfl rfl fun K' hK' => ?_; simp only [sH, ↓sP, sA, tyS, simprocAttr, h7_37, h7_40, h7_44]; (repeat refine AI ?_); refine hK' _ _ ?_; clear hK' K')
    refine hlex_cases 52 rfl (fun h7_52 => ?_) (fun h7_52 => ?_)
    ·
     iterate 2
      (refine hlex_step (g := some (54, false)) rfl rfl fun K' hK' => ?_; simp only [sH, ↓sP, sA, tyS, simprocAttr, h7_37, h7_40, h7_44, h7_52]; (repeat refine AI ?_); refine hK' _ _ ?_; clear hK' K')
     iterate 2
      (refine hlex_step (g := none) rfl rfl fun K' hK' => ?_; simp only [sH, ↓sP, sA, tyS, simprocAttr, h7_37, h7_40, h7_44, h7_52]; (repeat refine AI ?_); refine hK' _ _ ?_; clear hK' K')
     iterate 2
      (refine hlex_step (g := some (58, false)) rfl rfl fun K' hK' => ?_; simp only [sH, ↓sP, sA, tyS, simprocAttr, h7_37, h7_40, h7_44, h7_52]; (repeat refine AI ?_); refine hK' _ _ ?_; clear hK' K')
     iterate 2
      (refine hlex_step (g := none) rfl rfl fun K' hK' => ?_; simp only [sH, ↓sP, sA, tyS, simprocAttr, h7_37, h7_40, h7_44, h7_52]; (repeat refine AI ?_); refine hK' _ _ ?_; clear hK' K')
     simp only [sE, ↓reduceIte, simprocAttr]
     exact key false _ _ _ (by simp only [alZ, puZ, h7_37, h7_40, h7_44, h7_52, Bool.and_true, Bool.and_false, Bool.true_and, Bool.false_and, Bool.or_true, Bool.true_or, Bool.false_or, Bool.or_false, Bool.and_self, Bool.or_self, Bool.not_true, Bool.not_false]) (fits_fin (by omega) (by simp [FinOk, fin_at, finA_at, upd_at, HV.men, HV.menL, HV.norm, HV.toC, HV.toCL]) (by simp [FobOk, fob_at, upd_at, none0_at, gone, HO.men, HV.men, HV.menL, HV.norm, HV.toC, HV.toCL]))
    iterate 2
     (refine hlex_step (g := some (54, false)) rfl rfl fun K' hK' => ?_; simp only [sH, ↓sP, sA, tyS, simprocAttr, h7_37, h7_40, h7_44, h7_52]; (repeat refine AI ?_); refine hK' _ _ ?_; clear hK' K')
    iterate 2
     (refine hlex_step (g := none) rfl rfl fun K' hK' => ?_; simp only [sH, ↓sP, sA, tyS, simprocAttr, h7_37, h7_40, h7_44, h7_52]; (repeat refine AI ?_); refine hK' _ _ ?_; clear hK' K')
    refine hlex_cases 56 rfl (fun h7_56 => ?_) (fun h7_56 => ?_)
    ·
     iterate 2
      (refine hlex_step (g := some (58, false)) rfl rfl fun K' hK' => ?_; simp only [sH, ↓sP, sA, tyS, simprocAttr, h7_37, h7_40, h7_44, h7_52, h7_56]; (repeat refine AI ?_); refine hK' _ _ ?_; clear hK' K')
     iterate 2
      (refine hlex_step (g := none) rfl rfl fun K' hK' => ?_; simp only [sH, ↓sP, sA, tyS, simprocAttr, h7_37, h7_40, h7_44, h7_52, h7_56]; (repeat refine AI ?_); refine hK' _ _ ?_; clear hK' K')
     simp only [sE, ↓reduceIte, simprocAttr]
     exact key false _ _ _ (by simp only [alZ, puZ, h7_37, h7_40, h7_44, h7_52, h7_56, Bool.and_true, Bool.and_false, Bool.true_and, Bool.false_and, Bool.or_true, Bool.true_or, Bool.false_or, Bool.or_false, Bool.and_self, Bool.or_self, Bool.not_true, Bool.not_false]) (fits_fin (by omega) (by simp [FinOk, fin_at, finA_at, upd_at, HV.men, HV.menL, HV.norm, HV.toC, HV.toCL]) (by simp [FobOk, fob_at, upd_at, none0_at, gone, HO.men, HV.men, HV.menL, HV.norm, HV.toC, HV.toCL]))
    iterate 2
     (refine hlex_step (g := some (58, false)) rfl rfl fun K' hK' => ?_; simp only [sH, ↓sP, sA, tyS, simprocAttr, h7_37, h7_40, h7_44, h7_52, h7_56]; (repeat refine AI ?_); refine hK' _ _ ?_; clear hK' K')
    iterate 2
     (refine hlex_step (g := none) rfl rfl fun K' hK' => ?_; simp only [sH, ↓sP, sA, tyS, simprocAttr, h7_37, h7_40, h7_44, h7_52, h7_56]; (repeat refine AI ?_); refine hK' _ _ ?_; clear hK' K')
    refine hlex_cases 60 rfl (fun h7_60 => ?_) (fun h7_60 => ?_)
    ·
     simp only [h7_60]
     simp only [sE, ↓reduceIte, simprocAttr]
     exact key false _ _ _ (by simp only [alZ, puZ, h7_37, h7_40, h7_44, h7_52, h7_56, h7_60, Bool.and_true, Bool.and_false, Bool.true_and, Bool.false_and, Bool.or_true, Bool.true_or, Bool.false_or, Bool.or_false, Bool.and_self, Bool.or_self, Bool.not_true, Bool.not_false]) (fits_fin (by omega) (by simp [FinOk, fin_at, finA_at, upd_at, HV.men, HV.menL, HV.norm, HV.toC, HV.toCL]) (by simp [FobOk, fob_at, upd_at, none0_at, gone, HO.men, HV.men, HV.menL, HV.norm, HV.toC, HV.toCL]))
    simp only [h7_60]
    simp only [sE, ↓reduceIte, simprocAttr]
    exact key true _ _ _ (by simp only [alZ, puZ, h7_37, h7_40, h7_44, h7_52, h7_56, h7_60, Bool.and_true, Bool.and_false, Bool.true_and, Bool.false_and, Bool.or_true, Bool.true_or, Bool.false_or, Bool.or_false, Bool.and_self, Bool.or_self, Bool.not_true, Bool.not_false]) (fits_fin (by omega) (by simp [FinOk, fin_at, finA_at, upd_at, HV.men, HV.menL, HV.norm, HV.toC, HV.toCL]) (by simp [FobOk, fob_at, upd_at, none0_at, gone, HO.men, HV.men, HV.menL, HV.norm, HV.toC, HV.toCL]))
   iterate 2
    (refine hlex_step (g := some (38, true)) rfl rfl fun K' hK' => ?_; simp only [sH, ↓sP, sA, tyS, simprocAttr, h7_37]; (repeat refine AI ?_); refine hK' _ _ ?_; clear hK' K')
   iterate 2
    (refine hlex_step (g := none) rfl rfl fun K' hK' => ?_; simp only [sH, ↓sP, sA, tyS, simprocAttr, h7_37]; (repeat refine AI ?_); refine hK' _ _ ?_; clear hK' K')
   iterate 3
    (refine hlex_step (g := some (42, false)) rfl rfl fun K' hK' => ?_; simp only [sH, ↓sP, sA, tyS, simprocAttr, h7_37]; (repeat refine AI ?_); refine hK' _ _ ?_; clear hK' K')
   refine hlex_cases 44 rfl (fun h7_44 => ?_) (fun h7_44 => ?_)
   ·
    iterate 2
     (refine hlex_step (g := some (45, true)) rfl rfl fun K' hK' => ?_; simp only [sH, ↓sP, sA, tyS, simprocAttr, h7_37, h7_44]; (repeat refine AI ?_); refine hK' _ _ ?_; clear hK' K')
    refine hlex_step (g := some (42, false)) rfl rfl fun K' hK' => ?_
    simp (maxSteps := 4000000) only [sH, ↓sP, sA, tyS, simprocAttr, h7_37, h7_44]
    repeat refine AI ?_
    refine hK' _ _ ?_
    clear hK' K'
    iterate 2
     (refine hlex_step (g := none) rfl rfl fun K' hK' => ?_; simp only [sH, ↓sP, sA, tyS, simprocAttr, h7_37, h7_44]; (repeat refine AI ?_); refine hK' _ _ ?_; clear hK' K')
    refine hlex_cases 47 rfl (fun h7_47 => ?_) (fun h7_47 => ?_)
    ·
     iterate 2
      (refine hlex_step (g := some (50, false)) rfl rfl fun K' hK' => ?_; simp only [sH, ↓sP, sA, tyS, simprocAttr, h7_37, h7_44, h7_47]; (repeat refine AI ?_); refine hK' _ _ ?_; clear hK' K')
     iterate 2
      (refine hlex_step (g := none) rfl rfl fun K' hK' => ?_; simp only [sH, ↓sP, sA, tyS, simprocAttr, h7_37, h7_44, h7_47]; (repeat refine AI ?_); refine hK' _ _ ?_; clear hK' K')
     iterate 2
      (refine hlex_step (g := some (54, false)) rfl rfl fun K' hK' => ?_; simp only [sH, ↓sP, sA, tyS, simprocAttr, h7_37, h7_44, h7_47]; (repeat refine AI ?_); refine hK' _ _ ?_; clear hK' K')
     iterate 2
      (refine hlex_step (g := none) rfl rfl fun K' hK' => ?_; simp only [sH, ↓sP, sA, tyS, simprocAttr, h7_37, h7_44, h7_47]; (repeat refine AI ?_); refine hK' _ _ ?_; clear hK' K')
     iterate 2
      (refine hlex_step (g := some (58, false)) rfl rfl fun K' hK' => ?_; simp only [sH, ↓sP, sA, tyS, simprocAttr, h7_37, h7_44, h7_47]; (repeat refine AI ?_); refine hK' _ _ ?_; clear hK' K')
     iterate 2
      (refine hlex_step (g := none) rfl rfl fun K' hK' => ?_; simp only [sH, ↓sP, sA, tyS, simprocAttr, h7_37, h7_44, h7_47]; (repeat refine AI ?_); refine hK' _ _ ?_; clear hK' K')
     simp only [sE, ↓reduceIte, simprocAttr]
     exact key false _ _ _ (by simp only [alZ, puZ, h7_37, h7_44, h7_47, Bool.and_true, Bool.and_false, Bool.true_and, Bool.false_and, Bool.or_true, Bool.true_or, Bool.false_or, Bool.or_false, Bool.and_self, Bool.or_self, Bool.not_true, Bool.not_false]) (fits_fin (by omega) (by simp [FinOk, fin_at, finA_at, upd_at, HV.men, HV.menL, HV.norm, HV.toC, HV.toCL]) (by simp [FobOk, fob_at, upd_at, none0_at, gone, HO.men, HV.men, HV.menL, HV.norm, HV.toC, HV.toCL]))
    iterate 2
     (refine hlex_step (g := some (50, false)) rfl rfl fun K' hK' => ?_; simp only [sH, ↓sP, sA, tyS, simprocAttr, h7_37, h7_44, h7_47]; (repeat refine AI ?_); refine hK' _ _ ?_; clear hK' K')
    iterate 2
     (refine hlex_step (g := none) rfl rfl fun K' hK' => ?_; simp only [sH, ↓sP, sA, tyS, simprocAttr, h7_37, h7_44, h7_47]; (repeat refine AI ?_); refine hK' _ _ ?_; clear hK' K')
    refine hlex_cases 52 rfl (fun h7_52 => ?_) (fun h7_52 => ?_)
    ·
     iterate 2
      (refine hlex_step (g := some (54, false)) rfl rfl fun K' hK' => ?_; simp only [sH, ↓sP, sA, tyS, simprocAttr, h7_37, h7_44, h7_47, h7_52]; (repeat refine AI ?_); refine hK' _ _ ?_; clear hK' K')
     iterate 2
      (refine hlex_step (g := none) rfl rfl fun K' hK' => ?_; simp only [sH, ↓sP, sA, tyS, simprocAttr, h7_37, h7_44, h7_47, h7_52]; (repeat refine AI ?_); refine hK' _ _ ?_; clear hK' K')
     iterate 2
      (refine hlex_step (g := some (58, false)) rfl rfl fun K' hK' => ?_; simp only [sH, ↓sP, sA, tyS, simprocAttr, h7_37, h7_44, h7_47, h7_52]; (repeat refine AI ?_); refine hK' _ _ ?_; clear hK' K')
     iterate 2
      (refine hlex_step (g := none) rfl rfl fun K' hK' => ?_; simp only [sH, ↓sP, sA, tyS, simprocAttr, h7_37, h7_44, h7_47, h7_52]; (repeat refine AI ?_); refine hK' _ _ ?_; clear hK' K')
     simp only [sE, ↓reduceIte, simprocAttr]
     exact key false _ _ _ (by simp only [alZ, puZ, h7_37, h7_44, h7_47, h7_52, Bool.and_true, Bool.and_false, Bool.true_and, Bool.false_and, Bool.or_true, Bool.true_or, Bool.false_or, Bool.or_false, Bool.and_self, Bool.or_self, Bool.not_true, Bool.not_false]) (fits_fin (by omega) (by simp [FinOk, fin_at, finA_at, upd_at, HV.men, HV.menL, HV.norm, HV.toC, HV.toCL]) (by simp [FobOk, fob_at, upd_at, none0_at, gone, HO.men, HV.men, HV.menL, HV.norm, HV.toC, HV.toCL]))
    iterate 2
     (refine hlex_step (g := some (54, false)) rfl rfl fun K' hK' => ?_; simp only [sH, ↓sP, sA, tyS, simprocAttr, h7_37, h7_44, h7_47, h7_52]; (repeat refine AI ?_); refine hK' _ _ ?_; clear hK' K')
    iterate 2
     (refine hlex_step (g := none) rfl rfl fun K' hK' => ?_; simp only [sH, ↓sP, sA, tyS, simprocAttr, h7_37, h7_44, h7_47, h7_52]; (repeat refine AI ?_); refine hK' _ _ ?_; clear hK' K')
    refine hlex_cases 56 rfl (fun h7_56 => ?_) (fun h7_56 => ?_)
    ·
     iterate 2
      (refine hlex_step (g := some (58, false)) rfl rfl fun K' hK' => ?_; simp only [sH, ↓sP, sA, tyS, simprocAttr, h7_37, h7_44, h7_47, h7_52, h7_56]; (repeat refine AI ?_); refine hK' _ _ ?_; clear hK' K')
     iterate 2
      (refine hlex_step (g := none) rfl rfl fun K' hK' => ?_; simp only [sH, ↓sP, sA, tyS, simprocAttr, h7_37, h7_44, h7_47, h7_52, h7_56]; (repeat refine AI ?_); refine hK' _ _ ?_; clear hK' K')
     simp only [sE, ↓reduceIte, simprocAttr]
     exact key false _ _ _ (by simp only [alZ, puZ, h7_37, h7_44, h7_47, h7_52, h7_56, Bool.and_true, Bool.and_false, Bool.true_and, Bool.false_and, Bool.or_true, Bool.true_or, Bool.false_or, Bool.or_false, Bool.and_self, Bool.or_self, Bool.not_true, Bool.not_false]) (fits_fin (by omega) (by simp [FinOk, fin_at, finA_at, upd_at, HV.men, HV.menL, HV.norm, HV.toC, HV.toCL]) (by simp [FobOk, fob_at, upd_at, none0_at, gone, HO.men, HV.men, HV.menL, HV.norm, HV.toC, HV.toCL]))
    iterate 2
     (refine hlex_step (g := some (58, false)) rfl rfl fun K' hK' => ?_; simp only [sH, ↓sP, sA, tyS, simprocAttr, h7_37, h7_44, h7_47, h7_52, h7_56]; (repeat refine AI ?_); refine hK' _ _ ?_; clear hK' K')
    iterate 2
     (refine hlex_step (g := none) rfl rfl fun K' hK' => ?_; simp only [sH, ↓sP, sA, tyS, simprocAttr, h7_37, h7_44, h7_47, h7_52, h7_56]; (repeat refine AI ?_); refine hK' _ _ ?_; clear hK' K')
    refine hlex_cases 60 rfl (fun h7_60 => ?_) (fun h7_60 => ?_)
    ·
     simp only [h7_60]
     simp only [sE, ↓reduceIte, simprocAttr]
     exact key false _ _ _ (by simp only [alZ, puZ, h7_37, h7_44, h7_47, h7_52, h7_56, h7_60, Bool.and_true, Bool.and_false, Bool.true_and, Bool.false_and, Bool.or_true, Bool.true_or, Bool.false_or, Bool.or_false, Bool.and_self, Bool.or_self, Bool.not_true, Bool.not_false]) (fits_fin (by omega) (by simp [FinOk, fin_at, finA_at, upd_at, HV.men, HV.menL, HV.norm, HV.toC, HV.toCL]) (by simp [FobOk, fob_at, upd_at, none0_at, gone, HO.men, HV.men, HV.menL, HV.norm, HV.toC, HV.toCL]))
    simp only [h7_60]
    simp only [sE, ↓reduceIte, simprocAttr]
    exact key true _ _ _ (by simp only [alZ, puZ, h7_37, h7_44, h7_47, h7_52, h7_56, h7_60, Bool.and_true, Bool.and_false, Bool.true_and, Bool.false_and, Bool.or_true, Bool.true_or, Bool.false_or, Bool.or_false, Bool.and_self, Bool.or_self, Bool.not_true, Bool.not_false]) (fits_fin (by omega) (by simp [FinOk, fin_at, finA_at, upd_at, HV.men, HV.menL, HV.norm, HV.toC, HV.toCL]) (by simp [FobOk, fob_at, upd_at, none0_at, gone, HO.men, HV.men, HV.menL, HV.norm, HV.toC, HV.toCL]))
   iterate 2
    (refine hlex_step (g := some (45, true)) rfl rfl fun K' hK' => ?_; simp only [sH, ↓sP, sA, tyS, simprocAttr, h7_37, h7_44]; (repeat refine AI ?_); refine hK' _ _ ?_; clear hK' K')
   refine hlex_step (g := some (42, false)) rfl rfl fun K' hK' => ?_
   simp (maxSteps := 4000000) only [sH, ↓sP, sA, tyS, simprocAttr, h7_37, h7_44]
   repeat refine AI ?_
   refine hK' _ _ ?_
   clear hK' K'
   iterate 2
    (refine hlex_step (g := none) rfl rfl fun K' hK' => ?_; simp only [sH, ↓sP, sA, tyS, simprocAttr, h7_37, h7_44]; (repeat refine AI ?_); refine hK' _ _ ?_; clear hK' K')
   iterate 2
    (refine hlex_step (g := some (50, false)) rfl rfl fun K' hK' => ?_; simp only [sH, ↓sP, sA, tyS, simprocAttr, h7_37, h7_44]; (repeat refine AI ?_); refine hK' _ _ ?_; clear hK' K')
   iterate 2
    (refine hlex_step (g := none) rfl rfl fun K' hK' => ?_; simp only [sH, ↓sP, sA, tyS, simprocAttr, h7_37, h7_44]; (repeat refine AI ?_); refine hK' _ _ ?_; clear hK' K')
   refine hlex_cases 52 rfl (fun h7_52 => ?_) (fun h7_52 => ?_)
   ·
    iterate 2
     (refine hlex_step (g := some (54, false)) rfl rfl fun K' hK' => ?_; simp only [sH, ↓sP, sA, tyS, simprocAttr, h7_37, h7_44, h7_52]; (repeat refine AI ?_); refine hK' _ _ ?_; clear hK' K')
    iterate 2
     (refine hlex_step (g := none) rfl rfl fun K' hK' => ?_; simp only [sH, ↓sP, sA, tyS, simprocAttr, h7_37, h7_44, h7_52]; (repeat refine AI ?_); refine hK' _ _ ?_; clear hK' K')
    iterate 2
     (refine hlex_step (g := some (58, false)) rfl rfl fun K' hK' => ?_; simp only [sH, ↓sP, sA, tyS, simprocAttr, h7_37, h7_44, h7_52]; (repeat refine AI ?_); refine hK' _ _ ?_; clear hK' K')
    iterate 2
     (refine hlex_step (g := none) rfl rfl fun K' hK' => ?_; simp only [sH, ↓sP, sA, tyS, simprocAttr, h7_37, h7_44, h7_52]; (repeat refine AI ?_); refine hK' _ _ ?_; clear hK' K')
    simp only [sE, ↓reduceIte, simprocAttr]
    exact key false _ _ _ (by simp only [alZ, puZ, h7_37, h7_44, h7_52, Bool.and_true, Bool.and_false, Bool.true_and, Bool.false_and, Bool.or_true, Bool.true_or, Bool.false_or, Bool.or_false, Bool.and_self, Bool.or_self, Bool.not_true, Bool.not_false]) (fits_fin (by omega) (by simp [FinOk, fin_at, finA_at, upd_at, HV.men, HV.menL, HV.norm, HV.toC, HV.toCL]) (by simp [FobOk, fob_at, upd_at, none0_at, gone, HO.men, HV.men, HV.menL, HV.norm, HV.toC, HV.toCL]))
   iterate 2
    (refine hlex_step (g := some (54, false)) rfl rfl fun K' hK' => ?_; simp only [sH, ↓sP, sA, tyS, simprocAttr, h7_37, h7_44, h7_52]; (repeat refine AI ?_); refine hK' _ _ ?_; clear hK' K')
   iterate 2
    (refine hlex_step (g := none) rfl rfl fun K' hK' => ?_; simp only [sH, ↓sP, sA, tyS, simprocAttr, h7_37, h7_44, h7_52]; (repeat refine AI ?_); refine hK' _ _ ?_; clear hK' K')
   refine hlex_cases 56 rfl (fun h7_56 => ?_) (fun h7_56 => ?_)
   ·
    iterate 2
     (refine hlex_step (g := some (58, false)) rfl rfl fun K' hK' => ?_; simp only [sH, ↓sP, sA, tyS, simprocAttr, h7_37, h7_44, h7_52, h7_56]; (repeat refine AI ?_); refine hK' _ _ ?_; clear hK' K')
    iterate 2
     (refine hlex_step (g := none) rfl rfl fun K' hK' => ?_; simp only [sH, ↓sP, sA, tyS, simprocAttr, h7_37, h7_44, h7_52, h7_56]; (repeat refine AI ?_); refine hK' _ _ ?_; clear hK' K')
    simp only [sE, ↓reduceIte, simprocAttr]
    exact key false _ _ _ (by simp only [alZ, puZ, h7_37, h7_44, h7_52, h7_56, Bool.and_true, Bool.and_false, Bool.true_and, Bool.false_and, Bool.or_true, Bool.true_or, Bool.false_or, Bool.or_false, Bool.and_self, Bool.or_self, Bool.not_true, Bool.not_false]) (fits_fin (by omega) (by simp [FinOk, fin_at, finA_at, upd_at, HV.men, HV.menL, HV.norm, HV.toC, HV.toCL]) (by simp [FobOk, fob_at, upd_at, none0_at, gone, HO.men, HV.men, HV.menL, HV.norm, HV.toC, HV.toCL]))
   iterate 2
    (refine hlex_step (g := some (58, false)) rfl rfl fun K' hK' => ?_; simp only [sH, ↓sP, sA, tyS, simprocAttr, h7_37, h7_44, h7_52, h7_56]; (repeat refine AI ?_); refine hK' _ _ ?_; clear hK' K')
   iterate 2
    (refine hlex_step (g := none) rfl rfl fun K' hK' => ?_; simp only [sH, ↓sP, sA, tyS, simprocAttr, h7_37, h7_44, h7_52, h7_56]; (repeat refine AI ?_); refine hK' _ _ ?_; clear hK' K')
   refine hlex_cases 60 rfl (fun h7_60 => ?_) (fun h7_60 => ?_)
   ·
    simp only [h7_60]
    simp only [sE, ↓reduceIte, simprocAttr]
    exact key false _ _ _ (by simp only [alZ, puZ, h7_37, h7_44, h7_52, h7_56, h7_60, Bool.and_true, Bool.and_false, Bool.true_and, Bool.false_and, Bool.or_true, Bool.true_or, Bool.false_or, Bool.or_false, Bool.and_self, Bool.or_self, Bool.not_true, Bool.not_false]) (fits_fin (by omega) (by simp [FinOk, fin_at, finA_at, upd_at, HV.men, HV.menL, HV.norm, HV.toC, HV.toCL]) (by simp [FobOk, fob_at, upd_at, none0_at, gone, HO.men, HV.men, HV.menL, HV.norm, HV.toC, HV.toCL]))
   simp only [h7_60]
   simp only [sE, ↓reduceIte, simprocAttr]
   exact key true _ _ _ (by simp only [alZ, puZ, h7_37, h7_44, h7_52, h7_56, h7_60, Bool.and_true, Bool.and_false, Bool.true_and, Bool.false_and, Bool.or_true, Bool.true_or, Bool.false_or, Bool.or_false, Bool.and_self, Bool.or_self, Bool.not_true, Bool.not_false]) (fits_fin (by omega) (by simp [FinOk, fin_at, finA_at, upd_at, HV.men, HV.menL, HV.norm, HV.toC, HV.toCL]) (by simp [FobOk, fob_at, upd_at, none0_at, gone, HO.men, HV.men, HV.menL, HV.norm, HV.toC, HV.toCL]))
  refine hw_exit ?_
  simp (maxSteps := 4000000) only [↓sP, sA, tyS, simprocAttr]
  clear hK K
  repeat refine AI ?_
  refine hK _ _ _ ?_
  clear hK K
  refine hw_seq fun K hK => hw_region (by kernel_rfl) ?_
  simp (maxSteps := 4000000) only [↓sP, sA, tyS, simprocAttr]
  repeat refine AI ?_
  refine hK _ _ _ ?_
  clear hK K
  refine hw_ret ?_
  simp (maxSteps := 4000000) only [hpost, Tryz.results50, hresL, hres1, tupOf, ↓sP, sA, tyS, simprocAttr]
  have hei : i = s.length := by simp at hb; omega
  exact hret_pure [] (.bool true) rfl (by rw [nameB_ref hbad fun j h => h0 j (by omega) h])
 refine hw_region (by kernel_rfl) ?_
 simp only [sR, simprocAttr]
 iterate 3
  (refine hlex_step (g := none) rfl rfl fun K' hK' => ?_; simp only [sH, ↓sP, sA, tyS, simprocAttr, ne_nil]; (repeat refine AI ?_); refine hK' _ _ ?_; clear hK' K')
 refine hlex_cases 6 rfl (fun h1_6 => ?_) (fun h1_6 => ?_)
 ·
  iterate 3
   (refine hlex_step (g := some (7, false)) rfl rfl fun K' hK' => ?_; simp only [sH, ↓sP, sA, tyS, simprocAttr, ne_nil, h1_6]; (repeat refine AI ?_); refine hK' _ _ ?_; clear hK' K')
  iterate 2
   (refine hlex_step (g := none) rfl rfl fun K' hK' => ?_; simp only [sH, ↓sP, sA, tyS, simprocAttr, ne_nil, h1_6]; (repeat refine AI ?_); refine hK' _ _ ?_; clear hK' K')
  iterate 3
   (refine hlex_step (g := some (12, false)) rfl rfl fun K' hK' => ?_; simp only [sH, ↓sP, sA, tyS, simprocAttr, ne_nil, h1_6]; (repeat refine AI ?_); refine hK' _ _ ?_; clear hK' K')
  iterate 2
   (refine hlex_step (g := none) rfl rfl fun K' hK' => ?_; simp only [sH, ↓sP, sA, tyS, simprocAttr, ne_nil, h1_6]; (repeat refine AI ?_); refine hK' _ _ ?_; clear hK' K')
  iterate 3
   (refine hlex_step (g := some (17, false)) rfl rfl fun K' hK' => ?_; simp only [sH, ↓sP, sA, tyS, simprocAttr, ne_nil, h1_6]; (repeat refine AI ?_); refine hK' _ _ ?_; clear hK' K')
  iterate 2
   (refine hlex_step (g := none) rfl rfl fun K' hK' => ?_; simp only [sH, ↓sP, sA, tyS, simprocAttr, ne_nil, h1_6]; (repeat refine AI ?_); refine hK' _ _ ?_; clear hK' K')
  iterate 3
   (refine hlex_step (g := some (22, false)) rfl rfl fun K' hK' => ?_; simp only [sH, ↓sP, sA, tyS, simprocAttr, ne_nil, h1_6]; (repeat refine AI ?_); refine hK' _ _ ?_; clear hK' K')
  refine hlex_step (g := none) rfl rfl fun K' hK' => ?_
  simp (maxSteps := 4000000) only [sH, ↓sP, sA, tyS, simprocAttr, ne_nil, h1_6]
  repeat refine AI ?_
  refine hK' _ _ ?_
  clear hK' K'
  simp only [sE, ↓reduceIte, simprocAttr]
  exact key true _ _ _ (by simp only [badHead, gb, h1_6, Bool.and_true, Bool.and_false, Bool.true_and, Bool.false_and, Bool.or_true, Bool.true_or, Bool.false_or, Bool.or_false, Bool.and_self, Bool.or_self]) (fits_fin (by omega) (by simp [FinOk, fin_at, finA_at, upd_at, HV.men, HV.menL, HV.norm, HV.toC, HV.toCL]) (by simp [FobOk, fob_at, upd_at, none0_at, gone, HO.men, HV.men, HV.menL, HV.norm, HV.toC, HV.toCL]))
 iterate 3
  (refine hlex_step (g := some (7, false)) rfl rfl fun K' hK' => ?_; simp only [sH, ↓sP, sA, tyS, simprocAttr, ne_nil, h1_6]; (repeat refine AI ?_); refine hK' _ _ ?_; clear hK' K')
 iterate 2
  (refine hlex_step (g := none) rfl rfl fun K' hK' => ?_; simp only [sH, ↓sP, sA, tyS, simprocAttr, ne_nil, h1_6]; (repeat refine AI ?_); refine hK' _ _ ?_; clear hK' K')
 refine hlex_cases 10 rfl (fun h1_10 => ?_) (fun h1_10 => ?_)
 ·
  iterate 3
   (refine hlex_step (g := some (12, false)) rfl rfl fun K' hK' => ?_; simp only [sH, ↓sP, sA, tyS, simprocAttr, ne_nil, h1_6, h1_10]; (repeat refine AI ?_); refine hK' _ _ ?_; clear hK' K')
  iterate 2
   (refine hlex_step (g := none) rfl rfl fun K' hK' => ?_; simp only [sH, ↓sP, sA, tyS, simprocAttr, ne_nil, h1_6, h1_10]; (repeat refine AI ?_); refine hK' _ _ ?_; clear hK' K')
  iterate 3
   (refine hlex_step (g := some (17, false)) rfl rfl fun K' hK' => ?_; simp only [sH, ↓sP, sA, tyS, simprocAttr, ne_nil, h1_6, h1_10]; (repeat refine AI ?_); refine hK' _ _ ?_; clear hK' K')
  iterate 2
   (refine hlex_step (g := none) rfl rfl fun K' hK' => ?_; simp only [sH, ↓sP, sA, tyS, simprocAttr, ne_nil, h1_6, h1_10]; (repeat refine AI ?_); refine hK' _ _ ?_; clear hK' K')
  iterate 3
   (refine hlex_step (g := some (22, false)) rfl rfl fun K' hK' => ?_; simp only [sH, ↓sP, sA, tyS, simprocAttr, ne_nil, h1_6, h1_10]; (repeat refine AI ?_); refine hK' _ _ ?_; clear hK' K')
  refine hlex_step (g := none) rfl rfl fun K' hK' => ?_
  simp (maxSteps := 4000000) only [sH, ↓sP, sA, tyS, simprocAttr, ne_nil, h1_6, h1_10]
  repeat refine AI ?_
  refine hK' _ _ ?_
  clear hK' K'
  simp only [sE, ↓reduceIte, simprocAttr]
  exact key true _ _ _ (by simp only [badHead, gb, h1_6, h1_10, Bool.and_true, Bool.and_false, Bool.true_and, Bool.false_and, Bool.or_true, Bool.true_or, Bool.false_or, Bool.or_false, Bool.and_self, Bool.or_self]) (fits_fin (by omega) (by simp [FinOk, fin_at, finA_at, upd_at, HV.men, HV.menL, HV.norm, HV.toC, HV.toCL]) (by simp [FobOk, fob_at, upd_at, none0_at, gone, HO.men, HV.men, HV.menL, HV.norm, HV.toC, HV.toCL]))
 iterate 3
  (refine hlex_step (g := some (12, false)) rfl rfl fun K' hK' => ?_; simp only [sH, ↓sP, sA, tyS, simprocAttr, ne_nil, h1_6, h1_10]; (repeat refine AI ?_); refine hK' _ _ ?_; clear hK' K')
 iterate 2
  (refine hlex_step (g := none) rfl rfl fun K' hK' => ?_; simp only [sH, ↓sP, sA, tyS, simprocAttr, ne_nil, h1_6, h1_10]; (repeat refine AI ?_); refine hK' _ _ ?_; clear hK' K')
 refine hlex_cases 15 rfl (fun h1_15 => ?_) (fun h1_15 => ?_)
 ·
  iterate 3
   (refine hlex_step (g := some (17, false)) rfl rfl fun K' hK' => ?_; simp only [sH, ↓sP, sA, tyS, simprocAttr, ne_nil, h1_6, h1_10, h1_15]; (repeat refine AI ?_); refine hK' _ _ ?_; clear hK' K')
  iterate 2
   (refine hlex_step (g := none) rfl rfl fun K' hK' => ?_; simp only [sH, ↓sP, sA, tyS, simprocAttr, ne_nil, h1_6, h1_10, h1_15]; (repeat refine AI ?_); refine hK' _ _ ?_; clear hK' K')
  iterate 3
   (refine hlex_step (g := some (22, false)) rfl rfl fun K' hK' => ?_; simp only [sH, ↓sP, sA, tyS, simprocAttr, ne_nil, h1_6, h1_10, h1_15]; (repeat refine AI ?_); refine hK' _ _ ?_; clear hK' K')
  refine hlex_step (g := none) rfl rfl fun K' hK' => ?_
  simp (maxSteps := 4000000) only [sH, ↓sP, sA, tyS, simprocAttr, ne_nil, h1_6, h1_10, h1_15]
  repeat refine AI ?_
  refine hK' _ _ ?_
  clear hK' K'
  simp only [sE, ↓reduceIte, simprocAttr]
  exact key true _ _ _ (by simp only [badHead, gb, h1_6, h1_10, h1_15, Bool.and_true, Bool.and_false, Bool.true_and, Bool.false_and, Bool.or_true, Bool.true_or, Bool.false_or, Bool.or_false, Bool.and_self, Bool.or_self]) (fits_fin (by omega) (by simp [FinOk, fin_at, finA_at, upd_at, HV.men, HV.menL, HV.norm, HV.toC, HV.toCL]) (by simp [FobOk, fob_at, upd_at, none0_at, gone, HO.men, HV.men, HV.menL, HV.norm, HV.toC, HV.toCL]))
 iterate 3
  (refine hlex_step (g := some (17, false)) rfl rfl fun K' hK' => ?_; simp only [sH, ↓sP, sA, tyS, simprocAttr, ne_nil, h1_6, h1_10, h1_15]; (repeat refine AI ?_); refine hK' _ _ ?_; clear hK' K')
 iterate 2
  (refine hlex_step (g := none) rfl rfl fun K' hK' => ?_; simp only [sH, ↓sP, sA, tyS, simprocAttr, ne_nil, h1_6, h1_10, h1_15]; (repeat refine AI ?_); refine hK' _ _ ?_; clear hK' K')
 refine hlex_cases 20 rfl (fun h1_20 => ?_) (fun h1_20 => ?_)
 ·
  iterate 3
   (refine hlex_step (g := some (22, false)) rfl rfl fun K' hK' => ?_; simp only [sH, ↓sP, sA, tyS, simprocAttr, ne_nil, h1_6, h1_10, h1_15, h1_20]; (repeat refine AI ?_); refine hK' _ _ ?_; clear hK' K')
  refine hlex_step (g := none) rfl rfl fun K' hK' => ?_
  simp (maxSteps := 4000000) only [sH, ↓sP, sA, tyS, simprocAttr, ne_nil, h1_6, h1_10, h1_15, h1_20]
  repeat refine AI ?_
  refine hK' _ _ ?_
  clear hK' K'
  simp only [sE, ↓reduceIte, simprocAttr]
  exact key true _ _ _ (by simp only [badHead, gb, h1_6, h1_10, h1_15, h1_20, Bool.and_true, Bool.and_false, Bool.true_and, Bool.false_and, Bool.or_true, Bool.true_or, Bool.false_or, Bool.or_false, Bool.and_self, Bool.or_self]) (fits_fin (by omega) (by simp [FinOk, fin_at, finA_at, upd_at, HV.men, HV.menL, HV.norm, HV.toC, HV.toCL]) (by simp [FobOk, fob_at, upd_at, none0_at, gone, HO.men, HV.men, HV.menL, HV.norm, HV.toC, HV.toCL]))
 iterate 3
  (refine hlex_step (g := some (22, false)) rfl rfl fun K' hK' => ?_; simp only [sH, ↓sP, sA, tyS, simprocAttr, ne_nil, h1_6, h1_10, h1_15, h1_20]; (repeat refine AI ?_); refine hK' _ _ ?_; clear hK' K')
 refine hlex_step (g := none) rfl rfl fun K' hK' => ?_
 simp (maxSteps := 4000000) only [sH, ↓sP, sA, tyS, simprocAttr, ne_nil, h1_6, h1_10, h1_15, h1_20]
 repeat refine AI ?_
 refine hK' _ _ ?_
 clear hK' K'
 refine hlex_cases 25 rfl (fun h1_25 => ?_) (fun h1_25 => ?_)
 ·
  simp only [h1_25]
  simp only [sE, ↓reduceIte, simprocAttr]
  exact key true _ _ _ (by simp only [badHead, gb, h1_6, h1_10, h1_15, h1_20, h1_25, Bool.and_true, Bool.and_false, Bool.true_and, Bool.false_and, Bool.or_true, Bool.true_or, Bool.false_or, Bool.or_false, Bool.and_self, Bool.or_self]) (fits_fin (by omega) (by simp [FinOk, fin_at, finA_at, upd_at, HV.men, HV.menL, HV.norm, HV.toC, HV.toCL]) (by simp [FobOk, fob_at, upd_at, none0_at, gone, HO.men, HV.men, HV.menL, HV.norm, HV.toC, HV.toCL]))
 simp only [h1_25]
 simp only [sE, ↓reduceIte, simprocAttr]
 exact key false _ _ _ (by simp only [badHead, gb, h1_6, h1_10, h1_15, h1_20, h1_25, Bool.and_true, Bool.and_false, Bool.true_and, Bool.false_and, Bool.or_true, Bool.true_or, Bool.false_or, Bool.or_false, Bool.and_self, Bool.or_self]) (fits_fin (by omega) (by simp [FinOk, fin_at, finA_at, upd_at, HV.men, HV.menL, HV.norm, HV.toC, HV.toCL]) (by simp [FobOk, fob_at, upd_at, none0_at, gone, HO.men, HV.men, HV.menL, HV.norm, HV.toC, HV.toCL]))


theorem rnames_ok (l : List Word) (hl : l.length < 2 ^ 40) (hw : ∀ w ∈ l, w.length < 2 ^ 63) : HPure Tryz.prog 73 [.slc (l.map .str)] (fun v => v = .bool (namesB l)) := by
 refine hfn_walk Tryz.func73 rfl (by kernel_rfl) (locOk_nil _) (Nat.le_of_ble_eq_true rfl) ?_
 refine hw_seq fun K hK => hw_region (by kernel_rfl) ?_
 simp (maxSteps := 4000000) only [↓sP, sA, tyS, simprocAttr]
 repeat refine AI ?_
 refine hK _ _ _ ?_
 clear hK K
 refine hw_seq fun K hK => ?_
 refine hw_seq fun K hK => hw_region (by kernel_rfl) ?_
 simp (maxSteps := 4000000) only [↓sP, sA, tyS, simprocAttr]
 repeat refine AI ?_
 refine hK _ _ _ ?_
 clear hK K
 refine hw_block ?_
 refine hw_loop (α := {i : Nat // i ≤ l.length ∧ ∀ w ∈ l.take i, nameB w = true}) (fun i => (fin [(0, .c (.slc (l.map .str))), (3, .c (.int .i64 i.1))], fob [])) 100 (fun i => l.length - i.1) ⟨0, by omega, by simp⟩ (fits_fin (by omega) (by simp [FinOk, fin_at, finA_at, upd_at, HV.men, HV.menL, HV.norm, HV.toC, HV.toCL]) (by simp [FobOk, fob_at, upd_at, none0_at, gone, HO.men, HV.men, HV.menL, HV.norm, HV.toC, HV.toCL])) ?_
 rintro ⟨i, hi, h0⟩
 refine hw_seq fun K hK => ?_
 refine hw_seq fun K hK => hw_region (by kernel_rfl) ?_
 simp only [sR, simprocAttr]
 iterate 4
  (refine hlex_step (g := none) rfl rfl fun K' hK' => ?_; simp only [sH, ↓sP, sA, tyS, simprocAttr]; (repeat refine AI ?_); refine hK' _ _ ?_; clear hK' K')
 simp only [sE, ↓reduceIte, simprocAttr]
 repeat refine AI ?_
 refine hK _ _ _ ?_
 clear hK K
 refine hw_cond (b := decide ((i : Int) < l.length)) rfl (fun hb => ?_) (fun hb => ?_)
 ·
  have hlt : i < l.length := by simpa using hb
  refine hw_skip ?_
  simp (maxSteps := 4000000) only [↓sP, sA, tyS, simprocAttr]
  repeat refine AI ?_
  refine hK _ _ _ ?_
  clear hK K
  refine hw_seq fun K hK => ?_
  refine hw_block ?_
  refine hw_seq fun K hK => hw_region (by kernel_rfl) ?_
  simp only [sR, simprocAttr]
  iterate 4
   (refine hlex_step (g := none) rfl rfl fun K' hK' => ?_; simp only [sH, ↓sP, sA, tyS, simprocAttr, Int.natCast_nonneg, Int.ofNat_lt, hlt, nth_map hlt]; (repeat refine AI ?_); refine hK' _ _ ?_; clear hK' K')
  refine hlex_step (g := none) rfl rfl fun K' hK' => ?_
  simp (maxSteps := 4000000) only [sH, ↓sP, sA, tyS, simprocAttr, Int.natCast_nonneg, Int.ofNat_lt, hlt, nth_map hlt]
  refine call_pure (args := [_]) (rname_ok l[i] (hw _ (List.getElem_mem hlt))) ⟨rfl, rfl, rfl, rfl⟩ ?_
  rintro u rfl
  repeat refine AI ?_
  refine hK' _ _ ?_
  clear hK' K'
  refine hlex_step (g := none) rfl rfl fun K' hK' => ?_
  simp (maxSteps := 4000000) only [sH, ↓sP, sA, tyS, simprocAttr, Int.natCast_nonneg, Int.ofNat_lt, hlt, nth_map hlt]
  repeat refine AI ?_
  refine hK' _ _ ?_
  clear hK' K'
  simp only [sE, ↓reduceIte, simprocAttr]
  repeat refine AI ?_
  refine hK _ _ _ ?_
  clear hK K
  refine hw_cond (b := !nameB l[i]) rfl (fun hb => ?_) (fun hb => ?_)
  ·
   refine hw_seq fun K hK => hw_region (by kernel_rfl) ?_
   simp (maxSteps := 4000000) only [↓sP, sA, tyS, simprocAttr]
   repeat refine AI ?_
   refine hK _ _ _ ?_
   clear hK K
   refine hw_ret ?_
   simp (maxSteps := 4000000) only [hpost, Tryz.results73, hresL, hres1, tupOf, ↓sP, sA, tyS, simprocAttr]
   exact hret_pure [] (.bool false) rfl (by rw [namesB_eq, bad_one hlt (by simpa using hb)])
  refine hw_skip ?_
  simp (maxSteps := 4000000) only [↓sP, sA, tyS, simprocAttr]
  repeat refine AI ?_
  refine hK _ _ _ ?_
  clear hK K
  refine hw_region (by kernel_rfl) ?_
  simp (maxSteps := 4000000) only [↓sP, sA, tyS, simprocAttr, IntWalk.i64_in _ (show -9223372036854775808 ≤ (i : Int) + 1 ∧ (i : Int) + 1 ≤ 9223372036854775807 by omega)]
  refine ⟨⟨i + 1, hlt, fun w hw' => ?_⟩, fits_fin (by omega) (by simp [FinOk, fin_at, finA_at, upd_at, HV.men, HV.menL, HV.norm, HV.toC, HV.toCL]) (by simp [FobOk, fob_at, upd_at, none0_at, gone, HO.men, HV.men, HV.menL, HV.norm, HV.toC, HV.toCL]), ?_⟩
  ·
   rw [List.take_succ_eq_append_getElem hlt, List.mem_append, List.mem_singleton] at hw'
   rcases hw' with hw' | rfl
   ·
    exact h0 w hw'
   simpa using hb
  show l.length - (i + 1) < l.length - i
  omega
 refine hw_exit ?_
 simp (maxSteps := 4000000) only [↓sP, sA, tyS, simprocAttr]
 clear hK K
 repeat refine AI ?_
 refine hK _ _ _ ?_
 clear hK K
 refine hw_seq fun K hK => hw_region (by kernel_rfl) ?_
 simp only [sR, simprocAttr]
 refine hlex_step (g := none) rfl rfl fun K' hK' => ?_
 simp (maxSteps := 4000000) only [sH, ↓sP, sA, tyS, simprocAttr]
 repeat refine AI ?_
 refine hK' _ _ ?_
 clear hK' K'
 refine hlex_step (g := none) rfl rfl fun K' hK' => ?_
 simp (maxSteps := 4000000) only [sH, ↓sP, sA, tyS, simprocAttr]
 refine call_pure (args := [_]) (ascending_ok l (by omega)) ⟨rfl, rfl, rfl, rfl⟩ ?_
 rintro u rfl
 repeat refine AI ?_
 refine hK' _ _ ?_
 clear hK' K'
 refine hlex_step (g := none) rfl rfl fun K' hK' => ?_
 simp (maxSteps := 4000000) only [sH, ↓sP, sA, tyS, simprocAttr]
 repeat refine AI ?_
 refine hK' _ _ ?_
 clear hK' K'
 simp only [sE, ↓reduceIte, simprocAttr]
 repeat refine AI ?_
 refine hK _ _ _ ?_
 clear hK K
 refine hw_ret ?_
 simp (maxSteps := 4000000) only [hpost, Tryz.results73, hresL, hres1, tupOf, ↓sP, sA, tyS, simprocAttr]
 have hei : i = l.length := by simp at hb; omega
 subst hei
 refine hret_pure [] (.bool _) rfl ?_
 have : l.all nameB = true := by rw [List.all_eq_true]; simpa using h0
 unfold namesB; rw [this, Bool.true_and]


theorem names_ok (l : List Word) (hl : l.length < 2 ^ 40) (hw : ∀ w ∈ l, w.length < 2 ^ 63) : HPure Tryz.prog 77 [.slc (l.map .str)] (fun v => v = .bool (namesB l)) := by
 refine hfn_walk Tryz.func77 rfl (by kernel_rfl) (locOk_nil _) (Nat.le_of_ble_eq_true rfl) ?_
 refine hw_seq fun K hK => hw_region (by kernel_rfl) ?_
 simp (maxSteps := 4000000) only [↓sP, sA, tyS, simprocAttr]
 repeat refine AI ?_
 refine hK _ _ _ ?_
 clear hK K
 refine hw_seq fun K hK => ?_
 refine hw_seq fun K hK => hw_region (by kernel_rfl) ?_
 simp (maxSteps := 4000000) only [↓sP, sA, tyS, simprocAttr]
 repeat refine AI ?_
 refine hK _ _ _ ?_
 clear hK K
 refine hw_block ?_
 refine hw_loop (α := {i : Nat // i ≤ l.length ∧ GoodTo nameB slt l i}) (fun i => (fin [(0, .c (.slc (l.map .str))), (5, .c (.slc (l.map .str))), (6, .c (.int .i64 l.length)), (7, .c (.int .i64 i.1))], fob [])) 100 (fun i => l.length - i.1) ⟨0, by omega, GoodTo.zero⟩ (fits_fin (by omega) (by simp [FinOk, fin_at, finA_at, upd_at, HV.men, HV.menL, HV.norm, HV.toC, HV.toCL]) (by simp [FobOk, fob_at, upd_at, none0_at, gone, HO.men, HV.men, HV.menL, HV.norm, HV.toC, HV.toCL])) ?_
 rintro ⟨i, hi, h0⟩
 refine hw_seq fun K hK => hw_region (by kernel_rfl) ?_
 simp (maxSteps := 4000000) only [↓sP, sA, tyS, simprocAttr]
 repeat refine AI ?_
 refine hK _ _ _ ?_
 clear hK K
 refine hw_seq fun K hK => ?_
 refine hw_cond (b := decide ((i : Int) < l.length)) rfl (fun hb => ?_) (fun hb => ?_)
 ·
  have hlt : i < l.length := by simpa using hb
  have hi1 : i - 1 < l.length := by omega
  have hm : decide ((0 : Int) < (i : Int)) = true → IntKind.i64.wrap ((i : Int) - 1) = ((i - 1 : Nat) : Int) := fun h => by
   have : 0 < i := by simpa using h
   rw [IntWalk.i64_in _ (by omega)]; omega
  refine hw_skip ?_
  simp (maxSteps := 4000000) only [↓sP, sA, tyS, simprocAttr]
  repeat refine AI ?_
  refine hK _ _ _ ?_
  clear hK K
  refine hw_seq fun K hK => ?_
  refine hw_block ?_
  refine hw_seq fun K hK => hw_region (by kernel_rfl) ?_
  simp only [sR, simprocAttr]
  iterate 5
   (refine hlex_step (g := none) rfl rfl fun K' hK' => ?_; simp only [sH, ↓sP, sA, tyS, simprocAttr, Int.natCast_nonneg, Int.ofNat_lt, hlt, nth_map hlt]; (repeat refine AI ?_); refine hK' _ _ ?_; clear hK' K')
  simp only [sE, ↓reduceIte, simprocAttr]
  repeat refine AI ?_
  refine hK _ _ _ ?_
  clear hK K
  refine hw_seq fun K hK => hw_region (by kernel_rfl) ?_
  simp only [sR, simprocAttr]
  refine hlex_step (g := none) rfl rfl fun K' hK' => ?_
  simp (maxSteps := 4000000) only [sH, ↓sP, sA, tyS, simprocAttr, hm, Int.natCast_nonneg, Int.ofNat_lt, hi1, nth_map hi1]
  repeat refine AI ?_
  refine hK' _ _ ?_
  clear hK' K'
  refine hlex_step (g := none) rfl rfl fun K' hK' => ?_
  simp (maxSteps := 4000000) only [sH, ↓sP, sA, tyS, simprocAttr, hm, Int.natCast_nonneg, Int.ofNat_lt, hi1, nth_map hi1]
  refine call_pure (args := [_]) (name_ok l[i] (hw _ (List.getElem_mem hlt))) ⟨rfl, rfl, rfl, rfl⟩ ?_
  rintro u rfl
  repeat refine AI ?_
  refine hK' _ _ ?_
  clear hK' K'
  iterate 2
   (refine hlex_step (g := none) rfl rfl fun K' hK' => ?_; simp only [sH, ↓sP, sA, tyS, simprocAttr, hm, Int.natCast_nonneg, Int.ofNat_lt, hi1, nth_map hi1]; (repeat refine AI ?_); refine hK' _ _ ?_; clear hK' K')
  refine hlex_cases 13 rfl (fun h4_13 => ?_) (fun h4_13 => ?_)
  ·
   iterate 3
    (refine hlex_step (g := some (15, false)) rfl rfl fun K' hK' => ?_; simp only [sH, ↓sP, sA, tyS, simprocAttr, hm, Int.natCast_nonneg, Int.ofNat_lt, hi1, nth_map hi1, h4_13]; (repeat refine AI ?_); refine hK' _ _ ?_; clear hK' K')
   refine hlex_cases 17 rfl (fun h4_17 => ?_) (fun h4_17 => ?_)
   ·
    iterate 7
     (refine hlex_step (g := some (18, true)) rfl rfl fun K' hK' => ?_; simp only [sH, ↓sP, sA, tyS, simprocAttr, hm, Int.natCast_nonneg, Int.ofNat_lt, hi1, nth_map hi1, h4_13, h4_17]; (repeat refine AI ?_); refine hK' _ _ ?_; clear hK' K')
    refine hlex_step (g := some (15, false)) rfl rfl fun K' hK' => ?_
    simp (maxSteps := 4000000) only [sH, ↓sP, sA, tyS, simprocAttr, hm, Int.natCast_nonneg, Int.ofNat_lt, hi1, nth_map hi1, h4_13, h4_17]
    repeat refine AI ?_
    refine hK' _ _ ?_
    clear hK' K'
    refine hlex_step (g := none) rfl rfl fun K' hK' => ?_
    simp (maxSteps := 4000000) only [sH, ↓sP, sA, tyS, simprocAttr, hm, Int.natCast_nonneg, Int.ofNat_lt, hi1, nth_map hi1, h4_13, h4_17]
    repeat refine AI ?_
    refine hK' _ _ ?_
    clear hK' K'
    refine hlex_cases 25 rfl (fun h4_25 => ?_) (fun h4_25 => ?_)
    ·
     simp only [h4_25]
     simp only [sE, ↓reduceIte, simprocAttr]
     repeat refine AI ?_
     refine hK _ _ _ ?_
     clear hK K
     refine hw_cond (b := true) rfl (fun hb => ?_) (fun hb => ?_)
     ·
      refine hw_seq fun K hK => hw_region (by kernel_rfl) ?_
      simp (maxSteps := 4000000) only [↓sP, sA, tyS, simprocAttr]
      repeat refine AI ?_
      refine hK _ _ _ ?_
      clear hK K
      refine hw_ret ?_
      simp (maxSteps := 4000000) only [hpost, Tryz.results77, hresL, hres1, tupOf, ↓sP, sA, tyS, simprocAttr]
      obtain ⟨j, rfl⟩ : ∃ j, i = j + 1 := ⟨i - 1, by simp at h4_17; omega⟩
      exact hret_pure [] (.bool false) rfl (by rw [namesB_eq, bad_two (i := j) hlt (by simpa using h4_25)])
     cases hb
    simp only [h4_25]
    simp only [sE, ↓reduceIte, simprocAttr]
    repeat refine AI ?_
    refine hK _ _ _ ?_
    clear hK K
    refine hw_cond (b := false) rfl (fun hb => ?_) (fun hb => ?_)
    ·
     cases hb
    refine hw_skip ?_
    simp (maxSteps := 4000000) only [↓sP, sA, tyS, simprocAttr]
    repeat refine AI ?_
    refine hK _ _ _ ?_
    clear hK K
    refine hw_region (by kernel_rfl) ?_
    simp (maxSteps := 4000000) only [↓sP, sA, tyS, simprocAttr, IntWalk.i64_in _ (show -9223372036854775808 ≤ (i : Int) + 1 ∧ (i : Int) + 1 ≤ 9223372036854775807 by omega)]
    obtain ⟨j, rfl⟩ : ∃ j, i = j + 1 := ⟨i - 1, by simp at h4_17; omega⟩
    refine ⟨⟨j + 1 + 1, hlt, h0.succ hlt h4_13 (by simpa using h4_25)⟩, fits_fin (by omega) (by simp [FinOk, fin_at, finA_at, upd_at, HV.men, HV.menL, HV.norm, HV.toC, HV.toCL]) (by simp [FobOk, fob_at, upd_at, none0_at, gone, HO.men, HV.men, HV.menL, HV.norm, HV.toC, HV.toCL]), ?_⟩
    show l.length - (j + 1 + 1) < l.length - (j + 1)
    omega
   iterate 7
    (refine hlex_step (g := some (18, true)) rfl rfl fun K' hK' => ?_; simp only [sH, ↓sP, sA, tyS, simprocAttr, hm, Int.natCast_nonneg, Int.ofNat_lt, hi1, nth_map hi1, h4_13, h4_17]; (repeat refine AI ?_); refine hK' _ _ ?_; clear hK' K')
   refine hlex_step (g := some (15, false)) rfl rfl fun K' hK' => ?_
   simp (maxSteps := 4000000) only [sH, ↓sP, sA, tyS, simprocAttr, hm, Int.natCast_nonneg, Int.ofNat_lt, hi1, nth_map hi1, h4_13, h4_17]
   repeat refine AI ?_
   refine hK' _ _ ?_
   clear hK' K'
   refine hlex_step (g := none) rfl rfl fun K' hK' => ?_
   simp (maxSteps := 4000000) only [sH, ↓sP, sA, tyS, simprocAttr, hm, Int.natCast_nonneg, Int.ofNat_lt, hi1, nth_map hi1, h4_13, h4_17]
   repeat refine AI ?_
   refine hK' _ _ ?_
   clear hK' K'
   simp only [sE, ↓reduceIte, simprocAttr]
   repeat refine AI ?_
   refine hK _ _ _ ?_
   clear hK K
   refine hw_cond (b := false) rfl (fun hb => ?_) (fun hb => ?_)
   ·
    cases hb
   refine hw_skip ?_
   simp (maxSteps := 4000000) only [↓sP, sA, tyS, simprocAttr]
   repeat refine AI ?_
   refine hK _ _ _ ?_
   clear hK K
   refine hw_region (by kernel_rfl) ?_
   simp (maxSteps := 4000000) only [↓sP, sA, tyS, simprocAttr, IntWalk.i64_in _ (show -9223372036854775808 ≤ (i : Int) + 1 ∧ (i : Int) + 1 ≤ 9223372036854775807 by omega)]
   obtain rfl : i = 0 := by simp at h4_17; omega
   refine ⟨⟨1, hlt, GoodTo.one hlt h4_13⟩, fits_fin (by omega) (by simp [FinOk, fin_at, finA_at, upd_at, HV.men, HV.menL, HV.norm, HV.toC, HV.toCL]) (by simp [FobOk, fob_at, upd_at, none0_at, gone, HO.men, HV.men, HV.menL, HV.norm, HV.toC, HV.toCL]), ?_⟩
   show l.length - 1 < l.length - 0
   omega
  iterate 3
   (refine hlex_step (g := some (15, false)) rfl rfl fun K' hK' => ?_; simp only [sH, ↓sP, sA, tyS, simprocAttr, hm, Int.natCast_nonneg, Int.ofNat_lt, hi1, nth_map hi1, h4_13]; (repeat refine AI ?_); refine hK' _ _ ?_; clear hK' K')
  iterate 7
   (refine hlex_step (g := some (18, true)) rfl rfl fun K' hK' => ?_; simp only [sH, ↓sP, sA, tyS, simprocAttr, hm, Int.natCast_nonneg, Int.ofNat_lt, hi1, nth_map hi1, h4_13]; (repeat refine AI ?_); refine hK' _ _ ?_; clear hK' K')
  refine hlex_step (g := some (15, false)) rfl rfl fun K' hK' => ?_
  simp (maxSteps := 4000000) only [sH, ↓sP, sA, tyS, simprocAttr, hm, Int.natCast_nonneg, Int.ofNat_lt, hi1, nth_map hi1, h4_13]
  repeat refine AI ?_
  refine hK' _ _ ?_
  clear hK' K'
  refine hlex_step (g := none) rfl rfl fun K' hK' => ?_
  simp (maxSteps := 4000000) only [sH, ↓sP, sA, tyS, simprocAttr, hm, Int.natCast_nonneg, Int.ofNat_lt, hi1, nth_map hi1, h4_13]
  repeat refine AI ?_
  refine hK' _ _ ?_
  clear hK' K'
  simp only [sE, ↓reduceIte, simprocAttr]
  repeat refine AI ?_
  refine hK _ _ _ ?_
  clear hK K
  refine hw_cond (b := true) rfl (fun hb => ?_) (fun hb => ?_)
  ·
   refine hw_seq fun K hK => hw_region (by kernel_rfl) ?_
   simp (maxSteps := 4000000) only [↓sP, sA, tyS, simprocAttr]
   repeat refine AI ?_
   refine hK _ _ _ ?_
   clear hK K
   refine hw_ret ?_
   simp (maxSteps := 4000000) only [hpost, Tryz.results77, hresL, hres1, tupOf, ↓sP, sA, tyS, simprocAttr]
   exact hret_pure [] (.bool false) rfl (by rw [namesB_eq, bad_one hlt h4_13])
  cases hb
 refine hw_exit ?_
 simp (maxSteps := 4000000) only [↓sP, sA, tyS, simprocAttr]
 clear hK K
 repeat refine AI ?_
 refine hK _ _ _ ?_
 clear hK K
 refine hw_seq fun K hK => hw_region (by kernel_rfl) ?_
 simp (maxSteps := 4000000) only [↓sP, sA, tyS, simprocAttr]
 repeat refine AI ?_
 refine hK _ _ _ ?_
 clear hK K
 refine hw_ret ?_
 simp (maxSteps := 4000000) only [hpost, Tryz.results77, hresL, hres1, tupOf, ↓sP, sA, tyS, simprocAttr]
 have hei : i = l.length := by simp at hb; omega
 subst hei
 exact hret_pure [] (.bool true) rfl (by rw [namesB_eq, h0.all])

end Go.Proofs.YtenbfeemmpjdhaaGreat
