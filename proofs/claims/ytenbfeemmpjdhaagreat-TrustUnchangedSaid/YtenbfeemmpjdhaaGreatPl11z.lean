/- Plain Lean: sorted numbers, one of each; the times of keys; between two of them nothing changes. By an AI agent. -/
import Derived.Test.YtenbfeemmpjdhaaGreatPl11m
import Derived.Test.YtenbfeemmpjdhaaGreatHlSo
import Derived.Test.YtenbfeemmpjdhaaGreatHxTf
import Derived.Test.YtenbfeemmpjdhaaGreatHxSb
import Derived.Sort.Grow
import Derived.Sort.EncStr
set_option linter.unusedSimpArgs false
set_option linter.unusedVariables false
set_option linter.defProp false
namespace Go.Pl
open Go Go.Hl

theorem insK_eq {l : List Ky} {k : Ky} {i : Nat} (hi : i ≤ l.length) (h0 : ∀ x ∈ l.take i, dlt (kid x) (kid k) = true) (h1 : ∀ h : i < l.length, dlt (kid l[i]) (kid k) = false) : l.take i ++ k :: l.drop i = insK l k := by
  have key : ∀ (l : List Ky) (i : Nat), i ≤ l.length → (∀ x ∈ l.take i, dlt (kid x) (kid k) = true) → (∀ h : i < l.length, dlt (kid l[i]) (kid k) = false) → (l.takeWhile fun x => dlt (kid x) (kid k)) = l.take i ∧ (l.dropWhile fun x => dlt (kid x) (kid k)) = l.drop i := by
    intro l
    induction l with
    | nil => intro i hi _ _; simp at hi; subst hi; exact ⟨rfl, rfl⟩
    | cons a l ih =>
      intro i hi h0 h1
      cases i with
      | zero =>
        have := h1 (by simp)
        simp only [List.getElem_cons_zero] at this
        simp [List.takeWhile_cons, List.dropWhile_cons, this]
      | succ i =>
        have ha := h0 a (by simp)
        obtain ⟨e1, e2⟩ := ih i (by simpa using hi) (fun x hx => h0 x (by simp [hx])) (fun h => h1 (by simpa using h))
        simp [List.takeWhile_cons, List.dropWhile_cons, ha, e1, e2]
  obtain ⟨e1, e2⟩ := key l i hi h0 h1
  unfold insK
  rw [e1, e2]
theorem insK_len (l : List Ky) (k : Ky) : (insK l k).length = l.length + 1 := by
  unfold insK
  have := congrArg List.length (List.takeWhile_append_dropWhile (p := fun x => dlt (kid x) (kid k)) (l := l))
  simp only [List.length_append, List.length_cons] at this ⊢
  omega
theorem insK_mem {l : List Ky} {k x : Ky} (h : x ∈ insK l k) : x ∈ l ∨ x = k := by
  unfold insK at h
  simp only [List.mem_append, List.mem_cons] at h
  rcases h with h | h | h
  · exact .inl ((List.takeWhile_sublist _).subset h)
  · exact .inr h
  · exact .inl ((List.dropWhile_sublist _).subset h)
theorem u8_nat (n : Nat) : IntKind.u8.wrap (n : Int) = ((UInt8.ofNat n).toNat : Int) := by
  rw [IntKind.wrap_u8, UInt8.toNat_ofNat']; omega
theorem hbuild_hf2 {n bytes : Nat} {d : TyD} {a b : Operand} {e : Operand → HV} {K : HV → Prop} (x y : UInt8) (ha : e a = .c (.int .u8 (x.toNat : Int))) (hb : e b = .c (.int .u8 (y.toNat : Int))) : hbuild ⟨n, bytes, d, hf zh⟩ [(0, a), (1, b)] e K = K (.c (hf ⟨[x, y] ++ List.replicate 14 0, by simp⟩)) := by
  have e1 : hfill e [(0, a), (1, b)] (((List.replicate 16 (0 : UInt8)).map u8).map .c) = some ((([x, y] ++ List.replicate 14 0).map u8).map .c) := by
    simp only [hfill, ha, hb]
    rfl
  simp only [hbuild, hf, zh, e1, hlift_some]
  rw [norm_cs]
theorem hbuild_pk {n bytes : Nat} {d : TyD} {a b : Operand} {e : Operand → HV} {K : HV → Prop} (h : Int) (r : Half) (ha : e a = .c (.int .i64 h)) (hb : e b = .c (hf r)) : hbuild ⟨n, bytes, d, Pk.cv ⟨0, zh⟩⟩ [(0, a), (1, b)] e K = K (.c (Pk.cv ⟨h, r⟩)) := by
  have e1 : hfill e [(0, a), (1, b)] ([CV.int .i64 0, hf zh].map .c) = some [.c (.int .i64 h), .c (hf r)] := by
    simp [hfill, ha, hb, HV.sto, HV.cells, CV.cells, hf_cells]
  simp only [hbuild, Pk.cv, e1, hlift_some]
  rfl
theorem hbuild_qt {n bytes : Nat} {d : TyD} {a b : Operand} {e : Operand → HV} {K : HV → Prop} (w : Word) (k : Int) (ha : e a = .c (.str w)) (hb : e b = .c (.int .i64 k)) : hbuild ⟨n, bytes, d, Qt.cv ⟨[], 0⟩⟩ [(0, a), (1, b)] e K = K (.c (Qt.cv ⟨w, k⟩)) := by
  have e1 : hfill e [(0, a), (1, b)] ([CV.str [], CV.int .i64 0].map .c) = some [.c (.str w), .c (.int .i64 k)] := by
    simp [hfill, ha, hb, HV.sto, HV.cells, CV.cells]
  simp only [hbuild, Qt.cv, e1, hlift_some]
  rfl
theorem cells_ky {l : List Ky} : (∀ v ∈ l.map Ky.cv, v.cells = 21) ↔ True := iff_true_intro fun v h => by obtain ⟨d, _, rfl⟩ := List.mem_map.1 h; exact Ky.cells d
theorem roles_short : ∀ w ∈ roles10, w.length ≤ 20 := by decide
theorem owners_short : ∀ w ∈ owners4, w.length ≤ 20 := by decide
theorem mOwner_mem (i : Nat) : mOwner i ∈ owners4 := by
  unfold mOwner
  have : i % 4 < 4 := Nat.mod_lt _ (by omega)
  rw [List.getD_eq_getElem?_getD, List.getElem?_eq_getElem (show i % 4 < owners4.length from this)]
  exact List.getElem_mem _
theorem step_mem : wStep ∈ roles10 := by decide
end Go.Pl

namespace Go.Proofs.YtenbfeemmpjdhaaGreat
open Go Go.Hl Go.Pl
set_option maxRecDepth 10000
set_option maxHeartbeats 4000000
set_option linter.unusedSimpArgs false
set_option linter.unusedVariables false
attribute [local simp] tp

theorem public_ok (i : Nat) (hi : i < 2 ^ 40) : HPure Tryz.prog 19 [.int .i64 i] (fun v => v = (mPub i).cv) := by
 have m1 : (i : Int).tmod 3 = ((i % 3 : Nat) : Int) := rfl
 have m2 : IntKind.i64.wrap ((i : Int) + 1) = ((i + 1 : Nat) : Int) := by rw [IntWalk.i64_in _ (by omega)]; omega
 have m3 := u8_nat (i + 1)
 refine hfn_walk Tryz.func19 rfl (by kernel_rfl) (locOk_nil _) (Nat.le_of_ble_eq_true rfl) ?_
 refine hw_seq fun K hK => hw_region (by kernel_rfl) ?_
 simp (maxSteps := 4000000) only [↓sP, sA, tyS, simprocAttr]
 repeat refine AI ?_
 refine hK _ _ _ ?_
 clear hK K
 refine hw_seq fun K hK => hw_region (by kernel_rfl) ?_
 simp only [sR, simprocAttr]
 iterate 5
  (refine hlex_step (g := none) rfl rfl fun K' hK' => ?_; simp only [sH, ↓sP, sA, tyS, simprocAttr, m1, m2, m3]; (repeat refine AI ?_); refine hK' _ _ ?_; clear hK' K')
 refine hlex_step (g := none) rfl rfl fun K' hK' => ?_
 simp (maxSteps := 4000000) only [sH, ↓sP, sA, tyS, simprocAttr, m1, m2, m3]
 rw [hbuild_hf2 (UInt8.ofNat (i + 1)) 77 rfl rfl]
 repeat refine AI ?_
 refine hK' _ _ ?_
 clear hK' K'
 refine hlex_step (g := none) rfl rfl fun K' hK' => ?_
 simp (maxSteps := 4000000) only [sH, ↓sP, sA, tyS, simprocAttr, m1, m2, m3]
 rw [hbuild_pk _ _ rfl rfl]
 repeat refine AI ?_
 refine hK' _ _ ?_
 clear hK' K'
 refine hlex_step (g := none) rfl rfl fun K' hK' => ?_
 simp (maxSteps := 4000000) only [sH, ↓sP, sA, tyS, simprocAttr, m1, m2, m3]
 repeat refine AI ?_
 refine hK' _ _ ?_
 clear hK' K'
 simp only [sE, ↓reduceIte, simprocAttr]
 repeat refine AI ?_
 refine hK _ _ _ ?_
 clear hK K
 refine hw_ret ?_
 simp (maxSteps := 4000000) only [hpost, Tryz.results19, hresL, hres1, tupOf, ↓sP, sA, tyS, simprocAttr]
 exact hret_pure [] (mPub i).cv rfl rfl


theorem mid_ok (i : Nat) (hi : i < 2 ^ 40) : HPure Tryz.prog 23 [.int .i64 i] (fun v => v = dg (mid i)) := by
 refine hfn_walk Tryz.func23 rfl (by kernel_rfl) (locOk_nil _) (Nat.le_of_ble_eq_true rfl) ?_
 refine hw_seq fun K hK => hw_region (by kernel_rfl) ?_
 simp (maxSteps := 4000000) only [↓sP, sA, tyS, simprocAttr]
 repeat refine AI ?_
 refine hK _ _ _ ?_
 clear hK K
 refine hw_seq fun K hK => hw_region (by kernel_rfl) ?_
 simp only [sR, simprocAttr]
 refine hlex_step (g := none) rfl rfl fun K' hK' => ?_
 simp (maxSteps := 4000000) only [sH, ↓sP, sA, tyS, simprocAttr]
 repeat refine AI ?_
 refine hK' _ _ ?_
 clear hK' K'
 refine hlex_step (g := none) rfl rfl fun K' hK' => ?_
 simp (maxSteps := 4000000) only [sH, ↓sP, sA, tyS, simprocAttr]
 refine call_pure (args := [_]) (public_ok i hi) ⟨rfl, rfl, rfl, rfl⟩ ?_
 rintro u rfl
 repeat refine AI ?_
 refine hK' _ _ ?_
 clear hK' K'
 refine hlex_step (g := none) rfl rfl fun K' hK' => ?_
 simp (maxSteps := 4000000) only [sH, ↓sP, sA, tyS, simprocAttr]
 refine call_pure (args := [_]) (rid_ok (mPub i)) ⟨rfl, rfl, rfl, rfl⟩ ?_
 rintro u rfl
 repeat refine AI ?_
 refine hK' _ _ ?_
 clear hK' K'
 refine hlex_step (g := none) rfl rfl fun K' hK' => ?_
 simp (maxSteps := 4000000) only [sH, ↓sP, sA, tyS, simprocAttr]
 repeat refine AI ?_
 refine hK' _ _ ?_
 clear hK' K'
 simp only [sE, ↓reduceIte, simprocAttr]
 repeat refine AI ?_
 refine hK _ _ _ ?_
 clear hK K
 refine hw_ret ?_
 simp (maxSteps := 4000000) only [hpost, Tryz.results23, hresL, hres1, tupOf, ↓sP, sA, tyS, simprocAttr]
 exact hret_pure [] (dg (mid i)) rfl rfl


theorem insert_ok (l : List Ky) (k : Ky) (hl : l.length < 2 ^ 40) : HPure Tryz.prog 18 [.slc (l.map Ky.cv), k.cv] (fun v => v = .slc ((insK l k).map Ky.cv)) := by
 refine hfn_walk Tryz.func18 rfl (by kernel_rfl) (locOk_nil _) (Nat.le_of_ble_eq_true rfl) ?_
 refine hw_seq fun K hK => hw_region (by kernel_rfl) ?_
 simp (maxSteps := 4000000) only [↓sP, sA, tyS, simprocAttr]
 repeat refine AI ?_
 refine hK _ _ _ ?_
 clear hK K
 refine hw_seq fun K hK => hw_region (by kernel_rfl) ?_
 simp (maxSteps := 4000000) only [↓sP, sA, tyS, simprocAttr]
 repeat refine AI ?_
 refine hK _ _ _ ?_
 clear hK K
 refine hw_seq fun K hK => hw_region (by kernel_rfl) ?_
 simp (maxSteps := 4000000) only [↓sP, sA, tyS, simprocAttr]
 repeat refine AI ?_
 refine hK _ _ _ ?_
 clear hK K
 refine hw_seq fun K hK => ?_
 refine hw_block ?_
 refine hw_own 5 0 62 21 rfl rfl rfl rfl ?_
 refine hw_loop (α := {i : Nat // i ≤ l.length ∧ ∀ x ∈ l.take i, dlt (kid x) (kid k) = true}) (fun i => (fin [(0, .c (.slc (l.map Ky.cv))), (3, .ptr 0 0), (5, .own 16 i.1), (6, .c (.int .i64 i.1))], fob [(0, .box 62 (.c k.cv)), (16, .row 62 21 ((l.take i.1).map Ky.cv))])) 100 (fun i => l.length - i.1) ⟨0, by omega, by simp⟩ (fits_fin (by omega) (by simp [FinOk, fin_at, finA_at, upd_at, HV.men, HV.menL, HV.norm, HV.toC, HV.toCL]) (by simp [FobOk, fob_at, upd_at, none0_at, gone, HO.men, HV.men, HV.menL, HV.norm, HV.toC, HV.toCL])) ?_
 rintro ⟨i, hi, h0⟩
 have hti : (l.take i).length = i := by simp; omega
 refine hw_seq fun K hK => ?_
 by_cases hlt : i < l.length
 ·
  refine hw_seq fun K hK => hw_draw2 mixed [(0, [], []), (1, [], []), (2, [], []), (3, [], []), (4, [], []), (5, [], []), (6, [], []), (7, [], []), (8, [], []), (9, [], []), (11, [], []), (12, [], []), (10, [], [11, 12]), (13, [], []), (14, [], []), (15, [], [])] [0, 0, 2, 7, 15, 31, 31, 127, 255, 511, 1023, 31, 2079, 8191, 16383, 32767] (by kernel_rfl) (by kernel_rfl) (by kernel_rfl) (by kernel_rfl) rfl (by kernel_rfl) ?_
  iterate 5
   (refine hwalk2_step (g := none) rfl rfl fun K' hK' => ?_; simp only [sH, ↓sP, sA, tyS, simprocAttr, Int.natCast_nonneg, Int.ofNat_lt, hlt, nth_map hlt]; (repeat refine AI ?_); refine hK' _ _ ?_; clear hK' K')
  iterate 7
   (refine hwalk2_step (g := some (11, true)) rfl rfl fun K' hK' => ?_; simp only [sH, ↓sP, sA, tyS, simprocAttr, Int.natCast_nonneg, Int.ofNat_lt, hlt, nth_map hlt]; (repeat refine AI ?_); refine hK' _ _ ?_; clear hK' K')
  refine hwalk2_step (g := some (11, true)) rfl rfl fun K' hK' => ?_
  simp (maxSteps := 4000000) only [sH, ↓sP, sA, tyS, simprocAttr, Int.natCast_nonneg, Int.ofNat_lt, hlt, nth_map hlt]
  refine call_pure (args := [_]) (rid_ok l[i].p) ⟨rfl, rfl, rfl, rfl⟩ ?_
  rintro u rfl
  repeat refine AI ?_
  refine hK' _ _ ?_
  clear hK' K'
  refine hwalk2_step (g := some (11, true)) rfl rfl fun K' hK' => ?_
  simp (maxSteps := 4000000) only [sH, ↓sP, sA, tyS, simprocAttr, Int.natCast_nonneg, Int.ofNat_lt, hlt, nth_map hlt]
  refine call_pure (args := [_]) (rid_ok k.p) ⟨rfl, rfl, rfl, rfl⟩ ?_
  rintro u rfl
  repeat refine AI ?_
  refine hK' _ _ ?_
  clear hK' K'
  refine hwalk2_step (g := some (11, true)) rfl rfl fun K' hK' => ?_
  simp (maxSteps := 4000000) only [sH, ↓sP, sA, tyS, simprocAttr, Int.natCast_nonneg, Int.ofNat_lt, hlt, nth_map hlt]
  refine call_pure (args := [_, _]) (less_ok (kid l[i]) (kid k)) ⟨rfl, rfl, rfl, rfl⟩ ?_
  rintro u rfl
  repeat refine AI ?_
  refine hK' _ _ ?_
  clear hK' K'
  refine hwalk2_step (g := none) rfl rfl fun K' hK' => ?_
  simp (maxSteps := 4000000) only [sH, ↓sP, sA, tyS, simprocAttr, Int.natCast_nonneg, Int.ofNat_lt, hlt, nth_map hlt]
  repeat refine AI ?_
  refine hK' _ _ ?_
  clear hK' K'
  simp only [sE, ↓reduceIte, simprocAttr]
  repeat refine AI ?_
  refine hK _ _ _ ?_
  clear hK K
  refine hw_cond (b := dlt (kid l[i]) (kid k)) rfl (fun hb => ?_) (fun hb => ?_)
  ·
   refine hw_skip ?_
   simp (maxSteps := 4000000) only [↓sP, sA, tyS, simprocAttr]
   repeat refine AI ?_
   refine hK _ _ _ ?_
   clear hK K
   refine hw_block ?_
   refine hw_seq fun K hK => hw_region (by kernel_rfl) ?_
   simp only [sR, simprocAttr]
   iterate 8
    (refine hlex_step (g := none) rfl rfl fun K' hK' => ?_; simp only [sH, ↓sP, sA, tyS, simprocAttr, Int.natCast_nonneg, Int.ofNat_lt, hlt, nth_map hlt, hti, List.length_append]; (repeat refine AI ?_); refine hK' _ _ ?_; clear hK' K')
   simp only [sE, ↓reduceIte, simprocAttr]
   repeat refine AI ?_
   refine hK _ _ _ ?_
   clear hK K
   refine hw_region (by kernel_rfl) ?_
   simp (maxSteps := 4000000) only [↓sP, sA, tyS, simprocAttr, IntWalk.i64_in _ (show -9223372036854775808 ≤ (i : Int) + 1 ∧ (i : Int) + 1 ≤ 9223372036854775807 by omega)]
   refine ⟨⟨i + 1, by omega, fun x hx => ?_⟩, fits_fin (by omega) ?_ ?_, ?_⟩
   ·
    rw [List.take_succ_eq_append_getElem hlt, List.mem_append, List.mem_singleton] at hx
    rcases hx with hx | rfl
    ·
     exact h0 x hx
    exact hb
   ·
    simp [FinOk, upd_at, fin_at, HV.men]
   ·
    refine ⟨rfl, by omega, trivial, ?_, by omega, trivial, trivial⟩
    simp only [List.take_succ_eq_append_getElem hlt, List.map_append]
    rfl
   show l.length - (i + 1) < l.length - i
   omega
  refine hw_exit ?_
  simp (maxSteps := 4000000) only [↓sP, sA, tyS, simprocAttr]
  clear hK K
  repeat refine AI ?_
  refine hK _ _ _ ?_
  clear hK K
  refine hw_seq fun K hK => hw_draw2 mixed [(0, [], []), (1, [], []), (2, [], []), (4, [2], []), (5, [2], []), (6, [2], []), (3, [], [4, 5, 6]), (7, [], []), (8, [], [])] [0, 0, 2, 7, 0, 0, 48, 127, 255] (by kernel_rfl) (by kernel_rfl) (by kernel_rfl) (by kernel_rfl) rfl (by kernel_rfl) ?_
  iterate 9
   (refine hwalk2_step (g := none) rfl rfl fun K' hK' => ?_; simp only [sH, ↓sP, sA, tyS, simprocAttr, hti, ← List.map_drop, ← List.map_take, cells_ky]; (repeat refine AI ?_); refine hK' _ _ ?_; clear hK' K')
  simp only [sE, ↓reduceIte, simprocAttr]
  repeat refine AI ?_
  refine hK _ _ _ ?_
  clear hK K
  refine hw_ret ?_
  simp (maxSteps := 4000000) only [hpost, Tryz.results18, hresL, hres1, tupOf, ↓sP, sA, tyS, simprocAttr]
  refine hret_pure [16] (.slc ((l.take i ++ k :: l.drop i).map Ky.cv)) ?_ (by rw [insK_eq hi h0 fun h => hb])
  simp [HV.close, upd_at, HV.norm, HV.toC, List.take_of_length_le]
 refine hw_seq fun K hK => hw_draw2 mixed [(0, [], []), (1, [], []), (2, [], []), (3, [], []), (4, [], []), (5, [], []), (6, [], []), (7, [], []), (8, [], []), (9, [], []), (11, [], []), (12, [], []), (10, [], [11, 12]), (13, [], []), (14, [], []), (15, [], [])] [0, 0, 2, 7, 15, 31, 31, 127, 255, 511, 1023, 31, 2079, 8191, 16383, 32767] (by kernel_rfl) (by kernel_rfl) (by kernel_rfl) (by kernel_rfl) rfl (by kernel_rfl) ?_
 iterate 5
  (refine hwalk2_step (g := none) rfl rfl fun K' hK' => ?_; simp only [sH, ↓sP, sA, tyS, simprocAttr, Int.ofNat_lt, hlt]; (repeat refine AI ?_); refine hK' _ _ ?_; clear hK' K')
 iterate 10
  (refine hwalk2_step (g := some (11, true)) rfl rfl fun K' hK' => ?_; simp only [sH, ↓sP, sA, tyS, simprocAttr, Int.ofNat_lt, hlt]; (repeat refine AI ?_); refine hK' _ _ ?_; clear hK' K')
 refine hwalk2_step (g := none) rfl rfl fun K' hK' => ?_
 simp (maxSteps := 4000000) only [sH, ↓sP, sA, tyS, simprocAttr, Int.ofNat_lt, hlt]
 repeat refine AI ?_
 refine hK' _ _ ?_
 clear hK' K'
 simp only [sE, ↓reduceIte, simprocAttr]
 repeat refine AI ?_
 refine hK _ _ _ ?_
 clear hK K
 refine hw_cond (b := _) rfl (fun hb => ?_) (fun hb => ?_)
 ·
  cases hb
 refine hw_exit ?_
 simp (maxSteps := 4000000) only [↓sP, sA, tyS, simprocAttr]
 clear hK K
 repeat refine AI ?_
 refine hK _ _ _ ?_
 clear hK K
 refine hw_seq fun K hK => hw_draw2 mixed [(0, [], []), (1, [], []), (2, [], []), (4, [2], []), (5, [2], []), (6, [2], []), (3, [], [4, 5, 6]), (7, [], []), (8, [], [])] [0, 0, 2, 7, 0, 0, 48, 127, 255] (by kernel_rfl) (by kernel_rfl) (by kernel_rfl) (by kernel_rfl) rfl (by kernel_rfl) ?_
 iterate 9
  (refine hwalk2_step (g := none) rfl rfl fun K' hK' => ?_; simp only [sH, ↓sP, sA, tyS, simprocAttr, hti, ← List.map_drop, ← List.map_take, cells_ky]; (repeat refine AI ?_); refine hK' _ _ ?_; clear hK' K')
 simp only [sE, ↓reduceIte, simprocAttr]
 repeat refine AI ?_
 refine hK _ _ _ ?_
 clear hK K
 refine hw_ret ?_
 simp (maxSteps := 4000000) only [hpost, Tryz.results18, hresL, hres1, tupOf, ↓sP, sA, tyS, simprocAttr]
 refine hret_pure [16] (.slc ((l.take i ++ k :: l.drop i).map Ky.cv)) ?_ (by rw [insK_eq hi h0 fun h => absurd h hlt])
 simp [HV.close, upd_at, HV.norm, HV.toC, List.take_of_length_le]


theorem some_ok (L : List Int) (a : Nat) (ha : a + 20 < 2 ^ 40) : HBox Tryz.prog 21 25 (tp L a) [] (fun u v' => ∃ (ws : List Word) (a' : Nat), u = .slc (ws.map .str) ∧ v' = tp L a' ∧ a' ≤ a + 10 ∧ ws.length ≤ 11 ∧ ∀ w ∈ ws, w ∈ roles10) := by
 refine hfn_walk Tryz.func21 rfl (by kernel_rfl) (locOk_box _ _ _) (Nat.le_of_ble_eq_true rfl) ?_
 refine hw_seq fun K hK => hw_region (by kernel_rfl) ?_
 simp (maxSteps := 4000000) only [↓sP, sA, tyS, simprocAttr]
 repeat refine AI ?_
 refine hK _ _ _ ?_
 clear hK K
 refine hw_seq fun K hK => hw_region (by kernel_rfl) ?_
 simp (maxSteps := 4000000) only [↓sP, sA, tyS, simprocAttr]
 repeat refine AI ?_
 refine hK _ _ _ ?_
 clear hK K
 refine hw_seq fun K hK => hw_region (by kernel_rfl) ?_
 simp only [sR, simprocAttr]
 refine hlex_step (g := none) rfl rfl fun K' hK' => ?_
 simp (maxSteps := 4000000) only [sH, ↓sP, sA, tyS, simprocAttr]
 refine call_pure (args := []) roles_ok ⟨rfl, rfl, rfl, rfl⟩ ?_
 rintro u rfl
 repeat refine AI ?_
 refine hK' _ _ ?_
 clear hK' K'
 refine hlex_step (g := none) rfl rfl fun K' hK' => ?_
 simp (maxSteps := 4000000) only [sH, ↓sP, sA, tyS, simprocAttr]
 repeat refine AI ?_
 refine hK' _ _ ?_
 clear hK' K'
 simp only [sE, ↓reduceIte, simprocAttr]
 repeat refine AI ?_
 refine hK _ _ _ ?_
 clear hK K
 refine hw_seq fun K hK => ?_
 refine hw_seq fun K hK => hw_region (by kernel_rfl) ?_
 simp (maxSteps := 4000000) only [↓sP, sA, tyS, simprocAttr]
 repeat refine AI ?_
 refine hK _ _ _ ?_
 clear hK K
 refine hw_block ?_
 refine hw_own 3 0 9 1 rfl rfl rfl rfl ?_
 refine hw_loop (α := {x : Nat × Nat × List Word // x.1 ≤ 10 ∧ x.2.1 ≤ a + x.1 ∧ x.2.2.length ≤ x.1 ∧ ∀ w ∈ x.2.2, w ∈ roles10}) (fun x => (fin [(0, .ptr 0 0), (3, .own 21 x.1.2.2.length), (4, .c (.slc (roles10.map .str))), (5, .c (.int .i64 x.1.1))], fob [(0, .box 25 (.c (tp L x.1.2.1))), (21, .row 9 1 (x.1.2.2.map .str))])) 100 (fun x => 10 - x.1.1) ⟨(0, a, []), by omega, by simp, by simp, by simp⟩ (fits_fin (by omega) (by simp [FinOk, fin_at, finA_at, upd_at, HV.men, HV.menL, HV.norm, HV.toC, HV.toCL]) (by simp [FobOk, fob_at, upd_at, none0_at, gone, HO.men, HV.men, HV.menL, HV.norm, HV.toC, HV.toCL])) ?_
 rintro ⟨⟨i, b, ws⟩, hi, hb0, hwl, hwm⟩
 simp only at hi hb0 hwl hwm ⊢
 have hrl : (roles10.map CV.str).length = 10 := rfl
 refine hw_seq fun K hK => ?_
 refine hw_seq fun K hK => hw_region (by kernel_rfl) ?_
 simp only [sR, simprocAttr]
 iterate 4
  (refine hlex_step (g := none) rfl rfl fun K' hK' => ?_; simp only [sH, ↓sP, sA, tyS, simprocAttr, hrl]; (repeat refine AI ?_); refine hK' _ _ ?_; clear hK' K')
 simp only [sE, ↓reduceIte, simprocAttr]
 repeat refine AI ?_
 refine hK _ _ _ ?_
 clear hK K
 refine hw_cond (b := decide ((i : Int) < 10)) rfl (fun hb => ?_) (fun hb => ?_)
 ·
  have hlt : i < 10 := by simp at hb; omega
  have hlt' : (i : Int) < 10 := by omega
  have hlr : i < roles10.length := hlt
  refine hw_skip ?_
  simp (maxSteps := 4000000) only [↓sP, sA, tyS, simprocAttr]
  repeat refine AI ?_
  refine hK _ _ _ ?_
  clear hK K
  refine hw_seq fun K hK => ?_
  have key : ∀ (b' : Nat) (ws' : List Word) fr ob nx, b' ≤ a + (i + 1) → ws'.length ≤ i + 1 → (∀ w ∈ ws', w ∈ roles10) → Fits 1 fr ob (fin [(0, .ptr 0 0), (3, .own 21 ws'.length), (4, .c (.slc (roles10.map .str))), (5, .c (.int .i64 i))]) (fob [(0, .box 25 (.c (tp L b'))), (21, .row 9 1 (ws'.map .str))]) 300 → K fr ob nx := by
   intro b' ws' fr ob nx w1 w2 w3 hf
   refine hK _ _ _ (hw_fits hf ?_)
   clear hf hK K
   refine hw_region (by kernel_rfl) ?_
   simp (maxSteps := 4000000) only [↓sP, sA, tyS, simprocAttr, IntWalk.i64_in _ (show -9223372036854775808 ≤ (i : Int) + 1 ∧ (i : Int) + 1 ≤ 9223372036854775807 by omega)]
   refine ⟨⟨(i + 1, b', ws'), hlt, w1, w2, w3⟩, fits_fin (by omega) (by simp [FinOk, fin_at, finA_at, upd_at, HV.men, HV.menL, HV.norm, HV.toC, HV.toCL]) (by simp [FobOk, fob_at, upd_at, none0_at, gone, HO.men, HV.men, HV.menL, HV.norm, HV.toC, HV.toCL]), ?_⟩
   show 10 - (i + 1) < 10 - i
   omega
  refine hw_block ?_
  refine hw_seq fun K hK => hw_region (by kernel_rfl) ?_
  simp only [sR, simprocAttr]
  refine hlex_step (g := none) rfl rfl fun K' hK' => ?_
  simp (maxSteps := 4000000) only [sH, ↓sP, sA, tyS, simprocAttr]
  repeat refine AI ?_
  refine hK' _ _ ?_
  clear hK' K'
  refine hlex_step (g := none) rfl rfl fun K' hK' => ?_
  simp (maxSteps := 4000000) only [sH, ↓sP, sA, tyS, simprocAttr]
  refine call_box (args := [_]) (next_ok L b 3 (by omega) (by omega)) rfl (by simp) ⟨rfl, rfl, rfl, rfl⟩ ?_
  rintro u v' ⟨x, b', rfl, rfl, h1, h2, h3, h4⟩
  repeat refine AI ?_
  refine hK' _ _ ?_
  clear hK' K'
  refine hlex_step (g := none) rfl rfl fun K' hK' => ?_
  simp (maxSteps := 4000000) only [sH, ↓sP, sA, tyS, simprocAttr]
  repeat refine AI ?_
  refine hK' _ _ ?_
  clear hK' K'
  simp only [sE, ↓reduceIte, simprocAttr]
  repeat refine AI ?_
  refine hK _ _ _ ?_
  clear hK K
  refine hw_cond (b := decide (0 < x)) rfl (fun hb => ?_) (fun hb => ?_)
  ·
   refine hw_region (by kernel_rfl) ?_
   simp only [sR, simprocAttr]
   iterate 8
    (refine hlex_step (g := none) rfl rfl fun K' hK' => ?_; simp only [sH, ↓sP, sA, tyS, simprocAttr, Int.natCast_nonneg, hrl, hlt', hlr, nth_map hlr, List.length_append]; (repeat refine AI ?_); refine hK' _ _ ?_; clear hK' K')
   simp only [sE, ↓reduceIte, simprocAttr]
   exact key b' (ws ++ [roles10[i]]) _ _ _ (by omega) (by simp; omega) (fun w hw => by
    rcases List.mem_append.1 hw with hw | hw
    ·
     exact hwm w hw
    rw [List.mem_singleton] at hw; rw [hw]; exact List.getElem_mem _) (fits_fin (by omega) (by simp [FinOk, fin_at, finA_at, upd_at, HV.men, HV.menL, HV.norm, HV.toC, HV.toCL]) (by simp [FobOk, fob_at, upd_at, none0_at, gone, HO.men, HV.men, HV.menL, HV.norm, HV.toC, HV.toCL]))
  refine hw_skip ?_
  simp (maxSteps := 4000000) only [↓sP, sA, tyS, simprocAttr]
  exact key b' ws _ _ _ (by omega) (by omega) hwm (fits_fin (by omega) (by simp [FinOk, fin_at, finA_at, upd_at, HV.men, HV.menL, HV.norm, HV.toC, HV.toCL]) (by simp [FobOk, fob_at, upd_at, none0_at, gone, HO.men, HV.men, HV.menL, HV.norm, HV.toC, HV.toCL]))
 clear hb
 refine hw_exit ?_
 simp (maxSteps := 4000000) only [↓sP, sA, tyS, simprocAttr]
 clear hK K
 repeat refine AI ?_
 refine hK _ _ _ ?_
 clear hK K
 refine hw_seq fun K hK => ?_
 have key : ∀ (ws' : List Word) fr ob nx, ws'.length ≤ 11 → (∀ w ∈ ws', w ∈ roles10) → Fits 1 fr ob (fin [(0, .ptr 0 0), (3, .own 21 ws'.length)]) (fob [(0, .box 25 (.c (tp L b))), (21, .row 9 1 (ws'.map .str))]) 300 → K fr ob nx := by
  intro ws' fr ob nx w2 w3 hf
  refine hK _ _ _ (hw_fits hf ?_)
  clear hf hK K
  refine hw_seq fun K hK => hw_region (by kernel_rfl) ?_
  simp (maxSteps := 4000000) only [↓sP, sA, tyS, simprocAttr]
  repeat refine AI ?_
  refine hK _ _ _ ?_
  clear hK K
  refine hw_ret ?_
  simp (maxSteps := 4000000) only [hpost, Tryz.results21, hresL, hres1, tupOf, ↓sP, sA, tyS, simprocAttr]
  refine hret_box [21] (.slc (ws'.map .str)) (tp L b) ?_ rfl ?_ (by simp) ⟨ws', b, rfl, rfl, by omega, w2, w3⟩
  ·
   simp [HV.close, HV.norm, HV.toC, fob_at]
  simp [HV.close, HV.closeL, tp, CV.denil, CV.denilL, denilL_int, HV.norm, HV.toC, HV.toCL]
 refine hw_seq fun K hK => hw_region (by kernel_rfl) ?_
 simp (maxSteps := 4000000) only [↓sP, sA, tyS, simprocAttr]
 repeat refine AI ?_
 refine hK _ _ _ ?_
 clear hK K
 refine hw_cond (b := (ws.length : Int) == 0) rfl (fun hb => ?_) (fun hb => ?_)
 ·
  refine hw_region (by kernel_rfl) ?_
  simp only [sR, simprocAttr]
  iterate 4
   (refine hlex_step (g := none) rfl rfl fun K' hK' => ?_; simp only [sH, ↓sP, sA, tyS, simprocAttr, List.length_append]; (repeat refine AI ?_); refine hK' _ _ ?_; clear hK' K')
  simp only [sE, ↓reduceIte, simprocAttr]
  exact key (ws ++ [wStep]) _ _ _ (by simp; omega) (fun w hw => by
   rcases List.mem_append.1 hw with hw | hw
   ·
    exact hwm w hw
   rw [List.mem_singleton] at hw; rw [hw]; exact step_mem) (fits_fin (by omega) (by simp [FinOk, fin_at, finA_at, upd_at, HV.men, HV.menL, HV.norm, HV.toC, HV.toCL]) (by simp [FobOk, fob_at, upd_at, none0_at, gone, HO.men, HV.men, HV.menL, HV.norm, HV.toC, HV.toCL]; rfl))
 refine hw_skip ?_
 simp (maxSteps := 4000000) only [↓sP, sA, tyS, simprocAttr]
 exact key ws _ _ _ (by omega) hwm (fits_fin (by omega) (by simp [FinOk, fin_at, finA_at, upd_at, HV.men, HV.menL, HV.norm, HV.toC, HV.toCL]) (by simp [FobOk, fob_at, upd_at, none0_at, gone, HO.men, HV.men, HV.menL, HV.norm, HV.toC, HV.toCL]))


theorem mkeys_ok (L : List Int) (a : Nat) (ha : a + 20 < 2 ^ 40) : HBox Tryz.prog 9 25 (tp L a) [] (fun u v' => ∃ (l : List Dig) (a' : Nat), u = .slc (l.map dg) ∧ v' = tp L a' ∧ a' ≤ a + 4 ∧ l.length ≤ 3) := by
 refine hfn_walk Tryz.func9 rfl (by kernel_rfl) (locOk_box _ _ _) (Nat.le_of_ble_eq_true rfl) ?_
 refine hw_seq fun K hK => hw_region (by kernel_rfl) ?_
 simp (maxSteps := 4000000) only [↓sP, sA, tyS, simprocAttr]
 repeat refine AI ?_
 refine hK _ _ _ ?_
 clear hK K
 refine hw_seq fun K hK => hw_region (by kernel_rfl) ?_
 simp (maxSteps := 4000000) only [↓sP, sA, tyS, simprocAttr]
 repeat refine AI ?_
 refine hK _ _ _ ?_
 clear hK K
 refine hw_seq fun K hK => ?_
 refine hw_seq fun K hK => hw_region (by kernel_rfl) ?_
 simp only [sR, simprocAttr]
 refine hlex_step (g := none) rfl rfl fun K' hK' => ?_
 simp (maxSteps := 4000000) only [sH, ↓sP, sA, tyS, simprocAttr]
 repeat refine AI ?_
 refine hK' _ _ ?_
 clear hK' K'
 refine hlex_step (g := none) rfl rfl fun K' hK' => ?_
 simp (maxSteps := 4000000) only [sH, ↓sP, sA, tyS, simprocAttr]
 refine call_box (args := [_]) (next_ok L a 3 (by omega) (by omega)) rfl (by simp) ⟨rfl, rfl, rfl, rfl⟩ ?_
 rintro u v' ⟨x, b0, rfl, rfl, h1, h2, h3, h4⟩
 obtain ⟨n, rfl⟩ : ∃ n : Nat, x = n := ⟨x.toNat, by omega⟩
 have m0 : IntKind.i64.wrap (1 + (n : Int)) = ((n + 1 : Nat) : Int) := by rw [IntWalk.i64_in _ (by omega)]; omega
 repeat refine AI ?_
 refine hK' _ _ ?_
 clear hK' K'
 iterate 2
  (refine hlex_step (g := none) rfl rfl fun K' hK' => ?_; simp only [sH, ↓sP, sA, tyS, simprocAttr]; (repeat refine AI ?_); refine hK' _ _ ?_; clear hK' K')
 simp only [sE, ↓reduceIte, simprocAttr]
 repeat refine AI ?_
 refine hK _ _ _ ?_
 clear hK K
 refine hw_block ?_
 refine hw_close [] ?_
 refine hw_loop (α := {x : Nat × Nat × List Dig // x.1 + x.2.2.length ≤ 3 ∧ x.2.1 + x.1 ≤ a + 4}) (fun x => (fin [(0, .ptr 0 0), (3, .c (.slc (x.1.2.2.map dg))), (4, .c (.int .i64 x.1.1))], fob [(0, .box 25 (.c (tp L x.1.2.1)))])) 100 (fun x => x.1.1) ⟨(n + 1, b0, []), by simp; omega, by simp; omega⟩ (fits_fin (by omega) (by simp [FinOk, clF_at, fin_at, finA_at, upd_at, fob_at, HV.close, CV.denil, denilL_str, HV.men, HV.menL, HV.norm, HV.toC, HV.toCL, m0]) (by simp [FobOk, clO_at, fob_at, upd_at, none0_at, gone, HO.close, HV.close, HO.men, HV.men, HV.menL, HV.norm, HV.toC, HV.toCL, tp, CV.denil, CV.denilL, denilL_int])) ?_
 rintro ⟨⟨j, b, l⟩, hj, hb1⟩
 simp only at hj hb1 ⊢
 refine hw_seq fun K hK => ?_
 refine hw_seq fun K hK => hw_region (by kernel_rfl) ?_
 simp (maxSteps := 4000000) only [↓sP, sA, tyS, simprocAttr]
 repeat refine AI ?_
 refine hK _ _ _ ?_
 clear hK K
 refine hw_cond (b := decide (0 < (j : Int))) rfl (fun hb => ?_) (fun hb => ?_)
 ·
  have hj0 : 0 < j := by simpa using hb
  have m1 : IntKind.i64.wrap ((j : Int) - 1) = ((j - 1 : Nat) : Int) := by rw [IntWalk.i64_in _ (by omega)]; omega
  refine hw_skip ?_
  simp (maxSteps := 4000000) only [↓sP, sA, tyS, simprocAttr]
  repeat refine AI ?_
  refine hK _ _ _ ?_
  clear hK K
  refine hw_seq fun K hK => ?_
  refine hw_block ?_
  refine hw_region (by kernel_rfl) ?_
  simp only [sR, simprocAttr]
  iterate 2
   (refine hlex_step (g := none) rfl rfl fun K' hK' => ?_; simp only [sH, ↓sP, sA, tyS, simprocAttr, denilL_dg]; (repeat refine AI ?_); refine hK' _ _ ?_; clear hK' K')
  refine hlex_step (g := none) rfl rfl fun K' hK' => ?_
  simp (maxSteps := 4000000) only [sH, ↓sP, sA, tyS, simprocAttr, denilL_dg]
  refine call_box (args := [_]) (next_ok L b 6 (by omega) (by omega)) rfl (by simp) ⟨rfl, rfl, rfl, rfl⟩ ?_
  rintro u v' ⟨x, b', rfl, rfl, g1, g2, g3, g4⟩
  obtain ⟨i, rfl⟩ : ∃ i : Nat, x = i := ⟨x.toNat, by omega⟩
  repeat refine AI ?_
  refine hK' _ _ ?_
  clear hK' K'
  refine hlex_step (g := none) rfl rfl fun K' hK' => ?_
  simp (maxSteps := 4000000) only [sH, ↓sP, sA, tyS, simprocAttr, denilL_dg]
  refine call_pure (args := [_]) (mid_ok i (by omega)) ⟨rfl, rfl, rfl, rfl⟩ ?_
  rintro u rfl
  repeat refine AI ?_
  refine hK' _ _ ?_
  clear hK' K'
  refine hlex_step (g := none) rfl rfl fun K' hK' => ?_
  simp (maxSteps := 4000000) only [sH, ↓sP, sA, tyS, simprocAttr, denilL_dg]
  refine call_pure (args := [_, _]) (addd_ok l (mid i) (by omega)) ⟨rfl, rfl, rfl, rfl⟩ ?_
  rintro u ⟨l', rfl, hl'⟩
  repeat refine AI ?_
  refine hK' _ _ ?_
  clear hK' K'
  refine hlex_step (g := none) rfl rfl fun K' hK' => ?_
  simp (maxSteps := 4000000) only [sH, ↓sP, sA, tyS, simprocAttr, denilL_dg]
  repeat refine AI ?_
  refine hK' _ _ ?_
  clear hK' K'
  simp only [sE, ↓reduceIte, simprocAttr]
  repeat refine AI ?_
  refine hK _ _ _ ?_
  clear hK K
  refine hw_region (by kernel_rfl) ?_
  simp (maxSteps := 4000000) only [↓sP, sA, tyS, simprocAttr, m1]
  refine ⟨⟨(j - 1, b', l'), by simp only; omega, by simp only; omega⟩, fits_fin (by omega) (by simp [FinOk, fin_at, finA_at, upd_at, HV.men, HV.menL, HV.norm, HV.toC, HV.toCL]) (by simp [FobOk, fob_at, upd_at, none0_at, gone, HO.men, HV.men, HV.menL, HV.norm, HV.toC, HV.toCL]), ?_⟩
  show j - 1 < j
  omega
 refine hw_exit ?_
 simp (maxSteps := 4000000) only [↓sP, sA, tyS, simprocAttr]
 clear hK K
 repeat refine AI ?_
 refine hK _ _ _ ?_
 clear hK K
 refine hw_seq fun K hK => hw_region (by kernel_rfl) ?_
 simp (maxSteps := 4000000) only [↓sP, sA, tyS, simprocAttr]
 repeat refine AI ?_
 refine hK _ _ _ ?_
 clear hK K
 refine hw_ret ?_
 simp (maxSteps := 4000000) only [hpost, Tryz.results9, hresL, hres1, tupOf, ↓sP, sA, tyS, simprocAttr]
 refine hret_box [] (.slc (l.map dg)) (tp L b) ?_ rfl ?_ (by simp) ⟨l, b, rfl, rfl, by omega, by omega⟩
 ·
  exact close_c (by simp only [CV.denil, denilL_dg])
 simp [HV.close, HV.closeL, tp, CV.denil, CV.denilL, denilL_int, HV.norm, HV.toC, HV.toCL]

end Go.Proofs.YtenbfeemmpjdhaaGreat

namespace Go.Pl
open Go Go.Hl

def zR : CV := .agg [.int .i64 0, .int .i64 0, .nils, .nils, .nils]
def kOk (k : Ky) : Prop := kSz k ∧ k.o ∈ owners4
def rOk (r : Rt) : Prop := rSz r ∧ ∀ k ∈ r.k, k.o ∈ owners4
theorem mKey_ok (i : Nat) (ws : List Word) (a b : Int) (hl : ws.length ≤ 11) (hm : ∀ w ∈ ws, w ∈ roles10) : kOk ⟨mPub i, mOwner i, ws, a, b⟩ := by
  have ho := mOwner_mem i
  refine ⟨⟨?_, by show ws.length < _; omega, fun w hw => ?_⟩, ho⟩
  · have := owners_short _ ho
    show (mOwner i).length < _
    omega
  · have := roles_short _ (hm w hw)
    omega
def qz (i : Nat) : List Qt := (roles10.take i).map fun w => ⟨w, 1⟩
theorem qz_succ {i : Nat} (h : i < roles10.length) : qz (i + 1) = qz i ++ [⟨roles10[i], 1⟩] := by
  unfold qz; rw [List.take_succ_eq_append_getElem h, List.map_append]; rfl
theorem qz_len {i : Nat} (h : i ≤ 10) : (qz i).length = i := by
  unfold qz
  rw [List.length_map, List.length_take, show roles10.length = 10 from rfl]; omega
theorem qz_all : qz 10 = full.q := rfl
def kz (i : Nat) : List Ky := (List.range i).foldl (fun l i => insK l (mKey i)) []
theorem kz_succ (i : Nat) : kz (i + 1) = insK (kz i) (mKey i) := by unfold kz; rw [List.range_succ, List.foldl_append]; rfl
theorem kz_len : ∀ i, (kz i).length = i
  | 0 => rfl
  | i + 1 => by rw [kz_succ, insK_len, kz_len i]
theorem kz_ok : ∀ i, ∀ k ∈ kz i, kOk k
  | 0, k, h => by simp [kz] at h
  | i + 1, k, h => by
    rw [kz_succ] at h
    rcases insK_mem h with h | rfl
    · exact kz_ok i k h
    · exact mKey_ok i roles10 0 maxN (by decide) (fun w hw => hw)
theorem kz_all : kz 5 = full.k := rfl
theorem full_ok (v : Int) : rOk ⟨v, full.e, full.q, full.k, full.x⟩ := by
  have hk := kz_ok 5
  rw [kz_all] at hk
  refine ⟨⟨⟨by rw [← qz_all, qz_len (by omega)]; omega, fun q hq => ?_⟩, ⟨by show full.k.length < _; rw [← kz_all, kz_len]; omega, fun k h => (hk k h).1⟩, by show (0 : Nat) < 2 ^ 40; omega⟩, fun k h => (hk k h).2⟩
  have : q ∈ roles10.map fun w => (⟨w, 1⟩ : Qt) := hq
  obtain ⟨w, hw, rfl⟩ := List.mem_map.1 this
  have := roles_short w hw
  show w.length < _
  omega
theorem rOk_of {v e : Int} {qs : List Qt} {ks : List Ky} {xs : List Rv} (hq : qs.length ≤ 10) (hqr : ∀ q ∈ qs, q.r ∈ roles10) (hk : ks.length ≤ 6) (hkk : ∀ k ∈ ks, kOk k) (hx : xs.length ≤ 1) : rOk ⟨v, e, qs, ks, xs⟩ := by
  refine ⟨⟨⟨by show qs.length < _; omega, fun q h => ?_⟩, ⟨by show ks.length < _; omega, fun k h => (hkk k h).1⟩, by show xs.length < _; omega⟩, fun k h => (hkk k h).2⟩
  have := roles_short _ (hqr q h)
  omega
end Go.Pl

namespace Go.Proofs.YtenbfeemmpjdhaaGreat
open Go Go.Hl Go.Pl
set_option maxRecDepth 10000
set_option maxHeartbeats 4000000
set_option linter.unusedSimpArgs false
set_option linter.unusedVariables false
attribute [local simp] tp

theorem revoke_ok (r : Rt) (x : Rv) (hr : rSz r) : HPure Tryz.prog 22 [r.cv, x.cv] (fun v => ∃ xs : List Rv, v = (Rt.mk r.v r.e r.q r.k xs).cv ∧ xs.length ≤ r.x.length + 1) := by
 have hlx : r.x.length < 2 ^ 40 := hr.2.2
 refine hfn_walk Tryz.func22 rfl (by kernel_rfl) (locOk_nil _) (Nat.le_of_ble_eq_true rfl) ?_
 refine hw_seq fun K hK => hw_region (by kernel_rfl) ?_
 simp (maxSteps := 4000000) only [↓sP, sA, tyS, simprocAttr]
 repeat refine AI ?_
 refine hK _ _ _ ?_
 clear hK K
 refine hw_seq fun K hK => hw_region (by kernel_rfl) ?_
 simp (maxSteps := 4000000) only [↓sP, sA, tyS, simprocAttr]
 repeat refine AI ?_
 refine hK _ _ _ ?_
 clear hK K
 refine hw_seq fun K hK => ?_
 refine hw_seq fun K hK => hw_region (by kernel_rfl) ?_
 simp (maxSteps := 4000000) only [↓sP, sA, tyS, simprocAttr]
 repeat refine AI ?_
 refine hK _ _ _ ?_
 clear hK K
 refine hw_block ?_
 refine hw_own 5 0 66 33 rfl rfl rfl rfl ?_
 refine hw_loop (α := {y : Nat × List Rv // y.1 ≤ r.x.length ∧ y.2.length ≤ y.1}) (fun y => (fin [(2, .ptr 0 0), (3, .ptr 4 0), (4, .ptr 8 0), (5, .own 20 y.1.2.length), (6, .c (.int .i64 y.1.1))], fob [(0, .box 30 (.c r.cv)), (4, .box 66 (.c x.cv)), (8, .box 30 (.c zR)), (20, .row 66 33 (y.1.2.map Rv.cv))])) 100 (fun y => r.x.length - y.1.1) ⟨(0, []), by simp, by simp⟩ (fits_fin (by omega) (by simp [FinOk, fin_at, finA_at, upd_at, HV.men, HV.menL, HV.norm, HV.toC, HV.toCL]) (by simp [FobOk, fob_at, upd_at, none0_at, gone, HO.men, HV.men, HV.menL, HV.norm, HV.toC, HV.toCL]; rfl)) ?_
 rintro ⟨⟨i, ys⟩, hi, hy⟩
 simp only at hi hy ⊢
 refine hw_seq fun K hK => ?_
 refine hw_seq fun K hK => hw_region (by kernel_rfl) ?_
 simp only [sR, simprocAttr]
 iterate 5
  (refine hlex_step (g := none) rfl rfl fun K' hK' => ?_; simp only [sH, ↓sP, sA, tyS, simprocAttr]; (repeat refine AI ?_); refine hK' _ _ ?_; clear hK' K')
 simp only [sE, ↓reduceIte, simprocAttr]
 repeat refine AI ?_
 refine hK _ _ _ ?_
 clear hK K
 refine hw_cond (b := decide ((i : Int) < r.x.length)) rfl (fun hb => ?_) (fun hb => ?_)
 ·
  have hlt : i < r.x.length := by simpa using hb
  refine hw_skip ?_
  simp (maxSteps := 4000000) only [↓sP, sA, tyS, simprocAttr]
  repeat refine AI ?_
  refine hK _ _ _ ?_
  clear hK K
  refine hw_seq fun K hK => ?_
  have key : ∀ (ys' : List Rv) fr ob nx, ys'.length ≤ i + 1 → Fits 0 fr ob (fin [(2, .ptr 0 0), (3, .ptr 4 0), (4, .ptr 8 0), (5, .own 20 ys'.length), (6, .c (.int .i64 i))]) (fob [(0, .box 30 (.c r.cv)), (4, .box 66 (.c x.cv)), (8, .box 30 (.c zR)), (20, .row 66 33 (ys'.map Rv.cv))]) 400 → K fr ob nx := by
   intro ys' fr ob nx w1 hf
   refine hK _ _ _ (hw_fits hf ?_)
   clear hf hK K
   refine hw_region (by kernel_rfl) ?_
   simp (maxSteps := 4000000) only [↓sP, sA, tyS, simprocAttr, IntWalk.i64_in _ (show -9223372036854775808 ≤ (i : Int) + 1 ∧ (i : Int) + 1 ≤ 9223372036854775807 by omega)]
   refine ⟨⟨(i + 1, ys'), hlt, w1⟩, fits_fin (by omega) (by simp [FinOk, fin_at, finA_at, upd_at, HV.men, HV.menL, HV.norm, HV.toC, HV.toCL]) (by simp [FobOk, fob_at, upd_at, none0_at, gone, HO.men, HV.men, HV.menL, HV.norm, HV.toC, HV.toCL]), ?_⟩
   show r.x.length - (i + 1) < r.x.length - i
   omega
  refine hw_block ?_
  refine hw_seq fun K hK => hw_quiet mixed (by kernel_rfl) (by kernel_rfl) (by kernel_rfl) ?_
  simp only [sR, simprocAttr]
  iterate 9
   (refine hlex_step (g := none) rfl rfl fun K' hK' => ?_; simp only [sH, ↓sP, sA, tyS, simprocAttr, Int.natCast_nonneg, Int.ofNat_lt, hlt, nth_map hlt]; (repeat refine AI ?_); refine hK' _ _ ?_; clear hK' K')
  simp only [sE, ↓reduceIte, simprocAttr]
  repeat refine AI ?_
  refine hK _ _ _ ?_
  clear hK K
  refine hw_cond (b := !(r.x[i].k == x.k)) rfl (fun hb => ?_) (fun hb => ?_)
  ·
   refine hw_region (by kernel_rfl) ?_
   simp only [sR, simprocAttr]
   iterate 9
    (refine hlex_step (g := none) rfl rfl fun K' hK' => ?_; simp only [sH, ↓sP, sA, tyS, simprocAttr, Int.natCast_nonneg, Int.ofNat_lt, hlt, nth_map hlt, List.length_append]; (repeat refine AI ?_); refine hK' _ _ ?_; clear hK' K')
   simp only [sE, ↓reduceIte, simprocAttr]
   exact key (ys ++ [r.x[i]]) _ _ _ (by simp; omega) (fits_fin (by omega) (by simp [FinOk, fin_at, finA_at, upd_at, HV.men, HV.menL, HV.norm, HV.toC, HV.toCL]) (by simp [FobOk, fob_at, upd_at, none0_at, gone, HO.men, HV.men, HV.menL, HV.norm, HV.toC, HV.toCL]))
  refine hw_skip ?_
  simp (maxSteps := 4000000) only [↓sP, sA, tyS, simprocAttr]
  exact key ys _ _ _ (by omega) (fits_fin (by omega) (by simp [FinOk, fin_at, finA_at, upd_at, HV.men, HV.menL, HV.norm, HV.toC, HV.toCL]) (by simp [FobOk, fob_at, upd_at, none0_at, gone, HO.men, HV.men, HV.menL, HV.norm, HV.toC, HV.toCL]))
 clear hb
 refine hw_exit ?_
 simp (maxSteps := 4000000) only [↓sP, sA, tyS, simprocAttr]
 clear hK K
 repeat refine AI ?_
 refine hK _ _ _ ?_
 clear hK K
 refine hw_seq fun K hK => hw_region (by kernel_rfl) ?_
 simp only [sR, simprocAttr]
 iterate 5
  (refine hlex_step (g := none) rfl rfl fun K' hK' => ?_; simp only [sH, ↓sP, sA, tyS, simprocAttr, List.length_append]; (repeat refine AI ?_); refine hK' _ _ ?_; clear hK' K')
 simp only [sE, ↓reduceIte, simprocAttr]
 repeat refine AI ?_
 refine hK _ _ _ ?_
 clear hK K
 refine hw_seq fun K hK => ?_
 have key : ∀ (ws : List Rv) fr ob nx, ws.length ≤ r.x.length + 1 → Fits 0 fr ob (fin [(2, .ptr 0 0), (4, .ptr 8 0), (5, .own 20 ws.length)]) (fob [(0, .box 30 (.c r.cv)), (8, .box 30 (.c zR)), (20, .row 66 33 (ws.map Rv.cv))]) 600 → K fr ob nx := by
  intro ws fr ob nx w1 hf
  refine hK _ _ _ (hw_fits hf ?_)
  clear hf hK K
  refine hw_close [20] (hw_fits (fr2 := fin [(2, .ptr 0 0), (4, .ptr 8 0), (5, .c (.slc (ws.map Rv.cv)))]) (ob2 := fob [(0, .box 30 (.c r.cv)), (8, .box 30 (.c (Rt.cv ⟨0, 0, [], [], []⟩)))]) (nx2 := 700) (fits_fin (by omega) (by simp [FinOk, clF_at, fin_at, finA_at, upd_at, fob_at, HV.close, HV.closeL, CV.denil, CV.denilL, denilL_str, denilL_Rv, denilL_Qt, denilL_Ky, HV.men, HV.menL, HV.norm, HV.toC, HV.toCL]) (by simp [FobOk, clO_at, fob_at, upd_at, none0_at, gone, HO.close, HV.close, HV.closeL, HO.men, HV.men, HV.menL, HV.norm, HV.toC, HV.toCL, Rt.denil, zR, Rt.cv, CV.denil, CV.denilL, denilL_str, denilL_Rv, denilL_Qt, denilL_Ky])) ?_)
  refine hw_seq fun K hK => hw_region (by kernel_rfl) ?_
  simp only [sR, simprocAttr]
  iterate 3
   (refine hlex_step (g := none) rfl rfl fun K' hK' => ?_; simp only [sH, ↓sP, sA, tyS, simprocAttr]; (repeat refine AI ?_); refine hK' _ _ ?_; clear hK' K')
  simp only [sE, ↓reduceIte, simprocAttr]
  repeat refine AI ?_
  refine hK _ _ _ ?_
  clear hK K
  refine hw_seq fun K hK => hw_region (by kernel_rfl) ?_
  simp (maxSteps := 4000000) only [↓sP, sA, tyS, simprocAttr]
  repeat refine AI ?_
  refine hK _ _ _ ?_
  clear hK K
  refine hw_ret ?_
  simp (maxSteps := 4000000) only [hpost, Tryz.results22, hresL, hres1, tupOf, ↓sP, sA, tyS, simprocAttr]
  exact hret_pure [] (Rt.mk r.v r.e r.q r.k ws).cv (close_c (Rt.denil _)) ⟨ws, rfl, w1⟩
 refine hw_fits (fr2 := fin [(2, .ptr 0 0), (3, .ptr 4 0), (4, .ptr 8 0), (5, .own 20 (ys ++ [x]).length)]) (ob2 := fob [(0, .box 30 (.c r.cv)), (4, .box 66 (.c x.cv)), (8, .box 30 (.c zR)), (20, .row 66 33 ((ys ++ [x]).map Rv.cv))]) (nx2 := 400) (fits_fin (by omega) (by simp [FinOk, fin_at, finA_at, upd_at, HV.men, HV.menL, HV.norm, HV.toC, HV.toCL]) (by simp [FobOk, fob_at, upd_at, none0_at, gone, HO.men, HV.men, HV.menL, HV.norm, HV.toC, HV.toCL])) ?_
 obtain ⟨zs, hzs⟩ : ∃ zs, zs = ys ++ [x] := ⟨_, rfl⟩
 have hzl : zs.length = ys.length + 1 := by rw [hzs]; simp
 rw [← hzs]
 clear hzs
 have m1 : IntKind.i64.wrap ((zs.length : Int) - 1) = ((zs.length - 1 : Nat) : Int) := by rw [IntWalk.i64_in _ (by omega)]; omega
 refine hw_seq fun K hK => hw_region (by kernel_rfl) ?_
 simp only [sR, simprocAttr]
 iterate 4
  (refine hlex_step (g := none) rfl rfl fun K' hK' => ?_; simp only [sH, ↓sP, sA, tyS, simprocAttr, m1]; (repeat refine AI ?_); refine hK' _ _ ?_; clear hK' K')
 simp only [sE, ↓reduceIte, simprocAttr]
 repeat refine AI ?_
 refine hK _ _ _ ?_
 clear hK K
 refine hw_block ?_
 refine hw_loop (α := {y : Nat × List Rv // y.1 < zs.length ∧ y.2.length = zs.length}) (fun y => (fin [(2, .ptr 0 0), (3, .ptr 4 0), (4, .ptr 8 0), (5, .own 20 zs.length), (7, .c (.int .i64 y.1.1))], fob [(0, .box 30 (.c r.cv)), (4, .box 66 (.c x.cv)), (8, .box 30 (.c zR)), (20, .row 66 33 (y.1.2.map Rv.cv))])) 500 (fun y => y.1.1) ⟨(zs.length - 1, zs), by simp only; omega, rfl⟩ (fits_fin (by omega) (by simp [FinOk, fin_at, finA_at, upd_at, HV.men, HV.menL, HV.norm, HV.toC, HV.toCL]) (by simp [FobOk, fob_at, upd_at, none0_at, gone, HO.men, HV.men, HV.menL, HV.norm, HV.toC, HV.toCL])) ?_
 rintro ⟨⟨j, ws⟩, hj, hw⟩
 simp only at hj hw ⊢
 have hjw : j < ws.length := by omega
 have hj1 : j - 1 < ws.length := by omega
 have hj2 : j - 1 < zs.length := by omega
 have hm : 0 < j → IntKind.i64.wrap ((j : Int) - 1) = ((j - 1 : Nat) : Int) := fun h => by rw [IntWalk.i64_in _ (by omega)]; omega
 have hwl : (ws.map Rv.cv).length = zs.length := by rw [List.length_map, hw]
 have hwne : ¬ ws = [] := by rintro rfl; simp at hw; omega
 refine hw_seq fun K hK => ?_
 by_cases h0 : 0 < j
 ·
  refine hw_seq fun K hK => hw_draw2 mixed [(0, [], []), (1, [], []), (2, [], []), (3, [], []), (4, [], []), (5, [], []), (6, [], []), (7, [], []), (8, [], []), (9, [], []), (10, [], []), (11, [], []), (12, [], []), (13, [], []), (14, [], []), (15, [], [])] [0, 1, 3, 7, 7, 31, 63, 127, 7, 7, 519, 1799, 3847, 7943, 16383, 32767] (by kernel_rfl) (by kernel_rfl) (by kernel_rfl) (by kernel_rfl) rfl (by kernel_rfl) ?_
  iterate 3
   (refine hwalk2_step (g := none) rfl rfl fun K' hK' => ?_; simp only [sH, ↓sP, sA, tyS, simprocAttr, List.map_eq_nil_iff, hwne, Int.natCast_pos, h0, hm, hw, hj, hj2, hjw, hj1, nth_map hjw, nth_map hj1, Int.natCast_nonneg, Int.ofNat_lt]; (repeat refine AI ?_); refine hK' _ _ ?_; clear hK' K')
  iterate 11
   (refine hwalk2_step (g := some (41, true)) rfl rfl fun K' hK' => ?_; simp only [sH, ↓sP, sA, tyS, simprocAttr, List.map_eq_nil_iff, hwne, Int.natCast_pos, h0, hm, hw, hj, hj2, hjw, hj1, nth_map hjw, nth_map hj1, Int.natCast_nonneg, Int.ofNat_lt]; (repeat refine AI ?_); refine hK' _ _ ?_; clear hK' K')
  refine hwalk2_step (g := some (41, true)) rfl rfl fun K' hK' => ?_
  simp (maxSteps := 4000000) only [sH, ↓sP, sA, tyS, simprocAttr, List.map_eq_nil_iff, hwne, Int.natCast_pos, h0, hm, hw, hj, hj2, hjw, hj1, nth_map hjw, nth_map hj1, Int.natCast_nonneg, Int.ofNat_lt]
  refine call_pure (args := [_, _]) (less_ok ws[j].k ws[j - 1].k) ⟨rfl, rfl, rfl, rfl⟩ ?_
  rintro u rfl
  repeat refine AI ?_
  refine hK' _ _ ?_
  clear hK' K'
  refine hwalk2_step (g := none) rfl rfl fun K' hK' => ?_
  simp (maxSteps := 4000000) only [sH, ↓sP, sA, tyS, simprocAttr, List.map_eq_nil_iff, hwne, Int.natCast_pos, h0, hm, hw, hj, hj2, hjw, hj1, nth_map hjw, nth_map hj1, Int.natCast_nonneg, Int.ofNat_lt]
  repeat refine AI ?_
  refine hK' _ _ ?_
  clear hK' K'
  simp only [sE, ↓reduceIte, simprocAttr]
  repeat refine AI ?_
  refine hK _ _ _ ?_
  clear hK K
  refine hw_cond (b := dlt ws[j].k ws[j - 1].k) rfl (fun hb => ?_) (fun hb => ?_)
  ·
   refine hw_skip ?_
   simp (maxSteps := 4000000) only [↓sP, sA, tyS, simprocAttr]
   repeat refine AI ?_
   refine hK _ _ _ ?_
   clear hK K
   refine hw_seq fun K hK => ?_
   refine hw_block ?_
   have hjs : j - 1 < (ws.set j ws[j - 1]).length := by rw [List.length_set]; exact hj1
   refine hw_draw2 mixed [(0, [], []), (1, [], []), (2, [], []), (3, [], []), (4, [], []), (5, [], []), (6, [], []), (7, [], []), (8, [], []), (9, [], []), (10, [], []), (11, [], []), (12, [], []), (13, [], []), (14, [], []), (15, [], [2, 3, 4]), (16, [], []), (17, [], [])] [0, 0, 0, 0, 8, 0, 0, 64, 224, 480, 0, 0, 3072, 7168, 16355, 32739, 65535, 131071] (by kernel_rfl) (by kernel_rfl) (by kernel_rfl) (by kernel_rfl) rfl (by kernel_rfl) ?_
   iterate 18
    (refine hwalk2_step (g := none) rfl rfl fun K' hK' => ?_; simp only [sH, ↓sP, sA, tyS, simprocAttr, nth_map hjs, List.map_eq_nil_iff, List.set_eq_nil_iff, hwne, hm, h0, hw, hj, hj2, hjw, hj1, nth_map hjw, nth_map hj1, Int.natCast_nonneg, Int.ofNat_lt, List.length_set, ← List.map_set]; (repeat refine AI ?_); refine hK' _ _ ?_; clear hK' K')
   simp only [sE, ↓reduceIte, simprocAttr]
   repeat refine AI ?_
   refine hK _ _ _ ?_
   clear hK K
   refine hw_region (by kernel_rfl) ?_
   simp (maxSteps := 4000000) only [↓sP, sA, tyS, simprocAttr, hm, h0]
   refine ⟨⟨(j - 1, (ws.set j ws[j - 1]).set (j - 1) ws[j]), by simp only; omega, by simp [hw]⟩, fits_fin (by omega) (by simp [FinOk, fin_at, finA_at, upd_at, HV.men, HV.menL, HV.norm, HV.toC, HV.toCL]) (by simp [FobOk, fob_at, upd_at, none0_at, gone, HO.men, HV.men, HV.menL, HV.norm, HV.toC, HV.toCL]), ?_⟩
   show j - 1 < j
   omega
  refine hw_exit ?_
  simp (maxSteps := 4000000) only [↓sP, sA, tyS, simprocAttr]
  clear hK K
  rw [← hw] 
  exact key ws _ _ _ (by omega) (fits_fin (by omega) (by simp [FinOk, fin_at, finA_at, upd_at, HV.men, HV.menL, HV.norm, HV.toC, HV.toCL]) (by simp [FobOk, fob_at, upd_at, none0_at, gone, HO.men, HV.men, HV.menL, HV.norm, HV.toC, HV.toCL]))
 refine hw_seq fun K hK => hw_draw2 mixed [(0, [], []), (1, [], []), (2, [], []), (3, [], []), (4, [], []), (5, [], []), (6, [], []), (7, [], []), (8, [], []), (9, [], []), (10, [], []), (11, [], []), (12, [], []), (13, [], []), (14, [], []), (15, [], [])] [0, 1, 3, 7, 7, 31, 63, 127, 7, 7, 519, 1799, 3847, 7943, 16383, 32767] (by kernel_rfl) (by kernel_rfl) (by kernel_rfl) (by kernel_rfl) rfl (by kernel_rfl) ?_
 iterate 3
  (refine hwalk2_step (g := none) rfl rfl fun K' hK' => ?_; simp only [sH, ↓sP, sA, tyS, simprocAttr, Int.natCast_pos, h0]; (repeat refine AI ?_); refine hK' _ _ ?_; clear hK' K')
 iterate 12
  (refine hwalk2_step (g := some (41, true)) rfl rfl fun K' hK' => ?_; simp only [sH, ↓sP, sA, tyS, simprocAttr, Int.natCast_pos, h0]; (repeat refine AI ?_); refine hK' _ _ ?_; clear hK' K')
 refine hwalk2_step (g := none) rfl rfl fun K' hK' => ?_
 simp (maxSteps := 4000000) only [sH, ↓sP, sA, tyS, simprocAttr, Int.natCast_pos, h0]
 repeat refine AI ?_
 refine hK' _ _ ?_
 clear hK' K'
 simp only [sE, ↓reduceIte, simprocAttr]
 repeat refine AI ?_
 refine hK _ _ _ ?_
 clear hK K
 refine hw_cond (b := _) rfl (fun hb => ?_) (fun hb => ?_)
 ·
  cases hb
 refine hw_exit ?_
 simp (maxSteps := 4000000) only [↓sP, sA, tyS, simprocAttr]
 clear hK K
 rw [← hw] 
 exact key ws _ _ _ (by omega) (fits_fin (by omega) (by simp [FinOk, fin_at, finA_at, upd_at, HV.men, HV.menL, HV.norm, HV.toC, HV.toCL]) (by simp [FobOk, fob_at, upd_at, none0_at, gone, HO.men, HV.men, HV.menL, HV.norm, HV.toC, HV.toCL]))


theorem mfull_ok : HPure Tryz.prog 25 [] (fun v => v = full.cv) := by
 refine hfn_walk Tryz.func25 rfl (by kernel_rfl) (locOk_nil _) (Nat.le_of_ble_eq_true rfl) ?_
 refine hw_seq fun K hK => hw_region (by kernel_rfl) ?_
 simp (maxSteps := 4000000) only [↓sP, sA, tyS, simprocAttr]
 repeat refine AI ?_
 refine hK _ _ _ ?_
 clear hK K
 refine hw_seq fun K hK => hw_region (by kernel_rfl) ?_
 simp (maxSteps := 4000000) only [↓sP, sA, tyS, simprocAttr]
 repeat refine AI ?_
 refine hK _ _ _ ?_
 clear hK K
 refine hw_seq fun K hK => hw_region (by kernel_rfl) ?_
 simp only [sR, simprocAttr]
 refine hlex_step (g := none) rfl rfl fun K' hK' => ?_
 simp (maxSteps := 4000000) only [sH, ↓sP, sA, tyS, simprocAttr]
 refine call_pure (args := []) roles_ok ⟨rfl, rfl, rfl, rfl⟩ ?_
 rintro u rfl
 repeat refine AI ?_
 refine hK' _ _ ?_
 clear hK' K'
 refine hlex_step (g := none) rfl rfl fun K' hK' => ?_
 simp (maxSteps := 4000000) only [sH, ↓sP, sA, tyS, simprocAttr]
 repeat refine AI ?_
 refine hK' _ _ ?_
 clear hK' K'
 simp only [sE, ↓reduceIte, simprocAttr]
 repeat refine AI ?_
 refine hK _ _ _ ?_
 clear hK K
 refine hw_seq fun K hK => ?_
 refine hw_seq fun K hK => hw_region (by kernel_rfl) ?_
 simp (maxSteps := 4000000) only [↓sP, sA, tyS, simprocAttr]
 repeat refine AI ?_
 refine hK _ _ _ ?_
 clear hK K
 refine hw_block ?_
 refine hw_ownb 8 2 57 2 rfl rfl rfl rfl ?_
 refine hw_loop (α := {i : Nat // i ≤ 10}) (fun i => (fin [(0, .ptr 0 0), (1, .ptr 8 0), (2, .c (.slc (roles10.map .str))), (3, .c (.int .i64 i.1))], fob [(0, .box 30 (.c zR)), (8, .box 30 (.agg [.c (.int .i64 1), .c (.int .i64 1099511627776), .own 28 i.1, .c .nils, .c .nils])), (28, .row 57 2 ((qz i.1).map Qt.cv))])) 100 (fun i => 10 - i.1) ⟨0, by omega⟩ (fits_fin (by omega) (by simp [FinOk, fin_at, finA_at, upd_at, HV.men, HV.menL, HV.norm, HV.toC, HV.toCL]) (by simp [FobOk, fob_at, upd_at, none0_at, gone, HO.men, HV.men, HV.menL, HV.norm, HV.toC, HV.toCL, zR, qz])) ?_
 rintro ⟨i, hi⟩
 have hrl : (roles10.map CV.str).length = 10 := rfl
 have hql := qz_len hi
 have hq10 : full.q.length = 10 := rfl
 refine hw_seq fun K hK => ?_
 refine hw_seq fun K hK => hw_region (by kernel_rfl) ?_
 simp only [sR, simprocAttr]
 iterate 4
  (refine hlex_step (g := none) rfl rfl fun K' hK' => ?_; simp only [sH, ↓sP, sA, tyS, simprocAttr, hrl]; (repeat refine AI ?_); refine hK' _ _ ?_; clear hK' K')
 simp only [sE, ↓reduceIte, simprocAttr]
 repeat refine AI ?_
 refine hK _ _ _ ?_
 clear hK K
 refine hw_cond (b := decide ((i : Int) < 10)) rfl (fun hb => ?_) (fun hb => ?_)
 ·
  have hlt : i < 10 := by simp at hb; omega
  have hlt' : (i : Int) < 10 := by omega
  have hlr : i < roles10.length := hlt
  refine hw_skip ?_
  simp (maxSteps := 4000000) only [↓sP, sA, tyS, simprocAttr]
  repeat refine AI ?_
  refine hK _ _ _ ?_
  clear hK K
  refine hw_seq fun K hK => ?_
  refine hw_block ?_
  refine hw_draw2 mixed [(0, [], []), (1, [], []), (2, [], []), (3, [], []), (4, [], []), (5, [], []), (6, [], []), (7, [], []), (8, [], []), (9, [], []), (10, [], [])] [0, 1, 0, 0, 12, 28, 60, 124, 255, 511, 1023] (by kernel_rfl) (by kernel_rfl) (by kernel_rfl) (by kernel_rfl) rfl (by kernel_rfl) ?_
  iterate 6
   (refine hwalk2_step (g := none) rfl rfl fun K' hK' => ?_; simp only [sH, ↓sP, sA, tyS, simprocAttr, Int.natCast_nonneg, hrl, hlt', hlr, nth_map hlr, List.length_append, hql]; (repeat refine AI ?_); refine hK' _ _ ?_; clear hK' K')
  refine hwalk2_step (g := none) rfl rfl fun K' hK' => ?_
  simp (maxSteps := 4000000) only [sH, ↓sP, sA, tyS, simprocAttr, Int.natCast_nonneg, hrl, hlt', hlr, nth_map hlr, List.length_append, hql]
  rw [hbuild_qt _ _ rfl rfl]
  repeat refine AI ?_
  refine hK' _ _ ?_
  clear hK' K'
  iterate 4
   (refine hwalk2_step (g := none) rfl rfl fun K' hK' => ?_; simp only [sH, ↓sP, sA, tyS, simprocAttr, Int.natCast_nonneg, hrl, hlt', hlr, nth_map hlr, List.length_append, hql]; (repeat refine AI ?_); refine hK' _ _ ?_; clear hK' K')
  simp only [sE, ↓reduceIte, simprocAttr]
  repeat refine AI ?_
  refine hK _ _ _ ?_
  clear hK K
  refine hw_region (by kernel_rfl) ?_
  simp (maxSteps := 4000000) only [↓sP, sA, tyS, simprocAttr, IntWalk.i64_in _ (show -9223372036854775808 ≤ (i : Int) + 1 ∧ (i : Int) + 1 ≤ 9223372036854775807 by omega)]
  refine ⟨⟨i + 1, hlt⟩, fits_fin (by omega) (by simp [FinOk, fin_at, finA_at, upd_at, HV.men, HV.menL, HV.norm, HV.toC, HV.toCL]) (by simp [FobOk, fob_at, upd_at, none0_at, gone, HO.men, HV.men, HV.menL, HV.norm, HV.toC, HV.toCL, zR, qz_succ hlr]), ?_⟩
  show 10 - (i + 1) < 10 - i
  omega
 refine hw_exit ?_
 simp (maxSteps := 4000000) only [↓sP, sA, tyS, simprocAttr]
 clear hK K
 repeat refine AI ?_
 refine hK _ _ _ ?_
 clear hK K
 refine hw_seq fun K hK => ?_
 have hei : i = 10 := by simp at hb; omega
 subst hei
 clear hb
 refine hw_close [28] (hw_fits (fr2 := fin [(0, .ptr 0 0), (1, .ptr 8 0), (2, .c (.slc (roles10.map .str)))]) (ob2 := fob [(0, .box 30 (.c (Rt.cv ⟨0, 0, [], [], []⟩))), (8, .box 30 (.c (Rt.cv ⟨1, 1099511627776, full.q, [], []⟩)))]) (nx2 := 200) (fits_fin (by omega) (by simp [FinOk, clF_at, fin_at, finA_at, upd_at, fob_at, HV.close, HV.closeL, CV.denil, CV.denilL, denilL_str, denilL_Rv, denilL_Qt, denilL_Ky, HV.men, HV.menL, HV.norm, HV.toC, HV.toCL]) (by simp [FobOk, clO_at, fob_at, upd_at, none0_at, gone, HO.close, HV.close, HV.closeL, HO.men, HV.men, HV.menL, HV.norm, HV.toC, HV.toCL, Rt.denil, zR, Rt.cv, CV.denil, CV.denilL, denilL_str, denilL_Rv, denilL_Qt, denilL_Ky, hql, qz_all, hq10])) ?_)
 refine hw_seq fun K hK => hw_region (by kernel_rfl) ?_
 simp (maxSteps := 4000000) only [↓sP, sA, tyS, simprocAttr]
 repeat refine AI ?_
 refine hK _ _ _ ?_
 clear hK K
 refine hw_block ?_
 refine hw_loop (α := {i : Nat // i ≤ 5}) (fun i => (fin [(0, .ptr 0 0), (1, .ptr 8 0), (2, .c (.slc (roles10.map .str))), (4, .c (.int .i64 i.1))], fob [(0, .box 30 (.c (Rt.cv ⟨0, 0, [], [], []⟩))), (8, .box 30 (.c (Rt.cv ⟨1, 1099511627776, full.q, kz i.1, []⟩)))])) 300 (fun i => 5 - i.1) ⟨0, by omega⟩ (fits_fin (by omega) (by simp [FinOk, fin_at, finA_at, upd_at, HV.men, HV.menL, HV.norm, HV.toC, HV.toCL]) (by simp [FobOk, fob_at, upd_at, none0_at, gone, HO.men, HV.men, HV.menL, HV.norm, HV.toC, HV.toCL]; rfl)) ?_
 rintro ⟨i, hi⟩
 have hkl := kz_len i
 refine hw_seq fun K hK => ?_
 refine hw_seq fun K hK => hw_region (by kernel_rfl) ?_
 simp (maxSteps := 4000000) only [↓sP, sA, tyS, simprocAttr]
 repeat refine AI ?_
 refine hK _ _ _ ?_
 clear hK K
 refine hw_cond (b := decide ((i : Int) < 5)) rfl (fun hb => ?_) (fun hb => ?_)
 ·
  have hlt : i < 5 := by simp at hb; omega
  refine hw_skip ?_
  simp (maxSteps := 4000000) only [↓sP, sA, tyS, simprocAttr]
  repeat refine AI ?_
  refine hK _ _ _ ?_
  clear hK K
  refine hw_seq fun K hK => ?_
  refine hw_block ?_
  refine hw_draw2 mixed [(0, [], []), (1, [], []), (2, [], []), (4, [], []), (6, [], []), (3, [], [0, 1, 4, 6]), (5, [], [0, 1, 6]), (7, [], []), (8, [], []), (9, [], []), (10, [], [])] [0, 1, 0, 4, 0, 28, 0, 124, 255, 511, 1023] (by kernel_rfl) (by kernel_rfl) (by kernel_rfl) (by kernel_rfl) rfl (by kernel_rfl) ?_
  iterate 5
   (refine hwalk2_step (g := none) rfl rfl fun K' hK' => ?_; simp only [sH, ↓sP, sA, tyS, simprocAttr, denilL_Ky, denilL_str, Rt.fold]; (repeat refine AI ?_); refine hK' _ _ ?_; clear hK' K')
  refine hwalk2_step (g := none) rfl rfl fun K' hK' => ?_
  simp (maxSteps := 4000000) only [sH, ↓sP, sA, tyS, simprocAttr, denilL_Ky, denilL_str, Rt.fold]
  refine call_pure (args := [_]) (public_ok i (by omega)) ⟨rfl, rfl, rfl, rfl⟩ ?_
  rintro u rfl
  repeat refine AI ?_
  refine hK' _ _ ?_
  clear hK' K'
  refine hwalk2_step (g := none) rfl rfl fun K' hK' => ?_
  simp (maxSteps := 4000000) only [sH, ↓sP, sA, tyS, simprocAttr, denilL_Ky, denilL_str, Rt.fold]
  refine call_pure (args := [_]) (owner_ok i (by omega)) ⟨rfl, rfl, rfl, rfl⟩ ?_
  rintro u rfl
  repeat refine AI ?_
  refine hK' _ _ ?_
  clear hK' K'
  refine hwalk2_step (g := none) rfl rfl fun K' hK' => ?_
  simp (maxSteps := 4000000) only [sH, ↓sP, sA, tyS, simprocAttr, denilL_Ky, denilL_str, Rt.fold]
  repeat refine AI ?_
  refine hK' _ _ ?_
  clear hK' K'
  refine hwalk2_step (g := none) rfl rfl fun K' hK' => ?_
  simp (maxSteps := 4000000) only [sH, ↓sP, sA, tyS, simprocAttr, denilL_Ky, denilL_str, Rt.fold]
  refine call_pure (args := [_, _]) (insert_ok (kz i) (mKey i) (by omega)) ⟨rfl, rfl, rfl, rfl⟩ ?_
  rintro u rfl
  repeat refine AI ?_
  refine hK' _ _ ?_
  clear hK' K'
  iterate 2
   (refine hwalk2_step (g := none) rfl rfl fun K' hK' => ?_; simp only [sH, ↓sP, sA, tyS, simprocAttr, denilL_Ky, denilL_str, Rt.fold]; (repeat refine AI ?_); refine hK' _ _ ?_; clear hK' K')
  simp only [sE, ↓reduceIte, simprocAttr]
  repeat refine AI ?_
  refine hK _ _ _ ?_
  clear hK K
  refine hw_region (by kernel_rfl) ?_
  simp (maxSteps := 4000000) only [↓sP, sA, tyS, simprocAttr, IntWalk.i64_in _ (show -9223372036854775808 ≤ (i : Int) + 1 ∧ (i : Int) + 1 ≤ 9223372036854775807 by omega)]
  refine ⟨⟨i + 1, hlt⟩, fits_fin (by omega) (by simp [FinOk, fin_at, finA_at, upd_at, HV.men, HV.menL, HV.norm, HV.toC, HV.toCL]) (by simp [FobOk, fob_at, upd_at, none0_at, gone, HO.men, HV.men, HV.menL, HV.norm, HV.toC, HV.toCL, kz_succ]; rfl), ?_⟩
  show 5 - (i + 1) < 5 - i
  omega
 refine hw_exit ?_
 simp (maxSteps := 4000000) only [↓sP, sA, tyS, simprocAttr]
 clear hK K
 repeat refine AI ?_
 refine hK _ _ _ ?_
 clear hK K
 have hei : i = 5 := by simp at hb; omega
 subst hei
 clear hb
 refine hw_seq fun K hK => hw_region (by kernel_rfl) ?_
 simp (maxSteps := 4000000) only [↓sP, sA, tyS, simprocAttr]
 repeat refine AI ?_
 refine hK _ _ _ ?_
 clear hK K
 refine hw_ret ?_
 simp (maxSteps := 4000000) only [hpost, Tryz.results25, hresL, hres1, tupOf, ↓sP, sA, tyS, simprocAttr]
 exact hret_pure [] (Rt.cv ⟨1, 1099511627776, full.q, kz 5, []⟩) (close_c (Rt.denil _)) (by rw [kz_all]; rfl)

end Go.Proofs.YtenbfeemmpjdhaaGreat

namespace Go.Hl
open Go Go.RowKit Go.Sort Go.Proofs

end Go.Hl

namespace Go.Pl
open Go Go.Hl

def k0 : Ky := ⟨⟨0, zh⟩, [], [], 0, 0⟩
theorem ascB_Asc : ∀ {l : List Word}, ascB l = true → Asc l
  | [], _ => List.Pairwise.nil
  | [a], _ => by simp [Asc]
  | a :: b :: l, h => by
    simp only [ascB, Bool.and_eq_true] at h
    have ih := ascB_Asc h.2
    have hab := slt_iff.1 h.1
    refine List.pairwise_cons.2 ⟨fun w hw => ?_, ih⟩
    rcases List.mem_cons.1 hw with rfl | hw
    · exact hab
    · exact List.lt_trans hab ((List.pairwise_cons.1 ih).1 w hw)
theorem kids_apart {l : List Ky} (h : keysB l = true) {i j : Nat} (hj : j < l.length) (hij : i < j) : kid (l[i]'(by omega)) ≠ kid l[j] := by
  have h1 : ascD (l.map kid) = true := by
    unfold keysB at h
    simp only [Bool.and_eq_true] at h
    exact h.2.1
  have h2 : ascB (l.map fun k => (kid k).1) = true := by
    rw [ascB_adj, adjB_map]
    rw [ascD_adj, adjB_map] at h1
    exact h1
  have h3 : Asc (l.map fun k => (kid k).1) := ascB_Asc h2
  have h4 := List.pairwise_iff_getElem.1 h3 i j (by simp; omega) (by simpa using hj) hij
  simp only [List.getElem_map] at h4
  intro e
  rw [e] at h4
  exact List.lt_irrefl _ h4
theorem findK_self {l : List Ky} (h : keysB l = true) {i : Nat} (hi : i < l.length) : findK l (kid l[i]) = some l[i] := by
  unfold findK
  refine find_hit (p := fun k => kid k == kid l[i]) hi (by simp) fun x hx => ?_
  obtain ⟨j, hj, rfl⟩ := List.mem_take_iff_getElem.1 hx
  have : j < i := by omega
  show (kid l[j] == kid l[i]) = false
  exact beq_eq_false_iff_ne.2 (kids_apart h hi this)
theorem full_valid_v {v : Int} (h1 : 1 ≤ v) (h2 : v ≤ maxN) : validR ⟨v, full.e, full.q, full.k, full.x⟩ = true := by
  have h := full_valid
  unfold validR at h ⊢
  simp only [Bool.and_eq_true, decide_eq_true_eq] at h ⊢
  exact ⟨⟨h1, h2⟩, h.2⟩
end Go.Pl
