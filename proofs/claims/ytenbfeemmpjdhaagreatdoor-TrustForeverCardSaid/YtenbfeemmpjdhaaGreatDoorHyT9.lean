/- Part of a proof: walks of functions of the program, by contracts, and the rules they use. By an AI agent. -/
import Derived.Test.YtenbfeemmpjdhaaGreatDoorHySq
import Derived.Test.YtenbfeemmpjdhaaGreatDoorHyT5
import Derived.Test.YtenbfeemmpjdhaaGreatDoorHlZb
import Derived.Test.YtenbfeemmpjdhaaGreatDoorPl11q
set_option linter.unusedSimpArgs false
set_option linter.unusedVariables false
set_option linter.defProp false
namespace Go.Proofs.YtenbfeemmpjdhaaGreatDoor
open Go Go.Hl Go.Pl
set_option maxRecDepth 10000
set_option maxHeartbeats 4000000
set_option linter.unusedSimpArgs false
set_option linter.unusedVariables false

theorem quotas_ok (l : List Qt) (hl : l.length < 2 ^ 40) (hw : ∀ q ∈ l, q.r.length < 2 ^ 63) : HPure Tryz.prog 32 [.slc (l.map Qt.cv)] (fun v => v = .bool (quotasB l)) := by
 refine hfn_walk Tryz.func32 rfl (by kernel_rfl) (locOk_nil _) (Nat.le_of_ble_eq_true rfl) ?_
 refine R0 ?_
 refine hw_seq fun K hK => ?_
 refine R0 ?_
 refine hw_block ?_
 refine hw_loop (α := {i : Nat // i ≤ l.length ∧ GoodTo quotaB (fun a b => slt a.r b.r) l i}) (fun i => (fin [(0, .c (.slc (l.map Qt.cv))), (5, .c (.slc (l.map Qt.cv))), (6, .c (.int .i64 l.length)), (7, .c (.int .i64 i.1))], fob [])) 100 (fun i => l.length - i.1) ⟨0, by omega, GoodTo.zero⟩ (fF) ?_
 rintro ⟨i, hi, h0⟩
 refine R0 ?_
 refine hw_seq fun K hK => ?_
 refine hw_cond (b := decide ((i : Int) < l.length)) rfl (fun hb => ?_) (fun hb => ?_)
 ·
  have hlt : i < l.length := by simpa using hb
  have hi1 : i - 1 < l.length := by omega
  have hm : decide ((0 : Int) < (i : Int)) = true → IntKind.i64.wrap ((i : Int) - 1) = ((i - 1 : Nat) : Int) := fun h => by
   have : 0 < i := by simpa using h
   rw [IntWalk.i64_in _ (by omega)]; omega
  refine hw_skip ?_
  refine T0 (hK _ _ _ ?_)
  clear hK K
  refine hw_seq fun K hK => ?_
  refine hw_block ?_
  refine hw_seq fun K hK => Rg ?_
  iterate 6 refine S0 ?_ (e := fun _ h_ => by simp only [sH, ↓sP, sA, tyS, simprocAttr, Int.natCast_nonneg, Int.ofNat_lt, hlt, nth_map hlt]; exact AX h_)
  refine T2 (hK _ _ _ ?_)
  clear hK K
  refine hw_seq fun K hK => hw_draw2 mixed [(0, [], []), (1, [], []), (2, [], []), (3, [], []), (4, [], []), (5, [], []), (6, [], []), (7, [], []), (8, [], []), (9, [], []), (10, [], []), (11, [], []), (12, [], []), (13, [], []), (14, [], []), (15, [], []), (16, [], []), (17, [], []), (18, [], []), (19, [], []), (20, [], []), (21, [], []), (22, [], []), (23, [], []), (24, [], []), (25, [], []), (26, [], []), (27, [], []), (28, [], [])] [0, 1, 3, 7, 15, 31, 63, 127, 255, 511, 1023, 2047, 4095, 8191, 16383, 32767, 65535, 131071, 262143, 262143, 786431, 2097151, 4194303, 8388607, 262143, 17039359, 67108863, 134217727, 268435455] (by kernel_rfl) (by kernel_rfl) (by kernel_rfl) (by kernel_rfl) rfl (by kernel_rfl) ?_
  iterate 2 refine W0 ?_ (e := fun _ h_ => by simp only [sH, ↓sP, sA, tyS, simprocAttr, hm, Int.natCast_nonneg, Int.ofNat_lt, hi1, nth_map hi1]; exact AX h_)
  refine hwalk2_step (g := none) rfl rfl fun K' hK' => ?_
  simp only [sH, ↓sP, sA, tyS, simprocAttr, hm, Int.natCast_nonneg, Int.ofNat_lt, hi1, nth_map hi1]
  refine call_pure (args := [_]) (name_ok l[i].r (hw _ (List.getElem_mem hlt))) ⟨rfl, rfl, rfl, rfl⟩ ?_
  rintro u rfl
  refine AX (hK' _ _ ?_)
  clear hK' K'
  iterate 2 refine W0 ?_ (e := fun _ h_ => by simp only [sH, ↓sP, sA, tyS, simprocAttr, hm, Int.natCast_nonneg, Int.ofNat_lt, hi1, nth_map hi1]; exact AX h_)
  refine hwalk2_cases 14 rfl (fun h4_14 => ?_) (fun h4_14 => ?_)
  ·
   iterate 5 refine W0 ?_ (e := fun _ h_ => by simp only [sH, ↓sP, sA, tyS, simprocAttr, hm, Int.natCast_nonneg, Int.ofNat_lt, hi1, nth_map hi1, h4_14]; exact AX h_)
   refine hwalk2_cases 19 rfl (fun h4_19 => ?_) (fun h4_19 => ?_)
   ·
    iterate 19 refine W0 ?_ (e := fun _ h_ => by simp only [sH, ↓sP, sA, tyS, simprocAttr, hm, Int.natCast_nonneg, Int.ofNat_lt, hi1, nth_map hi1, h4_14, h4_19]; exact AX h_)
    refine T2 (hK _ _ _ ?_)
    clear hK K
    refine hw_cond (b := true) rfl (fun hb => ?_) (fun hb => ?_)
    ·
     refine R0 ?_
     refine hw_ret ?_
     simp only [hpost, Tryz.results32, hresL, hres1, tupOf, ↓sP, sA, tyS, simprocAttr]
     exact hret_pure [] (.bool false) rfl (by rw [quotasB_eq, bad_one hlt (by simp only [quotaB_code, h4_14, h4_19, Bool.not_true, Bool.not_false, Bool.false_and, Bool.and_false]), Bool.false_and])
    cases hb
   iterate 5 refine W0 ?_ (e := fun _ h_ => by simp only [sH, ↓sP, sA, tyS, simprocAttr, hm, Int.natCast_nonneg, Int.ofNat_lt, hi1, nth_map hi1, h4_14, h4_19]; exact AX h_)
   refine hwalk2_cases 24 rfl (fun h4_24 => ?_) (fun h4_24 => ?_)
   ·
    iterate 14 refine W0 ?_ (e := fun _ h_ => by simp only [sH, ↓sP, sA, tyS, simprocAttr, hm, Int.natCast_nonneg, Int.ofNat_lt, hi1, nth_map hi1, h4_14, h4_19, h4_24]; exact AX h_)
    refine T2 (hK _ _ _ ?_)
    clear hK K
    refine hw_cond (b := true) rfl (fun hb => ?_) (fun hb => ?_)
    ·
     refine R0 ?_
     refine hw_ret ?_
     simp only [hpost, Tryz.results32, hresL, hres1, tupOf, ↓sP, sA, tyS, simprocAttr]
     exact hret_pure [] (.bool false) rfl (by rw [quotasB_eq, bad_one hlt (by simp only [quotaB_code, h4_14, h4_19, h4_24, Bool.not_true, Bool.not_false, Bool.false_and, Bool.and_false]), Bool.false_and])
    cases hb
   iterate 3 refine W0 ?_ (e := fun _ h_ => by simp only [sH, ↓sP, sA, tyS, simprocAttr, hm, Int.natCast_nonneg, Int.ofNat_lt, hi1, nth_map hi1, h4_14, h4_19, h4_24]; exact AX h_)
   refine hwalk2_cases 28 rfl (fun h4_28 => ?_) (fun h4_28 => ?_)
   ·
    iterate 11 refine W0 ?_ (e := fun _ h_ => by simp only [sH, ↓sP, sA, tyS, simprocAttr, hm, Int.natCast_nonneg, Int.ofNat_lt, hi1, nth_map hi1, h4_14, h4_19, h4_24, h4_28]; exact AX h_)
    refine hwalk2_cases 38 rfl (fun h4_38 => ?_) (fun h4_38 => ?_)
    ·
     simp only [h4_38]
     refine T2 (hK _ _ _ ?_)
     clear hK K
     refine hw_cond (b := true) rfl (fun hb => ?_) (fun hb => ?_)
     ·
      refine R0 ?_
      refine hw_ret ?_
      simp only [hpost, Tryz.results32, hresL, hres1, tupOf, ↓sP, sA, tyS, simprocAttr]
      obtain ⟨j, rfl⟩ : ∃ j, i = j + 1 := ⟨i - 1, by simp at h4_28; omega⟩
      exact hret_pure [] (.bool false) rfl (by rw [quotasB_eq, bad_two (i := j) hlt (by simpa using h4_38), Bool.false_and])
     cases hb
    simp only [h4_38]
    refine T2 (hK _ _ _ ?_)
    clear hK K
    refine hw_cond (b := false) rfl (fun hb => ?_) (fun hb => ?_)
    ·
     cases hb
    refine hw_skip ?_
    refine T0 (hK _ _ _ ?_)
    clear hK K
    refine hw_region (by kernel_rfl) ?_
    simp only [↓sP, sA, tyS, simprocAttr, i64s i]
    obtain ⟨j, rfl⟩ : ∃ j, i = j + 1 := ⟨i - 1, by simp at h4_28; omega⟩
    refine ⟨⟨j + 1 + 1, hlt, h0.succ hlt (by simp only [quotaB_code, h4_14, h4_19, h4_24, h4_28, h4_38]; rfl) (by simpa using h4_38)⟩, fF, ?_⟩
    show l.length - (j + 1 + 1) < l.length - (j + 1)
    omega
   iterate 11 refine W0 ?_ (e := fun _ h_ => by simp only [sH, ↓sP, sA, tyS, simprocAttr, hm, Int.natCast_nonneg, Int.ofNat_lt, hi1, nth_map hi1, h4_14, h4_19, h4_24, h4_28]; exact AX h_)
   refine T2 (hK _ _ _ ?_)
   clear hK K
   refine hw_cond (b := false) rfl (fun hb => ?_) (fun hb => ?_)
   ·
    cases hb
   refine hw_skip ?_
   refine T0 (hK _ _ _ ?_)
   clear hK K
   refine hw_region (by kernel_rfl) ?_
   simp only [↓sP, sA, tyS, simprocAttr, i64s i]
   obtain rfl : i = 0 := by simp at h4_28; omega
   refine ⟨⟨1, hlt, GoodTo.one hlt (by simp only [quotaB_code, h4_14, h4_19, h4_24, h4_28]; rfl)⟩, fF, ?_⟩
   show l.length - 1 < l.length - 0
   omega
  iterate 24 refine W0 ?_ (e := fun _ h_ => by simp only [sH, ↓sP, sA, tyS, simprocAttr, hm, Int.natCast_nonneg, Int.ofNat_lt, hi1, nth_map hi1, h4_14]; exact AX h_)
  refine T2 (hK _ _ _ ?_)
  clear hK K
  refine hw_cond (b := true) rfl (fun hb => ?_) (fun hb => ?_)
  ·
   refine R0 ?_
   refine hw_ret ?_
   simp only [hpost, Tryz.results32, hresL, hres1, tupOf, ↓sP, sA, tyS, simprocAttr]
   exact hret_pure [] (.bool false) rfl (by rw [quotasB_eq, bad_one hlt (by simp only [quotaB_code, h4_14, Bool.not_true, Bool.not_false, Bool.false_and, Bool.and_false]), Bool.false_and])
  cases hb
 refine hw_exit ?_
 simp only [↓sP, sA, tyS, simprocAttr]
 clear hK K
 refine AX (hK _ _ _ ?_)
 clear hK K
 refine hw_seq fun K hK => Rg ?_
 iterate 4 refine S0 ?_
 refine T2 (hK _ _ _ ?_)
 clear hK K
 refine hw_ret ?_
 simp only [hpost, Tryz.results32, hresL, hres1, tupOf, ↓sP, sA, tyS, simprocAttr]
 have hei : i = l.length := by simp at hb; omega
 subst hei
 refine hret_pure [] (.bool _) rfl ?_
 rw [quotasB_eq, h0.all, Bool.true_and]
 congr 1
 exact decide_eq_decide.2 (by omega)


theorem revocations_ok (l : List Rv) (hl : l.length < 2 ^ 40) : HPure Tryz.prog 34 [.slc (l.map Rv.cv)] (fun v => v = .bool (revsB l)) := by
 refine hfn_walk Tryz.func34 rfl (by kernel_rfl) (locOk_nil _) (Nat.le_of_ble_eq_true rfl) ?_
 refine R0 ?_
 refine hw_seq fun K hK => ?_
 refine R0 ?_
 refine hw_block ?_
 refine hw_loop (α := {i : Nat // i ≤ l.length ∧ GoodTo (fun x => inN x.t) (fun a b => dlt a.k b.k) l i}) (fun i => (fin [(0, .c (.slc (l.map Rv.cv))), (5, .c (.slc (l.map Rv.cv))), (6, .c (.int .i64 l.length)), (7, .c (.int .i64 i.1))], fob [])) 100 (fun i => l.length - i.1) ⟨0, by omega, GoodTo.zero⟩ (fF) ?_
 rintro ⟨i, hi, h0⟩
 refine R0 ?_
 refine hw_seq fun K hK => ?_
 refine hw_cond (b := decide ((i : Int) < l.length)) rfl (fun hb => ?_) (fun hb => ?_)
 ·
  have hlt : i < l.length := by simpa using hb
  have hi1 : i - 1 < l.length := by omega
  have hm : decide ((0 : Int) < (i : Int)) = true → IntKind.i64.wrap ((i : Int) - 1) = ((i - 1 : Nat) : Int) := fun h => by
   have : 0 < i := by simpa using h
   rw [IntWalk.i64_in _ (by omega)]; omega
  refine hw_skip ?_
  refine T0 (hK _ _ _ ?_)
  clear hK K
  refine hw_seq fun K hK => ?_
  refine hw_block ?_
  refine hw_seq fun K hK => Rg ?_
  iterate 6 refine S0 ?_ (e := fun _ h_ => by simp only [sH, ↓sP, sA, tyS, simprocAttr, Int.natCast_nonneg, Int.ofNat_lt, hlt, nth_map hlt]; exact AX h_)
  refine T2 (hK _ _ _ ?_)
  clear hK K
  refine hw_seq fun K hK => hw_draw2 mixed [(0, [], []), (1, [], []), (2, [], []), (3, [], []), (4, [], []), (5, [], []), (6, [], []), (7, [], []), (8, [], []), (9, [], []), (10, [], []), (11, [], []), (12, [], []), (13, [], []), (14, [], []), (15, [], []), (16, [], []), (17, [], []), (18, [], []), (19, [], [])] [0, 1, 3, 7, 15, 31, 63, 127, 255, 255, 767, 2047, 4095, 8191, 255, 16639, 65535, 131071, 262143, 524287] (by kernel_rfl) (by kernel_rfl) (by kernel_rfl) (by kernel_rfl) rfl (by kernel_rfl) ?_
  iterate 2 refine W0 ?_ (e := fun _ h_ => by simp only [sH, ↓sP, sA, tyS, simprocAttr, hm, Int.natCast_nonneg, Int.ofNat_lt, hi1, nth_map hi1]; exact AX h_)
  refine hwalk2_step (g := none) rfl rfl fun K' hK' => ?_
  simp only [sH, ↓sP, sA, tyS, simprocAttr, hm, Int.natCast_nonneg, Int.ofNat_lt, hi1, nth_map hi1]
  refine call_pure (args := [_, _]) (within_ok 0 l[i].t) ⟨rfl, rfl, rfl, rfl⟩ ?_
  rintro u rfl
  refine AX (hK' _ _ ?_)
  clear hK' K'
  iterate 2 refine W0 ?_ (e := fun _ h_ => by simp only [sH, ↓sP, sA, tyS, simprocAttr, hm, Int.natCast_nonneg, Int.ofNat_lt, hi1, nth_map hi1]; exact AX h_)
  refine hwalk2_cases 14 rfl (fun h4_14 => ?_) (fun h4_14 => ?_)
  ·
   iterate 3 refine W0 ?_ (e := fun _ h_ => by simp only [sH, ↓sP, sA, tyS, simprocAttr, hm, Int.natCast_nonneg, Int.ofNat_lt, hi1, nth_map hi1, h4_14]; exact AX h_)
   refine hwalk2_cases 18 rfl (fun h4_18 => ?_) (fun h4_18 => ?_)
   ·
    iterate 8 refine W0 ?_ (e := fun _ h_ => by simp only [sH, ↓sP, sA, tyS, simprocAttr, hm, Int.natCast_nonneg, Int.ofNat_lt, hi1, nth_map hi1, h4_14, h4_18]; exact AX h_)
    refine hwalk2_step (g := some (19, true)) rfl rfl fun K' hK' => ?_
    simp only [sH, ↓sP, sA, tyS, simprocAttr, hm, Int.natCast_nonneg, Int.ofNat_lt, hi1, nth_map hi1, h4_14, h4_18]
    refine call_pure (args := [_, _]) (order_ok l[i - 1].k l[i].k) ⟨rfl, rfl, rfl, rfl⟩ ?_
    rintro u rfl
    refine AX (hK' _ _ ?_)
    clear hK' K'
    iterate 3 refine W0 ?_ (e := fun _ h_ => by simp only [sH, ↓sP, sA, tyS, simprocAttr, hm, Int.natCast_nonneg, Int.ofNat_lt, hi1, nth_map hi1, h4_14, h4_18]; exact AX h_)
    refine hwalk2_cases 29 rfl (fun h4_29 => ?_) (fun h4_29 => ?_)
    ·
     simp only [h4_29]
     refine T2 (hK _ _ _ ?_)
     clear hK K
     refine hw_cond (b := true) rfl (fun hb => ?_) (fun hb => ?_)
     ·
      refine R0 ?_
      refine hw_ret ?_
      simp only [hpost, Tryz.results34, hresL, hres1, tupOf, ↓sP, sA, tyS, simprocAttr]
      obtain ⟨j, rfl⟩ : ∃ j, i = j + 1 := ⟨i - 1, by simp at h4_18; omega⟩
      exact hret_pure [] (.bool false) rfl (by rw [revsB_eq, bad_two (i := j) hlt (by rw [cmp_dlt] at h4_29; simpa using h4_29), Bool.false_and])
     cases hb
    simp only [h4_29]
    refine T2 (hK _ _ _ ?_)
    clear hK K
    refine hw_cond (b := false) rfl (fun hb => ?_) (fun hb => ?_)
    ·
     cases hb
    refine hw_skip ?_
    refine T0 (hK _ _ _ ?_)
    clear hK K
    refine hw_region (by kernel_rfl) ?_
    simp only [↓sP, sA, tyS, simprocAttr, i64s i]
    obtain ⟨j, rfl⟩ : ∃ j, i = j + 1 := ⟨i - 1, by simp at h4_18; omega⟩
    refine ⟨⟨j + 1 + 1, hlt, h0.succ hlt h4_14 (by rw [cmp_dlt] at h4_29; simpa using h4_29)⟩, fF, ?_⟩
    show l.length - (j + 1 + 1) < l.length - (j + 1)
    omega
   iterate 12 refine W0 ?_ (e := fun _ h_ => by simp only [sH, ↓sP, sA, tyS, simprocAttr, hm, Int.natCast_nonneg, Int.ofNat_lt, hi1, nth_map hi1, h4_14, h4_18]; exact AX h_)
   refine T2 (hK _ _ _ ?_)
   clear hK K
   refine hw_cond (b := false) rfl (fun hb => ?_) (fun hb => ?_)
   ·
    cases hb
   refine hw_skip ?_
   refine T0 (hK _ _ _ ?_)
   clear hK K
   refine hw_region (by kernel_rfl) ?_
   simp only [↓sP, sA, tyS, simprocAttr, i64s i]
   obtain rfl : i = 0 := by simp at h4_18; omega
   refine ⟨⟨1, hlt, GoodTo.one hlt h4_14⟩, fF, ?_⟩
   show l.length - 1 < l.length - 0
   omega
  iterate 15 refine W0 ?_ (e := fun _ h_ => by simp only [sH, ↓sP, sA, tyS, simprocAttr, hm, Int.natCast_nonneg, Int.ofNat_lt, hi1, nth_map hi1, h4_14]; exact AX h_)
  refine T2 (hK _ _ _ ?_)
  clear hK K
  refine hw_cond (b := true) rfl (fun hb => ?_) (fun hb => ?_)
  ·
   refine R0 ?_
   refine hw_ret ?_
   simp only [hpost, Tryz.results34, hresL, hres1, tupOf, ↓sP, sA, tyS, simprocAttr]
   exact hret_pure [] (.bool false) rfl (by rw [revsB_eq, bad_one hlt h4_14, Bool.false_and])
  cases hb
 refine hw_exit ?_
 simp only [↓sP, sA, tyS, simprocAttr]
 clear hK K
 refine AX (hK _ _ _ ?_)
 clear hK K
 refine hw_seq fun K hK => Rg ?_
 iterate 4 refine S0 ?_
 refine T2 (hK _ _ _ ?_)
 clear hK K
 refine hw_ret ?_
 simp only [hpost, Tryz.results34, hresL, hres1, tupOf, ↓sP, sA, tyS, simprocAttr]
 have hei : i = l.length := by simp at hb; omega
 subst hei
 refine hret_pure [] (.bool _) rfl ?_
 rw [revsB_eq, h0.all, Bool.true_and]
 congr 1
 exact decide_eq_decide.2 (by omega)


theorem rkey_ok (k : Ky) (hk : kSz k) : HPure Tryz.prog 40 [k.cv] (fun v => v = .bool (keyB k)) := by
 refine hfn_walk Tryz.func40 rfl (by kernel_rfl) (locOk_nil _) (Nat.le_of_ble_eq_true rfl) ?_
 refine R0 ?_
 refine hw_seq fun K hK => Rg ?_
 iterate 2 refine S0 ?_
 refine hlex_step (g := none) rfl rfl fun K' hK' => ?_
 simp only [sH, ↓sP, sA, tyS, simprocAttr]
 refine call_pure (args := [_]) (pvalid9_ok k.p) ⟨rfl, rfl, rfl, rfl⟩ ?_
 rintro u rfl
 refine AX (hK' _ _ ?_)
 clear hK' K'
 refine S0 ?_
 refine hlex_cases 5 rfl (fun h1_5 => ?_) (fun h1_5 => ?_)
 ·
  iterate 2 refine S0 ?_ (e := fun _ h_ => by simp only [sH, ↓sP, sA, tyS, simprocAttr, h1_5]; exact AX h_)
  refine hlex_step (g := some (6, true)) rfl rfl fun K' hK' => ?_
  simp only [sH, ↓sP, sA, tyS, simprocAttr, h1_5]
  refine call_pure (args := [_]) (rname_ok k.o hk.1) ⟨rfl, rfl, rfl, rfl⟩ ?_
  rintro u rfl
  refine AX (hK' _ _ ?_)
  clear hK' K'
  iterate 2 refine S0 ?_ (e := fun _ h_ => by simp only [sH, ↓sP, sA, tyS, simprocAttr, h1_5]; exact AX h_)
  refine hlex_cases 9 rfl (fun h1_9 => ?_) (fun h1_9 => ?_)
  ·
   iterate 6 refine S0 ?_ (e := fun _ h_ => by simp only [sH, ↓sP, sA, tyS, simprocAttr, h1_5, h1_9]; exact AX h_)
   refine hlex_cases 15 rfl (fun h1_15 => ?_) (fun h1_15 => ?_)
   ·
    iterate 6 refine S0 ?_ (e := fun _ h_ => by simp only [sH, ↓sP, sA, tyS, simprocAttr, h1_5, h1_9, h1_15]; exact AX h_)
    refine hlex_cases 21 rfl (fun h1_21 => ?_) (fun h1_21 => ?_)
    ·
     iterate 2 refine S0 ?_ (e := fun _ h_ => by simp only [sH, ↓sP, sA, tyS, simprocAttr, h1_5, h1_9, h1_15, h1_21]; exact AX h_)
     refine hlex_step (g := some (23, true)) rfl rfl fun K' hK' => ?_
     simp only [sH, ↓sP, sA, tyS, simprocAttr, h1_5, h1_9, h1_15, h1_21]
     refine call_pure (args := [_]) (rnames_ok k.rs hk.2.1 hk.2.2) ⟨rfl, rfl, rfl, rfl⟩ ?_
     rintro u rfl
     refine AX (hK' _ _ ?_)
     clear hK' K'
     iterate 2 refine S0 ?_ (e := fun _ h_ => by simp only [sH, ↓sP, sA, tyS, simprocAttr, h1_5, h1_9, h1_15, h1_21]; exact AX h_)
     refine hlex_cases 26 rfl (fun h1_26 => ?_) (fun h1_26 => ?_)
     ·
      iterate 5 refine S0 ?_ (e := fun _ h_ => by simp only [sH, ↓sP, sA, tyS, simprocAttr, h1_5, h1_9, h1_15, h1_21, h1_26]; exact AX h_)
      refine hlex_cases 31 rfl (fun h1_31 => ?_) (fun h1_31 => ?_)
      ·
       iterate 7 refine S0 ?_ (e := fun _ h_ => by simp only [sH, ↓sP, sA, tyS, simprocAttr, h1_5, h1_9, h1_15, h1_21, h1_26, h1_31]; exact AX h_)
       refine hlex_cases 38 rfl (fun h1_38 => ?_) (fun h1_38 => ?_)
       ·
        iterate 5 refine S0 ?_ (e := fun _ h_ => by simp only [sH, ↓sP, sA, tyS, simprocAttr, h1_5, h1_9, h1_15, h1_21, h1_26, h1_31, h1_38]; exact AX h_)
        refine hlex_cases 43 rfl (fun h1_43 => ?_) (fun h1_43 => ?_)
        ·
         simp only [h1_43]
         refine T2 (hK _ _ _ ?_)
         clear hK K
         refine hw_ret ?_
         simp only [hpost, Tryz.results40, hresL, hres1, tupOf, ↓sP, sA, tyS, simprocAttr]
         exact hret_pure [] (.bool true) rfl (by simp only [keyB_ref, maxN, h1_5, h1_9, h1_15, h1_21, h1_26, h1_31, h1_38, h1_43, Bool.and_true, Bool.and_false, Bool.true_and, Bool.false_and]; try exact congrArg CV.bool h1_43.symm)
        simp only [h1_43]
        refine T2 (hK _ _ _ ?_)
        clear hK K
        refine hw_ret ?_
        simp only [hpost, Tryz.results40, hresL, hres1, tupOf, ↓sP, sA, tyS, simprocAttr]
        exact hret_pure [] (.bool false) rfl (by simp only [keyB_ref, maxN, h1_5, h1_9, h1_15, h1_21, h1_26, h1_31, h1_38, h1_43, Bool.and_true, Bool.and_false, Bool.true_and, Bool.false_and]; try exact congrArg CV.bool h1_43.symm)
       iterate 5 refine S0 ?_ (e := fun _ h_ => by simp only [sH, ↓sP, sA, tyS, simprocAttr, h1_5, h1_9, h1_15, h1_21, h1_26, h1_31, h1_38]; exact AX h_)
       refine T2 (hK _ _ _ ?_)
       clear hK K
       refine hw_ret ?_
       simp only [hpost, Tryz.results40, hresL, hres1, tupOf, ↓sP, sA, tyS, simprocAttr]
       exact hret_pure [] (.bool false) rfl (by simp only [keyB_ref, maxN, h1_5, h1_9, h1_15, h1_21, h1_26, h1_31, h1_38, Bool.and_true, Bool.and_false, Bool.true_and, Bool.false_and]; try exact congrArg CV.bool h1_43.symm)
      iterate 12 refine S0 ?_ (e := fun _ h_ => by simp only [sH, ↓sP, sA, tyS, simprocAttr, h1_5, h1_9, h1_15, h1_21, h1_26, h1_31]; exact AX h_)
      refine T2 (hK _ _ _ ?_)
      clear hK K
      refine hw_ret ?_
      simp only [hpost, Tryz.results40, hresL, hres1, tupOf, ↓sP, sA, tyS, simprocAttr]
      exact hret_pure [] (.bool false) rfl (by simp only [keyB_ref, maxN, h1_5, h1_9, h1_15, h1_21, h1_26, h1_31, Bool.and_true, Bool.and_false, Bool.true_and, Bool.false_and]; try exact congrArg CV.bool h1_43.symm)
     iterate 17 refine S0 ?_ (e := fun _ h_ => by simp only [sH, ↓sP, sA, tyS, simprocAttr, h1_5, h1_9, h1_15, h1_21, h1_26]; exact AX h_)
     refine T2 (hK _ _ _ ?_)
     clear hK K
     refine hw_ret ?_
     simp only [hpost, Tryz.results40, hresL, hres1, tupOf, ↓sP, sA, tyS, simprocAttr]
     exact hret_pure [] (.bool false) rfl (by simp only [keyB_ref, maxN, h1_5, h1_9, h1_15, h1_21, h1_26, Bool.and_true, Bool.and_false, Bool.true_and, Bool.false_and]; try exact congrArg CV.bool h1_43.symm)
    iterate 22 refine S0 ?_ (e := fun _ h_ => by simp only [sH, ↓sP, sA, tyS, simprocAttr, h1_5, h1_9, h1_15, h1_21]; exact AX h_)
    refine T2 (hK _ _ _ ?_)
    clear hK K
    refine hw_ret ?_
    simp only [hpost, Tryz.results40, hresL, hres1, tupOf, ↓sP, sA, tyS, simprocAttr]
    exact hret_pure [] (.bool false) rfl (by simp only [keyB_ref, maxN, h1_5, h1_9, h1_15, h1_21, Bool.and_true, Bool.and_false, Bool.true_and, Bool.false_and]; try exact congrArg CV.bool h1_43.symm)
   iterate 28 refine S0 ?_ (e := fun _ h_ => by simp only [sH, ↓sP, sA, tyS, simprocAttr, h1_5, h1_9, h1_15]; exact AX h_)
   refine T2 (hK _ _ _ ?_)
   clear hK K
   refine hw_ret ?_
   simp only [hpost, Tryz.results40, hresL, hres1, tupOf, ↓sP, sA, tyS, simprocAttr]
   exact hret_pure [] (.bool false) rfl (by simp only [keyB_ref, maxN, h1_5, h1_9, h1_15, Bool.and_true, Bool.and_false, Bool.true_and, Bool.false_and]; try exact congrArg CV.bool h1_43.symm)
  iterate 34 refine S0 ?_ (e := fun _ h_ => by simp only [sH, ↓sP, sA, tyS, simprocAttr, h1_5, h1_9]; exact AX h_)
  refine T2 (hK _ _ _ ?_)
  clear hK K
  refine hw_ret ?_
  simp only [hpost, Tryz.results40, hresL, hres1, tupOf, ↓sP, sA, tyS, simprocAttr]
  exact hret_pure [] (.bool false) rfl (by simp only [keyB_ref, maxN, h1_5, h1_9, Bool.and_true, Bool.and_false, Bool.true_and, Bool.false_and]; try exact congrArg CV.bool h1_43.symm)
 iterate 39 refine S0 ?_ (e := fun _ h_ => by simp only [sH, ↓sP, sA, tyS, simprocAttr, h1_5]; exact AX h_)
 refine T2 (hK _ _ _ ?_)
 clear hK K
 refine hw_ret ?_
 simp only [hpost, Tryz.results40, hresL, hres1, tupOf, ↓sP, sA, tyS, simprocAttr]
 exact hret_pure [] (.bool false) rfl (by simp only [keyB_ref, maxN, h1_5, Bool.and_true, Bool.and_false, Bool.true_and, Bool.false_and]; try exact congrArg CV.bool h1_43.symm)


theorem keys_ok (hid : ∀ p : Pk, HPure Tryz.prog 81 [p.cv] (fun v => v = dg (pid p))) (l : List Ky) (hl : l.length < 2 ^ 40) (hw : ∀ k ∈ l, kSz k) : HPure Tryz.prog 33 [.slc (l.map Ky.cv)] (fun v => v = .bool (keysB l)) := by
 refine hfn_walk Tryz.func33 rfl (by kernel_rfl) (locOk_nil _) (Nat.le_of_ble_eq_true rfl) ?_
 refine R0 ?_
 refine hw_seq fun K hK => ?_
 refine R0 ?_
 refine hw_block ?_
 refine hw_loop (α := {i : Nat // i ≤ l.length ∧ GoodTo keyB (fun a b => dlt (kid a) (kid b)) l i}) (fun i => (fin [(0, .c (.slc (l.map Ky.cv))), (5, .c (.slc (l.map Ky.cv))), (6, .c (.int .i64 l.length)), (7, .c (.int .i64 i.1))], fob [])) 100 (fun i => l.length - i.1) ⟨0, by omega, GoodTo.zero⟩ (fF) ?_
 rintro ⟨i, hi, h0⟩
 refine R0 ?_
 refine hw_seq fun K hK => ?_
 refine hw_cond (b := decide ((i : Int) < l.length)) rfl (fun hb => ?_) (fun hb => ?_)
 ·
  have hlt : i < l.length := by simpa using hb
  have hi1 : i - 1 < l.length := by omega
  have hm : decide ((0 : Int) < (i : Int)) = true → IntKind.i64.wrap ((i : Int) - 1) = ((i - 1 : Nat) : Int) := fun h => by
   have : 0 < i := by simpa using h
   rw [IntWalk.i64_in _ (by omega)]; omega
  have hk := hw _ (List.getElem_mem hlt)
  refine hw_skip ?_
  refine T0 (hK _ _ _ ?_)
  clear hK K
  refine hw_seq fun K hK => ?_
  refine hw_block ?_
  refine hw_seq fun K hK => Rg ?_
  iterate 6 refine S0 ?_ (e := fun _ h_ => by simp only [sH, ↓sP, sA, tyS, simprocAttr, Int.natCast_nonneg, Int.ofNat_lt, hlt, nth_map hlt]; exact AX h_)
  refine T2 (hK _ _ _ ?_)
  clear hK K
  refine hw_seq fun K hK => ?_
  refine hw_seq fun K hK => Rg ?_
  iterate 2 refine S0 ?_
  refine hlex_step (g := none) rfl rfl fun K' hK' => ?_
  simp only [sH, ↓sP, sA, tyS, simprocAttr]
  refine call_pure (args := [_]) (pvalid_ok l[i].p) ⟨rfl, rfl, rfl, rfl⟩ ?_
  rintro u rfl
  refine AX (hK' _ _ ?_)
  clear hK' K'
  iterate 2 refine S0 ?_
  refine hlex_cases 14 rfl (fun h4_14 => ?_) (fun h4_14 => ?_)
  ·
   iterate 2 refine S0 ?_ (e := fun _ h_ => by simp only [sH, ↓sP, sA, tyS, simprocAttr, h4_14]; exact AX h_)
   refine hlex_step (g := some (16, false)) rfl rfl fun K' hK' => ?_
   simp only [sH, ↓sP, sA, tyS, simprocAttr, h4_14]
   refine call_pure (args := [_]) (name_ok l[i].o hk.1) ⟨rfl, rfl, rfl, rfl⟩ ?_
   rintro u rfl
   refine AX (hK' _ _ ?_)
   clear hK' K'
   iterate 3 refine S0 ?_ (e := fun _ h_ => by simp only [sH, ↓sP, sA, tyS, simprocAttr, h4_14]; exact AX h_)
   refine hlex_cases 19 rfl (fun h4_19 => ?_) (fun h4_19 => ?_)
   ·
    iterate 6 refine S0 ?_ (e := fun _ h_ => by simp only [sH, ↓sP, sA, tyS, simprocAttr, h4_14, h4_19]; exact AX h_)
    refine hlex_cases 26 rfl (fun h4_26 => ?_) (fun h4_26 => ?_)
    ·
     iterate 11 refine S0 ?_ (e := fun _ h_ => by simp only [sH, ↓sP, sA, tyS, simprocAttr, h4_14, h4_19, h4_26]; exact AX h_)
     refine T2 (hK _ _ _ ?_)
     clear hK K
     refine hw_cond (b := true) rfl (fun hb => ?_) (fun hb => ?_)
     ·
      refine R0 ?_
      refine hw_ret ?_
      simp only [hpost, Tryz.results33, hresL, hres1, tupOf, ↓sP, sA, tyS, simprocAttr]
      exact hret_pure [] (.bool false) rfl (by rw [keysB_eq, bad_one hlt (by simp only [keyB_code, h4_14, h4_19, h4_26, Bool.not_true, Bool.not_false, Bool.false_and, Bool.and_false]), Bool.false_and])
     cases hb
    iterate 6 refine S0 ?_ (e := fun _ h_ => by simp only [sH, ↓sP, sA, tyS, simprocAttr, h4_14, h4_19, h4_26]; exact AX h_)
    refine hlex_cases 32 rfl (fun h4_32 => ?_) (fun h4_32 => ?_)
    ·
     iterate 5 refine S0 ?_ (e := fun _ h_ => by simp only [sH, ↓sP, sA, tyS, simprocAttr, h4_14, h4_19, h4_26, h4_32]; exact AX h_)
     refine T2 (hK _ _ _ ?_)
     clear hK K
     refine hw_cond (b := true) rfl (fun hb => ?_) (fun hb => ?_)
     ·
      refine R0 ?_
      refine hw_ret ?_
      simp only [hpost, Tryz.results33, hresL, hres1, tupOf, ↓sP, sA, tyS, simprocAttr]
      exact hret_pure [] (.bool false) rfl (by rw [keysB_eq, bad_one hlt (by simp only [keyB_code, h4_14, h4_19, h4_26, h4_32, Bool.not_true, Bool.not_false, Bool.false_and, Bool.and_false]), Bool.false_and])
     cases hb
    iterate 2 refine S0 ?_ (e := fun _ h_ => by simp only [sH, ↓sP, sA, tyS, simprocAttr, h4_14, h4_19, h4_26, h4_32]; exact AX h_)
    refine hlex_step (g := some (34, false)) rfl rfl fun K' hK' => ?_
    simp only [sH, ↓sP, sA, tyS, simprocAttr, h4_14, h4_19, h4_26, h4_32]
    refine call_pure (args := [_]) (names_ok l[i].rs hk.2.1 hk.2.2) ⟨rfl, rfl, rfl, rfl⟩ ?_
    rintro u rfl
    refine AX (hK' _ _ ?_)
    clear hK' K'
    iterate 2 refine S0 ?_ (e := fun _ h_ => by simp only [sH, ↓sP, sA, tyS, simprocAttr, h4_14, h4_19, h4_26, h4_32]; exact AX h_)
    refine hlex_cases 37 rfl (fun h4_37 => ?_) (fun h4_37 => ?_)
    ·
     simp only [h4_37]
     refine T2 (hK _ _ _ ?_)
     clear hK K
     refine hw_cond (b := false) rfl (fun hb => ?_) (fun hb => ?_)
     ·
      cases hb
     refine hw_skip ?_
     refine T0 (hK _ _ _ ?_)
     clear hK K
     refine hw_seq fun K hK => ?_
     refine hw_seq fun K hK => Rg ?_
     iterate 2 refine S0 ?_ (e := fun _ h_ => by simp only [sH, ↓sP, sA, tyS, simprocAttr, h4_14, h4_19, h4_26, h4_32, h4_37]; exact AX h_)
     refine hlex_step (g := none) rfl rfl fun K' hK' => ?_
     simp only [sH, ↓sP, sA, tyS, simprocAttr, h4_14, h4_19, h4_26, h4_32, h4_37]
     refine call_pure (args := [_, _]) (within_ok 0 l[i].fr) ⟨rfl, rfl, rfl, rfl⟩ ?_
     rintro u rfl
     refine AX (hK' _ _ ?_)
     clear hK' K'
     iterate 2 refine S0 ?_ (e := fun _ h_ => by simp only [sH, ↓sP, sA, tyS, simprocAttr, h4_14, h4_19, h4_26, h4_32, h4_37]; exact AX h_)
     refine hlex_cases 42 rfl (fun h6_42 => ?_) (fun h6_42 => ?_)
     ·
      iterate 2 refine S0 ?_ (e := fun _ h_ => by simp only [sH, ↓sP, sA, tyS, simprocAttr, h4_14, h4_19, h4_26, h4_32, h4_37, h6_42]; exact AX h_)
      refine hlex_step (g := some (44, false)) rfl rfl fun K' hK' => ?_
      simp only [sH, ↓sP, sA, tyS, simprocAttr, h4_14, h4_19, h4_26, h4_32, h4_37, h6_42]
      refine call_pure (args := [_, _]) (within_ok 0 l[i].un) ⟨rfl, rfl, rfl, rfl⟩ ?_
      rintro u rfl
      refine AX (hK' _ _ ?_)
      clear hK' K'
      iterate 3 refine S0 ?_ (e := fun _ h_ => by simp only [sH, ↓sP, sA, tyS, simprocAttr, h4_14, h4_19, h4_26, h4_32, h4_37, h6_42]; exact AX h_)
      refine hlex_cases 47 rfl (fun h6_47 => ?_) (fun h6_47 => ?_)
      ·
       iterate 6 refine S0 ?_ (e := fun _ h_ => by simp only [sH, ↓sP, sA, tyS, simprocAttr, h4_14, h4_19, h4_26, h4_32, h4_37, h6_42, h6_47]; exact AX h_)
       refine hlex_cases 55 rfl (fun h6_55 => ?_) (fun h6_55 => ?_)
       ·
        simp only [h6_55]
        refine T2 (hK _ _ _ ?_)
        clear hK K
        refine hw_cond (b := true) rfl (fun hb => ?_) (fun hb => ?_)
        ·
         refine R0 ?_
         refine hw_ret ?_
         simp only [hpost, Tryz.results33, hresL, hres1, tupOf, ↓sP, sA, tyS, simprocAttr]
         exact hret_pure [] (.bool false) rfl (by rw [keysB_eq, bad_one hlt (by simp only [keyB_code, h4_14, h4_19, h4_26, h4_32, h4_37, h6_42, h6_47, h6_55, Bool.not_true, Bool.not_false, Bool.false_and, Bool.and_false]), Bool.false_and])
        cases hb
       simp only [h6_55]
       refine T2 (hK _ _ _ ?_)
       clear hK K
       refine hw_cond (b := false) rfl (fun hb => ?_) (fun hb => ?_)
       ·
        cases hb
       refine hw_skip ?_
       refine T0 (hK _ _ _ ?_)
       clear hK K
       refine hw_seq fun K hK => hw_draw2 mixed [(0, [], []), (1, [], []), (2, [], []), (3, [], []), (4, [], []), (5, [], []), (6, [], []), (7, [], []), (8, [], []), (10, [], []), (11, [], []), (9, [], [10, 11]), (12, [], []), (13, [], []), (14, [], []), (15, [], [])] [0, 1, 3, 7, 7, 23, 63, 127, 255, 511, 7, 1031, 4095, 8191, 16383, 32767] (by kernel_rfl) (by kernel_rfl) (by kernel_rfl) (by kernel_rfl) rfl (by kernel_rfl) ?_
       iterate 3 refine W0 ?_ (e := fun _ h_ => by simp only [sH, ↓sP, sA, tyS, simprocAttr, hm, Int.natCast_nonneg, Int.ofNat_lt, hi1, nth_map hi1, h4_14, h4_19, h4_26, h4_32, h4_37, h6_42, h6_47, h6_55]; exact AX h_)
       refine hwalk2_cases 58 rfl (fun h8_58 => ?_) (fun h8_58 => ?_)
       ·
        iterate 8 refine W0 ?_ (e := fun _ h_ => by simp only [sH, ↓sP, sA, tyS, simprocAttr, hm, Int.natCast_nonneg, Int.ofNat_lt, hi1, nth_map hi1, h4_14, h4_19, h4_26, h4_32, h4_37, h6_42, h6_47, h6_55, h8_58]; exact AX h_)
        refine hwalk2_step (g := some (59, true)) rfl rfl fun K' hK' => ?_
        simp only [sH, ↓sP, sA, tyS, simprocAttr, hm, Int.natCast_nonneg, Int.ofNat_lt, hi1, nth_map hi1, h4_14, h4_19, h4_26, h4_32, h4_37, h6_42, h6_47, h6_55, h8_58]
        refine call_pure (args := [_]) (hid l[i - 1].p) ⟨rfl, rfl, rfl, rfl⟩ ?_
        rintro u rfl
        refine AX (hK' _ _ ?_)
        clear hK' K'
        refine hwalk2_step (g := some (59, true)) rfl rfl fun K' hK' => ?_
        simp only [sH, ↓sP, sA, tyS, simprocAttr, hm, Int.natCast_nonneg, Int.ofNat_lt, hi1, nth_map hi1, h4_14, h4_19, h4_26, h4_32, h4_37, h6_42, h6_47, h6_55, h8_58]
        refine call_pure (args := [_]) (hid l[i].p) ⟨rfl, rfl, rfl, rfl⟩ ?_
        rintro u rfl
        refine AX (hK' _ _ ?_)
        clear hK' K'
        refine hwalk2_step (g := some (59, true)) rfl rfl fun K' hK' => ?_
        simp only [sH, ↓sP, sA, tyS, simprocAttr, hm, Int.natCast_nonneg, Int.ofNat_lt, hi1, nth_map hi1, h4_14, h4_19, h4_26, h4_32, h4_37, h6_42, h6_47, h6_55, h8_58]
        refine call_pure (args := [_, _]) (order_ok (pid l[i - 1].p) (pid l[i].p)) ⟨rfl, rfl, rfl, rfl⟩ ?_
        rintro u rfl
        refine AX (hK' _ _ ?_)
        clear hK' K'
        iterate 2 refine W0 ?_ (e := fun _ h_ => by simp only [sH, ↓sP, sA, tyS, simprocAttr, hm, Int.natCast_nonneg, Int.ofNat_lt, hi1, nth_map hi1, h4_14, h4_19, h4_26, h4_32, h4_37, h6_42, h6_47, h6_55, h8_58]; exact AX h_)
        refine hwalk2_cases 71 rfl (fun h8_71 => ?_) (fun h8_71 => ?_)
        ·
         simp only [h8_71]
         refine T2 (hK _ _ _ ?_)
         clear hK K
         refine hw_cond (b := true) rfl (fun hb => ?_) (fun hb => ?_)
         ·
          refine R0 ?_
          refine hw_ret ?_
          simp only [hpost, Tryz.results33, hresL, hres1, tupOf, ↓sP, sA, tyS, simprocAttr]
          obtain ⟨j, rfl⟩ : ∃ j, i = j + 1 := ⟨i - 1, by simp at h8_58; omega⟩
          exact hret_pure [] (.bool false) rfl (by rw [keysB_eq, bad_two (i := j) hlt (by rw [cmp_dlt, Bool.not_eq_true'] at h8_71; exact h8_71), Bool.false_and])
         cases hb
        simp only [h8_71]
        refine T2 (hK _ _ _ ?_)
        clear hK K
        refine hw_cond (b := false) rfl (fun hb => ?_) (fun hb => ?_)
        ·
         cases hb
        refine hw_skip ?_
        refine T0 (hK _ _ _ ?_)
        clear hK K
        refine hw_region (by kernel_rfl) ?_
        simp only [↓sP, sA, tyS, simprocAttr, i64s i]
        obtain ⟨j, rfl⟩ : ∃ j, i = j + 1 := ⟨i - 1, by simp at h8_58; omega⟩
        refine ⟨⟨j + 1 + 1, hlt, h0.succ hlt (by simp only [keyB_code, h4_14, h4_19, h4_26, h4_32, h4_37, h6_42, h6_47, h6_55, h8_58, h8_71]; rfl) (by rw [cmp_dlt, Bool.not_eq_false'] at h8_71; exact h8_71)⟩, fF, ?_⟩
        show l.length - (j + 1 + 1) < l.length - (j + 1)
        omega
       iterate 13 refine W0 ?_ (e := fun _ h_ => by simp only [sH, ↓sP, sA, tyS, simprocAttr, hm, Int.natCast_nonneg, Int.ofNat_lt, hi1, nth_map hi1, h4_14, h4_19, h4_26, h4_32, h4_37, h6_42, h6_47, h6_55, h8_58]; exact AX h_)
       refine T2 (hK _ _ _ ?_)
       clear hK K
       refine hw_cond (b := false) rfl (fun hb => ?_) (fun hb => ?_)
       ·
        cases hb
       refine hw_skip ?_
       refine T0 (hK _ _ _ ?_)
       clear hK K
       refine hw_region (by kernel_rfl) ?_
       simp only [↓sP, sA, tyS, simprocAttr, i64s i]
       obtain rfl : i = 0 := by simp at h8_58; omega
       refine ⟨⟨1, hlt, GoodTo.one hlt (by simp only [keyB_code, h4_14, h4_19, h4_26, h4_32, h4_37, h6_42, h6_47, h6_55, h8_58]; rfl)⟩, fF, ?_⟩
       show l.length - 1 < l.length - 0
       omega
      iterate 6 refine S0 ?_ (e := fun _ h_ => by simp only [sH, ↓sP, sA, tyS, simprocAttr, h4_14, h4_19, h4_26, h4_32, h4_37, h6_42, h6_47]; exact AX h_)
      refine T2 (hK _ _ _ ?_)
      clear hK K
      refine hw_cond (b := true) rfl (fun hb => ?_) (fun hb => ?_)
      ·
       refine R0 ?_
       refine hw_ret ?_
       simp only [hpost, Tryz.results33, hresL, hres1, tupOf, ↓sP, sA, tyS, simprocAttr]
       exact hret_pure [] (.bool false) rfl (by rw [keysB_eq, bad_one hlt (by simp only [keyB_code, h4_14, h4_19, h4_26, h4_32, h4_37, h6_42, h6_47, Bool.not_true, Bool.not_false, Bool.false_and, Bool.and_false]), Bool.false_and])
      cases hb
     iterate 12 refine S0 ?_ (e := fun _ h_ => by simp only [sH, ↓sP, sA, tyS, simprocAttr, h4_14, h4_19, h4_26, h4_32, h4_37, h6_42]; exact AX h_)
     refine T2 (hK _ _ _ ?_)
     clear hK K
     refine hw_cond (b := true) rfl (fun hb => ?_) (fun hb => ?_)
     ·
      refine R0 ?_
      refine hw_ret ?_
      simp only [hpost, Tryz.results33, hresL, hres1, tupOf, ↓sP, sA, tyS, simprocAttr]
      exact hret_pure [] (.bool false) rfl (by rw [keysB_eq, bad_one hlt (by simp only [keyB_code, h4_14, h4_19, h4_26, h4_32, h4_37, h6_42, Bool.not_true, Bool.not_false, Bool.false_and, Bool.and_false]), Bool.false_and])
     cases hb
    simp only [h4_37]
    refine T2 (hK _ _ _ ?_)
    clear hK K
    refine hw_cond (b := true) rfl (fun hb => ?_) (fun hb => ?_)
    ·
     refine R0 ?_
     refine hw_ret ?_
     simp only [hpost, Tryz.results33, hresL, hres1, tupOf, ↓sP, sA, tyS, simprocAttr]
     exact hret_pure [] (.bool false) rfl (by rw [keysB_eq, bad_one hlt (by simp only [keyB_code, h4_14, h4_19, h4_26, h4_32, h4_37, Bool.not_true, Bool.not_false, Bool.false_and, Bool.and_false]), Bool.false_and])
    cases hb
   iterate 17 refine S0 ?_ (e := fun _ h_ => by simp only [sH, ↓sP, sA, tyS, simprocAttr, h4_14, h4_19]; exact AX h_)
   refine T2 (hK _ _ _ ?_)
   clear hK K
   refine hw_cond (b := true) rfl (fun hb => ?_) (fun hb => ?_)
   ·
    refine R0 ?_
    refine hw_ret ?_
    simp only [hpost, Tryz.results33, hresL, hres1, tupOf, ↓sP, sA, tyS, simprocAttr]
    exact hret_pure [] (.bool false) rfl (by rw [keysB_eq, bad_one hlt (by simp only [keyB_code, h4_14, h4_19, Bool.not_true, Bool.not_false, Bool.false_and, Bool.and_false]), Bool.false_and])
   cases hb
  iterate 23 refine S0 ?_ (e := fun _ h_ => by simp only [sH, ↓sP, sA, tyS, simprocAttr, h4_14]; exact AX h_)
  refine T2 (hK _ _ _ ?_)
  clear hK K
  refine hw_cond (b := true) rfl (fun hb => ?_) (fun hb => ?_)
  ·
   refine R0 ?_
   refine hw_ret ?_
   simp only [hpost, Tryz.results33, hresL, hres1, tupOf, ↓sP, sA, tyS, simprocAttr]
   exact hret_pure [] (.bool false) rfl (by rw [keysB_eq, bad_one hlt (by simp only [keyB_code, h4_14, Bool.not_true, Bool.not_false, Bool.false_and, Bool.and_false]), Bool.false_and])
  cases hb
 refine hw_exit ?_
 simp only [↓sP, sA, tyS, simprocAttr]
 clear hK K
 refine AX (hK _ _ _ ?_)
 clear hK K
 refine hw_seq fun K hK => Rg ?_
 iterate 4 refine S0 ?_
 refine T2 (hK _ _ _ ?_)
 clear hK K
 refine hw_ret ?_
 simp only [hpost, Tryz.results33, hresL, hres1, tupOf, ↓sP, sA, tyS, simprocAttr]
 have hei : i = l.length := by simp at hb; omega
 subst hei
 refine hret_pure [] (.bool _) rfl ?_
 rw [keysB_eq, h0.all, Bool.true_and]
 congr 1
 exact decide_eq_decide.2 (by omega)


theorem addd_ok (l : List Dig) (d : Dig) (hl : l.length < 2 ^ 40) : HPure Tryz.prog 53 [.slc (l.map dg), dg d] (fun v => ∃ l' : List Dig, v = .slc (l'.map dg) ∧ l'.length ≤ l.length + 1) := by
 refine hfn_walk Tryz.func53 rfl (by kernel_rfl) (locOk_nil _) (Nat.le_of_ble_eq_true rfl) ?_
 refine R0 ?_
 refine hw_seq fun K hK => ?_
 refine hw_seq fun K hK => Rg ?_
 iterate 2 refine S0 ?_
 refine hlex_step (g := none) rfl rfl fun K' hK' => ?_
 simp only [sH, ↓sP, sA, tyS, simprocAttr]
 refine call_pure (args := [_, _]) (hasd_ok l d hl) ⟨rfl, rfl, rfl, rfl⟩ ?_
 rintro u rfl
 refine AX (hK' _ _ ?_)
 clear hK' K'
 refine T2 (hK _ _ _ ?_)
 clear hK K
 refine hw_cond (b := l.contains d) rfl (fun hb => ?_) (fun hb => ?_)
 ·
  refine R0 ?_
  refine hw_ret ?_
  simp only [hpost, Tryz.results53, hresL, hres1, tupOf, ↓sP, sA, tyS, simprocAttr]
  exact hret_pure [] (.slc (l.map dg)) (by simp [HV.close, CV.denil, denilL_dg, HV.norm, HV.toC]) ⟨l, rfl, by omega⟩
 refine hw_skip ?_
 refine T0 (hK _ _ _ ?_)
 clear hK K
 refine R0 ?_
 refine R0 ?_
 refine hw_seq fun K hK => ?_
 refine hw_block ?_
 refine hw_own 5 0 49 32 rfl rfl rfl rfl ?_
 refine hw_loop (α := {i : Nat // i ≤ l.length}) (fun i => (fin [(0, .c (.slc (l.map dg))), (3, .ptr 0 0), (5, .own 28 i.1), (6, .c (.int .i64 i.1))], fob [(0, .box 49 (.c (dg d))), (28, .row 49 32 ((l.take i.1).map dg))])) 100 (fun i => l.length - i.1) ⟨0, by omega⟩ (fF) ?_
 rintro ⟨i, hi⟩
 have hti : (l.take i).length = i := by simp; omega
 have hlc : decide ((i : Int) < (l.length : Int)) = true → i < l.length := fun h => by simpa using h
 refine hw_seq fun K hK => ?_
 by_cases hlt : i < l.length
 ·
  refine hw_seq fun K hK => hw_draw2 mixed [(0, [], []), (1, [], []), (2, [], []), (3, [], []), (4, [], []), (5, [], []), (6, [], []), (7, [], []), (8, [], []), (9, [], []), (10, [], []), (11, [], [])] [0, 0, 2, 7, 15, 31, 31, 127, 255, 31, 1023, 2047] (by kernel_rfl) (by kernel_rfl) (by kernel_rfl) (by kernel_rfl) rfl (by kernel_rfl) ?_
  iterate 10 refine W0 ?_ (e := fun _ h_ => by simp only [sH, ↓sP, sA, tyS, simprocAttr, Int.natCast_nonneg, Int.ofNat_lt, hlt, nth_map hlt]; exact AX h_)
  refine hwalk2_step (g := some (15, true)) rfl rfl fun K' hK' => ?_
  simp only [sH, ↓sP, sA, tyS, simprocAttr, Int.natCast_nonneg, Int.ofNat_lt, hlt, nth_map hlt]
  refine call_pure (args := [_, _]) (less_ok l[i] d) ⟨rfl, rfl, rfl, rfl⟩ ?_
  rintro u rfl
  refine AX (hK' _ _ ?_)
  clear hK' K'
  refine W0 ?_ (e := fun _ h_ => by simp only [sH, ↓sP, sA, tyS, simprocAttr, Int.natCast_nonneg, Int.ofNat_lt, hlt, nth_map hlt]; exact AX h_)
  refine T2 (hK _ _ _ ?_)
  clear hK K
  refine hw_cond (b := dlt l[i] d) rfl (fun hb => ?_) (fun hb => ?_)
  ·
   refine hw_skip ?_
   refine T0 (hK _ _ _ ?_)
   clear hK K
   refine hw_block ?_
   refine hw_seq fun K hK => Rg ?_
   iterate 8 refine S0 ?_ (e := fun _ h_ => by simp only [sH, ↓sP, sA, tyS, simprocAttr, Int.natCast_nonneg, Int.ofNat_lt, hlt, nth_map hlt, hti, List.length_append]; exact AX h_)
   refine T2 (hK _ _ _ ?_)
   clear hK K
   refine hw_region (by kernel_rfl) ?_
   simp only [↓sP, sA, tyS, simprocAttr, i64s i]
   refine ⟨⟨i + 1, by omega⟩, fits_fin (by omega) ?_ ?_, ?_⟩
   ·
    simp [FinOk, upd_at, fin_at, HV.men]
   ·
    refine ⟨rfl, by omega, trivial, ?_, by omega, trivial, trivial⟩
    simp only [List.take_succ_eq_append_getElem hlt, List.map_append]
    rfl
   show l.length - (i + 1) < l.length - i
   omega
  refine hw_exit ?_
  simp only [↓sP, sA, tyS, simprocAttr]
  clear hK K
  refine AX (hK _ _ _ ?_)
  clear hK K
  refine hw_seq fun K hK => hw_draw2 mixed [(0, [], []), (1, [], []), (2, [], []), (4, [2], []), (5, [2], []), (6, [2], []), (3, [], [4, 5, 6]), (7, [], []), (8, [], [])] [0, 0, 2, 7, 0, 0, 48, 127, 255] (by kernel_rfl) (by kernel_rfl) (by kernel_rfl) (by kernel_rfl) rfl (by kernel_rfl) ?_
  iterate 9 refine W0 ?_ (e := fun _ h_ => by simp only [sH, ↓sP, sA, tyS, simprocAttr, hti, ← List.map_drop, ← List.map_take, cells_dg]; exact AX h_)
  refine T2 (hK _ _ _ ?_)
  clear hK K
  refine hw_ret ?_
  simp only [hpost, Tryz.results53, hresL, hres1, tupOf, ↓sP, sA, tyS, simprocAttr]
  refine hret_pure [28] (.slc ((l.take i ++ d :: l.drop i).map dg)) ?_ ⟨_, rfl, ?_⟩
  ·
   simp [HV.close, upd_at, HV.norm, HV.toC, List.take_of_length_le]
  simp; omega
 refine hw_seq fun K hK => hw_draw2 mixed [(0, [], []), (1, [], []), (2, [], []), (3, [], []), (4, [], []), (5, [], []), (6, [], []), (7, [], []), (8, [], []), (9, [], []), (10, [], []), (11, [], [])] [0, 0, 2, 7, 15, 31, 31, 127, 255, 31, 1023, 2047] (by kernel_rfl) (by kernel_rfl) (by kernel_rfl) (by kernel_rfl) rfl (by kernel_rfl) ?_
 iterate 12 refine W0 ?_ (e := fun _ h_ => by simp only [sH, ↓sP, sA, tyS, simprocAttr, Int.ofNat_lt, hlt]; exact AX h_)
 refine T2 (hK _ _ _ ?_)
 clear hK K
 refine hw_cond (b := _) rfl (fun hb => ?_) (fun hb => ?_)
 ·
  cases hb
 refine hw_exit ?_
 simp only [↓sP, sA, tyS, simprocAttr]
 clear hK K
 refine AX (hK _ _ _ ?_)
 clear hK K
 refine hw_seq fun K hK => hw_draw2 mixed [(0, [], []), (1, [], []), (2, [], []), (4, [2], []), (5, [2], []), (6, [2], []), (3, [], [4, 5, 6]), (7, [], []), (8, [], [])] [0, 0, 2, 7, 0, 0, 48, 127, 255] (by kernel_rfl) (by kernel_rfl) (by kernel_rfl) (by kernel_rfl) rfl (by kernel_rfl) ?_
 iterate 9 refine W0 ?_ (e := fun _ h_ => by simp only [sH, ↓sP, sA, tyS, simprocAttr, hti, ← List.map_drop, ← List.map_take, cells_dg]; exact AX h_)
 refine T2 (hK _ _ _ ?_)
 clear hK K
 refine hw_ret ?_
 simp only [hpost, Tryz.results53, hresL, hres1, tupOf, ↓sP, sA, tyS, simprocAttr]
 refine hret_pure [28] (.slc ((l.take i ++ d :: l.drop i).map dg)) ?_ ⟨_, rfl, ?_⟩
 ·
  simp [HV.close, upd_at, HV.norm, HV.toC, List.take_of_length_le]
 simp; omega

end Go.Proofs.YtenbfeemmpjdhaaGreatDoor

namespace Go.Hl
open Go

def HBox0 (P : Program) (f : FuncId) (T : TypeId) (v : CV) (args : List CV) (R : CV → Prop) : Prop :=
 HFn P f (.ptr 0 0 :: args.map .c) 1 (fob [(0, .box T (.c v))]) (fun r ob' => ∃ v', r = .tup [] ∧ ob' = fob [(0, .box T (.c v'))] ∧ R v')
theorem hret_box0 {ob : Ob} {r w : HV} {T : TypeId} {R : CV → Prop} (cl : List Nat) (v' : CV) (h : (r.close ob cl).norm = .tup []) (hb : ob 0 = some (.box T w)) (hw : (w.close ob cl).norm = .c v') (h0 : 0 ∉ cl) (hR : R v') :
  HRet 1 r ob (fun r ob' => ∃ v', r = .tup [] ∧ ob' = fob [(0, .box T (.c v'))] ∧ R v') := by
 refine ⟨cl, id, .tup [], fob [(0, .box T (.c v'))], ⟨v', rfl, rfl, hR⟩, by rw [h]; simp only [HV.ren, HV.renL], fun _ _ => rfl, fun _ _ _ _ h => h, by simp [HV.men, HV.menL], fun j o ho => ?_⟩
 by_cases e : j = 0
 ·
  subst e
  simp only [fob_at, if_true, Option.some.injEq] at ho
  subst ho
  refine ⟨by omega, by simp [HO.men, HV.men], h0, .box T w, hb, ?_⟩
  simp only [hw]
  rfl
 ·
  simp [fob_at, fob_nil, e] at ho

theorem call_box0 {P : Program} {av : List Nat} {f : FuncId} {ob : Ob} {nid id : Nat} {K : HV → Ob → Prop} {T : TypeId} {v : CV} {args : List CV} {R : CV → Prop} (h : HBox0 P f T v args R) (hid : ob id = some (.box T (.c v))) (hav : id ∉ av)
  (hfree : ob nid = none ∧ ob (nid + 1) = none ∧ ob (nid + 2) = none ∧ ob (nid + 3) = none) (hK : ∀ v', R v' → K (.tup []) (upd ob id (some (.box T (.c v'))))) :
  HCall P av f (.ptr id 0 :: args.map .c) ob nid K := by
 refine ⟨[id], .ptr 0 0 :: args.map .c, _, _, h, locOk_box T v args, ⟨by simp, by simpa using hav⟩, ?_, fun j o hj => ?_, fun r lob' hR _ => ?_⟩
 ·
  simp only [HV.renL, HV.ren, HV.renL_c]
  rfl
 ·
  by_cases e : j = 0
  ·
   subst e
   simp only [fob_at, if_true, Option.some.injEq] at hj
   subst hj
   simpa [HO.ren, HV.ren] using hid
  ·
   simp [fob_at, fob_nil, e] at hj
 ·
  obtain ⟨v', rfl, rfl, hR⟩ := hR
  have e : obAfter ob [id] nid (fob [(0, .box T (.c v'))]) = upd ob id (some (.box T (.c v'))) := by
   funext i
   by_cases e : i = id
   ·
    subst e
    simp only [obAfter, upd_same, List.findIdx?_cons, beq_self_eq_true, if_true, fob_at, Option.map_some]
    rfl
   ·
    have e' : (id == i) = false := by simp; exact fun h => e h.symm
    simp only [obAfter, List.findIdx?_cons, e', List.findIdx?_nil, Option.map_none, upd_ne _ _ e]
    simp only [Bool.false_eq_true, if_false]
    split
    ·
     rename_i hr
     have h1 : [id].length + (i - nid) ≠ 0 := by simp
     rw [fob_at, if_neg h1, fob_nil]
     have : i = nid ∨ i = nid + 1 ∨ i = nid + 2 ∨ i = nid + 3 := by omega
     rcases this with rfl | rfl | rfl | rfl
     ·
      exact hfree.1.symm
     ·
      exact hfree.2.1.symm
     ·
      exact hfree.2.2.1.symm
     ·
      exact hfree.2.2.2.symm
    ·
     rfl
  rw [e]
  exact hK v' hR
end Go.Hl

namespace Go.Proofs.YtenbfeemmpjdhaaGreatDoor
open Go Go.Hl Go.Pl
set_option maxRecDepth 10000
set_option maxHeartbeats 4000000
set_option linter.unusedSimpArgs false
set_option linter.unusedVariables false

theorem rotl_ok (x : W32) (n : Nat) (h0 : 0 < n) (hn : n < 32) : HPure Tryz.prog 168 [.int .u32 (x.toNat : Int), .int .i64 (-(n : Int))] (fun v => v = .int .u32 ((rotr x n).toNat : Int)) := by
 have e1 := rot_amt ⟨n, hn⟩ h0
 have e2 : IntKind.u64.wrap (32 - ((32 - n : Nat) : Int)) = (n : Int) := by rw [IntWalk.u64_in _ (by omega)]; omega
 have e3 : 32 - n ≤ 32 := by omega
 have e4 : n ≤ 32 := by omega
 refine hfn_walk Tryz.func168 rfl (by kernel_rfl) (locOk_nil _) (Nat.le_of_ble_eq_true rfl) ?_
 refine R0 ?_
 refine hw_seq fun K hK => Rg ?_
 iterate 4 refine S0 ?_ (e := fun _ h_ => by simp only [sH, ↓sP, sA, tyS, simprocAttr, e1]; exact AX h_)
 refine T2 (hK _ _ _ ?_)
 clear hK K
 refine hw_seq fun K hK => Rg ?_
 iterate 9 refine S0 ?_ (e := fun _ h_ => by simp only [sH, ↓sP, sA, tyS, simprocAttr, e2, e3, e4, Int.natCast_nonneg, w_shl, w_shr, w_or, w_rot]; exact AX h_)
 refine T2 (hK _ _ _ ?_)
 clear hK K
 refine hw_ret ?_
 simp only [hpost, Tryz.results168, hresL, hres1, tupOf, ↓sP, sA, tyS, simprocAttr]
 exact hret_pure [] (.int .u32 _) rfl rfl


theorem rot_ok (x : W32) (n : Nat) (h0 : 0 < n) (hn : n < 32) : HPure Tryz.prog 149 [.int .u32 (x.toNat : Int), .int .i64 (n : Int)] (fun v => v = .int .u32 ((rotr x n).toNat : Int)) := by
 have e1 : IntKind.u64.wrap (n : Int) = (n : Int) := IntWalk.u64_in _ (by omega)
 have e2 : IntKind.i64.wrap (32 - (n : Int)) = ((32 - n : Nat) : Int) := by rw [IntWalk.i64_in _ (by omega)]; omega
 have e5 : IntKind.u64.wrap ((32 - n : Nat) : Int) = ((32 - n : Nat) : Int) := IntWalk.u64_in _ (by omega)
 have e3 : 32 - n ≤ 32 := by omega
 have e4 : n ≤ 32 := by omega
 refine hfn_walk Tryz.func149 rfl (by kernel_rfl) (locOk_nil _) (Nat.le_of_ble_eq_true rfl) ?_
 refine R0 ?_
 refine hw_seq fun K hK => Rg ?_
 iterate 11 refine S0 ?_ (e := fun _ h_ => by simp only [sH, ↓sP, sA, tyS, simprocAttr, e1, e2, e3, e4, e5, Int.natCast_nonneg, w_shl, w_shr, w_or]; exact AX h_)
 refine T2 (hK _ _ _ ?_)
 clear hK K
 refine hw_ret ?_
 simp only [hpost, Tryz.results149, hresL, hres1, tupOf, ↓sP, sA, tyS, simprocAttr]
 exact hret_pure [] (.int .u32 _) rfl rfl


theorem rounds_ok : HPure Tryz.prog 136 [] (fun v => v = ws K256) := by
 refine hfn_walk Tryz.func136 rfl (by kernel_rfl) (locOk_nil _) (Nat.le_of_ble_eq_true rfl) ?_
 refine R0 ?_
 refine hw_seq fun K hK => Rg ?_
 refine hlex_step (g := none) rfl rfl fun K' hK' => ?_
 simp only [sH, ↓sP, sA, tyS, simprocAttr, ws_all K256_len, ws_setAll (wz_len 64), K256_len]
 rw [hbuild_ws (n := 64) K256 rfl rfl]
 refine AX (hK' _ _ ?_)
 clear hK' K'
 refine S0 ?_ (e := fun _ h_ => by simp only [sH, ↓sP, sA, tyS, simprocAttr, ws_all K256_len, ws_setAll (wz_len 64), K256_len]; exact AX h_)
 refine T2 (hK _ _ _ ?_)
 clear hK K
 refine hw_ret ?_
 simp only [hpost, Tryz.results136, hresL, hres1, tupOf, ↓sP, sA, tyS, simprocAttr]
 exact hret_pure [] (ws K256) rfl rfl


theorem constants_ok : HPure Tryz.prog 150 [] (fun v => v = ws K256) := by
 refine hfn_walk Tryz.func150 rfl (by kernel_rfl) (locOk_nil _) (Nat.le_of_ble_eq_true rfl) ?_
 refine R0 ?_
 refine hw_seq fun K hK => Rg ?_
 refine hlex_step (g := none) rfl rfl fun K' hK' => ?_
 simp only [sH, ↓sP, sA, tyS, simprocAttr, ws_all K256_len, ws_setAll (wz_len 64), K256_len]
 rw [hbuild_ws (n := 64) K256 rfl rfl]
 refine AX (hK' _ _ ?_)
 clear hK' K'
 refine S0 ?_ (e := fun _ h_ => by simp only [sH, ↓sP, sA, tyS, simprocAttr, ws_all K256_len, ws_setAll (wz_len 64), K256_len]; exact AX h_)
 refine T2 (hK _ _ _ ?_)
 clear hK K
 refine hw_ret ?_
 simp only [hpost, Tryz.results150, hresL, hres1, tupOf, ↓sP, sA, tyS, simprocAttr]
 exact hret_pure [] (ws K256) rfl rfl


end Go.Proofs.YtenbfeemmpjdhaaGreatDoor

namespace Go.Proofs.YtenbfeemmpjdhaaGreatDoor
open Go Go.Hl Go.Pl
set_option maxRecDepth 10000
set_option maxHeartbeats 4000000
set_option linter.unusedSimpArgs false
set_option linter.unusedVariables false

theorem schedule_ok (b : List UInt8) (hbl : b.length = 64) : HPure Tryz.prog 167 [.slc (b.map u8)] (fun v => v = ws (wsched b)) := by
 refine hfn_walk Tryz.func167 rfl (by kernel_rfl) (locOk_nil _) (Nat.le_of_ble_eq_true rfl) ?_
 refine R0 ?_
 refine R0 ?_
 refine hw_seq fun K hK => ?_
 refine R0 ?_
 refine hw_block ?_
 refine hw_loop (α := {i : Nat // i ≤ 16}) (fun i => (fin [(0, .c (.slc (b.map u8))), (2, .ptr 0 0), (3, .ptr 4 0), (10, .c (.int .i64 i.1))], fob [(0, .box 161 (.c (ws (wz 64)))), (4, .box 161 (.c (ws (wA b i.1))))])) 100 (fun i => 16 - i.1) ⟨0, by omega⟩ (fF) ?_
 rintro ⟨i, hi⟩
 have hlen := wA_len b i
 refine R0 ?_
 refine hw_seq fun K hK => ?_
 refine hw_cond (b := decide ((i : Int) < 16)) rfl (fun hb => ?_) (fun hb => ?_)
 ·
  have hlt : i < 16 := by simp at hb; omega
  have z : (i : Int) < 64 := by omega
  have q : i < 64 := by omega
  have q0 : 4 * i < 64 := by omega
  have q1 : 4 * i + 1 < 64 := by omega
  have q2 : 4 * i + 2 < 64 := by omega
  have q3 : 4 * i + 3 < 64 := by omega
  have z0 : ((4 * i : Nat) : Int) < 64 := by omega
  have z1 : ((4 * i + 1 : Nat) : Int) < 64 := by omega
  have z2 : ((4 * i + 2 : Nat) : Int) < 64 := by omega
  have z3 : ((4 * i + 3 : Nat) : Int) < 64 := by omega
  have m0 : IntKind.i64.wrap (4 * (i : Int)) = ((4 * i : Nat) : Int) := by rw [IntWalk.i64_in _ (by omega)]; omega
  have m1 : IntKind.i64.wrap (((4 * i : Nat) : Int) + 1) = ((4 * i + 1 : Nat) : Int) := by rw [IntWalk.i64_in _ (by omega)]; omega
  have m2 : IntKind.i64.wrap (((4 * i : Nat) : Int) + 2) = ((4 * i + 2 : Nat) : Int) := by rw [IntWalk.i64_in _ (by omega)]; omega
  have m3 : IntKind.i64.wrap (((4 * i : Nat) : Int) + 3) = ((4 * i + 3 : Nat) : Int) := by rw [IntWalk.i64_in _ (by omega)]; omega
  refine hw_skip ?_
  refine T0 (hK _ _ _ ?_)
  clear hK K
  refine hw_seq fun K hK => ?_
  refine hw_block ?_
  refine R0 ?_
  refine hw_draw2 mixed [(0, [], []), (1, [], []), (2, [], []), (3, [], []), (4, [], []), (5, [], []), (6, [], []), (7, [], []), (8, [], []), (9, [], []), (10, [], []), (11, [], []), (12, [], []), (13, [], []), (14, [], []), (15, [], []), (16, [], []), (17, [], []), (18, [], []), (19, [], []), (20, [], []), (21, [], []), (22, [], []), (23, [], []), (24, [], []), (25, [], []), (26, [], []), (27, [], []), (28, [], []), (29, [], []), (30, [], []), (31, [], []), (32, [], []), (33, [], []), (34, [], []), (35, [], [])] [0, 0, 0, 4, 14, 30, 62, 126, 0, 0, 512, 1536, 3840, 7936, 16128, 32512, 65534, 0, 0, 262144, 786432, 1966080, 4063232, 8257536, 16646144, 33554430, 0, 0, 134217728, 402653184, 1006632960, 2080374784, 4227858432, 8589934590, 17179869183, 34359738367] (by kernel_rfl) (by kernel_rfl) (by kernel_rfl) (by kernel_rfl) rfl (by kernel_rfl) ?_
  iterate 36 refine W0 ?_ (e := fun _ h_ => by simp only [sH, ↓sP, sA, tyS, simprocAttr, m0, m1, m2, m3, q, q0, q1, q2, q3, z, z0, z1, z2, z3, hbl, hlen, Int.natCast_nonneg, nth_u8, Nat.mul_one, w_byte, w_shl, w_or, ws_setw, toCL_c]; exact AX h_)
  refine T2 (hK _ _ _ ?_)
  clear hK K
  refine hw_region (by kernel_rfl) ?_
  simp only [↓sP, sA, tyS, simprocAttr, i64s i]
  refine ⟨⟨i + 1, hlt⟩, fits_fin (by omega) (by simp [FinOk, fin_at, finA_at, upd_at, HV.men, HV.menL, HV.norm, HV.toC, HV.toCL]) (by simp [FobOk, fob_at, upd_at, none0_at, gone, HO.men, HV.men, HV.menL, HV.norm, HV.toC, HV.toCL]; rfl), ?_⟩
  show 16 - (i + 1) < 16 - i
  omega
 refine hw_exit ?_
 simp only [↓sP, sA, tyS, simprocAttr]
 clear hK K
 refine AX (hK _ _ _ ?_)
 clear hK K
 refine hw_seq fun K hK => ?_
 refine R0 ?_
 refine hw_block ?_
 have hei : i = 16 := by simp at hb; omega
 subst hei
 clear hb hlen
 refine hw_loop (α := {i : Nat // i ≤ 48}) (fun i => (fin [(0, .c (.slc (b.map u8))), (2, .ptr 0 0), (3, .ptr 4 0), (5, .c (.int .i64 ((i.1 + 16 : Nat) : Int)))], fob [(0, .box 161 (.c (ws (wz 64)))), (4, .box 161 (.c (ws (wB (wA b 16) i.1))))])) 100 (fun i => 48 - i.1) ⟨0, by omega⟩ (fF) ?_
 rintro ⟨i, hi⟩
 have hlen : (wB (wA b 16) i).length = 64 := by rw [wB_len, wA_len]
 refine hw_seq fun K hK => ?_
 refine R0 ?_
 refine hw_cond (b := decide (((i + 16 : Nat) : Int) < 64)) rfl (fun hb => ?_) (fun hb => ?_)
 ·
  have hlt : i < 48 := by simp at hb; omega
  have q0 : i < 64 := by omega
  have q1 : i + 1 < 64 := by omega
  have q2 : i + 14 < 64 := by omega
  have q3 : i + 9 < 64 := by omega
  have q4 : i + 16 < 64 := by omega
  have z0 : (i : Int) < 64 := by omega
  have z1 : ((i + 1 : Nat) : Int) < 64 := by omega
  have z2 : ((i + 14 : Nat) : Int) < 64 := by omega
  have z3 : ((i + 9 : Nat) : Int) < 64 := by omega
  have z4 : ((i + 16 : Nat) : Int) < 64 := by omega
  have m0 : IntKind.i64.wrap (((i + 16 : Nat) : Int) - 16) = (i : Int) := by rw [IntWalk.i64_in _ (by omega)]; omega
  have m1 : IntKind.i64.wrap (((i + 16 : Nat) : Int) - 15) = ((i + 1 : Nat) : Int) := by rw [IntWalk.i64_in _ (by omega)]; omega
  have m2 : IntKind.i64.wrap (((i + 16 : Nat) : Int) - 2) = ((i + 14 : Nat) : Int) := by rw [IntWalk.i64_in _ (by omega)]; omega
  have m3 : IntKind.i64.wrap (((i + 16 : Nat) : Int) - 7) = ((i + 9 : Nat) : Int) := by rw [IntWalk.i64_in _ (by omega)]; omega
  have m4 : IntKind.i64.wrap (((i + 16 : Nat) : Int) + 1) = ((i + 1 + 16 : Nat) : Int) := by rw [IntWalk.i64_in _ (by omega)]; omega
  refine hw_skip ?_
  refine T0 (hK _ _ _ ?_)
  clear hK K
  refine hw_seq fun K hK => ?_
  refine hw_block ?_
  refine hw_seq fun K hK => hw_quiet mixed (by kernel_rfl) (by kernel_rfl) (by kernel_rfl) ?_
  simp only [sR, simprocAttr]
  iterate 10 refine S0 ?_ (e := fun _ h_ => by simp only [sH, ↓sP, sA, tyS, simprocAttr, m1, m2, q1, q2, z1, z2, hlen, Int.natCast_nonneg, Nat.mul_one, ws_gw]; exact AX h_)
  refine T2 (hK _ _ _ ?_)
  clear hK K
  refine hw_seq fun K hK => Rg ?_
  refine S0 ?_ (e := fun _ h_ => by simp only [sH, ↓sP, sA, tyS, simprocAttr, w_xor, w_shr]; exact AX h_)
  refine hlex_step (g := none) rfl rfl fun K' hK' => ?_
  simp only [sH, ↓sP, sA, tyS, simprocAttr, w_xor, w_shr]
  refine call_pure (args := [_, _]) (rotl_ok _ 7 (by omega) (by omega)) ⟨rfl, rfl, rfl, rfl⟩ ?_
  rintro u rfl
  refine AX (hK' _ _ ?_)
  clear hK' K'
  refine S0 ?_ (e := fun _ h_ => by simp only [sH, ↓sP, sA, tyS, simprocAttr, w_xor, w_shr]; exact AX h_)
  refine hlex_step (g := none) rfl rfl fun K' hK' => ?_
  simp only [sH, ↓sP, sA, tyS, simprocAttr, w_xor, w_shr]
  refine call_pure (args := [_, _]) (rotl_ok _ 18 (by omega) (by omega)) ⟨rfl, rfl, rfl, rfl⟩ ?_
  rintro u rfl
  refine AX (hK' _ _ ?_)
  clear hK' K'
  iterate 5 refine S0 ?_ (e := fun _ h_ => by simp only [sH, ↓sP, sA, tyS, simprocAttr, w_xor, w_shr]; exact AX h_)
  refine T2 (hK _ _ _ ?_)
  clear hK K
  refine hw_seq fun K hK => Rg ?_
  refine S0 ?_ (e := fun _ h_ => by simp only [sH, ↓sP, sA, tyS, simprocAttr, w_xor, w_shr]; exact AX h_)
  refine hlex_step (g := none) rfl rfl fun K' hK' => ?_
  simp only [sH, ↓sP, sA, tyS, simprocAttr, w_xor, w_shr]
  refine call_pure (args := [_, _]) (rotl_ok _ 17 (by omega) (by omega)) ⟨rfl, rfl, rfl, rfl⟩ ?_
  rintro u rfl
  refine AX (hK' _ _ ?_)
  clear hK' K'
  refine S0 ?_ (e := fun _ h_ => by simp only [sH, ↓sP, sA, tyS, simprocAttr, w_xor, w_shr]; exact AX h_)
  refine hlex_step (g := none) rfl rfl fun K' hK' => ?_
  simp only [sH, ↓sP, sA, tyS, simprocAttr, w_xor, w_shr]
  refine call_pure (args := [_, _]) (rotl_ok _ 19 (by omega) (by omega)) ⟨rfl, rfl, rfl, rfl⟩ ?_
  rintro u rfl
  refine AX (hK' _ _ ?_)
  clear hK' K'
  iterate 5 refine S0 ?_ (e := fun _ h_ => by simp only [sH, ↓sP, sA, tyS, simprocAttr, w_xor, w_shr]; exact AX h_)
  refine T2 (hK _ _ _ ?_)
  clear hK K
  refine hw_draw2 mixed [(0, [], []), (1, [], []), (2, [], []), (3, [], []), (4, [], []), (5, [], []), (6, [], []), (7, [], []), (8, [], []), (9, [], []), (10, [], []), (11, [], []), (12, [], []), (13, [], []), (14, [], []), (15, [], [])] [0, 0, 2, 6, 14, 0, 62, 0, 128, 384, 896, 2046, 0, 8190, 16383, 32767] (by kernel_rfl) (by kernel_rfl) (by kernel_rfl) (by kernel_rfl) rfl (by kernel_rfl) ?_
  iterate 16 refine W0 ?_ (e := fun _ h_ => by simp only [sH, ↓sP, sA, tyS, simprocAttr, m0, m3, q0, q3, q4, z0, z3, z4, hlen, Int.natCast_nonneg, Nat.mul_one, ws_gw, w_add, ws_setw, toCL_c]; exact AX h_)
  refine T2 (hK _ _ _ ?_)
  clear hK K
  refine hw_region (by kernel_rfl) ?_
  simp only [↓sP, sA, tyS, simprocAttr, m4]
  refine ⟨⟨i + 1, hlt⟩, fits_fin (by omega) (by simp [FinOk, fin_at, finA_at, upd_at, HV.men, HV.menL, HV.norm, HV.toC, HV.toCL]) (by simp [FobOk, fob_at, upd_at, none0_at, gone, HO.men, HV.men, HV.menL, HV.norm, HV.toC, HV.toCL]; rfl), ?_⟩
  show 48 - (i + 1) < 48 - i
  omega
 refine hw_exit ?_
 simp only [↓sP, sA, tyS, simprocAttr]
 clear hK K
 refine AX (hK _ _ _ ?_)
 clear hK K
 have hei : i = 48 := by simp at hb; omega
 subst hei
 refine R0 ?_ (e := fun _ h_ => by simp only [↓sP, sA, tyS, simprocAttr, hlen, ws_all, ws_setAll, wz_len]; exact AX h_)
 refine hw_ret ?_
 simp only [hpost, Tryz.results167, hresL, hres1, tupOf, ↓sP, sA, tyS, simprocAttr]
 rw [wsched_eq]
 simp only [ws_all (wsched_len b), Option.map_some]
 exact hret_pure [] (ws (wsched b)) (close_c (ws_denil _)) rfl

end Go.Proofs.YtenbfeemmpjdhaaGreatDoor

namespace Go.Proofs.YtenbfeemmpjdhaaGreatDoor
open Go Go.Hl Go.Pl
set_option maxRecDepth 10000
set_option maxHeartbeats 4000000
set_option linter.unusedSimpArgs false
set_option linter.unusedVariables false

theorem absorb_ok (s : St) (p : List UInt8) (hp : p.length = 64) : HBox0 Tryz.prog 137 152 (ws s.l) [.rp (ws K256), .slc (p.map u8)] (fun v => v = ws (comp s p).l) := by
 refine hfn_walk Tryz.func137 rfl (by kernel_rfl) (locOk_box _ _ _) (Nat.le_of_ble_eq_true rfl) ?_
 refine hw_seq fun K hK => Rg ?_
 refine S0 ?_ (e := fun _ h_ => by simp only [sH, ↓sP, sA, tyS, simprocAttr, ws_setAll, wz_len, wsched_len, denilL_u8]; exact AX h_)
 refine hlex_step (g := none) rfl rfl fun K' hK' => ?_
 simp only [sH, ↓sP, sA, tyS, simprocAttr, ws_setAll, wz_len, wsched_len, denilL_u8]
 refine call_pure (args := [_]) (schedule_ok p hp) ⟨rfl, rfl, rfl, rfl⟩ ?_
 rintro u rfl
 refine AX (hK' _ _ ?_)
 clear hK' K'
 iterate 2 refine S0 ?_ (e := fun _ h_ => by simp only [sH, ↓sP, sA, tyS, simprocAttr, ws_setAll, wz_len, wsched_len, denilL_u8]; exact AX h_)
 refine T2 (hK _ _ _ ?_)
 clear hK K
 refine hw_seq fun K hK => hw_quiet mixed (by kernel_rfl) (by kernel_rfl) (by kernel_rfl) ?_
 simp only [sR, simprocAttr]
 iterate 20 refine S0 ?_ (e := fun _ h_ => by simp only [sH, ↓sP, sA, tyS, simprocAttr, ws_gw, St_len, gw_a, gw_b, gw_c, gw_d, gw_e, gw_f, gw_g, gw_h, ws_isAgg, Nat.mul_one, Int.natCast_nonneg]; exact AX h_)
 refine T2 (hK _ _ _ ?_)
 clear hK K
 refine hw_seq fun K hK => hw_quiet mixed (by kernel_rfl) (by kernel_rfl) (by kernel_rfl) ?_
 simp only [sR, simprocAttr]
 iterate 20 refine S0 ?_ (e := fun _ h_ => by simp only [sH, ↓sP, sA, tyS, simprocAttr, ws_gw, St_len, gw_a, gw_b, gw_c, gw_d, gw_e, gw_f, gw_g, gw_h, ws_isAgg, Nat.mul_one, Int.natCast_nonneg]; exact AX h_)
 refine T2 (hK _ _ _ ?_)
 clear hK K
 refine hw_seq fun K hK => ?_
 refine R0 ?_
 refine hw_block ?_
 refine hw_loop (α := {x : Nat × St // x.1 ≤ 64 ∧ x.2 = itN (rnd (wsched p)) x.1 s}) (fun x => (fin [(0, .ptr 0 0), (1, .c (.rp (ws K256))), (6, .ptr 9 0), (7, .c (.int .u32 (x.1.2.a.toNat : Int))), (8, .c (.int .u32 (x.1.2.b.toNat : Int))), (9, .c (.int .u32 (x.1.2.c.toNat : Int))), (10, .c (.int .u32 (x.1.2.d.toNat : Int))), (11, .c (.int .u32 (x.1.2.e.toNat : Int))), (12, .c (.int .u32 (x.1.2.f.toNat : Int))), (13, .c (.int .u32 (x.1.2.g.toNat : Int))), (14, .c (.int .u32 (x.1.2.h.toNat : Int))), (54, .c (.int .i64 x.1.1))], fob [(0, .box 152 (.c (ws s.l))), (9, .box 161 (.c (ws (wsched p))))])) 300 (fun x => 64 - x.1.1) ⟨(0, s), by omega, rfl⟩ (fits_fin (by omega) (by simp [FinOk, fin_at, finA_at, upd_at, HV.men, HV.menL, HV.norm, HV.toC, HV.toCL, w32]) (by simp [FobOk, fob_at, upd_at, none0_at, HO.men, HV.men, HV.menL, HV.norm, HV.toC, HV.toCL])) ?_
 rintro ⟨⟨i, S⟩, hi, hS⟩
 replace hi : i ≤ 64 := hi
 replace hS : S = itN (rnd (wsched p)) i s := hS
 refine R0 ?_
 refine hw_seq fun K hK => ?_
 refine hw_cond (b := decide ((i : Int) < 64)) rfl (fun hb => ?_) (fun hb => ?_)
 ·
  have hlt : i < 64 := by simp at hb; omega
  have z : (i : Int) < 64 := by omega
  refine hw_skip ?_
  refine T0 (hK _ _ _ ?_)
  clear hK K
  refine hw_seq fun K hK => ?_
  refine hw_block ?_
  refine R0 ?_
  refine hw_seq fun K hK => hw_quiet mixed (by kernel_rfl) (by kernel_rfl) (by kernel_rfl) ?_
  simp only [sR, simprocAttr]
  iterate 21 refine S0 ?_ (e := fun _ h_ => by simp only [sH, ↓sP, sA, tyS, simprocAttr, z, hlt, K_len, wsched_len, ws_gw, Nat.mul_one, Int.natCast_nonneg, w_add, w_and, w_xor, w_not]; exact AX h_)
  refine T2 (hK _ _ _ ?_)
  clear hK K
  refine hw_seq fun K hK => Rg ?_
  iterate 2 refine S0 ?_ (e := fun _ h_ => by simp only [sH, ↓sP, sA, tyS, simprocAttr, w_xor, w_add, t1_code]; exact AX h_)
  refine hlex_step (g := none) rfl rfl fun K' hK' => ?_
  simp only [sH, ↓sP, sA, tyS, simprocAttr, w_xor, w_add, t1_code]
  refine call_pure (args := [_, _]) (rotl_ok _ 6 (by omega) (by omega)) ⟨rfl, rfl, rfl, rfl⟩ ?_
  rintro u rfl
  refine AX (hK' _ _ ?_)
  clear hK' K'
  refine S0 ?_ (e := fun _ h_ => by simp only [sH, ↓sP, sA, tyS, simprocAttr, w_xor, w_add, t1_code]; exact AX h_)
  refine hlex_step (g := none) rfl rfl fun K' hK' => ?_
  simp only [sH, ↓sP, sA, tyS, simprocAttr, w_xor, w_add, t1_code]
  refine call_pure (args := [_, _]) (rotl_ok _ 11 (by omega) (by omega)) ⟨rfl, rfl, rfl, rfl⟩ ?_
  rintro u rfl
  refine AX (hK' _ _ ?_)
  clear hK' K'
  iterate 2 refine S0 ?_ (e := fun _ h_ => by simp only [sH, ↓sP, sA, tyS, simprocAttr, w_xor, w_add, t1_code]; exact AX h_)
  refine hlex_step (g := none) rfl rfl fun K' hK' => ?_
  simp only [sH, ↓sP, sA, tyS, simprocAttr, w_xor, w_add, t1_code]
  refine call_pure (args := [_, _]) (rotl_ok _ 25 (by omega) (by omega)) ⟨rfl, rfl, rfl, rfl⟩ ?_
  rintro u rfl
  refine AX (hK' _ _ ?_)
  clear hK' K'
  iterate 3 refine S0 ?_ (e := fun _ h_ => by simp only [sH, ↓sP, sA, tyS, simprocAttr, w_xor, w_add, t1_code]; exact AX h_)
  refine T2 (hK _ _ _ ?_)
  clear hK K
  refine hw_seq fun K hK => Rg ?_
  iterate 12 refine S0 ?_ (e := fun _ h_ => by simp only [sH, ↓sP, sA, tyS, simprocAttr, w_and, w_xor]; exact AX h_)
  refine T2 (hK _ _ _ ?_)
  clear hK K
  refine hw_seq fun K hK => Rg ?_
  iterate 2 refine S0 ?_ (e := fun _ h_ => by simp only [sH, ↓sP, sA, tyS, simprocAttr, w_xor, w_add, t2_code]; exact AX h_)
  refine hlex_step (g := none) rfl rfl fun K' hK' => ?_
  simp only [sH, ↓sP, sA, tyS, simprocAttr, w_xor, w_add, t2_code]
  refine call_pure (args := [_, _]) (rotl_ok _ 2 (by omega) (by omega)) ⟨rfl, rfl, rfl, rfl⟩ ?_
  rintro u rfl
  refine AX (hK' _ _ ?_)
  clear hK' K'
  refine S0 ?_ (e := fun _ h_ => by simp only [sH, ↓sP, sA, tyS, simprocAttr, w_xor, w_add, t2_code]; exact AX h_)
  refine hlex_step (g := none) rfl rfl fun K' hK' => ?_
  simp only [sH, ↓sP, sA, tyS, simprocAttr, w_xor, w_add, t2_code]
  refine call_pure (args := [_, _]) (rotl_ok _ 13 (by omega) (by omega)) ⟨rfl, rfl, rfl, rfl⟩ ?_
  rintro u rfl
  refine AX (hK' _ _ ?_)
  clear hK' K'
  iterate 2 refine S0 ?_ (e := fun _ h_ => by simp only [sH, ↓sP, sA, tyS, simprocAttr, w_xor, w_add, t2_code]; exact AX h_)
  refine hlex_step (g := none) rfl rfl fun K' hK' => ?_
  simp only [sH, ↓sP, sA, tyS, simprocAttr, w_xor, w_add, t2_code]
  refine call_pure (args := [_, _]) (rotl_ok _ 22 (by omega) (by omega)) ⟨rfl, rfl, rfl, rfl⟩ ?_
  rintro u rfl
  refine AX (hK' _ _ ?_)
  clear hK' K'
  iterate 3 refine S0 ?_ (e := fun _ h_ => by simp only [sH, ↓sP, sA, tyS, simprocAttr, w_xor, w_add, t2_code]; exact AX h_)
  refine T2 (hK _ _ _ ?_)
  clear hK K
  refine hw_seq fun K hK => Rg ?_
  iterate 10 refine S0 ?_ (e := fun _ h_ => by simp only [sH, ↓sP, sA, tyS, simprocAttr, w_add]; exact AX h_)
  refine T2 (hK _ _ _ ?_)
  clear hK K
  refine hw_region (by kernel_rfl) ?_
  simp only [sR, simprocAttr]
  iterate 10 refine S0 ?_ (e := fun _ h_ => by simp only [sH, ↓sP, sA, tyS, simprocAttr, w_add]; exact AX h_)
  refine T2 (hK _ _ _ ?_)
  clear hK K
  refine hw_region (by kernel_rfl) ?_
  simp only [↓sP, sA, tyS, simprocAttr, i64s i]
  refine ⟨⟨(i + 1, rnd (wsched p) i S), hlt, by rw [hS]; rfl⟩, fits_fin (by omega) (by simp [FinOk, fin_at, finA_at, upd_at, HV.men, HV.menL, HV.norm, HV.toC, HV.toCL, rnd]) (by simp [FobOk, fob_at, upd_at, none0_at, HO.men, HV.men, HV.menL, HV.norm, HV.toC, HV.toCL]), ?_⟩
  show 64 - (i + 1) < 64 - i
  omega
 refine hw_exit ?_
 simp only [↓sP, sA, tyS, simprocAttr]
 clear hK K
 refine AX (hK _ _ _ ?_)
 clear hK K
 refine hw_seq fun K hK => Rg ?_
 iterate 8 refine S0 ?_
 refine hlex_step (g := none) rfl rfl fun K' hK' => ?_
 simp only [sH, ↓sP, sA, tyS, simprocAttr]
 rw [hbuild_ws (n := 8) S.l rfl rfl]
 refine AX (hK' _ _ ?_)
 clear hK' K'
 refine S0 ?_
 refine T2 (hK _ _ _ ?_)
 clear hK K
 refine hw_block ?_
 have hei : i = 64 := by simp at hb; omega
 subst hei
 clear hb
 have e8 : addL s S 8 = (comp s p).l := by rw [hS]; rfl
 clear hS
 refine hw_loop (α := {j : Nat // j ≤ 8}) (fun j => (fin [(0, .ptr 0 0), (129, .c (ws S.l)), (130, .c (.int .i64 j.1))], fob [(0, .box 152 (.c (ws (addL s S j.1))))])) 300 (fun j => 8 - j.1) ⟨0, by omega⟩ (fF) ?_
 rintro ⟨j, hj⟩
 have hlen := addL_len s S j (by omega)
 refine R0 ?_
 refine hw_seq fun K hK => ?_
 refine hw_cond (b := decide ((j : Int) < 8)) rfl (fun hb => ?_) (fun hb => ?_)
 ·
  have hlt : j < 8 := by simp at hb; omega
  have z : (j : Int) < 8 := by omega
  have hg := addL_gw s S j hlt
  refine hw_skip ?_
  refine T0 (hK _ _ _ ?_)
  clear hK K
  refine hw_seq fun K hK => ?_
  refine hw_block ?_
  refine hw_seq fun K hK => Rg ?_
  iterate 4 refine S0 ?_ (e := fun _ h_ => by simp only [sH, ↓sP, sA, tyS, simprocAttr, z, hlt, hlen, hg, ws_gw, St_len, gw_a, gw_b, gw_c, gw_d, gw_e, gw_f, gw_g, gw_h, ws_isAgg, Nat.mul_one, Int.natCast_nonneg]; exact AX h_)
  refine T2 (hK _ _ _ ?_)
  clear hK K
  refine hw_draw2 mixed [(0, [], []), (1, [], []), (2, [], []), (3, [], []), (4, [], []), (5, [], []), (6, [], []), (7, [], []), (8, [], []), (9, [], [])] [0, 0, 1, 7, 15, 0, 63, 1, 255, 511] (by kernel_rfl) (by kernel_rfl) (by kernel_rfl) (by kernel_rfl) rfl (by kernel_rfl) ?_
  iterate 10 refine W0 ?_ (e := fun _ h_ => by simp only [sH, ↓sP, sA, tyS, simprocAttr, z, hlt, hlen, hg, ws_gw, Nat.mul_one, Int.natCast_nonneg, w_add, ws_setw, toCL_c]; exact AX h_)
  refine T2 (hK _ _ _ ?_)
  clear hK K
  refine hw_region (by kernel_rfl) ?_
  simp only [↓sP, sA, tyS, simprocAttr, i64s j]
  refine ⟨⟨j + 1, hlt⟩, fits_fin (by omega) (by simp [FinOk, fin_at, finA_at, upd_at, HV.men, HV.menL, HV.norm, HV.toC, HV.toCL]) (by simp [FobOk, fob_at, upd_at, none0_at, HO.men, HV.men, HV.menL, HV.norm, HV.toC, HV.toCL]; rw [addL_step s S j hlt]), ?_⟩
  show 8 - (j + 1) < 8 - j
  omega
 refine hw_exit ?_
 simp only [↓sP, sA, tyS, simprocAttr]
 clear hK K
 simp only [hpost, Tryz.results137, hresL, hres1, tupOf, ↓sP, sA, tyS, simprocAttr]
 have hej : j = 8 := by simp at hb; omega
 subst hej
 exact hret_box0 [] (ws (addL s S 8)) rfl rfl (close_c (ws_denil _)) (by simp) (by rw [e8])

end Go.Proofs.YtenbfeemmpjdhaaGreatDoor
