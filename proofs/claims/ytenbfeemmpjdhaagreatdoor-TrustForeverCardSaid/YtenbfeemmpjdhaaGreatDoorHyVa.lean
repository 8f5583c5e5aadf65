/- Part of a proof: walks of functions of the program, by contracts, and the rules they use. By an AI agent. -/
import Derived.Test.YtenbfeemmpjdhaaGreatDoorHySq
import Derived.Test.YtenbfeemmpjdhaaGreatDoorHlFl
import Derived.Test.YtenbfeemmpjdhaaGreatDoorHlZb
import Derived.Shelf.SortM.Plain
import Derived.Shelf.SortM.SortNone
import Derived.Ground.SlgmProg
import Derived.Shelf.Slices.Clone
import Derived.Ground.Names2Prog
import Derived.Test.YtenbfeemmpjdhaaGreatDoorPl11q
set_option linter.unusedSimpArgs false
set_option linter.unusedVariables false
set_option linter.defProp false
namespace Go.Proofs.YtenbfeemmpjdhaaGreatDoor
open Go Go.Hl Go.Pl
set_option maxRecDepth 10000
set_option maxHeartbeats 2000000
set_option linter.unusedSimpArgs false
set_option linter.unusedVariables false

theorem hpre_ok (s p : Word) : HPure Tryz.prog 179 [.str s, .str p] (fun v => v = .bool (prefB s p)) := by
 refine hfn_walk Tryz.func179 rfl (by kernel_rfl) (locOk_nil _) (Nat.le_of_ble_eq_true rfl) ?_
 refine R0 ?_
 refine hw_seq fun K hK => Rg ?_
 iterate 6 refine S0 ?_ (e := fun _ h_ => by simp only [sH, ↓sP, sA, tyS, simprocAttr, Int.natCast_nonneg, Int.ofNat_le, List.drop_zero, Nat.sub_zero]; exact AX h_)
 refine hlex_cases 9 rfl (fun h1_9 => ?_) (fun h1_9 => ?_)
 ·
  iterate 3 refine S0 ?_ (e := fun _ h_ => by simp only [sH, ↓sP, sA, tyS, simprocAttr, Int.natCast_nonneg, Int.ofNat_le, List.drop_zero, Nat.sub_zero, h1_9]; exact AX h_)
  refine hlex_step (g := some (10, true)) rfl rfl fun K' hK' => ?_
  simp only [sH, ↓sP, sA, tyS, simprocAttr, Int.natCast_nonneg, Int.ofNat_le, List.drop_zero, Nat.sub_zero, h1_9]
  refine ⟨by simp at h1_9; omega, ?_⟩
  refine AX (hK' _ _ ?_)
  clear hK' K'
  iterate 4 refine S0 ?_ (e := fun _ h_ => by simp only [sH, ↓sP, sA, tyS, simprocAttr, Int.natCast_nonneg, Int.ofNat_le, List.drop_zero, Nat.sub_zero, h1_9]; exact AX h_)
  refine T2 (hK _ _ _ ?_)
  clear hK K
  refine hw_ret ?_
  simp only [hpost, Tryz.results179, hresL, hres1, tupOf, ↓sP, sA, tyS, simprocAttr]
  have hle : p.length ≤ s.length := by simp at h1_9; omega
  exact hret_pure [] (.bool (s.take p.length == p)) rfl (by unfold prefB; rw [show decide (p.length ≤ s.length) = true from by simpa using hle]; rfl)
 iterate 8 refine S0 ?_ (e := fun _ h_ => by simp only [sH, ↓sP, sA, tyS, simprocAttr, Int.natCast_nonneg, Int.ofNat_le, List.drop_zero, Nat.sub_zero, h1_9]; exact AX h_)
 refine T2 (hK _ _ _ ?_)
 clear hK K
 refine hw_ret ?_
 simp only [hpost, Tryz.results179, hresL, hres1, tupOf, ↓sP, sA, tyS, simprocAttr]
 have hle : ¬ p.length ≤ s.length := by simp at h1_9; omega
 exact hret_pure [] (.bool false) rfl (by unfold prefB; rw [show decide (p.length ≤ s.length) = false from by simpa using hle]; rfl)


theorem cpre_ok (s p : Word) : HPure2 Tryz.prog 160 [.str s, .str p] (fun u v => u = .str (if prefB s p then s.drop p.length else s) ∧ v = .bool (prefB s p)) := by
 refine hfn_walk Tryz.func160 rfl (by kernel_rfl) (locOk_nil _) (Nat.le_of_ble_eq_true rfl) ?_
 refine R0 ?_
 refine hw_seq fun K hK => ?_
 refine hw_seq fun K hK => Rg ?_
 iterate 2 refine S0 ?_
 refine hlex_step (g := none) rfl rfl fun K' hK' => ?_
 simp only [sH, ↓sP, sA, tyS, simprocAttr]
 refine call_pure (args := [_, _]) (hpre_ok s p) ⟨rfl, rfl, rfl, rfl⟩ ?_
 rintro u rfl
 refine AX (hK' _ _ ?_)
 clear hK' K'
 refine S0 ?_
 refine T2 (hK _ _ _ ?_)
 clear hK K
 refine hw_cond (b := !(prefB s p)) rfl (fun hb => ?_) (fun hb => ?_)
 ·
  refine R0 ?_
  refine hw_ret ?_
  simp only [hpost, Tryz.results160, hresL, hres1, tupOf, ↓sP, sA, tyS, simprocAttr]
  have hp : prefB s p = false := by simpa using hb
  exact hret_pure2 [] (.str s) (.bool false) rfl ⟨by rw [hp]; rfl, by rw [hp]⟩
 refine hw_skip ?_
 refine T0 (hK _ _ _ ?_)
 clear hK K
 have hp : prefB s p = true := by simpa using hb
 have hle : p.length ≤ s.length := by
  unfold prefB at hp
  simp only [Bool.and_eq_true, decide_eq_true_eq] at hp
  exact hp.1
 have htd : List.take (s.length - p.length) (List.drop p.length s) = List.drop p.length s := List.take_of_length_le (by simp)
 refine hw_seq fun K hK => Rg ?_
 iterate 6 refine S0 ?_ (e := fun _ h_ => by simp only [sH, ↓sP, sA, tyS, simprocAttr, Int.natCast_nonneg, Int.ofNat_le, hle, htd]; exact AX h_)
 refine T2 (hK _ _ _ ?_)
 clear hK K
 refine hw_ret ?_
 simp only [hpost, Tryz.results160, hresL, hres1, tupOf, ↓sP, sA, tyS, simprocAttr]
 exact hret_pure2 [] (.str (s.drop p.length)) (.bool true) rfl ⟨by rw [hp]; rfl, by rw [hp]⟩


theorem scpre_ok (s p : Word) : HPure2 Tryz.prog 129 [.str s, .str p] (fun u v => u = .str (if prefB s p then s.drop p.length else s) ∧ v = .bool (prefB s p)) := by
 refine hfn_walk Tryz.func129 rfl (by kernel_rfl) (locOk_nil _) (Nat.le_of_ble_eq_true rfl) ?_
 refine R0 ?_
 refine hw_seq fun K hK => Rg ?_
 iterate 2 refine S0 ?_
 refine hlex_step (g := none) rfl rfl fun K' hK' => ?_
 simp only [sH, ↓sP, sA, tyS, simprocAttr]
 refine call_pure2 (args := [_, _]) (cpre_ok s p) ⟨rfl, rfl, rfl, rfl⟩ ?_
 rintro u v ⟨rfl, rfl⟩
 refine AX (hK' _ _ ?_)
 clear hK' K'
 iterate 4 refine S0 ?_
 refine T2 (hK _ _ _ ?_)
 clear hK K
 refine hw_ret ?_
 simp only [hpost, Tryz.results129, hresL, hres1, tupOf, ↓sP, sA, tyS, simprocAttr]
 exact hret_pure2 [] _ _ rfl ⟨rfl, rfl⟩


theorem unhex_ok (s : Word) (n : Nat) (T : TypeId) (l0 : List UInt8) (h0 : l0.length = n) (hn1 : 1 < n) (hn2 : n < 1000) (hs : s.length < 2 ^ 40) :
  HFill Tryz.prog 128 [.str s] n T l0 (fun u l' => u = .bool (unhexV s n).isSome ∧ l'.length = n ∧ ∀ w, unhexV s n = some w → l' = w) := by
 refine hfn_walk Tryz.func128 rfl (by kernel_rfl) (locOk_fill [_] _ _ _) (Nat.le_of_ble_eq_true rfl) ?_
 refine R0 ?_
 refine hw_seq fun K hK => ?_
 have hw2 : IntKind.i64.wrap (2 * (n : Int)) = ((2 * n : Nat) : Int) := by rw [IntWalk.i64_in _ (by omega)]; omega
 have hln : (List.take n (l0.map u8)).length = n := by simp [h0]
 refine hw_seq fun K hK => Rg ?_
 iterate 6 refine S0 ?_ (e := fun _ h_ => by simp only [sH, ↓sP, sA, tyS, simprocAttr, h0, all_u8, List.length_map, Nat.zero_le, Nat.le_refl, List.drop_zero, Nat.sub_zero, hln, hw2]; exact AX h_)
 refine T2 (hK _ _ _ ?_)
 clear hK K
 refine hw_cond (b := (s.length : Int) != ((2 * n : Nat) : Int)) rfl (fun hb => ?_) (fun hb => ?_)
 ·
  refine R0 ?_
  refine hw_ret ?_
  simp only [hpost, Tryz.results128, hresL, hres1, tupOf, ↓sP, sA, tyS, simprocAttr]
  have hv : unhexV s n = none := unhexV_len (by simp at hb; omega)
  exact hret_fill (.bool false) rfl rfl ⟨by rw [hv]; rfl, h0, fun w hw => by rw [hv] at hw; cases hw⟩
 refine hw_skip ?_
 refine T0 (hK _ _ _ ?_)
 clear hK K
 refine hw_seq fun K hK => ?_
 have hlen : s.length = 2 * n := by simp at hb; omega
 clear hb
 refine R0 ?_ (e := fun _ h_ => by simp only [↓sP, sA, tyS, simprocAttr, h0, all_u8, List.length_map, Nat.zero_le, Nat.le_refl, List.drop_zero, Nat.sub_zero, hln]; exact AX h_)
 refine hw_block ?_
 refine hw_loop (α := {y : Nat × List UInt8 // UhSt s n y.1 y.2}) (fun y => (fin [(0, .c (.str s)), (1, .osl 0 n 0 1 n), (15, .c (.int .i64 n)), (16, .c (.int .i64 y.1.1))], fob [(0, .box T (.c (.agg (y.1.2.map u8))))])) 100 (fun y => n - y.1.1) ⟨(0, l0), UhSt.init s h0⟩ (fF) ?_
 rintro ⟨⟨i, l⟩, hst⟩
 simp only at hst
 have hi := hst.2.1
 have hll := hst.1
 refine R0 ?_
 refine hw_seq fun K hK => ?_
 refine hw_cond (b := decide ((i : Int) < (n : Int))) rfl (fun hb => ?_) (fun hb => ?_)
 ·
  have hlt : i < n := by simp at hb; omega
  clear hb
  have hv2 : IntKind.i64.wrap (2 * (i : Int)) = ((2 * i : Nat) : Int) := by rw [IntWalk.i64_in _ (by omega)]; omega
  have hv3 : IntKind.i64.wrap (((2 * i : Nat) : Int) + 1) = ((2 * i + 1 : Nat) : Int) := by rw [IntWalk.i64_in _ (by omega)]; rfl
  have hgx : s.getD (2 * i) 0 = hX s i := rfl
  have hgy : s.getD (2 * i + 1) 0 = hY s i := rfl
  have hl1 : 2 * i < s.length := by omega
  have hl2 : 2 * i + 1 < s.length := by omega
  refine hw_skip ?_
  refine T0 (hK _ _ _ ?_)
  clear hK K
  refine hw_seq fun K hK => ?_
  refine hw_block ?_
  refine R0 ?_
  refine hw_seq fun K hK => hw_draw2 mixed [(0, [], []), (1, [], []), (2, [], []), (3, [], []), (5, [], []), (6, [], []), (7, [], []), (8, [], []), (9, [], []), (4, [], [5, 6, 7, 8, 9]), (10, [], []), (11, [], []), (12, [], [])] [0, 0, 2, 7, 15, 0, 0, 64, 192, 480, 1023, 2047, 4095] (by kernel_rfl) (by kernel_rfl) (by kernel_rfl) (by kernel_rfl) rfl (by kernel_rfl) ?_
  iterate 9 refine W0 ?_ (e := fun _ h_ => by simp only [sH, ↓sP, sA, tyS, simprocAttr, Int.natCast_nonneg, Int.ofNat_lt, hv2, hv3, hgx, hgy, hl1, hl2]; exact AX h_)
  refine hwalk2_step (g := none) rfl rfl fun K' hK' => ?_
  simp only [sH, ↓sP, sA, tyS, simprocAttr, Int.natCast_nonneg, Int.ofNat_lt, hv2, hv3, hgx, hgy, hl1, hl2]
  refine call_pure (args := [_, _]) (strib_ok hexDL (hX s i)) ⟨rfl, rfl, rfl, rfl⟩ ?_
  rintro u rfl
  refine AX (hK' _ _ ?_)
  clear hK' K'
  refine hwalk2_step (g := none) rfl rfl fun K' hK' => ?_
  simp only [sH, ↓sP, sA, tyS, simprocAttr, Int.natCast_nonneg, Int.ofNat_lt, hv2, hv3, hgx, hgy, hl1, hl2]
  refine call_pure (args := [_, _]) (strib_ok hexDL (hY s i)) ⟨rfl, rfl, rfl, rfl⟩ ?_
  rintro u rfl
  refine AX (hK' _ _ ?_)
  clear hK' K'
  iterate 2 refine W0 ?_ (e := fun _ h_ => by simp only [sH, ↓sP, sA, tyS, simprocAttr, Int.natCast_nonneg, Int.ofNat_lt, hv2, hv3, hgx, hgy, hl1, hl2]; exact AX h_)
  refine T2 (hK _ _ _ ?_)
  clear hK K
  refine hw_seq fun K hK => ?_
  by_cases hx : valL (hX s i) < 16
  ·
   by_cases hy : valL (hY s i) < 16
   ·
    rw [idx_hexL, idx_hexL, if_pos hx, if_pos hy]
    have hx0 : decide (((valL (hX s i) : Nat) : Int) < 0) = false := by simp
    have hy0 : decide (((valL (hY s i) : Nat) : Int) < 0) = false := by simp
    have e1 : IntKind.i64.wrap (16 * ((valL (hX s i) : Nat) : Int)) = ((16 * valL (hX s i) : Nat) : Int) := by rw [IntWalk.i64_in _ (by omega)]; omega
    have e2 : IntKind.i64.wrap (((16 * valL (hX s i) : Nat) : Int) + ((valL (hY s i) : Nat) : Int)) = ((16 * valL (hX s i) + valL (hY s i) : Nat) : Int) := by rw [IntWalk.i64_in _ (by omega)]; omega
    have e3 : IntKind.u8.wrap ((16 * valL (hX s i) + valL (hY s i) : Nat) : Int) = ((hB s i).toNat : Int) := by rw [IntWalk.u8_in _ (by omega), hB_nat hx hy]
    have hil : i < l.length := by omega
    have hl1' : l.length ≠ 1 := by omega
    refine hw_seq fun K hK => Rg ?_
    iterate 6 refine S0 ?_ (e := fun _ h_ => by simp only [sH, ↓sP, sA, tyS, simprocAttr, hx0, hy0]; exact AX h_)
    refine T2 (hK _ _ _ ?_)
    clear hK K
    refine hw_cond (b := false) rfl (fun hb => ?_) (fun hb => ?_)
    ·
     cases hb
    refine hw_skip ?_
    refine T0 (hK _ _ _ ?_)
    clear hK K
    refine hw_region (by kernel_rfl) ?_
    simp only [sR, simprocAttr]
    iterate 9 refine S0 ?_ (e := fun _ h_ => by simp only [sH, ↓sP, sA, tyS, simprocAttr, e1, e2, e3, Int.natCast_nonneg, Int.ofNat_lt, Nat.le_refl, Nat.sub_zero, Nat.zero_add, Nat.mul_one, hlt, cellsL_u8, setAtL_u8, hil, hl1', and_false, toCL_c]; exact AX h_)
    refine T2 (hK _ _ _ ?_)
    clear hK K
    refine hw_region (by kernel_rfl) ?_
    simp only [↓sP, sA, tyS, simprocAttr, i64s i]
    refine ⟨⟨(i + 1, l.set i (hB s i)), hst.next hlt (by simp [hOk, hx, hy])⟩, fF, ?_⟩
    show n - (i + 1) < n - i
    omega
   rw [idx_hexL, idx_hexL, if_pos hx, if_neg hy]
   have hx0 : decide (((valL (hX s i) : Nat) : Int) < 0) = false := by simp
   refine hw_seq fun K hK => Rg ?_
   iterate 6 refine S0 ?_ (e := fun _ h_ => by simp only [sH, ↓sP, sA, tyS, simprocAttr, hx0]; exact AX h_)
   refine T2 (hK _ _ _ ?_)
   clear hK K
   refine hw_cond (b := true) rfl (fun hb => ?_) (fun hb => ?_)
   ·
    refine R0 ?_
    refine hw_ret ?_
    simp only [hpost, Tryz.results128, hresL, hres1, tupOf, ↓sP, sA, tyS, simprocAttr]
    have hv := hst.bad hlt (by simp [hOk, hx, hy])
    exact hret_fill (.bool false) rfl rfl ⟨by rw [hv]; rfl, hll, fun w hw => by rw [hv] at hw; cases hw⟩
   cases hb
  rw [idx_hexL, if_neg hx]
  refine hw_seq fun K hK => Rg ?_
  iterate 6 refine S0 ?_
  refine T2 (hK _ _ _ ?_)
  clear hK K
  refine hw_cond (b := true) rfl (fun hb => ?_) (fun hb => ?_)
  ·
   refine R0 ?_
   refine hw_ret ?_
   simp only [hpost, Tryz.results128, hresL, hres1, tupOf, ↓sP, sA, tyS, simprocAttr]
   have hv := hst.bad hlt (by simp [hOk, hx])
   exact hret_fill (.bool false) rfl rfl ⟨by rw [hv]; rfl, hll, fun w hw => by rw [hv] at hw; cases hw⟩
  cases hb
 refine hw_exit ?_
 simp only [↓sP, sA, tyS, simprocAttr]
 clear hK K
 refine AX (hK _ _ _ ?_)
 clear hK K
 refine R0 ?_
 refine hw_ret ?_
 simp only [hpost, Tryz.results128, hresL, hres1, tupOf, ↓sP, sA, tyS, simprocAttr]
 have hin : i = n := by simp at hb; omega
 subst hin
 have hv := hst.fin hlen
 exact hret_fill (.bool true) rfl rfl ⟨by rw [hv]; rfl, hll, fun w hw => by rw [hv] at hw; cases hw; rfl⟩


theorem phalf_ok (s : Word) (hs : s.length < 2 ^ 40) : HPure2 Tryz.prog 102 [.str s] (fun u v => u = hf ((halfV s).getD zh) ∧ v = .bool (halfV s).isSome) := by
 refine hfn_walk Tryz.func102 rfl (by kernel_rfl) (locOk_nil _) (Nat.le_of_ble_eq_true rfl) ?_
 refine R0 ?_
 refine R0 ?_
 refine hw_seq fun K hK => ?_
 refine hw_seq fun K hK => Rg ?_
 iterate 2 refine S0 ?_
 refine hlex_step (g := none) rfl rfl fun K' hK' => ?_
 simp only [sH, ↓sP, sA, tyS, simprocAttr]
 refine call_fill (args := [_]) (unhex_ok s 16 66 (List.replicate 16 0) (by simp) (by omega) (by omega) hs) rfl (by simp) ⟨rfl, rfl, rfl, rfl⟩ ?_
 rintro u l' ⟨rfl, hll, hw⟩
 refine AX (hK' _ _ ?_)
 clear hK' K'
 refine S0 ?_
 refine T2 (hK _ _ _ ?_)
 clear hK K
 refine hw_cond (b := !(unhexV s 16).isSome) rfl (fun hb => ?_) (fun hb => ?_)
 ·
  refine R0 ?_ (e := fun _ h_ => by simp only [↓sP, sA, tyS, simprocAttr, zhf_eq, hbuild_hf, hf_setAt]; exact AX h_)
  refine hw_ret ?_
  simp only [hpost, Tryz.results102, hresL, hres1, tupOf, ↓sP, sA, tyS, simprocAttr]
  have hn : halfV s = none := halfV_none (by simpa using hb)
  exact hret_pure2 [] zhf (.bool false) rfl ⟨by rw [hn]; rfl, by rw [hn]; rfl⟩
 refine hw_skip ?_
 refine T0 (hK _ _ _ ?_)
 clear hK K
 obtain ⟨l, hl⟩ := Option.isSome_iff_exists.1 (show (unhexV s 16).isSome = true by simpa using hb)
 have := hw l hl
 subst this
 have hv := halfV_some hl hll
 refine R0 ?_ (e := fun _ h_ => by simp only [↓sP, sA, tyS, simprocAttr, cellsL_u8, hll, hf_setAt, zhf_eq]; exact AX h_)
 refine hw_ret ?_
 simp only [hpost, Tryz.results102, hresL, hres1, tupOf, ↓sP, sA, tyS, simprocAttr]
 simp only [cellsL_u8, hll, if_true, Option.map_some]
 refine hret_pure2 [] (hf (⟨l', hll⟩ : Half)) (.bool true) ?_ ?_
 ·
  simp [HV.close, HV.closeL, HV.norm, HV.toC, HV.toCL, hf, CV.denil, denilL_u8]
 exact ⟨by rw [hv]; rfl, by rw [hv]; rfl⟩


theorem dparse_ok (s : Word) (hs : s.length < 2 ^ 40) : HPure2 Tryz.prog 103 [.str s] (fun u v => u = dg ((digV s).getD zdg) ∧ v = .bool (digV s).isSome) := by
 refine hfn_walk Tryz.func103 rfl (by kernel_rfl) (locOk_nil _) (Nat.le_of_ble_eq_true rfl) ?_
 refine R0 ?_
 refine R0 ?_
 refine hw_seq fun K hK => Rg ?_
 refine S0 ?_
 refine hlex_step (g := none) rfl rfl fun K' hK' => ?_
 simp only [sH, ↓sP, sA, tyS, simprocAttr]
 refine call_pure2 (args := [_, _]) (scpre_ok s shaW) ⟨rfl, rfl, rfl, rfl⟩ ?_
 rintro u v ⟨rfl, rfl⟩
 refine AX (hK' _ _ ?_)
 clear hK' K'
 iterate 5 refine S0 ?_
 refine T2 (hK _ _ _ ?_)
 clear hK K
 refine hw_seq fun K hK => ?_
 by_cases hp : prefB s shaW = true
 ·
  rw [hp, if_pos rfl, show shaW.length = 7 from rfl]
  refine hw_seq fun K hK => Rg ?_
  iterate 5 refine S0 ?_
  refine hlex_step (g := some (14, false)) rfl rfl fun K' hK' => ?_
  simp only [sH, ↓sP, sA, tyS, simprocAttr]
  refine call_fill (args := [_]) (unhex_ok (s.drop 7) 32 49 (List.replicate 32 0) (by simp) (by omega) (by omega) (by rw [List.length_drop]; omega)) rfl (by simp) ⟨rfl, rfl, rfl, rfl⟩ ?_
  rintro u l' ⟨rfl, hll, hw⟩
  refine AX (hK' _ _ ?_)
  clear hK' K'
  iterate 2 refine S0 ?_
  refine T2 (hK _ _ _ ?_)
  clear hK K
  refine hw_cond (b := !(unhexV (s.drop 7) 32).isSome) rfl (fun hb => ?_) (fun hb => ?_)
  ·
   refine R0 ?_ (e := fun _ h_ => by simp only [↓sP, sA, tyS, simprocAttr, hbuild_zd, dg_setAt]; exact AX h_)
   refine hw_ret ?_
   simp only [hpost, Tryz.results103, hresL, hres1, tupOf, ↓sP, sA, tyS, simprocAttr]
   have hn : digV s = none := digV_none (fun _ => by simpa using hb)
   exact hret_pure2 [] zd (.bool false) rfl ⟨by rw [hn]; rfl, by rw [hn]; rfl⟩
  refine hw_skip ?_
  refine T0 (hK _ _ _ ?_)
  clear hK K
  obtain ⟨l, hl⟩ := Option.isSome_iff_exists.1 (show (unhexV (s.drop 7) 32).isSome = true by simpa using hb)
  have := hw l hl
  subst this
  have hv := digV_some hp hl hll
  refine R0 ?_ (e := fun _ h_ => by simp only [↓sP, sA, tyS, simprocAttr, cellsL_u8, hll, dg_setAt]; exact AX h_)
  refine hw_ret ?_
  simp only [hpost, Tryz.results103, hresL, hres1, tupOf, ↓sP, sA, tyS, simprocAttr]
  simp only [cellsL_u8, hll, if_true, Option.map_some]
  refine hret_pure2 [] (dg (⟨l', hll⟩ : Dig)) (.bool true) ?_ ?_
  ·
   simp [HV.close, HV.closeL, HV.norm, HV.toC, HV.toCL, CV.denil, denilL_u8]
   rfl
  exact ⟨by rw [hv]; rfl, by rw [hv]; rfl⟩
 have hp' : prefB s shaW = false := by simpa using hp
 rw [hp', if_neg (by simp)]
 refine hw_seq fun K hK => Rg ?_
 iterate 8 refine S0 ?_
 refine T2 (hK _ _ _ ?_)
 clear hK K
 refine hw_cond (b := true) rfl (fun hb => ?_) (fun hb => ?_)
 ·
  refine R0 ?_ (e := fun _ h_ => by simp only [↓sP, sA, tyS, simprocAttr, hbuild_zd, dg_setAt]; exact AX h_)
  refine hw_ret ?_
  simp only [hpost, Tryz.results103, hresL, hres1, tupOf, ↓sP, sA, tyS, simprocAttr]
  have hn : digV s = none := digV_none (fun h => absurd h hp)
  exact hret_pure2 [] zd (.bool false) rfl ⟨by rw [hn]; rfl, by rw [hn]; rfl⟩
 cases hb

end Go.Proofs.YtenbfeemmpjdhaaGreatDoor

namespace Go.Proofs.YtenbfeemmpjdhaaGreatDoor
open Go Go.Hl Go.Pl
set_option maxRecDepth 10000
set_option maxHeartbeats 2000000
set_option linter.unusedSimpArgs false
set_option linter.unusedVariables false

theorem pnum_ok (s : Word) : HPure2 Tryz.prog 101 [.str s] (fun u v => u = .int .i64 ((numV s).getD 0) ∧ v = .bool (numV s).isSome) := by
 refine hfn_walk Tryz.func101 rfl (by kernel_rfl) (locOk_nil _) (Nat.le_of_ble_eq_true rfl) ?_
 refine R0 ?_
 refine hw_seq fun K hK => ?_
 have key : ∀ fr ob nx, numBad s = false → Fits 0 fr ob (fin [(0, .c (.str s))]) (fob []) 100 → K fr ob nx := by
  intro fr ob nx hbad hf
  refine hK _ _ _ (hw_fits hf ?_)
  clear hf hK K
  have hlen : s.length ≤ 13 := by
   simp only [numBad, Bool.or_eq_false_iff, decide_eq_false_iff_not] at hbad
   omega
  refine R0 ?_
  refine hw_seq fun K hK => ?_
  refine R0 ?_
  refine hw_block ?_
  refine hw_loop (α := {y : Nat × Nat // DgSt s y.1 y.2}) (fun y => (fin [(0, .c (.str s)), (4, .c (.int .i64 y.1.2)), (5, .c (.int .i64 y.1.1))], fob [])) 200 (fun y => s.length - y.1.1) ⟨(0, 0), DgSt.init s⟩ (fF) ?_
  rintro ⟨⟨i, n⟩, hst⟩
  simp only at hst
  have hi := hst.1
  have hnl := hst.lt hlen
  refine hw_seq fun K hK => ?_
  refine hw_seq fun K hK => Rg ?_
  iterate 4 refine S0 ?_
  refine T2 (hK _ _ _ ?_)
  clear hK K
  refine hw_cond (b := decide ((i : Int) < s.length)) rfl (fun hb => ?_) (fun hb => ?_)
  ·
   have hlt : i < s.length := by simpa using hb
   clear hb
   have hgd : s.getD i 0 = s[i] := by simp [hlt]
   have hdi := digB_int s[i]
   refine hw_skip ?_
   refine T0 (hK _ _ _ ?_)
   clear hK K
   refine hw_seq fun K hK => ?_
   refine hw_block ?_
   refine hw_seq fun K hK => ?_
   have key2 : ∀ fr ob nx, digB s[i] = true → Fits 0 fr ob (fin [(0, .c (.str s)), (4, .c (.int .i64 n)), (5, .c (.int .i64 i))]) (fob []) 300 → K fr ob nx := by
    intro fr ob nx hd hf
    refine hK _ _ _ (hw_fits hf ?_)
    clear hf hK K
    have hd2 : 48 ≤ s[i].toNat ∧ s[i].toNat ≤ 57 := by simpa [digB] using hd
    have e1 : IntKind.i64.wrap (10 * (n : Int)) = ((10 * n : Nat) : Int) := by rw [IntWalk.i64_in _ (by omega)]; omega
    have e2 : IntKind.u8.wrap ((s[i].toNat : Int) - 48) = ((s[i].toNat - 48 : Nat) : Int) := by rw [IntWalk.u8_in _ (by omega)]; omega
    have e3 : IntKind.i64.wrap ((s[i].toNat - 48 : Nat) : Int) = ((s[i].toNat - 48 : Nat) : Int) := by rw [IntWalk.i64_in _ (by omega)]
    have e4 : IntKind.i64.wrap (((10 * n : Nat) : Int) + ((s[i].toNat - 48 : Nat) : Int)) = ((10 * n + (s[i].toNat - 48) : Nat) : Int) := by rw [IntWalk.i64_in _ (by omega)]; omega
    refine hw_region (by kernel_rfl) ?_
    simp only [sR, simprocAttr]
    iterate 9 refine S0 ?_ (e := fun _ h_ => by simp only [sH, ↓sP, sA, tyS, simprocAttr, Int.natCast_nonneg, Int.ofNat_lt, hlt, hgd, e1, e2, e3, e4]; exact AX h_)
    refine T2 (hK _ _ _ ?_)
    clear hK K
    refine hw_region (by kernel_rfl) ?_
    simp only [↓sP, sA, tyS, simprocAttr, i64s i]
    refine ⟨⟨(i + 1, 10 * n + (s[i].toNat - 48)), hst.next hlt hd⟩, fF, ?_⟩
    show s.length - (i + 1) < s.length - i
    omega
   refine hw_seq fun K hK => Rg ?_
   iterate 5 refine S0 ?_ (e := fun _ h_ => by simp only [sH, ↓sP, sA, tyS, simprocAttr, Int.natCast_nonneg, Int.ofNat_lt, hlt, hgd]; exact AX h_)
   refine hlex_cases 33 rfl (fun h7_33 => ?_) (fun h7_33 => ?_)
   ·
    iterate 5 refine S0 ?_ (e := fun _ h_ => by simp only [sH, ↓sP, sA, tyS, simprocAttr, Int.natCast_nonneg, Int.ofNat_lt, hlt, hgd, h7_33]; exact AX h_)
    refine T2 (hK _ _ _ ?_)
    clear hK K
    refine hw_cond (b := true) rfl (fun hb => ?_) (fun hb => ?_)
    ·
     refine R0 ?_
     refine hw_ret ?_
     simp only [hpost, Tryz.results101, hresL, hres1, tupOf, ↓sP, sA, tyS, simprocAttr]
     have hd : digB s[i] = false := by simp only [digB, Bool.and_eq_false_iff, decide_eq_false_iff_not]; simp at h7_33; omega
     have hn := numV_none (hst.bad hlt hd)
     exact hret_pure2 [] (.int .i64 0) (.bool false) rfl ⟨by rw [hn]; rfl, by rw [hn]; rfl⟩
    cases hb
   iterate 5 refine S0 ?_ (e := fun _ h_ => by simp only [sH, ↓sP, sA, tyS, simprocAttr, Int.natCast_nonneg, Int.ofNat_lt, hlt, hgd, h7_33]; exact AX h_)
   refine hlex_cases 38 rfl (fun h7_38 => ?_) (fun h7_38 => ?_)
   ·
    simp only [h7_38]
    refine T2 (hK _ _ _ ?_)
    clear hK K
    refine hw_cond (b := true) rfl (fun hb => ?_) (fun hb => ?_)
    ·
     refine R0 ?_
     refine hw_ret ?_
     simp only [hpost, Tryz.results101, hresL, hres1, tupOf, ↓sP, sA, tyS, simprocAttr]
     have hd : digB s[i] = false := by simp only [digB, Bool.and_eq_false_iff, decide_eq_false_iff_not]; simp at h7_38; omega
     have hn := numV_none (hst.bad hlt hd)
     exact hret_pure2 [] (.int .i64 0) (.bool false) rfl ⟨by rw [hn]; rfl, by rw [hn]; rfl⟩
    cases hb
   simp only [h7_38]
   refine T2 (hK _ _ _ ?_)
   clear hK K
   refine hw_cond (b := false) rfl (fun hb => ?_) (fun hb => ?_)
   ·
    cases hb
   refine hw_skip ?_
   simp only [↓sP, sA, tyS, simprocAttr]
   exact key2 _ _ _ (by simp only [digB, Bool.and_eq_true, decide_eq_true_eq]; simp at h7_33 h7_38; omega) (fF)
  refine hw_exit ?_
  simp only [↓sP, sA, tyS, simprocAttr]
  clear hK K
  refine AX (hK _ _ _ ?_)
  clear hK K
  refine hw_seq fun K hK => ?_
  have hfin := hst.fin (by simp at hb; omega)
  clear hb
  refine R0 ?_
  refine hw_cond (b := decide ((1099511627776 : Int) < (n : Int))) rfl (fun hb => ?_) (fun hb => ?_)
  ·
   refine R0 ?_
   refine hw_ret ?_
   simp only [hpost, Tryz.results101, hresL, hres1, tupOf, ↓sP, sA, tyS, simprocAttr]
   have hn := numV_big hfin (by simp at hb; omega)
   exact hret_pure2 [] (.int .i64 0) (.bool false) rfl ⟨by rw [hn]; rfl, by rw [hn]; rfl⟩
  refine hw_skip ?_
  refine T0 (hK _ _ _ ?_)
  clear hK K
  refine R0 ?_
  refine hw_ret ?_
  simp only [hpost, Tryz.results101, hresL, hres1, tupOf, ↓sP, sA, tyS, simprocAttr]
  have hn := numV_ok hbad hfin (by simp at hb; omega)
  exact hret_pure2 [] (.int .i64 n) (.bool true) rfl ⟨by rw [hn]; rfl, by rw [hn]; rfl⟩
 refine hw_seq fun K hK => Rg ?_
 iterate 4 refine S0 ?_
 refine hlex_cases 8 rfl (fun h1_8 => ?_) (fun h1_8 => ?_)
 ·
  iterate 14 refine S0 ?_ (e := fun _ h_ => by simp only [sH, ↓sP, sA, tyS, simprocAttr, h1_8]; exact AX h_)
  refine T2 (hK _ _ _ ?_)
  clear hK K
  refine hw_cond (b := true) rfl (fun hb => ?_) (fun hb => ?_)
  ·
   refine R0 ?_
   refine hw_ret ?_
   simp only [hpost, Tryz.results101, hresL, hres1, tupOf, ↓sP, sA, tyS, simprocAttr]
   have hn : numV s = none := numV_bad (by simp only [numBad, Bool.or_eq_true, decide_eq_true_eq]; simp at h1_8; left; left; omega)
   exact hret_pure2 [] (.int .i64 0) (.bool false) rfl ⟨by rw [hn]; rfl, by rw [hn]; rfl⟩
  cases hb
 iterate 5 refine S0 ?_ (e := fun _ h_ => by simp only [sH, ↓sP, sA, tyS, simprocAttr, h1_8]; exact AX h_)
 refine hlex_cases 12 rfl (fun h1_12 => ?_) (fun h1_12 => ?_)
 ·
  iterate 9 refine S0 ?_ (e := fun _ h_ => by simp only [sH, ↓sP, sA, tyS, simprocAttr, h1_8, h1_12]; exact AX h_)
  refine T2 (hK _ _ _ ?_)
  clear hK K
  refine hw_cond (b := true) rfl (fun hb => ?_) (fun hb => ?_)
  ·
   refine R0 ?_
   refine hw_ret ?_
   simp only [hpost, Tryz.results101, hresL, hres1, tupOf, ↓sP, sA, tyS, simprocAttr]
   have hn : numV s = none := numV_bad (by simp only [numBad, Bool.or_eq_true, decide_eq_true_eq]; simp at h1_12; left; right; omega)
   exact hret_pure2 [] (.int .i64 0) (.bool false) rfl ⟨by rw [hn]; rfl, by rw [hn]; rfl⟩
  cases hb
 iterate 4 refine S0 ?_ (e := fun _ h_ => by simp only [sH, ↓sP, sA, tyS, simprocAttr, h1_8, h1_12]; exact AX h_)
 refine hlex_cases 17 rfl (fun h1_17 => ?_) (fun h1_17 => ?_)
 ·
  refine S0 ?_ (e := fun _ h_ => by simp only [sH, ↓sP, sA, tyS, simprocAttr, h1_8, h1_12, h1_17]; exact AX h_)
  refine hlex_step (g := some (18, true)) rfl rfl fun K' hK' => ?_
  simp only [sH, ↓sP, sA, tyS, simprocAttr, h1_8, h1_12, h1_17]
  refine ⟨by simp at h1_17; omega, ?_⟩
  refine AX (hK' _ _ ?_)
  clear hK' K'
  iterate 3 refine S0 ?_ (e := fun _ h_ => by simp only [sH, ↓sP, sA, tyS, simprocAttr, h1_8, h1_12, h1_17]; exact AX h_)
  refine hlex_cases 21 rfl (fun h1_21 => ?_) (fun h1_21 => ?_)
  ·
   simp only [h1_21]
   refine T2 (hK _ _ _ ?_)
   clear hK K
   refine hw_cond (b := true) rfl (fun hb => ?_) (fun hb => ?_)
   ·
    refine R0 ?_
    refine hw_ret ?_
    simp only [hpost, Tryz.results101, hresL, hres1, tupOf, ↓sP, sA, tyS, simprocAttr]
    have hn : numV s = none := numV_bad (by
     simp only [numBad, Bool.or_eq_true, Bool.and_eq_true, decide_eq_true_eq, beq_iff_eq]
     right
     refine ⟨by simp at h1_17; omega, UInt8.toNat_inj.1 ?_⟩
     simp only [beq_iff_eq] at h1_21
     show (s.getD 0 0).toNat = 48
     omega)
    exact hret_pure2 [] (.int .i64 0) (.bool false) rfl ⟨by rw [hn]; rfl, by rw [hn]; rfl⟩
   cases hb
  simp only [h1_21]
  refine T2 (hK _ _ _ ?_)
  clear hK K
  refine hw_cond (b := false) rfl (fun hb => ?_) (fun hb => ?_)
  ·
   cases hb
  refine hw_skip ?_
  simp only [↓sP, sA, tyS, simprocAttr]
  refine key _ _ _ ?_ (fF)
  simp only [numBad, Bool.or_eq_false_iff, Bool.and_eq_false_iff, decide_eq_false_iff_not, beq_eq_false_iff_ne, ne_eq]
  simp only [decide_eq_false_iff_not, decide_eq_true_eq] at h1_8 h1_12
  refine ⟨⟨by omega, by omega⟩, ?_⟩
  first
   | (right; intro h0; rw [h0] at h1_21; simp at h1_21)
   | (left; simp at h1_17; omega)
 iterate 5 refine S0 ?_ (e := fun _ h_ => by simp only [sH, ↓sP, sA, tyS, simprocAttr, h1_8, h1_12, h1_17]; exact AX h_)
 refine T2 (hK _ _ _ ?_)
 clear hK K
 refine hw_cond (b := false) rfl (fun hb => ?_) (fun hb => ?_)
 ·
  cases hb
 refine hw_skip ?_
 simp only [↓sP, sA, tyS, simprocAttr]
 refine key _ _ _ ?_ (fF)
 simp only [numBad, Bool.or_eq_false_iff, Bool.and_eq_false_iff, decide_eq_false_iff_not, beq_eq_false_iff_ne, ne_eq]
 simp only [decide_eq_false_iff_not, decide_eq_true_eq] at h1_8 h1_12
 refine ⟨⟨by omega, by omega⟩, ?_⟩
 first
  | (right; intro h0; rw [h0] at h1_21; simp at h1_21)
  | (left; simp at h1_17; omega)


end Go.Proofs.YtenbfeemmpjdhaaGreatDoor

namespace Go.Proofs.YtenbfeemmpjdhaaGreatDoor
open Go.RowKit Go.Sort Go.Shelf

def sort83_ren : Go.Shelf.Ren := ⟨fun | 6 => 83 | 8 => 118 | 9 => 117 | 19 => 147 | 20 => 148 | 21 => 138 | 22 => 139 | 23 => 140 | 24 => 141 | 25 => 142 | 26 => 143 | 27 => 144 | 28 => 145 | 29 => 146 | 36 => 169 | 31 => 170 | 32 => 171 | 37 => 172 | 38 => 173 | 39 => 174 | 41 => 189 | n => n, fun | 27 => 60 | 29 => 9 | 3 => 3 | 32 => 144 | 26 => 60 | 0 => 0 | 44 => 151 | 46 => 145 | 4 => 4 | 36 => 169 | 35 => 168 | 41 => 174 | 5 => 5 | 9 => 9 | 53 => 195 | 57 => 199 | 63 => 209 | 64 => 210 | n => n, fun | n => n⟩
theorem sort83 : Go.Proofs.SlLaysM.n6 Tryz.prog sort83_ren := {
 mixed := by kernel_rfl
 f6 := ⟨Tryz.f83.name, by decide, Tryz.func83.trans (congrArg some (by kernel_rfl))⟩
 f8 := Tryz.func118.trans (congrArg some (by kernel_rfl))
 f9 := ⟨Tryz.f117.name, by decide, Tryz.func117.trans (congrArg some (by kernel_rfl))⟩
 f19 := Tryz.func147.trans (congrArg some (by kernel_rfl))
 f20 := Tryz.func148.trans (congrArg some (by kernel_rfl))
 f21 := ⟨Tryz.f138.name, by decide, Tryz.func138.trans (congrArg some (by kernel_rfl))⟩
 f22 := ⟨Tryz.f139.name, by decide, Tryz.func139.trans (congrArg some (by kernel_rfl))⟩
 f23 := ⟨Tryz.f140.name, by decide, Tryz.func140.trans (congrArg some (by kernel_rfl))⟩
 f24 := ⟨Tryz.f141.name, by decide, Tryz.func141.trans (congrArg some (by kernel_rfl))⟩
 f25 := ⟨Tryz.f142.name, by decide, Tryz.func142.trans (congrArg some (by kernel_rfl))⟩
 f26 := ⟨Tryz.f143.name, by decide, Tryz.func143.trans (congrArg some (by kernel_rfl))⟩
 f27 := ⟨Tryz.f144.name, by decide, Tryz.func144.trans (congrArg some (by kernel_rfl))⟩
 f28 := ⟨Tryz.f145.name, by decide, Tryz.func145.trans (congrArg some (by kernel_rfl))⟩
 f29 := ⟨Tryz.f146.name, by decide, Tryz.func146.trans (congrArg some (by kernel_rfl))⟩
 f31 := Tryz.func170.trans (congrArg some (by kernel_rfl))
 f32 := Tryz.func171.trans (congrArg some (by kernel_rfl))
 f36 := ⟨Tryz.f169.name, by decide, Tryz.func169.trans (congrArg some (by kernel_rfl))⟩
 f37 := ⟨Tryz.f172.name, by decide, Tryz.func172.trans (congrArg some (by kernel_rfl))⟩
 f38 := ⟨Tryz.f173.name, by decide, Tryz.func173.trans (congrArg some (by kernel_rfl))⟩
 f39 := ⟨Tryz.f174.name, by decide, Tryz.func174.trans (congrArg some (by kernel_rfl))⟩
 f41 := ⟨Tryz.f189.name, by decide, Tryz.func189.trans (congrArg some (by kernel_rfl))⟩
 t0 := Tryz.underlying0
 a0 := Tryz.isAgg0
 z0 := Tryz.sizeOf0
 v0 := Tryz.zeroValue0
 t3 := Tryz.underlying3
 a3 := Tryz.isAgg3
 z3 := Tryz.sizeOf3
 v3 := Tryz.zeroValue3
 t4 := Tryz.underlying4
 a4 := Tryz.isAgg4
 z4 := Tryz.sizeOf4
 v4 := Tryz.zeroValue4
 t5 := Tryz.underlying5
 a5 := Tryz.isAgg5
 z5 := Tryz.sizeOf5
 v5 := Tryz.zeroValue5
 t9 := Tryz.underlying9
 a9 := Tryz.isAgg9
 z9 := Tryz.sizeOf9
 v9 := Tryz.zeroValue9
 t26 := Tryz.underlying60
 a26 := Tryz.isAgg60
 z26 := Tryz.sizeOf60
 v26 := Tryz.zeroValue60
 t27 := Tryz.underlying60
 a27 := Tryz.isAgg60
 z27 := Tryz.sizeOf60
 v27 := Tryz.zeroValue60
 t29 := Tryz.underlying9
 a29 := Tryz.isAgg9
 z29 := Tryz.sizeOf9
 v29 := Tryz.zeroValue9
 t32 := Tryz.underlying144
 a32 := Tryz.isAgg144
 z32 := Tryz.sizeOf144
 v32 := Tryz.zeroValue144
 t35 := Tryz.underlying168
 a35 := Tryz.isAgg168
 z35 := Tryz.sizeOf168
 v35 := Tryz.zeroValue168
 t36 := Tryz.underlying169
 a36 := Tryz.isAgg169
 z36 := Tryz.sizeOf169
 v36 := Tryz.zeroValue169
 t41 := Tryz.underlying174
 a41 := Tryz.isAgg174
 z41 := Tryz.sizeOf174
 v41 := Tryz.zeroValue174
 t44 := Tryz.underlying151
 a44 := Tryz.isAgg151
 z44 := Tryz.sizeOf151
 v44 := Tryz.zeroValue151
 t46 := Tryz.underlying145
 a46 := Tryz.isAgg145
 z46 := Tryz.sizeOf145
 v46 := Tryz.zeroValue145
 t53 := Tryz.underlying195
 a53 := Tryz.isAgg195
 z53 := Tryz.sizeOf195
 v53 := Tryz.zeroValue195
 t57 := Tryz.underlying199
 a57 := Tryz.isAgg199
 z57 := Tryz.sizeOf199
 v57 := Tryz.zeroValue199
 t63 := Tryz.underlying209
 a63 := Tryz.isAgg209
 z63 := Tryz.sizeOf209
 v63 := Tryz.zeroValue209
 t64 := Tryz.underlying210
 a64 := Tryz.isAgg210
 z64 := Tryz.sizeOf210
 v64 := Tryz.zeroValue210 }
def clone94_ren : Go.Shelf.Ren := ⟨fun | 16 => 94 | n => n, fun | 24 => 60 | 9 => 9 | 4 => 4 | n => n, fun | n => n⟩
theorem clone94 : Go.Proofs.Lays2.n16 Tryz.prog clone94_ren := {
 mixed := by kernel_rfl
 f16 := Tryz.func94.trans (congrArg some (by kernel_rfl))
 t4 := Tryz.underlying4
 a4 := Tryz.isAgg4
 z4 := Tryz.sizeOf4
 v4 := Tryz.zeroValue4
 t9 := Tryz.underlying9
 a9 := Tryz.isAgg9
 z9 := Tryz.sizeOf9
 v9 := Tryz.zeroValue9
 t24 := Tryz.underlying60
 a24 := Tryz.isAgg60
 z24 := Tryz.sizeOf60
 v24 := Tryz.zeroValue60
 i9 := by kernel_rfl }

theorem sort_ok (ss : List (List UInt8)) (hl : ss.length < 2 ^ 40) : Hl.HSort Tryz.prog 83 9 ss :=
 Hl.hfn_sort (by kernel_rfl) (fun blk cap w hH hb => AnyM.slices_Sort_string sort83 blk 0 cap ss w hH hb (by omega)) (fun cap w => AnyM.slices_Sort_string_none sort83 none cap w)
theorem clone_ok (l : List (List UInt8)) (hl : l.length < 2 ^ 40) : Hl.HPure Tryz.prog 94 [.slc (l.map .str)] (fun v => v = .slc (l.map .str)) := by
 refine Hl.hpure_clone (e := 9) (by kernel_rfl) (by omega) (fun b off c w hc => ?_) (fun c w => Any.slices_Clone_string_nil clone94 0 c w) (fun a c w => Any.slices_Clone_string_zero clone94 a c w)
 have := Any.slices_Clone_string clone94 b off l.length c (l.map fun s => ⟨s.toArray⟩) w (by simp) (by omega) (fun j hj => by
  have hj' : j < l.length := by simpa using hj
  rw [hc j hj']
  simp [hj', Hl.skey])
 refine this.mono ?_
 rintro x w' ⟨v', h1, h2, h3, h4⟩
 refine ⟨v', h1, ?_, h3, h4⟩
 have e : ((l.map fun s => (⟨s.toArray⟩ : ByteArray)).take l.length).map Value.string = l.map Hl.skey := by
  rw [List.take_of_length_le (by simp), List.map_map]
  rfl
 rw [e] at h2
 exact h2
end Go.Proofs.YtenbfeemmpjdhaaGreatDoor

namespace Go.Pl
open Go Go.Hl

def wd (l : List Word) (i : Nat) : Word := l.getD i []
theorem nth_wd {l : List Word} {i : Nat} (h : i < l.length) : nth (l.map CV.str) i = .str (wd l i) := by
 rw [nth_map h, wd, List.getD_eq_getElem?_getD, List.getElem?_eq_getElem h]; rfl
def hdrP (l : List Word) (x : Rt) : Option Rt :=
 if l.length = 3 then match numV (wd l 1), numV (wd l 2) with | some a, some b => some { x with v := a, e := b } | _, _ => none else none
def quotaP (l : List Word) (x : Rt) : Option Rt :=
 if l.length = 3 then match numV (wd l 2) with | some n => some { x with q := x.q ++ [⟨wd l 1, n⟩] } | none => none else none
def keyP (l : List Word) (x : Rt) : Option Rt :=
 if l.length < 6 then none else match numV (wd l 1), halfV (wd l 2), numV (wd l 4), numV (wd l 5) with
  | some h, some r, some a, some b => some { x with k := x.k ++ [⟨⟨h, r⟩, wd l 3, l.drop 6, a, b⟩] }
  | _, _, _, _ => none
def revP (l : List Word) (x : Rt) : Option Rt :=
 if l.length = 3 then match digV (wd l 1), numV (wd l 2) with | some d, some t => some { x with x := x.x ++ [⟨d, t⟩] } | _, _ => none else none
end Go.Pl

namespace Go.Hl
open Go Go.Pl

def pOb (T tq tk tx : TypeId) (x : Rt) : Ob := fob [(0, .box T (.agg [.c (.int .i64 x.v), .c (.int .i64 x.e), .own 1 x.q.length, .own 2 x.k.length, .own 3 x.x.length])),
 (1, .row tq 2 (x.q.map Qt.cv)), (2, .row tk 21 (x.k.map Ky.cv)), (3, .row tx 33 (x.x.map Rv.cv))]
def HPars (P : Program) (f : FuncId) (T tq tk tx : TypeId) (l : List Word) (x : Rt) (F : Option Rt) : Prop :=
 HFn P f [.ptr 0 0, .c (.slc (l.map .str))] 4 (pOb T tq tk tx x) (fun r ob' => ∃ y, r = .c (.bool F.isSome) ∧ ob' = pOb T tq tk tx y ∧ ∀ z, F = some z → y = z)
theorem locOk_pars (T tq tk tx : TypeId) (v : CV) (x : Rt) : LocOk 4 [.ptr 0 0, .c v] (pOb T tq tk tx x) := by
 refine ⟨fun j h => ?_, fun id o h => ?_, by simp [HV.menL, HV.men]⟩
 ·
  match j, h with
  | 0, _ => exact ⟨_, rfl⟩
  | 1, _ => exact ⟨_, rfl⟩
  | 2, _ => exact ⟨_, rfl⟩
  | 3, _ => exact ⟨_, rfl⟩
 ·
  simp only [pOb, fob_at, fob_nil] at h
  split at h
  ·
   rename_i e; subst e; cases h; exact ⟨by omega, by simp [HO.men, HV.men, HV.menL]⟩
  ·
   split at h
   ·
    rename_i e; subst e; cases h; exact ⟨by omega, trivial⟩
   ·
    split at h
    ·
     rename_i e; subst e; cases h; exact ⟨by omega, trivial⟩
    ·
     split at h
     ·
      rename_i e; subst e; cases h; exact ⟨by omega, trivial⟩
     ·
      cases h
structure PIn (ob : Ob) (T tq tk tx : TypeId) (p q k r : Nat) (x : Rt) : Prop where
 p : ob p = some (.box T (.agg [.c (.int .i64 x.v), .c (.int .i64 x.e), .own q x.q.length, .own k x.k.length, .own r x.x.length]))
 q : ob q = some (.row tq 2 (x.q.map Qt.cv))
 k : ob k = some (.row tk 21 (x.k.map Ky.cv))
 r : ob r = some (.row tx 33 (x.x.map Rv.cv))
def pUpd (ob : Ob) (T tq tk tx : TypeId) (p q k r : Nat) (y : Rt) : Ob :=
 upd (upd (upd (upd ob r (some (.row tx 33 (y.x.map Rv.cv)))) k (some (.row tk 21 (y.k.map Ky.cv)))) q (some (.row tq 2 (y.q.map Qt.cv)))) p
  (some (.box T (.agg [.c (.int .i64 y.v), .c (.int .i64 y.e), .own q y.q.length, .own k y.k.length, .own r y.x.length])))
theorem call_pars {P : Program} {av : List Nat} {f : FuncId} {ob : Ob} {nid : Nat} {K : HV → Ob → Prop} {T tq tk tx : TypeId} {l : List Word} {x : Rt} {F : Option Rt} (p q k r : Nat) (h : HPars P f T tq tk tx l x F)
  (hin : PIn ob T tq tk tx p q k r x) (hd : [p, q, k, r].Nodup) (hav : p ∉ av ∧ q ∉ av ∧ k ∉ av ∧ r ∉ av) (hfree : Free4 ob nid)
  (hK : ∀ y, (∀ z, F = some z → y = z) → K (.c (.bool F.isSome)) (pUpd ob T tq tk tx p q k r y)) : HCall P av f [.ptr p 0, .c (.slc (l.map .str))] ob nid K := by
 have h0 : sub [p, q, k, r] nid 0 = p := rfl
 have h1 : sub [p, q, k, r] nid 1 = q := rfl
 have h2 : sub [p, q, k, r] nid 2 = k := rfl
 have h3 : sub [p, q, k, r] nid 3 = r := rfl
 refine ⟨[p, q, k, r], _, _, _, h, locOk_pars T tq tk tx _ x, ⟨hd, by simp only [List.mem_cons, List.not_mem_nil, or_false, forall_eq_or_imp, forall_eq]; exact hav⟩, by simp only [HV.renL, HV.ren, h0], fun j o hj => ?_, fun r' lob' hR _ => ?_⟩
 ·
  simp only [pOb, fob_at, fob_nil] at hj
  split at hj
  ·
   rename_i e; subst e; cases hj; simpa [HO.ren, HV.ren, HV.renL, h1, h2, h3] using hin.p
  ·
   split at hj
   ·
    rename_i e; subst e; cases hj; simpa [HO.ren] using hin.q
   ·
    split at hj
    ·
     rename_i e; subst e; cases hj; simpa [HO.ren] using hin.k
    ·
     split at hj
     ·
      rename_i e; subst e; cases hj; simpa [HO.ren] using hin.r
     ·
      cases hj
 ·
  obtain ⟨y, rfl, rfl, hy⟩ := hR
  have e2 : obAfter ob [p, q, k, r] nid (pOb T tq tk tx y) = pUpd ob T tq tk tx p q k r y := by
   simp only [List.nodup_cons, List.mem_cons, List.not_mem_nil, or_false, not_or, List.nodup_nil, and_true, not_false_eq_true] at hd
   obtain ⟨⟨d1, d2, d3⟩, ⟨d4, d5⟩, d6⟩ := hd
   funext i
   unfold pUpd
   by_cases e0 : i = p
   ·
    subst e0
    rw [upd_same]
    simp only [obAfter, List.findIdx?_cons, beq_self_eq_true, if_true, pOb, fob_at, Option.map_some, HO.ren, HV.ren, HV.renL, h1, h2, h3]
   ·
    have b0 : (p == i) = false := by simp; exact fun h => e0 h.symm
    rw [upd_ne _ _ e0]
    by_cases e1 : i = q
    ·
     subst e1
     rw [upd_same]
     simp [obAfter, List.findIdx?_cons, b0, pOb, fob_at, HO.ren]
    ·
     have b1 : (q == i) = false := by simp; exact fun h => e1 h.symm
     rw [upd_ne _ _ e1]
     by_cases e2 : i = k
     ·
      subst e2
      rw [upd_same]
      simp [obAfter, List.findIdx?_cons, b0, b1, pOb, fob_at, HO.ren]
     ·
      have b2 : (k == i) = false := by simp; exact fun h => e2 h.symm
      rw [upd_ne _ _ e2]
      by_cases e3 : i = r
      ·
       subst e3
       rw [upd_same]
       simp [obAfter, List.findIdx?_cons, b0, b1, b2, pOb, fob_at, HO.ren]
      ·
       have b3 : (r == i) = false := by simp; exact fun h => e3 h.symm
       rw [upd_ne _ _ e3]
       simp only [obAfter, List.findIdx?_cons, b0, b1, b2, b3, List.findIdx?_nil, Option.map_none, Bool.false_eq_true, if_false]
       split
       ·
        rename_i hr
        have hl : [p, q, k, r].length = 4 := rfl
        have n0 : [p, q, k, r].length + (i - nid) ≠ 0 := by omega
        have n1 : [p, q, k, r].length + (i - nid) ≠ 1 := by omega
        have n2 : [p, q, k, r].length + (i - nid) ≠ 2 := by omega
        have n3 : [p, q, k, r].length + (i - nid) ≠ 3 := by omega
        simp only [pOb]
        rw [fob_at, if_neg n0, fob_at, if_neg n1, fob_at, if_neg n2, fob_at, if_neg n3, fob_nil]
        exact (hfree.all i hr.1 hr.2).symm
       ·
        rfl
  rw [e2]
  exact hK y hy
theorem hret_pars {ob : Ob} {T tq tk tx : TypeId} {y : Rt} {F : Option Rt} {b : Bool} (hb : b = F.isSome) (h : PIn ob T tq tk tx 0 1 2 3 y) (hy : ∀ z, F = some z → y = z) :
  HRet 4 (.c (.bool b)) ob (fun r ob' => ∃ y, r = .c (.bool F.isSome) ∧ ob' = pOb T tq tk tx y ∧ ∀ z, F = some z → y = z) := by
 refine ⟨[], id, .c (.bool b), pOb T tq tk tx y, ⟨y, by rw [hb], rfl, hy⟩, rfl, fun _ _ => rfl, fun _ _ _ _ h => h, by simp [HV.men], fun j o hj => ?_⟩
 simp only [pOb, fob_at, fob_nil] at hj
 split at hj
 ·
  rename_i e
  subst e; cases hj
  exact ⟨by omega, by simp [HO.men, HV.men, HV.menL], by simp, _, h.p, by simp [HO.ren, HV.ren, HV.renL, HV.close, HV.closeL, HV.norm, HV.toC, HV.toCL, CV.denil]⟩
 ·
  split at hj
  ·
   rename_i e; subst e; cases hj; exact ⟨by omega, trivial, by simp, _, h.q, rfl⟩
  ·
   split at hj
   ·
    rename_i e; subst e; cases hj; exact ⟨by omega, trivial, by simp, _, h.k, rfl⟩
   ·
    split at hj
    ·
     rename_i e; subst e; cases hj; exact ⟨by omega, trivial, by simp, _, h.r, rfl⟩
    ·
     cases hj
end Go.Hl

namespace Go.Proofs.YtenbfeemmpjdhaaGreatDoor
open Go Go.Hl Go.Pl
set_option maxRecDepth 10000
set_option maxHeartbeats 4000000
set_option linter.unusedSimpArgs false
set_option linter.unusedVariables false

theorem phdr_ok (l : List Word) (x : Rt) (hl : l.length < 2 ^ 40) : HPars Tryz.prog 61 104 64 70 51 l x (hdrP l x) := by
 refine hfn_walk Tryz.func61 rfl (by kernel_rfl) (locOk_pars _ _ _ _ _ _) (Nat.le_of_ble_eq_true rfl) ?_
 unfold pOb
 refine R0 ?_
 refine hw_seq fun K hK => ?_
 refine R0 ?_ (e := fun _ h_ => by simp only [↓sP, sA, tyS, simprocAttr, List.length_map]; exact AX h_)
 refine hw_cond (b := (l.length : Int) != 3) rfl (fun hb => ?_) (fun hb => ?_)
 ·
  refine R0 ?_
  refine hw_ret ?_
  simp only [hpost, Tryz.results61, hresL, hres1, tupOf, ↓sP, sA, tyS, simprocAttr]
  have hn : hdrP l x = none := by unfold hdrP; rw [if_neg (by simp at hb; omega)]
  exact hret_pars (y := x) (by rw [hn]; rfl) ⟨rfl, rfl, rfl, rfl⟩ (by rw [hn]; intro z hz; cases hz)
 refine hw_skip ?_
 refine T0 (hK _ _ _ ?_)
 clear hK K
 have h3 : l.length = 3 := by simp at hb; omega
 clear hb
 have i1 : 1 < l.length := by omega
 have i2 : 2 < l.length := by omega
 refine hw_seq fun K hK => Rg ?_
 iterate 3 refine S0 ?_ (e := fun _ h_ => by simp only [sH, ↓sP, sA, tyS, simprocAttr, List.length_map, h3, nth_wd i1]; exact AX h_)
 refine hlex_step (g := none) rfl rfl fun K' hK' => ?_
 simp only [sH, ↓sP, sA, tyS, simprocAttr, List.length_map, h3, nth_wd i1]
 refine call_pure2 (args := [_]) (pnum_ok (wd l 1)) ⟨rfl, rfl, rfl, rfl⟩ ?_
 rintro u v ⟨rfl, rfl⟩
 refine AX (hK' _ _ ?_)
 clear hK' K'
 iterate 5 refine S0 ?_ (e := fun _ h_ => by simp only [sH, ↓sP, sA, tyS, simprocAttr, List.length_map, h3, nth_wd i1]; exact AX h_)
 refine T2 (hK _ _ _ ?_)
 clear hK K
 refine hw_seq fun K hK => Rg ?_
 iterate 3 refine S0 ?_ (e := fun _ h_ => by simp only [sH, ↓sP, sA, tyS, simprocAttr, List.length_map, h3, nth_wd i2]; exact AX h_)
 refine hlex_step (g := none) rfl rfl fun K' hK' => ?_
 simp only [sH, ↓sP, sA, tyS, simprocAttr, List.length_map, h3, nth_wd i2]
 refine call_pure2 (args := [_]) (pnum_ok (wd l 2)) ⟨rfl, rfl, rfl, rfl⟩ ?_
 rintro u v ⟨rfl, rfl⟩
 refine AX (hK' _ _ ?_)
 clear hK' K'
 iterate 5 refine S0 ?_ (e := fun _ h_ => by simp only [sH, ↓sP, sA, tyS, simprocAttr, List.length_map, h3, nth_wd i2]; exact AX h_)
 refine T2 (hK _ _ _ ?_)
 clear hK K
 cases h1 : numV (wd l 1)
 ·
  refine hw_seq fun K hK => Rg ?_
  iterate 12 refine S0 ?_ (e := fun _ h_ => by simp only [sH, ↓sP, sA, tyS, simprocAttr, Option.getD_none, Option.getD_some]; exact AX h_)
  refine T2 (hK _ _ _ ?_)
  clear hK K
  refine hw_seq fun K hK => Rg ?_
  iterate 5 refine S0 ?_ (e := fun _ h_ => by simp only [sH, ↓sP, sA, tyS, simprocAttr, Option.isSome_none, Option.isSome_some]; exact AX h_)
  refine T2 (hK _ _ _ ?_)
  clear hK K
  refine hw_ret ?_
  simp only [hpost, Tryz.results61, hresL, hres1, tupOf, ↓sP, sA, tyS, simprocAttr]
  have hn : hdrP l x = none := by unfold hdrP; rw [if_pos h3, h1]
  exact hret_pars (y := { x with v := 0, e := (numV (wd l 2)).getD 0 }) (by rw [hn]; rfl) ⟨by simp [upd_at, fob_at], by simp [upd_at, fob_at], by simp [upd_at, fob_at], by simp [upd_at, fob_at]⟩ (by rw [hn]; intro z hz; cases hz)
 refine hw_seq fun K hK => Rg ?_
 iterate 12 refine S0 ?_ (e := fun _ h_ => by simp only [sH, ↓sP, sA, tyS, simprocAttr, Option.getD_none, Option.getD_some]; exact AX h_)
 refine T2 (hK _ _ _ ?_)
 clear hK K
 refine hw_seq fun K hK => Rg ?_
 iterate 5 refine S0 ?_ (e := fun _ h_ => by simp only [sH, ↓sP, sA, tyS, simprocAttr, Option.isSome_none, Option.isSome_some]; exact AX h_)
 refine T2 (hK _ _ _ ?_)
 clear hK K
 refine hw_ret ?_
 simp only [hpost, Tryz.results61, hresL, hres1, tupOf, ↓sP, sA, tyS, simprocAttr]
 rename_i n1
 have hn : hdrP l x = (numV (wd l 2)).map fun n => { x with v := n1, e := n } := by unfold hdrP; rw [if_pos h3, h1]; cases numV (wd l 2) <;> rfl
 exact hret_pars (y := { x with v := n1, e := (numV (wd l 2)).getD 0 }) (by rw [hn, Option.isSome_map]) ⟨by simp [upd_at, fob_at], by simp [upd_at, fob_at], by simp [upd_at, fob_at], by simp [upd_at, fob_at]⟩ (by rw [hn]; intro z hz; cases h2 : numV (wd l 2) with | none => rw [h2] at hz; cases hz | some n => rw [h2] at hz; cases hz; rfl)


theorem pquota_ok (l : List Word) (x : Rt) (hl : l.length < 2 ^ 40) (hx : x.q.length < 2 ^ 40) : HPars Tryz.prog 62 104 64 70 51 l x (quotaP l x) := by
 refine hfn_walk Tryz.func62 rfl (by kernel_rfl) (locOk_pars _ _ _ _ _ _) (Nat.le_of_ble_eq_true rfl) ?_
 unfold pOb
 refine R0 ?_
 refine hw_seq fun K hK => ?_
 refine R0 ?_ (e := fun _ h_ => by simp only [↓sP, sA, tyS, simprocAttr, List.length_map]; exact AX h_)
 refine hw_cond (b := (l.length : Int) != 3) rfl (fun hb => ?_) (fun hb => ?_)
 ·
  refine R0 ?_
  refine hw_ret ?_
  simp only [hpost, Tryz.results62, hresL, hres1, tupOf, ↓sP, sA, tyS, simprocAttr]
  have hn : quotaP l x = none := by unfold quotaP; rw [if_neg (by simp at hb; omega)]
  exact hret_pars (y := x) (by rw [hn]; rfl) ⟨rfl, rfl, rfl, rfl⟩ (by rw [hn]; intro z hz; cases hz)
 refine hw_skip ?_
 refine T0 (hK _ _ _ ?_)
 clear hK K
 have h3 : l.length = 3 := by simp at hb; omega
 clear hb
 have i1 : 1 < l.length := by omega
 have i2 : 2 < l.length := by omega
 refine hw_seq fun K hK => Rg ?_
 iterate 3 refine S0 ?_ (e := fun _ h_ => by simp only [sH, ↓sP, sA, tyS, simprocAttr, List.length_map, h3, nth_wd i2]; exact AX h_)
 refine hlex_step (g := none) rfl rfl fun K' hK' => ?_
 simp only [sH, ↓sP, sA, tyS, simprocAttr, List.length_map, h3, nth_wd i2]
 refine call_pure2 (args := [_]) (pnum_ok (wd l 2)) ⟨rfl, rfl, rfl, rfl⟩ ?_
 rintro u v ⟨rfl, rfl⟩
 refine AX (hK' _ _ ?_)
 clear hK' K'
 iterate 5 refine S0 ?_ (e := fun _ h_ => by simp only [sH, ↓sP, sA, tyS, simprocAttr, List.length_map, h3, nth_wd i2]; exact AX h_)
 refine T2 (hK _ _ _ ?_)
 clear hK K
 refine hw_seq fun K hK => hw_draw2 mixed [(0, [], []), (1, [], []), (2, [], []), (3, [], []), (4, [], []), (5, [], []), (6, [], []), (7, [], []), (8, [], []), (9, [], []), (10, [], []), (11, [], []), (12, [], [0]), (13, [], []), (14, [], []), (15, [], []), (16, [], [])] [0, 0, 2, 6, 14, 30, 0, 64, 192, 0, 960, 1984, 4094, 8191, 16383, 32767, 65535] (by kernel_rfl) (by kernel_rfl) (by kernel_rfl) (by kernel_rfl) rfl (by kernel_rfl) ?_
 iterate 17 refine W0 ?_ (e := fun _ h_ => by simp only [sH, ↓sP, sA, tyS, simprocAttr, List.length_map, List.length_append, h3, nth_wd i1]; exact AX h_)
 refine T2 (hK _ _ _ ?_)
 clear hK K
 refine R0 ?_
 refine hw_ret ?_
 simp only [hpost, Tryz.results62, hresL, hres1, tupOf, ↓sP, sA, tyS, simprocAttr]
 have hn : quotaP l x = (numV (wd l 2)).map fun n => { x with q := x.q ++ [⟨wd l 1, n⟩] } := by unfold quotaP; rw [if_pos h3]; cases numV (wd l 2) <;> rfl
 exact hret_pars (y := { x with q := x.q ++ [⟨wd l 1, (numV (wd l 2)).getD 0⟩] }) (by rw [hn, Option.isSome_map]) ⟨by simp [upd_at, fob_at], by simp [upd_at, fob_at, Qt.cv], by simp [upd_at, fob_at], by simp [upd_at, fob_at]⟩ (by rw [hn]; intro z hz; cases h2 : numV (wd l 2) with | none => rw [h2] at hz; cases hz | some n => rw [h2] at hz; cases hz; rfl)


theorem prev_ok (l : List Word) (x : Rt) (hl : l.length < 2 ^ 40) (hw : ∀ w ∈ l, w.length < 2 ^ 40) (hx : x.x.length < 2 ^ 40) : HPars Tryz.prog 64 104 64 70 51 l x (revP l x) := by
 refine hfn_walk Tryz.func64 rfl (by kernel_rfl) (locOk_pars _ _ _ _ _ _) (Nat.le_of_ble_eq_true rfl) ?_
 unfold pOb
 refine R0 ?_
 refine hw_seq fun K hK => ?_
 refine R0 ?_ (e := fun _ h_ => by simp only [↓sP, sA, tyS, simprocAttr, List.length_map]; exact AX h_)
 refine hw_cond (b := (l.length : Int) != 3) rfl (fun hb => ?_) (fun hb => ?_)
 ·
  refine R0 ?_
  refine hw_ret ?_
  simp only [hpost, Tryz.results64, hresL, hres1, tupOf, ↓sP, sA, tyS, simprocAttr]
  have hn : revP l x = none := by unfold revP; rw [if_neg (by simp at hb; omega)]
  exact hret_pars (y := x) (by rw [hn]; rfl) ⟨rfl, rfl, rfl, rfl⟩ (by rw [hn]; intro z hz; cases hz)
 refine hw_skip ?_
 refine T0 (hK _ _ _ ?_)
 clear hK K
 have h3 : l.length = 3 := by simp at hb; omega
 clear hb
 have i1 : 1 < l.length := by omega
 have i2 : 2 < l.length := by omega
 have hw1 : (wd l 1).length < 2 ^ 40 := hw _ (by unfold wd; rw [List.getD_eq_getElem?_getD, List.getElem?_eq_getElem i1]; exact List.getElem_mem i1)
 refine hw_seq fun K hK => Rg ?_
 iterate 3 refine S0 ?_ (e := fun _ h_ => by simp only [sH, ↓sP, sA, tyS, simprocAttr, List.length_map, h3, nth_wd i1, dg_setAt]; exact AX h_)
 refine hlex_step (g := none) rfl rfl fun K' hK' => ?_
 simp only [sH, ↓sP, sA, tyS, simprocAttr, List.length_map, h3, nth_wd i1, dg_setAt]
 refine call_pure2 (args := [_]) (dparse_ok (wd l 1) hw1) ⟨rfl, rfl, rfl, rfl⟩ ?_
 rintro u v ⟨rfl, rfl⟩
 refine AX (hK' _ _ ?_)
 clear hK' K'
 iterate 6 refine S0 ?_ (e := fun _ h_ => by simp only [sH, ↓sP, sA, tyS, simprocAttr, List.length_map, h3, nth_wd i1, dg_setAt]; exact AX h_)
 refine T2 (hK _ _ _ ?_)
 clear hK K
 refine hw_seq fun K hK => Rg ?_
 iterate 3 refine S0 ?_ (e := fun _ h_ => by simp only [sH, ↓sP, sA, tyS, simprocAttr, List.length_map, h3, nth_wd i2]; exact AX h_)
 refine hlex_step (g := none) rfl rfl fun K' hK' => ?_
 simp only [sH, ↓sP, sA, tyS, simprocAttr, List.length_map, h3, nth_wd i2]
 refine call_pure2 (args := [_]) (pnum_ok (wd l 2)) ⟨rfl, rfl, rfl, rfl⟩ ?_
 rintro u v ⟨rfl, rfl⟩
 refine AX (hK' _ _ ?_)
 clear hK' K'
 iterate 5 refine S0 ?_ (e := fun _ h_ => by simp only [sH, ↓sP, sA, tyS, simprocAttr, List.length_map, h3, nth_wd i2]; exact AX h_)
 refine T2 (hK _ _ _ ?_)
 clear hK K
 cases h1 : digV (wd l 1)
 ·
  refine hw_seq fun K hK => hw_draw2 mixed [(0, [], []), (1, [], []), (2, [], []), (3, [], []), (4, [], []), (5, [], []), (6, [], []), (7, [], []), (8, [], []), (9, [], []), (10, [], [0]), (11, [], []), (12, [], []), (13, [], []), (14, [], [])] [0, 0, 2, 6, 14, 30, 0, 0, 192, 448, 1022, 2047, 4095, 8191, 16383] (by kernel_rfl) (by kernel_rfl) (by kernel_rfl) (by kernel_rfl) rfl (by kernel_rfl) ?_
  iterate 15 refine W0 ?_ (e := fun _ h_ => by simp only [sH, ↓sP, sA, tyS, simprocAttr, Option.getD_none, Option.getD_some, List.length_map, List.length_append]; exact AX h_)
  refine T2 (hK _ _ _ ?_)
  clear hK K
  refine hw_seq fun K hK => Rg ?_
  iterate 5 refine S0 ?_ (e := fun _ h_ => by simp only [sH, ↓sP, sA, tyS, simprocAttr, Option.isSome_none, Option.isSome_some]; exact AX h_)
  refine T2 (hK _ _ _ ?_)
  clear hK K
  refine hw_ret ?_
  simp only [hpost, Tryz.results64, hresL, hres1, tupOf, ↓sP, sA, tyS, simprocAttr]
  have hn : revP l x = none := by unfold revP; rw [if_pos h3, h1]
  exact hret_pars (y := { x with x := x.x ++ [⟨zdg, (numV (wd l 2)).getD 0⟩] }) (by rw [hn]; rfl) ⟨by simp [upd_at, fob_at], by simp [upd_at, fob_at], by simp [upd_at, fob_at], by simp [upd_at, fob_at, Rv.cv]⟩ (by rw [hn]; intro z hz; cases hz)
 refine hw_seq fun K hK => hw_draw2 mixed [(0, [], []), (1, [], []), (2, [], []), (3, [], []), (4, [], []), (5, [], []), (6, [], []), (7, [], []), (8, [], []), (9, [], []), (10, [], [0]), (11, [], []), (12, [], []), (13, [], []), (14, [], [])] [0, 0, 2, 6, 14, 30, 0, 0, 192, 448, 1022, 2047, 4095, 8191, 16383] (by kernel_rfl) (by kernel_rfl) (by kernel_rfl) (by kernel_rfl) rfl (by kernel_rfl) ?_
 iterate 15 refine W0 ?_ (e := fun _ h_ => by simp only [sH, ↓sP, sA, tyS, simprocAttr, Option.getD_none, Option.getD_some, List.length_map, List.length_append]; exact AX h_)
 refine T2 (hK _ _ _ ?_)
 clear hK K
 refine hw_seq fun K hK => Rg ?_
 iterate 5 refine S0 ?_ (e := fun _ h_ => by simp only [sH, ↓sP, sA, tyS, simprocAttr, Option.isSome_none, Option.isSome_some]; exact AX h_)
 refine T2 (hK _ _ _ ?_)
 clear hK K
 refine hw_ret ?_
 simp only [hpost, Tryz.results64, hresL, hres1, tupOf, ↓sP, sA, tyS, simprocAttr]
 rename_i d1
 have hn : revP l x = (numV (wd l 2)).map fun n => { x with x := x.x ++ [⟨d1, n⟩] } := by unfold revP; rw [if_pos h3, h1]; cases numV (wd l 2) <;> rfl
 exact hret_pars (y := { x with x := x.x ++ [⟨d1, (numV (wd l 2)).getD 0⟩] }) (by rw [hn, Option.isSome_map]) ⟨by simp [upd_at, fob_at], by simp [upd_at, fob_at], by simp [upd_at, fob_at], by simp [upd_at, fob_at, Rv.cv]⟩ (by rw [hn]; intro z hz; cases h2 : numV (wd l 2) with | none => rw [h2] at hz; cases hz | some n => rw [h2] at hz; cases hz; rfl)


theorem pkey_ok (l : List Word) (x : Rt) (hl : l.length < 2 ^ 40) (hw : ∀ w ∈ l, w.length < 2 ^ 40) (hx : x.k.length < 2 ^ 40) : HPars Tryz.prog 63 104 64 70 51 l x (keyP l x) := by
 refine hfn_walk Tryz.func63 rfl (by kernel_rfl) (locOk_pars _ _ _ _ _ _) (Nat.le_of_ble_eq_true rfl) ?_
 unfold pOb
 refine R0 ?_
 refine hw_seq fun K hK => ?_
 refine R0 ?_ (e := fun _ h_ => by simp only [↓sP, sA, tyS, simprocAttr, List.length_map]; exact AX h_)
 refine hw_cond (b := decide ((l.length : Int) < 6)) rfl (fun hb => ?_) (fun hb => ?_)
 ·
  refine R0 ?_
  refine hw_ret ?_
  simp only [hpost, Tryz.results63, hresL, hres1, tupOf, ↓sP, sA, tyS, simprocAttr]
  have hn : keyP l x = none := by unfold keyP; rw [if_pos (by simp at hb; omega)]
  exact hret_pars (y := x) (by rw [hn]; rfl) ⟨rfl, rfl, rfl, rfl⟩ (by rw [hn]; intro z hz; cases hz)
 refine hw_skip ?_
 refine T0 (hK _ _ _ ?_)
 clear hK K
 have h6 : ¬ l.length < 6 := by simp at hb; omega
 clear hb
 have i1 : 1 < l.length := by omega
 have i2 : 2 < l.length := by omega
 have i3 : 3 < l.length := by omega
 have i4 : 4 < l.length := by omega
 have i5 : 5 < l.length := by omega
 have i6 : 6 ≤ l.length := by omega
 have z1 : (1 : Int) < l.length := by omega
 have z2 : (2 : Int) < l.length := by omega
 have z3 : (3 : Int) < l.length := by omega
 have z4 : (4 : Int) < l.length := by omega
 have z5 : (5 : Int) < l.length := by omega
 have z6 : (6 : Int) ≤ l.length := by omega
 have hw2 : (wd l 2).length < 2 ^ 40 := hw _ (by unfold wd; rw [List.getD_eq_getElem?_getD, List.getElem?_eq_getElem i2]; exact List.getElem_mem i2)
 refine hw_seq fun K hK => Rg ?_
 iterate 3 refine S0 ?_ (e := fun _ h_ => by simp only [sH, ↓sP, sA, tyS, simprocAttr, List.length_map, z1, nth_wd i1]; exact AX h_)
 refine hlex_step (g := none) rfl rfl fun K' hK' => ?_
 simp only [sH, ↓sP, sA, tyS, simprocAttr, List.length_map, z1, nth_wd i1]
 refine call_pure2 (args := [_]) (pnum_ok (wd l 1)) ⟨rfl, rfl, rfl, rfl⟩ ?_
 rintro u v ⟨rfl, rfl⟩
 refine AX (hK' _ _ ?_)
 clear hK' K'
 iterate 5 refine S0 ?_ (e := fun _ h_ => by simp only [sH, ↓sP, sA, tyS, simprocAttr, List.length_map, z1, nth_wd i1]; exact AX h_)
 refine T2 (hK _ _ _ ?_)
 clear hK K
 refine hw_seq fun K hK => Rg ?_
 iterate 3 refine S0 ?_ (e := fun _ h_ => by simp only [sH, ↓sP, sA, tyS, simprocAttr, List.length_map, z2, nth_wd i2, hf_setAt, zhf_eq]; exact AX h_)
 refine hlex_step (g := none) rfl rfl fun K' hK' => ?_
 simp only [sH, ↓sP, sA, tyS, simprocAttr, List.length_map, z2, nth_wd i2, hf_setAt, zhf_eq]
 refine call_pure2 (args := [_]) (phalf_ok (wd l 2) hw2) ⟨rfl, rfl, rfl, rfl⟩ ?_
 rintro u v ⟨rfl, rfl⟩
 refine AX (hK' _ _ ?_)
 clear hK' K'
 iterate 6 refine S0 ?_ (e := fun _ h_ => by simp only [sH, ↓sP, sA, tyS, simprocAttr, List.length_map, z2, nth_wd i2, hf_setAt, zhf_eq]; exact AX h_)
 refine T2 (hK _ _ _ ?_)
 clear hK K
 refine hw_seq fun K hK => Rg ?_
 iterate 3 refine S0 ?_ (e := fun _ h_ => by simp only [sH, ↓sP, sA, tyS, simprocAttr, List.length_map, z4, nth_wd i4]; exact AX h_)
 refine hlex_step (g := none) rfl rfl fun K' hK' => ?_
 simp only [sH, ↓sP, sA, tyS, simprocAttr, List.length_map, z4, nth_wd i4]
 refine call_pure2 (args := [_]) (pnum_ok (wd l 4)) ⟨rfl, rfl, rfl, rfl⟩ ?_
 rintro u v ⟨rfl, rfl⟩
 refine AX (hK' _ _ ?_)
 clear hK' K'
 iterate 5 refine S0 ?_ (e := fun _ h_ => by simp only [sH, ↓sP, sA, tyS, simprocAttr, List.length_map, z4, nth_wd i4]; exact AX h_)
 refine T2 (hK _ _ _ ?_)
 clear hK K
 refine hw_seq fun K hK => Rg ?_
 iterate 3 refine S0 ?_ (e := fun _ h_ => by simp only [sH, ↓sP, sA, tyS, simprocAttr, List.length_map, z5, nth_wd i5]; exact AX h_)
 refine hlex_step (g := none) rfl rfl fun K' hK' => ?_
 simp only [sH, ↓sP, sA, tyS, simprocAttr, List.length_map, z5, nth_wd i5]
 refine call_pure2 (args := [_]) (pnum_ok (wd l 5)) ⟨rfl, rfl, rfl, rfl⟩ ?_
 rintro u v ⟨rfl, rfl⟩
 refine AX (hK' _ _ ?_)
 clear hK' K'
 iterate 5 refine S0 ?_ (e := fun _ h_ => by simp only [sH, ↓sP, sA, tyS, simprocAttr, List.length_map, z5, nth_wd i5]; exact AX h_)
 refine T2 (hK _ _ _ ?_)
 clear hK K
 refine hw_seq fun K hK => hw_draw2 mixed [(0, [], []), (1, [], []), (2, [], []), (3, [], []), (4, [], []), (5, [], []), (6, [], []), (7, [], []), (8, [], []), (9, [], []), (10, [], [])] [0, 0, 3, 0, 8, 24, 0, 0, 255, 0, 1023] (by kernel_rfl) (by kernel_rfl) (by kernel_rfl) (by kernel_rfl) rfl (by kernel_rfl) ?_
 iterate 2 refine W0 ?_ (e := fun _ h_ => by simp only [sH, ↓sP, sA, tyS, simprocAttr, List.length_map, z3, nth_wd i3]; exact AX h_)
 refine hwalk2_step (g := none) rfl rfl fun K' hK' => ?_
 simp only [sH, ↓sP, sA, tyS, simprocAttr, List.length_map, z3, nth_wd i3]
 rw [hbuild_pk _ _ rfl rfl]
 refine AX (hK' _ _ ?_)
 clear hK' K'
 iterate 8 refine W0 ?_ (e := fun _ h_ => by simp only [sH, ↓sP, sA, tyS, simprocAttr, List.length_map, z3, nth_wd i3]; exact AX h_)
 refine T2 (hK _ _ _ ?_)
 clear hK K
 have htk : List.take (l.length - 6) (List.drop 6 (l.map CV.str)) = (l.drop 6).map .str := by rw [List.map_drop, List.take_of_length_le (by simp)]
 refine hw_seq fun K hK => Rg ?_
 iterate 2 refine S0 ?_ (e := fun _ h_ => by simp only [sH, ↓sP, sA, tyS, simprocAttr, List.length_map, z6, i6, htk, denilL_str]; exact AX h_)
 refine hlex_step (g := none) rfl rfl fun K' hK' => ?_
 simp only [sH, ↓sP, sA, tyS, simprocAttr, List.length_map, z6, i6, htk, denilL_str]
 refine call_pure (args := [_]) (clone_ok (l.drop 6) (by rw [List.length_drop]; omega)) ⟨rfl, rfl, rfl, rfl⟩ ?_
 rintro u rfl
 refine AX (hK' _ _ ?_)
 clear hK' K'
 iterate 2 refine S0 ?_ (e := fun _ h_ => by simp only [sH, ↓sP, sA, tyS, simprocAttr, List.length_map, z6, i6, htk, denilL_str]; exact AX h_)
 refine T2 (hK _ _ _ ?_)
 clear hK K
 refine hw_seq fun K hK => hw_draw2 mixed [(0, [], []), (1, [], []), (2, [], []), (3, [], []), (4, [], []), (5, [], []), (6, [], []), (7, [], []), (8, [], [0]), (9, [], []), (10, [], []), (11, [], []), (12, [], [])] [0, 0, 2, 6, 14, 30, 0, 64, 254, 511, 1023, 2047, 4095] (by kernel_rfl) (by kernel_rfl) (by kernel_rfl) (by kernel_rfl) rfl (by kernel_rfl) ?_
 iterate 13 refine W0 ?_ (e := fun _ h_ => by simp only [sH, ↓sP, sA, tyS, simprocAttr, List.length_map, List.length_append]; exact AX h_)
 refine T2 (hK _ _ _ ?_)
 clear hK K
 cases h1 : numV (wd l 1)
 ·
  refine hw_seq fun K hK => Rg ?_
  iterate 11 refine S0 ?_ (e := fun _ h_ => by simp only [sH, ↓sP, sA, tyS, simprocAttr, Option.isSome_none, Option.isSome_some, Option.getD_none, Option.getD_some]; exact AX h_)
  refine T2 (hK _ _ _ ?_)
  clear hK K
  refine hw_ret ?_
  simp only [hpost, Tryz.results63, hresL, hres1, tupOf, ↓sP, sA, tyS, simprocAttr]
  have hn : keyP l x = none := by unfold keyP; rw [if_neg h6, h1]
  exact hret_pars (y := { x with k := x.k ++ [⟨⟨(numV (wd l 1)).getD 0, (halfV (wd l 2)).getD zh⟩, wd l 3, l.drop 6, (numV (wd l 4)).getD 0, (numV (wd l 5)).getD 0⟩] }) (by rw [hn]; rfl) ⟨by simp [upd_at, fob_at, h1], by simp [upd_at, fob_at, h1], by simp [upd_at, fob_at, Ky.cv, Pk.cv, h1], by simp [upd_at, fob_at, h1]⟩ (by rw [hn]; intro z hz; cases hz)
 cases h2 : halfV (wd l 2)
 ·
  refine hw_seq fun K hK => Rg ?_
  iterate 11 refine S0 ?_ (e := fun _ h_ => by simp only [sH, ↓sP, sA, tyS, simprocAttr, Option.isSome_none, Option.isSome_some, Option.getD_none, Option.getD_some]; exact AX h_)
  refine T2 (hK _ _ _ ?_)
  clear hK K
  refine hw_ret ?_
  simp only [hpost, Tryz.results63, hresL, hres1, tupOf, ↓sP, sA, tyS, simprocAttr]
  have hn : keyP l x = none := by unfold keyP; rw [if_neg h6, h1, h2]
  exact hret_pars (y := { x with k := x.k ++ [⟨⟨(numV (wd l 1)).getD 0, (halfV (wd l 2)).getD zh⟩, wd l 3, l.drop 6, (numV (wd l 4)).getD 0, (numV (wd l 5)).getD 0⟩] }) (by rw [hn]; rfl) ⟨by simp [upd_at, fob_at, h1, h2], by simp [upd_at, fob_at, h1, h2], by simp [upd_at, fob_at, Ky.cv, Pk.cv, h1, h2], by simp [upd_at, fob_at, h1, h2]⟩ (by rw [hn]; intro z hz; cases hz)
 cases h4 : numV (wd l 4)
 ·
  refine hw_seq fun K hK => Rg ?_
  iterate 11 refine S0 ?_ (e := fun _ h_ => by simp only [sH, ↓sP, sA, tyS, simprocAttr, Option.isSome_none, Option.isSome_some, Option.getD_none, Option.getD_some]; exact AX h_)
  refine T2 (hK _ _ _ ?_)
  clear hK K
  refine hw_ret ?_
  simp only [hpost, Tryz.results63, hresL, hres1, tupOf, ↓sP, sA, tyS, simprocAttr]
  have hn : keyP l x = none := by unfold keyP; rw [if_neg h6, h1, h2, h4]
  exact hret_pars (y := { x with k := x.k ++ [⟨⟨(numV (wd l 1)).getD 0, (halfV (wd l 2)).getD zh⟩, wd l 3, l.drop 6, (numV (wd l 4)).getD 0, (numV (wd l 5)).getD 0⟩] }) (by rw [hn]; rfl) ⟨by simp [upd_at, fob_at, h1, h2, h4], by simp [upd_at, fob_at, h1, h2, h4], by simp [upd_at, fob_at, Ky.cv, Pk.cv, h1, h2, h4], by simp [upd_at, fob_at, h1, h2, h4]⟩ (by rw [hn]; intro z hz; cases hz)
 refine hw_seq fun K hK => Rg ?_
 iterate 11 refine S0 ?_ (e := fun _ h_ => by simp only [sH, ↓sP, sA, tyS, simprocAttr, Option.isSome_none, Option.isSome_some, Option.getD_none, Option.getD_some]; exact AX h_)
 refine T2 (hK _ _ _ ?_)
 clear hK K
 refine hw_ret ?_
 simp only [hpost, Tryz.results63, hresL, hres1, tupOf, ↓sP, sA, tyS, simprocAttr]
 rename_i n1 r1 n4
 have hn : keyP l x = (numV (wd l 5)).map fun n => { x with k := x.k ++ [⟨⟨n1, r1⟩, wd l 3, l.drop 6, n4, n⟩] } := by unfold keyP; rw [if_neg h6, h1, h2, h4]; cases numV (wd l 5) <;> rfl
 exact hret_pars (y := { x with k := x.k ++ [⟨⟨(numV (wd l 1)).getD 0, (halfV (wd l 2)).getD zh⟩, wd l 3, l.drop 6, (numV (wd l 4)).getD 0, (numV (wd l 5)).getD 0⟩] }) (by rw [hn, Option.isSome_map]) ⟨by simp [upd_at, fob_at, h1, h2, h4], by simp [upd_at, fob_at, h1, h2, h4], by simp [upd_at, fob_at, Ky.cv, Pk.cv, h1, h2, h4], by simp [upd_at, fob_at, h1, h2, h4]⟩ (by rw [hn]; intro z hz; cases h5 : numV (wd l 5) with | none => rw [h5] at hz; cases hz | some n => rw [h5] at hz; cases hz; rw [h1, h2, h4]; rfl)

end Go.Proofs.YtenbfeemmpjdhaaGreatDoor
