/- Part of a proof: walks of functions of the program, by contracts, and the rules they use. By an AI agent. -/
import Derived.Test.YtenbfeemmpjdhaaGreatDoorHyT3
import Derived.Test.YtenbfeemmpjdhaaGreatDoorHyU1
import Derived.Test.YtenbfeemmpjdhaaGreatDoorHlZb
import Derived.Test.YtenbfeemmpjdhaaGreatDoorHyT5
import Derived.Test.YtenbfeemmpjdhaaGreatDoorHyU7
import Derived.Test.YtenbfeemmpjdhaaGreatDoorHyT8
import Derived.Test.YtenbfeemmpjdhaaGreatDoorHyTg
import Derived.Test.YtenbfeemmpjdhaaGreatDoorHyTk
set_option linter.unusedSimpArgs false
set_option linter.unusedVariables false
set_option linter.defProp false
namespace Go.Proofs.YtenbfeemmpjdhaaGreatDoor
open Go Go.Hl Go.Pl
set_option maxRecDepth 10000
set_option maxHeartbeats 2000000
set_option linter.unusedSimpArgs false
set_option linter.unusedVariables false

theorem word2_ok (w : Word) (hl : w.length < 2 ^ 40) : HPure Tryz.prog 76 [.str w] (fun v => v = .str (encW w)) := by
 refine hfn_walk Tryz.func76 rfl (by kernel_rfl) (locOk_nil _) (Nat.le_of_ble_eq_true rfl) ?_
 refine R0 ?_
 refine hw_seq fun K hK => ?_
 refine R0 ?_
 refine hw_cond (b := w == []) rfl (fun hb => ?_) (fun hb => ?_)
 ·
  refine R0 ?_
  refine hw_ret ?_
  simp only [hpost, Tryz.results76, hresL, hres1, tupOf, ↓sP, sA, tyS, simprocAttr]
  exact hret_pure [] (.str [126]) rfl (by rw [encW, if_pos (by simpa using hb)])
 refine hw_skip ?_
 refine T0 (hK _ _ _ ?_)
 clear hK K
 have hne : w ≠ [] := by simpa using hb
 clear hb
 refine R0 ?_
 refine R0 ?_
 refine hw_seq fun K hK => ?_
 refine R0 ?_
 refine hw_block ?_
 refine hw_own 4 0 5 1 rfl rfl rfl rfl ?_
 refine hw_loop (α := {i : Nat // i ≤ w.length}) (fun i => (fin [(0, .c (.str w)), (3, .c (.str [48, 49, 50, 51, 52, 53, 54, 55, 56, 57, 65, 66, 67, 68, 69, 70])), (4, .own 24 (encBs (w.take i.1)).length), (5, .c (.int .i64 i.1))], fob [(24, .row 5 1 ((encBs (w.take i.1)).map byteC))])) 100 (fun i => w.length - i.1) ⟨0, by omega⟩ (fF) ?_
 rintro ⟨i, hi⟩
 have hle := encBs_take_le w i
 have hle3 := encBs_le w
 refine hw_seq fun K hK => ?_
 refine hw_seq fun K hK => hw_region (by kernel_rfl) ?_
 simp only [sR, simprocAttr]
 iterate 4 refine S0 ?_
 refine T2 (hK _ _ _ ?_)
 clear hK K
 refine hw_cond (b := decide ((i : Int) < w.length)) rfl (fun hb => ?_) (fun hb => ?_)
 ·
  have hlt : i < w.length := by simpa using hb
  have hgd : w.getD i 0 = w[i] := by simp [hlt]
  have hs := encBs_take hlt
  refine hw_skip ?_
  refine T0 (hK _ _ _ ?_)
  clear hK K
  refine hw_seq fun K hK => ?_
  refine hw_block ?_
  refine hw_seq fun K hK => hw_region (by kernel_rfl) ?_
  simp only [sR, simprocAttr]
  iterate 3 refine S0 ?_ (e := fun K_ h_ => by simp only [sH, ↓sP, sA, tyS, simprocAttr, Int.natCast_nonneg, Int.ofNat_lt, hlt, hgd]; exact AX h_)
  refine hlex_step (g := none) rfl rfl fun K' hK' => ?_
  simp only [sH, ↓sP, sA, tyS, simprocAttr, Int.natCast_nonneg, Int.ofNat_lt, hlt, hgd]
  refine call_pure (args := [_]) (plain2_ok w[i]) ⟨rfl, rfl, rfl, rfl⟩ ?_
  rintro u rfl
  refine AX (hK' _ _ ?_)
  clear hK' K'
  refine T2 (hK _ _ _ ?_)
  clear hK K
  refine hw_cond (b := plainB w[i]) rfl (fun hb => ?_) (fun hb => ?_)
  ·
   refine hw_region (by kernel_rfl) ?_
   simp only [sR, simprocAttr]
   iterate 7 refine S0 ?_ (e := fun K_ h_ => by simp only [sH, ↓sP, sA, tyS, simprocAttr, Int.natCast_nonneg, Int.ofNat_lt, hlt, hgd, List.length_append, List.length_map]; exact AX h_)
   refine T2 (hK _ _ _ ?_)
   clear hK K
   refine hw_region (by kernel_rfl) ?_
   simp only [↓sP, sA, tyS, simprocAttr, i64s i]
   refine ⟨⟨i + 1, hlt⟩, fits_fin (by omega) ?_ ?_, ?_⟩
   ·
    rw [hs, encB, if_pos hb]
    simp [FinOk, upd_at, fin_at, HV.men]
   ·
    rw [hs, encB, if_pos hb, List.map_append]
    exact ⟨rfl, by omega, trivial, trivial⟩
   show w.length - (i + 1) < w.length - i
   omega
  have h16 : ((w[i].toNat / 16 : Nat) : Int) < 16 := by have := w[i].toNat_lt; omega
  have h15 : ((w[i].toNat % 16 : Nat) : Int) < 16 := by omega
  refine hw_draw2 mixed [(0, [], []), (1, [], []), (2, [], []), (3, [], []), (4, [], []), (5, [], []), (6, [], []), (7, [], []), (8, [], []), (9, [], []), (10, [], []), (11, [], []), (12, [], []), (13, [], []), (14, [], []), (15, [], [])] [0, 0, 0, 0, 12, 28, 62, 0, 0, 0, 768, 1792, 3968, 8190, 16383, 32767] (by kernel_rfl) (by kernel_rfl) (by kernel_rfl) (by kernel_rfl) rfl (by kernel_rfl) ?_
  iterate 16 refine W0 ?_ (e := fun K_ h_ => by simp only [sH, ↓sP, sA, tyS, simprocAttr, Int.natCast_nonneg, Int.ofNat_lt, hlt, hgd, List.length_append, List.length_map, shr4, and15, h16, h15]; exact AX h_)
  refine T2 (hK _ _ _ ?_)
  clear hK K
  refine hw_region (by kernel_rfl) ?_
  simp only [↓sP, sA, tyS, simprocAttr, i64s i]
  refine ⟨⟨i + 1, hlt⟩, fits_fin (by omega) ?_ ?_, ?_⟩
  ·
   rw [hs, encB, if_neg (by rw [hb]; simp)]
   simp [FinOk, upd_at, fin_at, HV.men]
  ·
   rw [hs, encB, if_neg (by rw [hb]; simp), List.map_append]
   exact ⟨rfl, by omega, trivial, trivial⟩
  show w.length - (i + 1) < w.length - i
  omega
 refine hw_exit ?_
 simp only [↓sP, sA, tyS, simprocAttr]
 clear hK K
 refine AX (hK _ _ _ ?_)
 clear hK K
 refine hw_close [24] (hw_fits (fr2 := fin [(4, .c (.slc ((encBs (w.take i)).map byteC)))]) (ob2 := fob []) (nx2 := 200) (fits_fin (by omega) (by simp [FinOk, clF_at, fin_at, finA_at, upd_at, fob_at, HV.close, HV.closeL, CV.denil, CV.denilL, denilL_byte, HV.men, HV.menL, HV.norm, HV.toC, HV.toCL]) (by simp [FobOk, clO_at, fob_at, upd_at, none0_at, gone, HO.close, HV.close, HV.closeL, HO.men, HV.men, HV.menL, HV.norm, HV.toC, HV.toCL])) ?_)
 refine R0 ?_ (e := fun K_ h_ => by simp only [↓sP, sA, tyS, simprocAttr, bytesC_map]; exact AX h_)
 refine hw_ret ?_
 simp only [hpost, Tryz.results76, hresL, hres1, tupOf, ↓sP, sA, tyS, simprocAttr]
 have hei : i = w.length := by simp at hb; omega
 subst hei
 exact hret_pure [] (.str (encBs w)) (by rw [List.take_length]; rfl) (by rw [encW, if_neg hne])


theorem enc2_ok (ls : List (List Word)) (h0 : ls.length < 2 ^ 40) (h1 : ∀ l ∈ ls, l.length < 2 ^ 40) : HPure2 Tryz.prog 30 [.slc (ls.map fun l => .slc (l.map .str))] (fun u v => u = .slc ((encO ls).map byteC) ∧ v = .int .i64 (encE ls)) := by
 refine hfn_walk Tryz.func30 rfl (by kernel_rfl) (locOk_nil _) (Nat.le_of_ble_eq_true rfl) ?_
 refine R0 ?_
 refine hw_seq fun K hK => ?_
 refine R0 ?_
 refine hw_cond (b := decide ((1000 : Int) < ls.length)) rfl (fun hb => ?_) (fun hb => ?_)
 ·
  refine R0 ?_
  refine hw_ret ?_
  simp only [hpost, Tryz.results30, hresL, hres1, tupOf, ↓sP, sA, tyS, simprocAttr]
  have hE := encE_long (ls := ls) (by simp at hb; omega)
  refine hret_pure2 [] (.slc []) (.int .i64 3) ?_ ⟨by rw [encO_nil (by rw [hE]; decide)]; rfl, by rw [hE]⟩
  simp [HV.close, HV.closeL, CV.denil, CV.denilL, HV.norm, HV.toC, HV.toCL]
 refine hw_skip ?_
 refine T0 (hK _ _ _ ?_)
 clear hK K
 have hn : ls.length ≤ 1000 := by simp at hb; omega
 clear hb
 refine R0 ?_
 refine hw_seq fun K hK => ?_
 refine R0 ?_
 refine hw_block ?_
 refine hw_own 4 0 5 1 rfl rfl rfl rfl ?_
 refine hw_loop (α := {i : Nat // i ≤ ls.length ∧ ∀ x ∈ ls.take i, okL x = true}) (fun i => (fin [(0, .c (.slc (ls.map fun l => .slc (l.map .str)))), (4, .own 28 (docB (ls.take i.1)).length), (5, .c (.int .i64 i.1))], fob [(28, .row 5 1 ((docB (ls.take i.1)).map byteC))])) 100 (fun i => ls.length - i.1) ⟨0, by omega, by simp⟩ (fF) ?_
 rintro ⟨i, hi, hk⟩
 refine hw_seq fun K hK => ?_
 refine hw_seq fun K hK => hw_region (by kernel_rfl) ?_
 simp only [sR, simprocAttr]
 iterate 4 refine S0 ?_
 refine T2 (hK _ _ _ ?_)
 clear hK K
 refine hw_cond (b := decide ((i : Int) < ls.length)) rfl (fun hb => ?_) (fun hb => ?_)
 ·
  have hlt : i < ls.length := by simpa using hb
  clear hb
  have hl1 := h1 ls[i] (List.getElem_mem hlt)
  have hne : ∀ l ∈ ls.take i, l ≠ [] := fun l hl => ((okL_iff l).1 (hk l hl)).1
  have hsd := sumD_le hk
  rw [List.length_take] at hsd
  have hdl := docB_len hne
  have hdt1 := docB_take hlt
  obtain ⟨l, hl⟩ : ∃ l, l = ls[i] := ⟨_, rfl⟩
  have hln : nth (ls.map fun l => CV.slc (l.map .str)) i = .slc (l.map .str) := by rw [nth_map hlt, hl]
  rw [← hl] at hdt1 hl1
  have hlti : (i : Int) < ls.length := by omega
  refine hw_skip ?_
  refine T0 (hK _ _ _ ?_)
  clear hK K
  refine hw_seq fun K hK => ?_
  refine hw_block ?_
  refine hw_seq fun K hK => ?_
  refine hw_seq fun K hK => hw_region (by kernel_rfl) ?_
  simp only [sR, simprocAttr]
  iterate 6 refine S0 ?_ (e := fun K_ h_ => by simp only [sH, ↓sP, sA, tyS, simprocAttr, Int.natCast_nonneg, Int.ofNat_lt, hlt, hln]; exact AX h_)
  refine T2 (hK _ _ _ ?_)
  clear hK K
  refine hw_cond (b := (l.length : Int) == 0) rfl (fun hb => ?_) (fun hb => ?_)
  ·
   refine R0 ?_
   refine hw_ret ?_
   simp only [hpost, Tryz.results30, hresL, hres1, tupOf, ↓sP, sA, tyS, simprocAttr]
   have hc : chkL l = 1 := by rw [chkL, if_pos (by simp at hb; simp [hb])]
   have hE := encE_bad hn hlt hk (by rw [← hl, okL, hc]; rfl)
   rw [← hl, hc] at hE
   refine hret_pure2 [] (.slc []) (.int .i64 1) ?_ ⟨by rw [encO_nil (by rw [hE]; decide)]; rfl, by rw [hE]⟩
   simp [HV.close, HV.closeL, CV.denil, CV.denilL, HV.norm, HV.toC, HV.toCL]
  refine hw_skip ?_
  refine T0 (hK _ _ _ ?_)
  clear hK K
  refine hw_seq fun K hK => ?_
  have hn0 : l.length ≠ 0 := by simp at hb; simp [hb]
  clear hb
  refine hw_seq fun K hK => hw_region (by kernel_rfl) ?_
  simp only [sR, simprocAttr]
  iterate 6 refine S0 ?_ (e := fun K_ h_ => by simp only [sH, ↓sP, sA, tyS, simprocAttr, Int.natCast_nonneg, Int.ofNat_lt, hlt, hln]; exact AX h_)
  refine T2 (hK _ _ _ ?_)
  clear hK K
  refine hw_cond (b := decide ((120 : Int) < l.length)) rfl (fun hb => ?_) (fun hb => ?_)
  ·
   refine R0 ?_
   refine hw_ret ?_
   simp only [hpost, Tryz.results30, hresL, hres1, tupOf, ↓sP, sA, tyS, simprocAttr]
   have hc : chkL l = 3 := by rw [chkL, if_neg hn0, if_pos (by simp at hb; omega)]
   have hE := encE_bad hn hlt hk (by rw [← hl, okL, hc]; rfl)
   rw [← hl, hc] at hE
   refine hret_pure2 [] (.slc []) (.int .i64 3) ?_ ⟨by rw [encO_nil (by rw [hE]; decide)]; rfl, by rw [hE]⟩
   simp [HV.close, HV.closeL, CV.denil, CV.denilL, HV.norm, HV.toC, HV.toCL]
  refine hw_skip ?_
  refine T0 (hK _ _ _ ?_)
  clear hK K
  refine hw_seq fun K hK => ?_
  have hn1 : l.length ≤ 120 := by simp at hb; omega
  clear hb
  refine R0 ?_
  refine hw_block ?_
  refine hw_loop (α := {k : Nat // k ≤ l.length ∧ ∀ x ∈ l.take k, x.length ≤ 32768}) (fun k => (fin [(0, .c (.slc (ls.map fun l => .slc (l.map .str)))), (4, .own 28 (docB (ls.take i) ++ sepW (l.take k.1)).length), (5, .c (.int .i64 i)), (6, .c (.int .i64 k.1))], fob [(28, .row 5 1 ((docB (ls.take i) ++ sepW (l.take k.1)).map byteC))])) 200 (fun k => l.length - k.1) ⟨0, by omega, by simp⟩ (fF) ?_
  rintro ⟨k, hk', hkw⟩
  have hsw := sepW_le2 (l.take k) hkw
  rw [List.length_take] at hsw
  refine hw_seq fun K hK => ?_
  refine hw_seq fun K hK => hw_region (by kernel_rfl) ?_
  simp only [sR, simprocAttr]
  iterate 7 refine S0 ?_ (e := fun K_ h_ => by simp only [sH, ↓sP, sA, tyS, simprocAttr, Int.natCast_nonneg, hlti, hln]; exact AX h_)
  refine T2 (hK _ _ _ ?_)
  clear hK K
  refine hw_cond (b := decide ((k : Int) < l.length)) rfl (fun hb => ?_) (fun hb => ?_)
  ·
   have hlk : k < l.length := by simpa using hb
   clear hb
   refine hw_skip ?_
   refine T0 (hK _ _ _ ?_)
   clear hK K
   refine hw_seq fun K hK => ?_
   refine hw_block ?_
   refine hw_seq fun K hK => ?_
   refine hw_seq fun K hK => hw_region (by kernel_rfl) ?_
   simp only [sR, simprocAttr]
   iterate 9 refine S0 ?_ (e := fun K_ h_ => by simp only [sH, ↓sP, sA, tyS, simprocAttr, Int.natCast_nonneg, Int.ofNat_lt, hlt, hln, hlk, nth_map hlk]; exact AX h_)
   refine T2 (hK _ _ _ ?_)
   clear hK K
   refine hw_cond (b := decide ((32768 : Int) < l[k].length)) rfl (fun hb => ?_) (fun hb => ?_)
   ·
    refine R0 ?_
    refine hw_ret ?_
    simp only [hpost, Tryz.results30, hresL, hres1, tupOf, ↓sP, sA, tyS, simprocAttr]
    have hc : chkL l = 3 := by rw [chkL, if_neg hn0, if_neg (by omega), if_pos]; simp only [List.any_eq_true, decide_eq_true_eq]; exact ⟨_, List.getElem_mem hlk, by simp at hb; omega⟩
    have hE := encE_bad hn hlt hk (by rw [← hl, okL, hc]; rfl)
    rw [← hl, hc] at hE
    refine hret_pure2 [] (.slc []) (.int .i64 3) ?_ ⟨by rw [encO_nil (by rw [hE]; decide)]; rfl, by rw [hE]⟩
    simp [HV.close, HV.closeL, CV.denil, CV.denilL, HV.norm, HV.toC, HV.toCL]
   refine hw_skip ?_
   refine T0 (hK _ _ _ ?_)
   clear hK K
   refine hw_seq fun K hK => ?_
   have hw2 : l[k].length ≤ 32768 := by simp at hb; omega
   clear hb
   have hel := encW_len l[k]
   have hsz := sizeW_le l[k]
   have hsp := sizeW_pos l[k]
   have hpe : 0 < (encW l[k]).length := by omega
   have htk := sepW_take hlk
   have hbe : (docB (ls.take i)).length + (sepW (l.take k)).length + (encW l[k]).length ≤ 140737488355328 := by omega
   have hbe1 : (docB (ls.take i)).length + (sepW (l.take k)).length + 1 + (encW l[k]).length ≤ 140737488355328 := by omega
   refine R0 ?_
   refine hw_cond (b := decide ((0 : Int) < k)) rfl (fun hb => ?_) (fun hb => ?_)
   ·
    refine hw_region (by kernel_rfl) ?_
    simp only [sR, simprocAttr]
    iterate 4 refine S0 ?_ (e := fun K_ h_ => by simp only [sH, ↓sP, sA, tyS, simprocAttr, List.length_append, List.length_map]; exact AX h_)
    refine T2 (hK _ _ _ ?_)
    clear hK K
    refine hw_region (by kernel_rfl) ?_
    simp only [sR, simprocAttr]
    iterate 8 refine S0 ?_ (e := fun K_ h_ => by simp only [sH, ↓sP, sA, tyS, simprocAttr, Int.natCast_nonneg, Int.ofNat_lt, hlt, hln, hlk, nth_map hlk, List.length_append, List.length_map, hpe, hbe, hbe1]; exact AX h_)
    refine hlex_step (g := none) rfl rfl fun K' hK' => ?_
    simp only [sH, ↓sP, sA, tyS, simprocAttr, Int.natCast_nonneg, Int.ofNat_lt, hlt, hln, hlk, nth_map hlk, List.length_append, List.length_map, hpe, hbe, hbe1]
    refine call_pure (args := [_]) (word2_ok l[k] (by omega)) ⟨rfl, rfl, rfl, rfl⟩ ?_
    rintro u rfl
    refine AX (hK' _ _ ?_)
    clear hK' K'
    iterate 2 refine S0 ?_ (e := fun K_ h_ => by simp only [sH, ↓sP, sA, tyS, simprocAttr, Int.natCast_nonneg, Int.ofNat_lt, hlt, hln, hlk, nth_map hlk, List.length_append, List.length_map, hpe, hbe, hbe1]; exact AX h_)
    refine T2 (hK _ _ _ ?_)
    clear hK K
    refine hw_region (by kernel_rfl) ?_
    simp only [↓sP, sA, tyS, simprocAttr, i64s k]
    have hk0 : k ≠ 0 := by simp at hb; omega
    refine ⟨⟨k + 1, hlk, all_takeP (p := fun x => x.length ≤ 32768) hlk hw2 hkw⟩, fits_fin (by omega) ?_ ?_, ?_⟩
    ·
     rw [htk, if_neg hk0]
     simp [FinOk, upd_at, fin_at, HV.men]
     omega
    ·
     rw [htk, if_neg hk0]
     simp only [List.map_append, ← List.append_assoc]
     exact ⟨rfl, by omega, trivial, trivial⟩
    show l.length - (k + 1) < l.length - k
    omega
   refine hw_skip ?_
   refine T0 (hK _ _ _ ?_)
   clear hK K
   refine hw_region (by kernel_rfl) ?_
   simp only [sR, simprocAttr]
   iterate 8 refine S0 ?_ (e := fun K_ h_ => by simp only [sH, ↓sP, sA, tyS, simprocAttr, Int.natCast_nonneg, Int.ofNat_lt, hlt, hln, hlk, nth_map hlk, List.length_append, List.length_map, hpe, hbe, hbe1]; exact AX h_)
   refine hlex_step (g := none) rfl rfl fun K' hK' => ?_
   simp only [sH, ↓sP, sA, tyS, simprocAttr, Int.natCast_nonneg, Int.ofNat_lt, hlt, hln, hlk, nth_map hlk, List.length_append, List.length_map, hpe, hbe, hbe1]
   refine call_pure (args := [_]) (word2_ok l[k] (by omega)) ⟨rfl, rfl, rfl, rfl⟩ ?_
   rintro u rfl
   refine AX (hK' _ _ ?_)
   clear hK' K'
   iterate 2 refine S0 ?_ (e := fun K_ h_ => by simp only [sH, ↓sP, sA, tyS, simprocAttr, Int.natCast_nonneg, Int.ofNat_lt, hlt, hln, hlk, nth_map hlk, List.length_append, List.length_map, hpe, hbe, hbe1]; exact AX h_)
   refine T2 (hK _ _ _ ?_)
   clear hK K
   refine hw_region (by kernel_rfl) ?_
   simp only [↓sP, sA, tyS, simprocAttr, i64s k]
   have hk0 : k = 0 := by simp at hb; omega
   refine ⟨⟨k + 1, hlk, all_takeP (p := fun x => x.length ≤ 32768) hlk hw2 hkw⟩, fits_fin (by omega) ?_ ?_, ?_⟩
   ·
    rw [htk, if_pos hk0]
    simp [FinOk, upd_at, fin_at, HV.men]
    omega
   ·
    rw [htk, if_pos hk0, List.nil_append]
    simp only [List.map_append, ← List.append_assoc]
    exact ⟨rfl, by omega, trivial, trivial⟩
   show l.length - (k + 1) < l.length - k
   omega
  have hek : k = l.length := by simp at hb; omega
  subst hek
  clear hb
  rw [List.take_length] at *
  have hokl : okL l = true := (okL_iff l).2 ⟨fun h => hn0 (by rw [h]; rfl), hn1, hkw⟩
  refine hw_exit ?_
  simp only [↓sP, sA, tyS, simprocAttr]
  clear hK K
  refine AX (hK _ _ _ ?_)
  clear hK K
  refine hw_region (by kernel_rfl) ?_
  simp only [sR, simprocAttr]
  iterate 4 refine S0 ?_ (e := fun K_ h_ => by simp only [sH, ↓sP, sA, tyS, simprocAttr, List.length_append, List.length_map, List.take_length]; exact AX h_)
  refine T2 (hK _ _ _ ?_)
  clear hK K
  refine hw_region (by kernel_rfl) ?_
  simp only [↓sP, sA, tyS, simprocAttr, i64s i]
  refine ⟨⟨i + 1, hlt, all_takeP (p := fun x => okL x = true) hlt (by rw [← hl]; exact hokl) hk⟩, fits_fin (by omega) ?_ ?_, ?_⟩
  ·
   rw [hdt1, encL]
   simp [FinOk, upd_at, fin_at, HV.men]
   try omega
  ·
   rw [hdt1, encL]
   simp only [List.map_append, ← List.append_assoc, List.take_length]
   exact ⟨rfl, by omega, trivial, trivial⟩
  show ls.length - (i + 1) < ls.length - i
  omega
 have hei : i = ls.length := by simp at hb; omega
 subst hei
 clear hb
 rw [List.take_length] at hk
 have hE := encE_ok hn hk
 refine hw_exit ?_
 simp only [↓sP, sA, tyS, simprocAttr]
 clear hK K
 refine AX (hK _ _ _ ?_)
 clear hK K
 refine hw_seq fun K hK => ?_
 refine R0 ?_ (e := fun K_ h_ => by simp only [↓sP, sA, tyS, simprocAttr, List.take_length, List.length_map]; exact AX h_)
 refine hw_cond (b := decide ((262144 : Int) < (docB ls).length)) rfl (fun hb => ?_) (fun hb => ?_)
 ·
  refine R0 ?_
  refine hw_ret ?_
  simp only [hpost, Tryz.results30, hresL, hres1, tupOf, ↓sP, sA, tyS, simprocAttr]
  rw [if_pos (by simp at hb; omega)] at hE
  refine hret_pure2 [] (.slc []) (.int .i64 3) ?_ ⟨by rw [encO_nil (by rw [hE]; decide)]; rfl, by rw [hE]⟩
  simp [HV.close, HV.closeL, CV.denil, CV.denilL, HV.norm, HV.toC, HV.toCL]
 refine hw_skip ?_
 refine T0 (hK _ _ _ ?_)
 clear hK K
 refine R0 ?_
 refine hw_ret ?_
 simp only [hpost, Tryz.results30, hresL, hres1, tupOf, ↓sP, sA, tyS, simprocAttr]
 rw [if_neg (by simp at hb; omega)] at hE
 refine hret_pure2 [28] (.slc ((docB ls).map byteC)) (.int .i64 0) ?_ ⟨by rw [encO_ok hE], by rw [hE]⟩
 simp [HV.close, fob_at, upd_at, HV.norm, HV.toC, HV.closeL, HV.toCL, List.take_of_length_le, CV.denil, denilL_byte]

end Go.Proofs.YtenbfeemmpjdhaaGreatDoor

namespace Go.Proofs.YtenbfeemmpjdhaaGreatDoor
open Go Go.Hl Go.Pl
set_option maxRecDepth 10000
set_option maxHeartbeats 4000000
set_option linter.unusedSimpArgs false
set_option linter.unusedVariables false

theorem rencr_ok (r : Rt) (hr : rSz r) : HPure2 Tryz.prog 9 [r.cv] (fun u v => u = .slc ((encR r).map byteC) ∧ v = .int .i64 (errR r)) := by
 refine hfn_walk Tryz.func9 rfl (by kernel_rfl) (locOk_nil _) (Nat.le_of_ble_eq_true rfl) ?_
 refine R0 ?_
 refine hw_seq fun K hK => ?_
 refine hw_seq fun K hK => hw_region (by kernel_rfl) ?_
 simp only [sR, simprocAttr]
 refine S0 ?_
 refine hlex_step (g := none) rfl rfl fun K' hK' => ?_
 simp only [sH, ↓sP, sA, tyS, simprocAttr]
 refine call_pure (args := [_]) (rvalid_ok r hr) ⟨rfl, rfl, rfl, rfl⟩ ?_
 rintro u rfl
 refine AX (hK' _ _ ?_)
 clear hK' K'
 refine S0 ?_
 refine T2 (hK _ _ _ ?_)
 clear hK K
 refine hw_cond (b := !validR r) rfl (fun hb => ?_) (fun hb => ?_)
 ·
  refine R0 ?_
  refine hw_ret ?_
  simp only [hpost, Tryz.results9, hresL, hres1, tupOf, ↓sP, sA, tyS, simprocAttr]
  have hv : validR r = false := by simpa using hb
  refine hret_pure2 [] (.slc []) (.int .i64 1) ?_ ⟨by rw [encR, hv]; rfl, by rw [errR, hv]; rfl⟩
  simp [HV.close, HV.closeL, CV.denil, CV.denilL, HV.norm, HV.toC, HV.toCL]
 refine hw_skip ?_
 refine T0 (hK _ _ _ ?_)
 clear hK K
 have hv : validR r = true := by simpa using hb
 clear hb
 obtain ⟨⟨v0, v1⟩, ⟨e0, e1⟩, hq, hk, hx⟩ := rNum_of_valid hv
 obtain ⟨⟨⟨lq, -⟩, ⟨lk, lks⟩, -⟩, -, -, lx⟩ := rMid_of_valid hv
 rw [maxN_val] at v1 e1 hk hx
 refine hw_seq fun K hK => hw_draw2G mixed [(0, [], []), (1, [], []), (3, [], []), (4, [], []), (2, [], [3, 4]), (5, [], []), (6, [], []), (7, [], []), (8, [], [])] [0, 1, 3, 0, 8, 31, 63, 127, 255] (by kernel_rfl) (by kernel_rfl) (by kernel_rfl) (by kernel_rfl) rfl (by kernel_rfl) ?_
 iterate 4 refine WG0 ?_
 refine hwalk2G_step (g := none) rfl rfl fun K' hK' => ?_
 simp only [sH, ↓sP, sA, tyS, simprocAttr]
 refine call_pure (args := [_]) (num11_ok r.v (by omega)) ⟨rfl, rfl, rfl, rfl⟩ ?_
 rintro u rfl
 refine AX (hK' _ _ ?_)
 clear hK' K'
 refine hwalk2G_step (g := none) rfl rfl fun K' hK' => ?_
 simp only [sH, ↓sP, sA, tyS, simprocAttr]
 refine call_pure (args := [_]) (num11_ok r.e (by omega)) ⟨rfl, rfl, rfl, rfl⟩ ?_
 rintro u rfl
 refine AX (hK' _ _ ?_)
 clear hK' K'
 refine hwalk2G_stepC (g := none) 48 rfl rfl fun K' hK' => ?_
 simp only [hop1C, mkId, sH, ↓sP, sA, tyS, simprocAttr]
 repeat refine AI ?_
 refine closeK_mk (by first | rfl | simp) ?_
 try simp only [sH, ↓sP, sA, tyS, simprocAttr]
 refine AX (hK' _ _ ?_)
 clear hK' K'
 iterate 2 refine WG0 ?_
 refine T2 (hK _ _ _ ?_)
 clear hK K
 refine hw_seq fun K hK => ?_
 refine R0 ?_
 refine hw_block ?_
 refine hw_loop (α := {i : Nat // i ≤ r.q.length}) (fun i => (fin [(1, .ptr 0 0), (4, .own 52 ([linH r] ++ (r.q.take i.1).map linQ).length), (5, .c (.int .i64 i.1))], fob [(0, .box 26 (.c r.cv)), (52, .row 60 1 (([linH r] ++ (r.q.take i.1).map linQ).map lnC))])) 100 (fun i => r.q.length - i.1) ⟨0, by omega⟩ (fits_fin (by omega) (by simp [FinOk, fin_at, finA_at, upd_at, HV.men, HV.menL, HV.norm, HV.toC, HV.toCL]) (by simp [FobOk, fob_at, upd_at, none0_at, gone, HO.men, HV.men, HV.menL, HV.norm, HV.toC, HV.toCL]; rfl)) ?_
 rintro ⟨i, hi⟩
 have hti : (r.q.take i).length = i := by simp; omega
 refine hw_seq fun K hK => ?_
 refine hw_seq fun K hK => hw_region (by kernel_rfl) ?_
 simp only [sR, simprocAttr]
 iterate 5 refine S0 ?_
 refine T2 (hK _ _ _ ?_)
 clear hK K
 refine hw_cond (b := decide ((i : Int) < r.q.length)) rfl (fun hb => ?_) (fun hb => ?_)
 ·
  have hlt : i < r.q.length := by simpa using hb
  clear hb
  obtain ⟨q, hqe⟩ : ∃ q, q = r.q[i] := ⟨_, rfl⟩
  have hq1 := hq q (by rw [hqe]; exact List.getElem_mem hlt)
  have hqn : nth (r.q.map Qt.cv) i = q.cv := by rw [nth_map hlt, hqe]
  refine hw_skip ?_
  refine T0 (hK _ _ _ ?_)
  clear hK K
  refine hw_seq fun K hK => ?_
  refine hw_block ?_
  refine hw_draw2G mixed [(0, [], []), (1, [], []), (2, [], []), (3, [], []), (4, [], []), (5, [], []), (6, [], []), (7, [], []), (8, [], []), (9, [], []), (10, [], []), (11, [], []), (12, [], []), (13, [], [0, 1, 2, 3, 4, 5, 6]), (14, [], []), (15, [], []), (16, [], []), (17, [], [])] [0, 0, 2, 0, 14, 30, 62, 0, 128, 0, 896, 1920, 3968, 8064, 16382, 32766, 65535, 131071] (by kernel_rfl) (by kernel_rfl) (by kernel_rfl) (by kernel_rfl) rfl (by kernel_rfl) ?_
  iterate 13 refine WG0 ?_ (e := fun K_ h_ => by simp only [sH, ↓sP, sA, tyS, simprocAttr, Int.natCast_nonneg, Int.ofNat_lt, hlt, hqn, Qt.cells, hti, List.length_append, List.length_map]; exact AX h_)
  refine hwalk2G_step (g := none) rfl rfl fun K' hK' => ?_
  simp only [sH, ↓sP, sA, tyS, simprocAttr, Int.natCast_nonneg, Int.ofNat_lt, hlt, hqn, Qt.cells, hti, List.length_append, List.length_map]
  refine call_pure (args := [_]) (num11_ok q.n (by omega)) ⟨rfl, rfl, rfl, rfl⟩ ?_
  rintro u rfl
  refine AX (hK' _ _ ?_)
  clear hK' K'
  refine hwalk2G_stepC (g := none) 176 rfl rfl fun K' hK' => ?_
  simp only [hop1C, mkId, sH, ↓sP, sA, tyS, simprocAttr, Int.natCast_nonneg, Int.ofNat_lt, hlt, hqn, Qt.cells, hti, List.length_append, List.length_map]
  repeat refine AI ?_
  refine closeK_mk (by first | rfl | simp) ?_
  try simp only [sH, ↓sP, sA, tyS, simprocAttr, Int.natCast_nonneg, Int.ofNat_lt, hlt, hqn, Qt.cells, hti, List.length_append, List.length_map]
  refine AX (hK' _ _ ?_)
  clear hK' K'
  iterate 3 refine WG0 ?_ (e := fun K_ h_ => by simp only [sH, ↓sP, sA, tyS, simprocAttr, Int.natCast_nonneg, Int.ofNat_lt, hlt, hqn, Qt.cells, hti, List.length_append, List.length_map]; exact AX h_)
  refine T2 (hK _ _ _ ?_)
  clear hK K
  refine hw_region (by kernel_rfl) ?_
  simp only [↓sP, sA, tyS, simprocAttr, i64s i]
  refine ⟨⟨i + 1, hlt⟩, fits_fin (by omega) ?_ ?_, ?_⟩
  ·
   simp [FinOk, upd_at, fin_at, HV.men]
   omega
  ·
   simp only [List.take_succ_eq_append_getElem hlt, List.map_append, ← List.append_assoc, ← hqe]
   exact ⟨rfl, by omega, trivial, rfl, by omega, trivial, trivial⟩
  show r.q.length - (i + 1) < r.q.length - i
  omega
 have hei : i = r.q.length := by simp at hb; omega
 subst hei
 clear hb
 rw [List.take_length]
 refine hw_exit ?_
 simp only [↓sP, sA, tyS, simprocAttr]
 clear hK K
 refine AX (hK _ _ _ ?_)
 clear hK K
 refine hw_seq fun K hK => ?_
 refine R0 ?_
 refine hw_block ?_
 refine hw_loop (α := {i : Nat // i ≤ r.k.length}) (fun i => (fin [(1, .ptr 0 0), (4, .own 52 ([linH r] ++ r.q.map linQ ++ (r.k.take i.1).map linK).length), (6, .c (.int .i64 i.1))], fob [(0, .box 26 (.c r.cv)), (52, .row 60 1 (([linH r] ++ r.q.map linQ ++ (r.k.take i.1).map linK).map lnC))])) 400 (fun i => r.k.length - i.1) ⟨0, by omega⟩ (fF) ?_
 rintro ⟨i, hi⟩
 have hti : (r.k.take i).length = i := by simp; omega
 refine hw_seq fun K hK => ?_
 refine hw_seq fun K hK => hw_region (by kernel_rfl) ?_
 simp only [sR, simprocAttr]
 iterate 5 refine S0 ?_
 refine T2 (hK _ _ _ ?_)
 clear hK K
 refine hw_cond (b := decide ((i : Int) < r.k.length)) rfl (fun hb => ?_) (fun hb => ?_)
 ·
  have hlt : i < r.k.length := by simpa using hb
  clear hb
  obtain ⟨k, hke⟩ : ∃ k, k = r.k[i] := ⟨_, rfl⟩
  obtain ⟨⟨kh0, kh1⟩, ⟨kf0, kf1⟩, ⟨ku0, ku1⟩⟩ := hk k (by rw [hke]; exact List.getElem_mem hlt)
  have lks1 := (lks k (by rw [hke]; exact List.getElem_mem hlt)).2.1
  have hkn : nth (r.k.map Ky.cv) i = k.cv := by rw [nth_map hlt, hke]
  refine hw_skip ?_
  refine T0 (hK _ _ _ ?_)
  clear hK K
  refine hw_seq fun K hK => ?_
  refine hw_block ?_
  refine hw_seq fun K hK => hw_region (by kernel_rfl) ?_
  simp only [sR, simprocAttr]
  iterate 7 refine S0 ?_ (e := fun K_ h_ => by simp only [sH, ↓sP, sA, tyS, simprocAttr, Int.natCast_nonneg, Int.ofNat_lt, hlt, hkn, Ky.cells]; exact AX h_)
  refine T2 (hK _ _ _ ?_)
  clear hK K
  refine hw_seq fun K hK => hw_draw2 mixed [(0, [], []), (1, [], []), (2, [], []), (4, [], []), (5, [], []), (6, [], []), (8, [], []), (9, [], []), (10, [], []), (11, [], []), (13, [], []), (14, [], []), (3, [], [4, 5, 6, 8, 9, 10, 11, 13, 14]), (7, [], [8, 9, 10, 11, 13, 14]), (12, [], [8, 9, 13, 14]), (15, [], [8, 9]), (16, [], []), (17, [], [])] [0, 1, 3, 7, 0, 16, 48, 127, 0, 256, 0, 1024, 3327, 0, 8192, 31999, 65535, 131071] (by kernel_rfl) (by kernel_rfl) (by kernel_rfl) (by kernel_rfl) rfl (by kernel_rfl) ?_
  iterate 12 refine W0 ?_ (e := fun K_ h_ => by simp only [sH, ↓sP, sA, tyS, simprocAttr, Ky.get_ph, Ky.get_pr, hf_isAgg]; exact AX h_)
  refine hwalk2_step (g := none) rfl rfl fun K' hK' => ?_
  simp only [sH, ↓sP, sA, tyS, simprocAttr, Ky.get_ph, Ky.get_pr, hf_isAgg]
  refine call_pure (args := [_]) (num11_ok k.p.h (by omega)) ⟨rfl, rfl, rfl, rfl⟩ ?_
  rintro u rfl
  refine AX (hK' _ _ ?_)
  clear hK' K'
  refine hwalk2_step (g := none) rfl rfl fun K' hK' => ?_
  simp only [sH, ↓sP, sA, tyS, simprocAttr, Ky.get_ph, Ky.get_pr, hf_isAgg]
  refine call_pure (args := [_]) (fmth1_ok k.p.r) ⟨rfl, rfl, rfl, rfl⟩ ?_
  rintro u rfl
  refine AX (hK' _ _ ?_)
  clear hK' K'
  refine hwalk2_step (g := none) rfl rfl fun K' hK' => ?_
  simp only [sH, ↓sP, sA, tyS, simprocAttr, Ky.get_ph, Ky.get_pr, hf_isAgg]
  refine call_pure (args := [_]) (num11_ok k.fr (by omega)) ⟨rfl, rfl, rfl, rfl⟩ ?_
  rintro u rfl
  refine AX (hK' _ _ ?_)
  clear hK' K'
  refine hwalk2_step (g := none) rfl rfl fun K' hK' => ?_
  simp only [sH, ↓sP, sA, tyS, simprocAttr, Ky.get_ph, Ky.get_pr, hf_isAgg]
  refine call_pure (args := [_]) (num11_ok k.un (by omega)) ⟨rfl, rfl, rfl, rfl⟩ ?_
  rintro u rfl
  refine AX (hK' _ _ ?_)
  clear hK' K'
  iterate 2 refine W0 ?_ (e := fun K_ h_ => by simp only [sH, ↓sP, sA, tyS, simprocAttr, Ky.get_ph, Ky.get_pr, hf_isAgg]; exact AX h_)
  refine T2 (hK _ _ _ ?_)
  clear hK K
  refine hw_regionG (by kernel_rfl) ?_
  simp only [sR, simprocAttr]
  iterate 4 refine SG0 ?_ (e := fun K_ h_ => by simp only [sH, ↓sP, sA, tyS, simprocAttr, hti, List.length_append, List.length_map]; exact AX h_)
  refine hlexG_stepC (g := none) 512 rfl rfl fun K' hK' => ?_
  simp only [hop1C, mkId, sH, ↓sP, sA, tyS, simprocAttr, hti, List.length_append, List.length_map]
  repeat refine AI ?_
  refine closeK_mk (by first | rfl | simp) ?_
  try simp only [sH, ↓sP, sA, tyS, simprocAttr, hti, List.length_append, List.length_map]
  refine AX (hK' _ _ ?_)
  clear hK' K'
  iterate 3 refine SG0 ?_ (e := fun K_ h_ => by simp only [sH, ↓sP, sA, tyS, simprocAttr, hti, List.length_append, List.length_map]; exact AX h_)
  refine T2 (hK _ _ _ ?_)
  clear hK K
  refine hw_region (by kernel_rfl) ?_
  simp only [↓sP, sA, tyS, simprocAttr, i64s i]
  refine ⟨⟨i + 1, hlt⟩, fits_fin (by omega) ?_ ?_, ?_⟩
  ·
   simp [FinOk, upd_at, fin_at, HV.men]
   omega
  ·
   simp only [List.take_succ_eq_append_getElem hlt, List.map_append, ← List.append_assoc, ← hke]
   exact ⟨rfl, by omega, trivial, rfl, by omega, trivial, trivial⟩
  show r.k.length - (i + 1) < r.k.length - i
  omega
 have hei : i = r.k.length := by simp at hb; omega
 subst hei
 clear hb
 rw [List.take_length]
 refine hw_exit ?_
 simp only [↓sP, sA, tyS, simprocAttr]
 clear hK K
 refine AX (hK _ _ _ ?_)
 clear hK K
 refine hw_seq fun K hK => ?_
 refine R0 ?_
 refine hw_block ?_
 refine hw_loop (α := {i : Nat // i ≤ r.x.length}) (fun i => (fin [(1, .ptr 0 0), (4, .own 52 ([linH r] ++ r.q.map linQ ++ r.k.map linK ++ (r.x.take i.1).map linX).length), (9, .c (.int .i64 i.1))], fob [(0, .box 26 (.c r.cv)), (52, .row 60 1 (([linH r] ++ r.q.map linQ ++ r.k.map linK ++ (r.x.take i.1).map linX).map lnC))])) 800 (fun i => r.x.length - i.1) ⟨0, by omega⟩ (fF) ?_
 rintro ⟨i, hi⟩
 have hti : (r.x.take i).length = i := by simp; omega
 refine hw_seq fun K hK => ?_
 refine hw_seq fun K hK => hw_region (by kernel_rfl) ?_
 simp only [sR, simprocAttr]
 iterate 5 refine S0 ?_
 refine T2 (hK _ _ _ ?_)
 clear hK K
 refine hw_cond (b := decide ((i : Int) < r.x.length)) rfl (fun hb => ?_) (fun hb => ?_)
 ·
  have hlt : i < r.x.length := by simpa using hb
  clear hb
  obtain ⟨x, hxe⟩ : ∃ x, x = r.x[i] := ⟨_, rfl⟩
  obtain ⟨hx0, hx1⟩ := hx x (by rw [hxe]; exact List.getElem_mem hlt)
  have hxn : nth (r.x.map Rv.cv) i = x.cv := by rw [nth_map hlt, hxe]
  refine hw_skip ?_
  refine T0 (hK _ _ _ ?_)
  clear hK K
  refine hw_seq fun K hK => ?_
  refine hw_block ?_
  refine hw_draw2G mixed [(0, [], []), (1, [], []), (2, [], []), (3, [], []), (4, [], []), (5, [], []), (6, [], []), (8, [], []), (9, [], []), (10, [], []), (11, [], []), (12, [], []), (13, [], []), (7, [], [0, 8, 9, 10, 11, 12, 13]), (14, [], [0]), (15, [], []), (16, [], []), (17, [], []), (18, [], [])] [0, 0, 2, 0, 14, 30, 62, 126, 0, 256, 0, 1792, 3840, 7936, 16382, 32766, 65534, 131071, 262143] (by kernel_rfl) (by kernel_rfl) (by kernel_rfl) (by kernel_rfl) rfl (by kernel_rfl) ?_
  iterate 13 refine WG0 ?_ (e := fun K_ h_ => by simp only [sH, ↓sP, sA, tyS, simprocAttr, Int.natCast_nonneg, Int.ofNat_lt, hlt, hxn, Rv.cells, hti, List.length_append, List.length_map]; exact AX h_)
  refine hwalk2G_step (g := none) rfl rfl fun K' hK' => ?_
  simp only [sH, ↓sP, sA, tyS, simprocAttr, Int.natCast_nonneg, Int.ofNat_lt, hlt, hxn, Rv.cells, hti, List.length_append, List.length_map]
  refine call_pure (args := [_]) (fmtd1_ok x.k) ⟨rfl, rfl, rfl, rfl⟩ ?_
  rintro u rfl
  refine AX (hK' _ _ ?_)
  clear hK' K'
  refine hwalk2G_step (g := none) rfl rfl fun K' hK' => ?_
  simp only [sH, ↓sP, sA, tyS, simprocAttr, Int.natCast_nonneg, Int.ofNat_lt, hlt, hxn, Rv.cells, hti, List.length_append, List.length_map]
  refine call_pure (args := [_]) (num11_ok x.t (by omega)) ⟨rfl, rfl, rfl, rfl⟩ ?_
  rintro u rfl
  refine AX (hK' _ _ ?_)
  clear hK' K'
  refine hwalk2G_stepC (g := none) 880 rfl rfl fun K' hK' => ?_
  simp only [hop1C, mkId, sH, ↓sP, sA, tyS, simprocAttr, Int.natCast_nonneg, Int.ofNat_lt, hlt, hxn, Rv.cells, hti, List.length_append, List.length_map]
  repeat refine AI ?_
  refine closeK_mk (by first | rfl | simp) ?_
  try simp only [sH, ↓sP, sA, tyS, simprocAttr, Int.natCast_nonneg, Int.ofNat_lt, hlt, hxn, Rv.cells, hti, List.length_append, List.length_map]
  refine AX (hK' _ _ ?_)
  clear hK' K'
  iterate 3 refine WG0 ?_ (e := fun K_ h_ => by simp only [sH, ↓sP, sA, tyS, simprocAttr, Int.natCast_nonneg, Int.ofNat_lt, hlt, hxn, Rv.cells, hti, List.length_append, List.length_map]; exact AX h_)
  refine T2 (hK _ _ _ ?_)
  clear hK K
  refine hw_region (by kernel_rfl) ?_
  simp only [↓sP, sA, tyS, simprocAttr, i64s i]
  refine ⟨⟨i + 1, hlt⟩, fits_fin (by omega) ?_ ?_, ?_⟩
  ·
   simp [FinOk, upd_at, fin_at, HV.men]
   omega
  ·
   simp only [List.take_succ_eq_append_getElem hlt, List.map_append, ← List.append_assoc, ← hxe]
   exact ⟨rfl, by omega, trivial, rfl, by omega, trivial, trivial⟩
  show r.x.length - (i + 1) < r.x.length - i
  omega
 refine hw_exit ?_
 simp only [↓sP, sA, tyS, simprocAttr]
 clear hK K
 refine AX (hK _ _ _ ?_)
 clear hK K
 have hei : i = r.x.length := by simp at hb; omega
 subst hei
 clear hb
 rw [List.take_length]
 refine hw_close [52] (hw_fits (fr2 := fin [(4, .c (.slc ((linR r).map lnC)))]) (ob2 := fob []) (nx2 := 1200) (fits_fin (by omega) (by simp [FinOk, clF_at, fin_at, finA_at, upd_at, fob_at, HV.close, HV.closeL, CV.denil, CV.denilL, denilL_str, denilL_ln, HV.men, HV.menL, HV.norm, HV.toC, HV.toCL, linR]) (by simp [FobOk, clO_at, fob_at, upd_at, none0_at, gone, HO.close, HV.close, HV.closeL, HO.men, HV.men, HV.menL, HV.norm, HV.toC, HV.toCL])) ?_)
 refine hw_seq fun K hK => hw_region (by kernel_rfl) ?_
 simp only [sR, simprocAttr]
 refine S0 ?_ (e := fun K_ h_ => by simp only [sH, ↓sP, sA, tyS, simprocAttr, denilL_ln]; exact AX h_)
 refine hlex_step (g := none) rfl rfl fun K' hK' => ?_
 simp only [sH, ↓sP, sA, tyS, simprocAttr, denilL_ln]
 refine call_pure2 (args := [_]) (enc2_ok (linR r) (linR_ok hv).1 (linR_ok hv).2) ⟨rfl, rfl, rfl, rfl⟩ ?_
 rintro u v ⟨rfl, rfl⟩
 refine AX (hK' _ _ ?_)
 clear hK' K'
 iterate 4 refine S0 ?_ (e := fun K_ h_ => by simp only [sH, ↓sP, sA, tyS, simprocAttr, denilL_ln]; exact AX h_)
 refine T2 (hK _ _ _ ?_)
 clear hK K
 refine hw_ret ?_
 simp only [hpost, Tryz.results9, hresL, hres1, tupOf, ↓sP, sA, tyS, simprocAttr]
 exact hret_pure2 [] (.slc ((encO (linR r)).map byteC)) (.int .i64 (encE (linR r))) (by simp [HV.close, HV.closeL, CV.denil, CV.denilL, denilL_byte, HV.norm, HV.toC, HV.toCL]) ⟨by rw [encR, if_pos hv], by rw [errR, if_pos hv]⟩

end Go.Proofs.YtenbfeemmpjdhaaGreatDoor

namespace Go.Hl
open Go

def HBoxL (P : Program) (f : FuncId) (T : TypeId) (v : CV) (args : List CV) (R : CV → CV → Prop) : Prop :=
  HFn P f (args.map .c ++ [.ptr 0 0]) 1 (fob [(0, .box T (.c v))]) (fun r ob' => ∃ u v', r = .c u ∧ ob' = fob [(0, .box T (.c v'))] ∧ R u v')
theorem call_boxl {P : Program} {av : List Nat} {f : FuncId} {ob : Ob} {nid id : Nat} {K : HV → Ob → Prop} {T : TypeId} {v : CV} {args : List CV} {R : CV → CV → Prop} (h : HBoxL P f T v args R) (hid : ob id = some (.box T (.c v))) (hav : id ∉ av)
    (hfree : ob nid = none ∧ ob (nid + 1) = none ∧ ob (nid + 2) = none ∧ ob (nid + 3) = none) (hK : ∀ u v', R u v' → K (.c u) (upd ob id (some (.box T (.c v'))))) :
    HCall P av f (args.map .c ++ [.ptr id 0]) ob nid K := by
  refine ⟨[id], args.map HV.c ++ [HV.ptr 0 0], _, _, h, locOk_clo T v args, ⟨by simp, by simpa using hav⟩, ?_, fun j o hj => ?_, fun r lob' hR _ => ?_⟩
  · simp only [renL_append, renL_c', HV.renL, HV.ren]
    rfl
  · by_cases e : j = 0
    · subst e
      simp only [fob_at, if_true, Option.some.injEq] at hj
      subst hj
      simpa [HO.ren, HV.ren] using hid
    · simp [fob_at, fob_nil, e] at hj
  · obtain ⟨u, v', rfl, rfl, hR⟩ := hR
    have e : obAfter ob [id] nid (fob [(0, .box T (.c v'))]) = upd ob id (some (.box T (.c v'))) := by
      funext i
      by_cases e : i = id
      · subst e
        simp only [obAfter, upd_same, List.findIdx?_cons, beq_self_eq_true, if_true, fob_at, Option.map_some]
        rfl
      · have e' : (id == i) = false := by simp; exact fun h => e h.symm
        simp only [obAfter, List.findIdx?_cons, e', List.findIdx?_nil, Option.map_none, upd_ne _ _ e]
        simp only [Bool.false_eq_true, if_false]
        split
        · rename_i hr
          have h1 : [id].length + (i - nid) ≠ 0 := by simp
          rw [fob_at, if_neg h1, fob_nil]
          have : i = nid ∨ i = nid + 1 ∨ i = nid + 2 ∨ i = nid + 3 := by omega
          rcases this with rfl | rfl | rfl | rfl
          · exact hfree.1.symm
          · exact hfree.2.1.symm
          · exact hfree.2.2.1.symm
          · exact hfree.2.2.2.symm
        · rfl
    rw [e]
    exact hK u v' hR
end Go.Hl

namespace Go.Proofs.YtenbfeemmpjdhaaGreatDoor
open Go Go.Hl Go.Pl
set_option maxRecDepth 10000
set_option maxHeartbeats 8000000
set_option linter.unusedSimpArgs false
set_option linter.unusedVariables false
attribute [local simp] tp

theorem odd_ok (hmid : ∀ i : Nat, i < 2 ^ 40 → HPure Tryz.prog 47 [.int .i64 i] (fun v => v = dg (mid i))) (r : Rt) (L : List Int) (a : Nat) (ha : a + 100 < 2 ^ 40) (hr : rMid r) (hk0 : 0 < r.k.length) (hq0 : 0 < r.q.length) (hx0 : r.x.length ≤ 64) : HBoxL Tryz.prog 23 39 (tp L a) [r.cv] (fun u v' => ∃ (r' : Rt) (a' : Nat), u = r'.cv ∧ v' = tp L a' ∧ a' ≤ a + 4 ∧ rMid r') := by
 refine hfn_walk (args := [.c r.cv, .ptr 0 0]) Tryz.func23 rfl (by kernel_rfl) (locOk_clo _ _ [r.cv]) (Nat.le_of_ble_eq_true rfl) ?_
 have hkl : r.k.length ≤ 32 := hr.2.1.1
 have hql : r.q.length ≤ 12 := hr.1.1
 have hk1 : ¬ r.k = [] := fun h => by rw [h] at hk0; exact absurd hk0 (by decide)
 have hq1 : ¬ r.q = [] := fun h => by rw [h] at hq0; exact absurd hq0 (by decide)
 refine R0 ?_
 refine hw_seq fun K hK => hw_region (by kernel_rfl) ?_
 simp only [sR, simprocAttr]
 iterate 6 refine S0 ?_ (e := fun K_ h_ => by simp only [sH, ↓sP, sA, tyS, simprocAttr, cells_ky]; exact AX h_)
 refine T2 (hK _ _ _ ?_)
 clear hK K
 refine hw_seq fun K hK => hw_region (by kernel_rfl) ?_
 simp only [sR, simprocAttr]
 iterate 6 refine S0 ?_ (e := fun K_ h_ => by simp only [sH, ↓sP, sA, tyS, simprocAttr, cells_qt]; exact AX h_)
 refine T2 (hK _ _ _ ?_)
 clear hK K
 refine hw_fits (fr2 := fin [(1, .ptr 0 0), (2, .ptr 1 0), (4, .ptr 5 0)]) (ob2 := fob [(0, .box 39 (.c (tp L a))), (1, .box 26 (.agg [.c (.int .i64 r.v), .c (.int .i64 r.e), .own 33 r.q.length, .own 9 r.k.length, .c (.slc (r.x.map Rv.cv))])), (5, .box 26 (.c zR)), (9, .row 70 21 (r.k.map Ky.cv)), (33, .row 64 2 (r.q.map Qt.cv))]) (nx2 := 100) (fits_fin (by omega) (by simp [FinOk, fin_at, finA_at, upd_at, HV.men, HV.menL, HV.norm, HV.toC, HV.toCL]) (by simp [FobOk, fob_at, upd_at, none0_at, gone, HO.men, HV.men, HV.menL, HV.norm, HV.toC, HV.toCL]; rfl)) ?_
 refine hw_seq fun K hK => hw_region (by kernel_rfl) ?_
 simp only [sR, simprocAttr]
 iterate 4 refine S0 ?_
 refine hlex_step (g := none) rfl rfl fun K' hK' => ?_
 simp only [sH, ↓sP, sA, tyS, simprocAttr]
 refine call_box (args := [_]) (next_ok L a r.k.length (by omega) (by omega)) rfl (by simp) ⟨rfl, rfl, rfl, rfl⟩ ?_
 rintro u v' ⟨x1, a1, rfl, rfl, g1, g2, g3, g4⟩
 refine AX (hK' _ _ ?_)
 clear hK' K'
 refine S0 ?_
 refine T2 (hK _ _ _ ?_)
 clear hK K
 refine hw_seq fun K hK => ?_
 have key : ∀ (cl : List Nat) (r' : Rt) (b' : Nat) fr ob nx, b' ≤ a + 4 → rMid r' → Fits 1 (clF ob cl fr) (clO ob cl) (fin [(2, .ptr 1 0), (4, .ptr 5 0)]) (fob [(0, .box 39 (.c (tp L b'))), (1, .box 26 (.c r'.cv)), (5, .box 26 (.c (Rt.cv ⟨0, 0, [], [], []⟩)))]) 900 → K fr ob nx := by
  intro cl r' b' fr ob nx w1 w2 hf
  refine hK _ _ _ (hw_close cl (hw_fits hf ?_))
  clear hf hK K
  refine R0 ?_
  refine hw_ret ?_
  simp only [hpost, Tryz.results23, hresL, hres1, tupOf, ↓sP, sA, tyS, simprocAttr]
  refine hret_box [] r'.cv (tp L b') (close_c (Rt.denil _)) rfl ?_ (by simp) ⟨r', b', rfl, rfl, w1, w2⟩
  simp [HV.close, HV.closeL, tp, CV.denil, CV.denilL, denilL_int, HV.norm, HV.toC, HV.toCL]
 obtain ⟨i, rfl⟩ : ∃ i : Nat, x1 = i := ⟨x1.toNat, by omega⟩
 have hil : i < r.k.length := by omega
 have hkk := hr.2.1.2 _ (List.getElem_mem hil)
 refine hw_seq fun K hK => hw_region (by kernel_rfl) ?_
 simp only [sR, simprocAttr]
 refine S0 ?_
 refine hlex_step (g := none) rfl rfl fun K' hK' => ?_
 simp only [sH, ↓sP, sA, tyS, simprocAttr]
 refine call_box (args := [_]) (next_ok L a1 9 (by omega) (by omega)) rfl (by simp) ⟨rfl, rfl, rfl, rfl⟩ ?_
 rintro u v' ⟨y, a2, rfl, rfl, k1, k2, k3, k4⟩
 refine AX (hK' _ _ ?_)
 clear hK' K'
 refine T2 (hK _ _ _ ?_)
 clear hK K
 refine hw_block ?_
 refine R0 ?_
 refine hw_cond (b := y == 0) rfl (fun hb => ?_) (fun hb => ?_)
 ·
  refine hw_region (by kernel_rfl) ?_
  simp only [sR, simprocAttr]
  refine S0 ?_
  refine hlex_step (g := none) rfl rfl fun K' hK' => ?_
  simp only [sH, ↓sP, sA, tyS, simprocAttr]
  refine call_box (args := [_]) (next_ok L a2 3 (by omega) (by omega)) rfl (by simp) ⟨rfl, rfl, rfl, rfl⟩ ?_
  rintro u v' ⟨x2, a3, rfl, rfl, j1, j2, j3, j4⟩
  refine AX (hK' _ _ ?_)
  clear hK' K'
  iterate 3 refine S0 ?_
  simp only [sE, ↓reduceIte, simprocAttr]
  exact key [9, 33] ⟨IntKind.i64.wrap (x2 - 1), r.e, r.q, r.k, r.x⟩ a3 _ _ _ (by omega) (hr) (fits_fin (by omega) (by simp [FinOk, clF_at, fin_at, finA_at, upd_at, fob_at, HV.close, HV.closeL, CV.denil, CV.denilL, denilL_str, denilL_Rv, denilL_Qt, denilL_Ky, HV.men, HV.menL, HV.norm, HV.toC, HV.toCL]) (by simp [FobOk, clO_at, fob_at, upd_at, none0_at, gone, HO.close, HV.close, HV.closeL, HO.men, HV.men, HV.menL, HV.norm, HV.toC, HV.toCL, Rt.denil, zR, Rt.cv, CV.denil, CV.denilL, denilL_str, denilL_Rv, denilL_Qt, denilL_Ky, denilL_int, tp]))
 refine R0 ?_
 refine hw_cond (b := y == 1) rfl (fun hb => ?_) (fun hb => ?_)
 ·
  refine hw_draw2 mixed [(0, [], []), (1, [], []), (2, [], []), (3, [], []), (4, [], []), (5, [], []), (6, [], []), (7, [], []), (8, [], []), (9, [], []), (10, [], []), (11, [], [])] [0, 1, 0, 0, 8, 0, 56, 120, 248, 511, 1023, 2047] (by kernel_rfl) (by kernel_rfl) (by kernel_rfl) (by kernel_rfl) rfl (by kernel_rfl) ?_
  iterate 12 refine W0 ?_ (e := fun K_ h_ => by simp only [sH, ↓sP, sA, tyS, simprocAttr, hil, hk0, hq0, List.map_eq_nil_iff, hk1, hq1, nth_map hil, nth_map hk0, nth_map hq0, Int.natCast_nonneg, Int.ofNat_lt, Ky.fold, Qt.fold, Pk.fold, ← List.map_set, List.length_set]; exact AX h_)
  simp only [sE, ↓reduceIte, simprocAttr]
  exact key [9, 33] ⟨r.v, r.e, r.q, r.k.set i ⟨r.k[i].p, r.k[i].o, r.k[i].rs, r.k[i].un, r.k[i].un⟩, r.x⟩ a2 _ _ _ (by omega) (hr.setK i _ hkk.1 hkk.2.1 hkk.2.2) (fits_fin (by omega) (by simp [FinOk, clF_at, fin_at, finA_at, upd_at, fob_at, HV.close, HV.closeL, CV.denil, CV.denilL, denilL_str, denilL_Rv, denilL_Qt, denilL_Ky, HV.men, HV.menL, HV.norm, HV.toC, HV.toCL]) (by simp [FobOk, clO_at, fob_at, upd_at, none0_at, gone, HO.close, HV.close, HV.closeL, HO.men, HV.men, HV.menL, HV.norm, HV.toC, HV.toCL, Rt.denil, zR, Rt.cv, CV.denil, CV.denilL, denilL_str, denilL_Rv, denilL_Qt, denilL_Ky, denilL_int, tp]))
 refine R0 ?_
 refine hw_cond (b := y == 2) rfl (fun hb => ?_) (fun hb => ?_)
 ·
  refine hw_regionG (by kernel_rfl) ?_
  simp only [sR, simprocAttr]
  iterate 3 refine SG0 ?_ (e := fun K_ h_ => by simp only [sH, ↓sP, sA, tyS, simprocAttr, hil, hk0, hq0, List.map_eq_nil_iff, hk1, hq1, nth_map hil, nth_map hk0, nth_map hq0, Int.natCast_nonneg, Int.ofNat_lt, Ky.fold, Qt.fold, Pk.fold, ← List.map_set, List.length_set, show CV.slc [CV.str [98], CV.str [97]] = CV.slc (([[98], [97]] : List Word).map CV.str) from rfl]; exact AX h_)
  refine hlexG_stepC (g := none) 168 rfl rfl fun K' hK' => ?_
  simp only [hop1C, mkId, sH, ↓sP, sA, tyS, simprocAttr, hil, hk0, hq0, List.map_eq_nil_iff, hk1, hq1, nth_map hil, nth_map hk0, nth_map hq0, Int.natCast_nonneg, Int.ofNat_lt, Ky.fold, Qt.fold, Pk.fold, ← List.map_set, List.length_set, show CV.slc [CV.str [98], CV.str [97]] = CV.slc (([[98], [97]] : List Word).map CV.str) from rfl]
  repeat refine AI ?_
  refine closeK_mk (by first | rfl | simp) ?_
  simp only [sH, ↓sP, sA, tyS, simprocAttr, hil, hk0, hq0, List.map_eq_nil_iff, hk1, hq1, nth_map hil, nth_map hk0, nth_map hq0, Int.natCast_nonneg, Int.ofNat_lt, Ky.fold, Qt.fold, Pk.fold, ← List.map_set, List.length_set, show CV.slc [CV.str [98], CV.str [97]] = CV.slc (([[98], [97]] : List Word).map CV.str) from rfl]
  refine AX (hK' _ _ ?_)
  clear hK' K'
  iterate 3 refine SG0 ?_ (e := fun K_ h_ => by simp only [sH, ↓sP, sA, tyS, simprocAttr, hil, hk0, hq0, List.map_eq_nil_iff, hk1, hq1, nth_map hil, nth_map hk0, nth_map hq0, Int.natCast_nonneg, Int.ofNat_lt, Ky.fold, Qt.fold, Pk.fold, ← List.map_set, List.length_set, show CV.slc [CV.str [98], CV.str [97]] = CV.slc (([[98], [97]] : List Word).map CV.str) from rfl]; exact AX h_)
  simp only [sE, ↓reduceIte, simprocAttr]
  exact key [9, 33] ⟨r.v, r.e, r.q, r.k.set i ⟨r.k[i].p, r.k[i].o, [[98], [97]], r.k[i].fr, r.k[i].un⟩, r.x⟩ a2 _ _ _ (by omega) (hr.setK i _ hkk.1 (by simp) (by simp)) (fits_fin (by omega) (by simp [FinOk, clF_at, fin_at, finA_at, upd_at, fob_at, HV.close, HV.closeL, CV.denil, CV.denilL, denilL_str, denilL_Rv, denilL_Qt, denilL_Ky, HV.men, HV.menL, HV.norm, HV.toC, HV.toCL]) (by simp [FobOk, clO_at, fob_at, upd_at, none0_at, gone, HO.close, HV.close, HV.closeL, HO.men, HV.men, HV.menL, HV.norm, HV.toC, HV.toCL, Rt.denil, zR, Rt.cv, CV.denil, CV.denilL, denilL_str, denilL_Rv, denilL_Qt, denilL_Ky, denilL_int, tp]))
 refine R0 ?_
 refine hw_cond (b := y == 3) rfl (fun hb => ?_) (fun hb => ?_)
 ·
  refine hw_region (by kernel_rfl) ?_
  simp only [sR, simprocAttr]
  iterate 6 refine S0 ?_ (e := fun K_ h_ => by simp only [sH, ↓sP, sA, tyS, simprocAttr, hil, hk0, hq0, List.map_eq_nil_iff, hk1, hq1, nth_map hil, nth_map hk0, nth_map hq0, Int.natCast_nonneg, Int.ofNat_lt, Ky.fold, Qt.fold, Pk.fold, ← List.map_set, List.length_set]; exact AX h_)
  simp only [sE, ↓reduceIte, simprocAttr]
  exact key [9, 33] ⟨r.v, r.e, r.q, r.k.set i ⟨r.k[i].p, [65, 110, 110], r.k[i].rs, r.k[i].fr, r.k[i].un⟩, r.x⟩ a2 _ _ _ (by omega) (hr.setK i _ (by simp) hkk.2.1 hkk.2.2) (fits_fin (by omega) (by simp [FinOk, clF_at, fin_at, finA_at, upd_at, fob_at, HV.close, HV.closeL, CV.denil, CV.denilL, denilL_str, denilL_Rv, denilL_Qt, denilL_Ky, HV.men, HV.menL, HV.norm, HV.toC, HV.toCL]) (by simp [FobOk, clO_at, fob_at, upd_at, none0_at, gone, HO.close, HV.close, HV.closeL, HO.men, HV.men, HV.menL, HV.norm, HV.toC, HV.toCL, Rt.denil, zR, Rt.cv, CV.denil, CV.denilL, denilL_str, denilL_Rv, denilL_Qt, denilL_Ky, denilL_int, tp]))
 refine R0 ?_
 refine hw_cond (b := y == 4) rfl (fun hb => ?_) (fun hb => ?_)
 ·
  have hil2 : i < (r.k.set 0 r.k[i]).length := by rw [List.length_set]; exact hil
  refine hw_draw2 mixed [(0, [], []), (1, [], []), (2, [], []), (3, [], []), (4, [], []), (5, [], []), (6, [], []), (7, [], []), (8, [], []), (9, [], []), (10, [], []), (11, [], []), (12, [], []), (13, [], []), (14, [], []), (15, [], [2, 3, 4]), (16, [], []), (17, [], [])] [0, 1, 0, 4, 0, 0, 32, 0, 224, 480, 0, 1024, 3072, 7168, 16355, 32739, 65535, 131071] (by kernel_rfl) (by kernel_rfl) (by kernel_rfl) (by kernel_rfl) rfl (by kernel_rfl) ?_
  iterate 18 refine W0 ?_ (e := fun K_ h_ => by simp only [sH, ↓sP, sA, tyS, simprocAttr, hil, hk0, hq0, List.map_eq_nil_iff, hk1, hq1, nth_map hil, nth_map hk0, nth_map hq0, Int.natCast_nonneg, Int.ofNat_lt, Ky.fold, Qt.fold, Pk.fold, ← List.map_set, List.length_set, nth_map hil2]; exact AX h_)
  simp only [sE, ↓reduceIte, simprocAttr]
  have hk00 := hr.2.1.2 _ (List.getElem_mem hk0)
  exact key [9, 33] ⟨r.v, r.e, r.q, (r.k.set 0 r.k[i]).set i r.k[0], r.x⟩ a2 _ _ _ (by omega) ((hr.setK 0 r.k[i] hkk.1 hkk.2.1 hkk.2.2).setK i r.k[0] hk00.1 hk00.2.1 hk00.2.2) (fits_fin (by omega) (by simp [FinOk, clF_at, fin_at, finA_at, upd_at, fob_at, HV.close, HV.closeL, CV.denil, CV.denilL, denilL_str, denilL_Rv, denilL_Qt, denilL_Ky, HV.men, HV.menL, HV.norm, HV.toC, HV.toCL]) (by simp [FobOk, clO_at, fob_at, upd_at, none0_at, gone, HO.close, HV.close, HV.closeL, HO.men, HV.men, HV.menL, HV.norm, HV.toC, HV.toCL, Rt.denil, zR, Rt.cv, CV.denil, CV.denilL, denilL_str, denilL_Rv, denilL_Qt, denilL_Ky, denilL_int, tp]))
 refine R0 ?_
 refine hw_cond (b := y == 5) rfl (fun hb => ?_) (fun hb => ?_)
 ·
  refine hw_draw2 mixed [(0, [], []), (1, [], []), (2, [], []), (3, [], [0, 1]), (4, [], []), (5, [], []), (6, [], []), (7, [], [])] [0, 1, 0, 4, 12, 31, 63, 127] (by kernel_rfl) (by kernel_rfl) (by kernel_rfl) (by kernel_rfl) rfl (by kernel_rfl) ?_
  iterate 3 refine W0 ?_ (e := fun K_ h_ => by simp only [sH, ↓sP, sA, tyS, simprocAttr, hil, hk0, hq0, List.map_eq_nil_iff, hk1, hq1, nth_map hil, nth_map hk0, nth_map hq0, Int.natCast_nonneg, Int.ofNat_lt, Ky.fold, Qt.fold, Pk.fold, ← List.map_set, List.length_set]; exact AX h_)
  refine hwalk2_step (g := none) rfl rfl fun K' hK' => ?_
  simp only [sH, ↓sP, sA, tyS, simprocAttr, hil, hk0, hq0, List.map_eq_nil_iff, hk1, hq1, nth_map hil, nth_map hk0, nth_map hq0, Int.natCast_nonneg, Int.ofNat_lt, Ky.fold, Qt.fold, Pk.fold, ← List.map_set, List.length_set]
  refine call_box (args := [_]) (next_ok L a2 40 (by omega) (by omega)) rfl (by simp) ⟨rfl, rfl, rfl, rfl⟩ ?_
  rintro u v' ⟨x2, a3, rfl, rfl, j1, j2, j3, j4⟩
  refine AX (hK' _ _ ?_)
  clear hK' K'
  iterate 4 refine W0 ?_ (e := fun K_ h_ => by simp only [sH, ↓sP, sA, tyS, simprocAttr, hil, hk0, hq0, List.map_eq_nil_iff, hk1, hq1, nth_map hil, nth_map hk0, nth_map hq0, Int.natCast_nonneg, Int.ofNat_lt, Ky.fold, Qt.fold, Pk.fold, ← List.map_set, List.length_set]; exact AX h_)
  simp only [sE, ↓reduceIte, simprocAttr]
  exact key [9, 33] ⟨r.v, r.e, r.q.set 0 ⟨r.q[0].r, IntKind.i64.wrap (x2 - 2)⟩, r.k, r.x⟩ a3 _ _ _ (by omega) (hr.setQ 0 _ (hr.1.2 r.q[0] (List.getElem_mem hq0))) (fits_fin (by omega) (by simp [FinOk, clF_at, fin_at, finA_at, upd_at, fob_at, HV.close, HV.closeL, CV.denil, CV.denilL, denilL_str, denilL_Rv, denilL_Qt, denilL_Ky, HV.men, HV.menL, HV.norm, HV.toC, HV.toCL]) (by simp [FobOk, clO_at, fob_at, upd_at, none0_at, gone, HO.close, HV.close, HV.closeL, HO.men, HV.men, HV.menL, HV.norm, HV.toC, HV.toCL, Rt.denil, zR, Rt.cv, CV.denil, CV.denilL, denilL_str, denilL_Rv, denilL_Qt, denilL_Ky, denilL_int, tp]))
 refine R0 ?_
 refine hw_cond (b := y == 6) rfl (fun hb => ?_) (fun hb => ?_)
 ·
  refine hw_region (by kernel_rfl) ?_
  simp only [sR, simprocAttr]
  iterate 5 refine S0 ?_ (e := fun K_ h_ => by simp only [sH, ↓sP, sA, tyS, simprocAttr, cells_rv, Rv.fold, List.length_append]; exact AX h_)
  refine hlex_step (g := none) rfl rfl fun K' hK' => ?_
  simp only [sH, ↓sP, sA, tyS, simprocAttr, cells_rv, Rv.fold, List.length_append]
  refine call_box (args := [_]) (next_ok L a2 6 (by omega) (by omega)) rfl (by simp) ⟨rfl, rfl, rfl, rfl⟩ ?_
  rintro u v' ⟨x2, a3, rfl, rfl, j1, j2, j3, j4⟩
  obtain ⟨m, rfl⟩ : ∃ m : Nat, x2 = m := ⟨x2.toNat, by omega⟩
  refine AX (hK' _ _ ?_)
  clear hK' K'
  refine hlex_step (g := none) rfl rfl fun K' hK' => ?_
  simp only [sH, ↓sP, sA, tyS, simprocAttr, cells_rv, Rv.fold, List.length_append]
  refine call_pure (args := [_]) (hmid m (by omega)) ⟨rfl, rfl, rfl, rfl⟩ ?_
  rintro u rfl
  refine AX (hK' _ _ ?_)
  clear hK' K'
  refine S0 ?_ (e := fun K_ h_ => by simp only [sH, ↓sP, sA, tyS, simprocAttr, cells_rv, Rv.fold, List.length_append]; exact AX h_)
  refine hlex_step (g := none) rfl rfl fun K' hK' => ?_
  simp only [sH, ↓sP, sA, tyS, simprocAttr, cells_rv, Rv.fold, List.length_append]
  refine call_box (args := [_]) (next_ok L a3 9 (by omega) (by omega)) rfl (by simp) ⟨rfl, rfl, rfl, rfl⟩ ?_
  rintro u v' ⟨x3, a4, rfl, rfl, l1, l2, l3, l4⟩
  refine AX (hK' _ _ ?_)
  clear hK' K'
  iterate 6 refine S0 ?_ (e := fun K_ h_ => by simp only [sH, ↓sP, sA, tyS, simprocAttr, cells_rv, Rv.fold, List.length_append]; exact AX h_)
  simp only [sE, ↓reduceIte, simprocAttr]
  exact key [9, 33, 188] ⟨r.v, r.e, r.q, r.k, r.x ++ [⟨mid m, IntKind.i64.wrap (x3 - 1)⟩]⟩ a4 _ _ _ (by omega) (⟨hr.1, hr.2.1, by simp; omega⟩) (fits_fin (by omega) (by simp [FinOk, clF_at, fin_at, finA_at, upd_at, fob_at, HV.close, HV.closeL, CV.denil, CV.denilL, denilL_str, denilL_Rv, denilL_Qt, denilL_Ky, HV.men, HV.menL, HV.norm, HV.toC, HV.toCL]) (by simp [FobOk, clO_at, fob_at, upd_at, none0_at, gone, HO.close, HV.close, HV.closeL, HO.men, HV.men, HV.menL, HV.norm, HV.toC, HV.toCL, Rt.denil, zR, Rt.cv, CV.denil, CV.denilL, denilL_str, denilL_Rv, denilL_Qt, denilL_Ky, denilL_int, tp]))
 refine R0 ?_
 refine hw_cond (b := y == 7) rfl (fun hb => ?_) (fun hb => ?_)
 ·
  refine hw_draw2 mixed [(0, [], []), (1, [], []), (2, [], []), (3, [], []), (4, [], [0, 1, 2]), (5, [], []), (6, [], []), (7, [], []), (8, [], []), (9, [], [])] [0, 1, 0, 0, 8, 24, 63, 127, 255, 511] (by kernel_rfl) (by kernel_rfl) (by kernel_rfl) (by kernel_rfl) rfl (by kernel_rfl) ?_
  iterate 4 refine W0 ?_ (e := fun K_ h_ => by simp only [sH, ↓sP, sA, tyS, simprocAttr, hil, hk0, hq0, List.map_eq_nil_iff, hk1, hq1, nth_map hil, nth_map hk0, nth_map hq0, Int.natCast_nonneg, Int.ofNat_lt, Ky.fold, Qt.fold, Pk.fold, ← List.map_set, List.length_set, Ky.set_ph]; exact AX h_)
  refine hwalk2_step (g := none) rfl rfl fun K' hK' => ?_
  simp only [sH, ↓sP, sA, tyS, simprocAttr, hil, hk0, hq0, List.map_eq_nil_iff, hk1, hq1, nth_map hil, nth_map hk0, nth_map hq0, Int.natCast_nonneg, Int.ofNat_lt, Ky.fold, Qt.fold, Pk.fold, ← List.map_set, List.length_set, Ky.set_ph]
  refine call_box (args := [_]) (next_ok L a2 9 (by omega) (by omega)) rfl (by simp) ⟨rfl, rfl, rfl, rfl⟩ ?_
  rintro u v' ⟨x2, a3, rfl, rfl, j1, j2, j3, j4⟩
  refine AX (hK' _ _ ?_)
  clear hK' K'
  iterate 5 refine W0 ?_ (e := fun K_ h_ => by simp only [sH, ↓sP, sA, tyS, simprocAttr, hil, hk0, hq0, List.map_eq_nil_iff, hk1, hq1, nth_map hil, nth_map hk0, nth_map hq0, Int.natCast_nonneg, Int.ofNat_lt, Ky.fold, Qt.fold, Pk.fold, ← List.map_set, List.length_set, Ky.set_ph]; exact AX h_)
  simp only [sE, ↓reduceIte, simprocAttr]
  exact key [9, 33] ⟨r.v, r.e, r.q, r.k.set i ⟨⟨IntKind.i64.wrap (x2 - 1), r.k[i].p.r⟩, r.k[i].o, r.k[i].rs, r.k[i].fr, r.k[i].un⟩, r.x⟩ a3 _ _ _ (by omega) (hr.setK i _ hkk.1 hkk.2.1 hkk.2.2) (fits_fin (by omega) (by simp [FinOk, clF_at, fin_at, finA_at, upd_at, fob_at, HV.close, HV.closeL, CV.denil, CV.denilL, denilL_str, denilL_Rv, denilL_Qt, denilL_Ky, HV.men, HV.menL, HV.norm, HV.toC, HV.toCL]) (by simp [FobOk, clO_at, fob_at, upd_at, none0_at, gone, HO.close, HV.close, HV.closeL, HO.men, HV.men, HV.menL, HV.norm, HV.toC, HV.toCL, Rt.denil, zR, Rt.cv, CV.denil, CV.denilL, denilL_str, denilL_Rv, denilL_Qt, denilL_Ky, denilL_int, tp]))
 refine hw_draw2 mixed [(0, [], []), (1, [], []), (2, [], []), (3, [], []), (4, [], []), (5, [], []), (6, [], [0, 1]), (7, [], []), (8, [], []), (9, [], [])] [0, 1, 0, 0, 8, 24, 60, 127, 255, 511] (by kernel_rfl) (by kernel_rfl) (by kernel_rfl) (by kernel_rfl) rfl (by kernel_rfl) ?_
 iterate 6 refine W0 ?_ (e := fun K_ h_ => by simp only [sH, ↓sP, sA, tyS, simprocAttr, List.length_map]; exact AX h_)
 refine hwalk2_step (g := none) rfl rfl fun K' hK' => ?_
 simp only [sH, ↓sP, sA, tyS, simprocAttr, List.length_map]
 refine call_box (args := [_]) (next_ok L a2 r.q.length (by omega) (by omega)) rfl (by simp) ⟨rfl, rfl, rfl, rfl⟩ ?_
 rintro u v' ⟨x2, a3, rfl, rfl, j1, j2, j3, j4⟩
 obtain ⟨m, rfl⟩ : ∃ m : Nat, x2 = m := ⟨x2.toNat, by omega⟩
 have hml : m < r.q.length := by omega
 refine AX (hK' _ _ ?_)
 clear hK' K'
 iterate 3 refine W0 ?_ (e := fun K_ h_ => by simp only [sH, ↓sP, sA, tyS, simprocAttr, List.length_map]; exact AX h_)
 simp only [sE, ↓reduceIte, simprocAttr]
 exact key [9, 33] ⟨r.v, r.e, r.q.take m, r.k, r.x⟩ a3 _ _ _ (by omega) (⟨⟨by show (r.q.take m).length ≤ 12; rw [List.length_take]; omega, fun q hq => hr.1.2 q (List.mem_of_mem_take hq)⟩, hr.2.1, hr.2.2⟩) (fits_fin (by omega) (by simp [FinOk, clF_at, fin_at, finA_at, upd_at, fob_at, HV.close, HV.closeL, CV.denil, CV.denilL, denilL_str, denilL_Rv, denilL_Qt, denilL_Ky, HV.men, HV.menL, HV.norm, HV.toC, HV.toCL]) (by simp [FobOk, clO_at, fob_at, upd_at, none0_at, gone, HO.close, HV.close, HV.closeL, HO.men, HV.men, HV.menL, HV.norm, HV.toC, HV.toCL, Rt.denil, zR, Rt.cv, CV.denil, CV.denilL, denilL_str, denilL_Rv, denilL_Qt, denilL_Ky, denilL_int, tp, hq0, Nat.le_of_lt hml, ← List.map_take]))

end Go.Proofs.YtenbfeemmpjdhaaGreatDoor

namespace Go.Proofs.YtenbfeemmpjdhaaGreatDoor
open Go Go.Hl Go.Pl
set_option maxRecDepth 10000
set_option maxHeartbeats 4000000
set_option linter.unusedSimpArgs false
set_option linter.unusedVariables false
attribute [local simp] tp

theorem light_ok (r : Rt) : HPure Tryz.prog 24 [r.cv] (fun v => v = .bool (lightB r)) := by
 refine hfn_walk Tryz.func24 rfl (by kernel_rfl) (locOk_nil _) (Nat.le_of_ble_eq_true rfl) ?_
 refine R0 ?_
 refine hw_seq fun K hK => ?_
 refine hw_seq fun K hK => hw_region (by kernel_rfl) ?_
 simp only [sR, simprocAttr]
 iterate 5 refine S0 ?_
 refine hlex_cases 7 rfl (fun h1_7 => ?_) (fun h1_7 => ?_)
 ·
  iterate 4 refine S0 ?_ (e := fun K_ h_ => by simp only [sH, ↓sP, sA, tyS, simprocAttr, h1_7]; exact AX h_)
  iterate 2 refine S0 ?_ (e := fun K_ h_ => by simp only [sH, ↓sP, sA, tyS, simprocAttr, h1_7]; exact AX h_)
  iterate 4 refine S0 ?_ (e := fun K_ h_ => by simp only [sH, ↓sP, sA, tyS, simprocAttr, h1_7]; exact AX h_)
  refine S0 ?_ (e := fun K_ h_ => by simp only [sH, ↓sP, sA, tyS, simprocAttr, h1_7]; exact AX h_)
  refine T2 (hK _ _ _ ?_)
  clear hK K
  refine hw_cond (b := true) rfl (fun hb => ?_) (fun hb => ?_)
  ·
   refine R0 ?_
   refine hw_ret ?_
   simp only [hpost, Tryz.results24, hresL, hres1, tupOf, ↓sP, sA, tyS, simprocAttr]
   exact hret_pure [] (.bool false) rfl (by simp only [light_code, h1_7, Bool.not_true, Bool.not_false, Bool.true_and, Bool.false_and, Bool.and_false])
  cases hb
 iterate 4 refine S0 ?_ (e := fun K_ h_ => by simp only [sH, ↓sP, sA, tyS, simprocAttr, h1_7]; exact AX h_)
 iterate 2 refine S0 ?_ (e := fun K_ h_ => by simp only [sH, ↓sP, sA, tyS, simprocAttr, h1_7]; exact AX h_)
 refine hlex_cases 12 rfl (fun h1_12 => ?_) (fun h1_12 => ?_)
 ·
  iterate 4 refine S0 ?_ (e := fun K_ h_ => by simp only [sH, ↓sP, sA, tyS, simprocAttr, h1_7, h1_12]; exact AX h_)
  refine S0 ?_ (e := fun K_ h_ => by simp only [sH, ↓sP, sA, tyS, simprocAttr, h1_7, h1_12]; exact AX h_)
  refine T2 (hK _ _ _ ?_)
  clear hK K
  refine hw_cond (b := true) rfl (fun hb => ?_) (fun hb => ?_)
  ·
   refine R0 ?_
   refine hw_ret ?_
   simp only [hpost, Tryz.results24, hresL, hres1, tupOf, ↓sP, sA, tyS, simprocAttr]
   exact hret_pure [] (.bool false) rfl (by simp only [light_code, h1_7, h1_12, Bool.not_true, Bool.not_false, Bool.true_and, Bool.false_and, Bool.and_false])
  cases hb
 iterate 4 refine S0 ?_ (e := fun K_ h_ => by simp only [sH, ↓sP, sA, tyS, simprocAttr, h1_7, h1_12]; exact AX h_)
 refine S0 ?_ (e := fun K_ h_ => by simp only [sH, ↓sP, sA, tyS, simprocAttr, h1_7, h1_12]; exact AX h_)
 refine hlex_cases 18 rfl (fun h1_18 => ?_) (fun h1_18 => ?_)
 ·
  simp only [h1_18]
  refine T2 (hK _ _ _ ?_)
  clear hK K
  refine hw_cond (b := true) rfl (fun hb => ?_) (fun hb => ?_)
  ·
   refine R0 ?_
   refine hw_ret ?_
   simp only [hpost, Tryz.results24, hresL, hres1, tupOf, ↓sP, sA, tyS, simprocAttr]
   exact hret_pure [] (.bool false) rfl (by simp only [light_code, h1_7, h1_12, h1_18, Bool.not_true, Bool.not_false, Bool.true_and, Bool.false_and, Bool.and_false])
  cases hb
 simp only [h1_18]
 refine T2 (hK _ _ _ ?_)
 clear hK K
 refine hw_cond (b := false) rfl (fun hb => ?_) (fun hb => ?_)
 ·
  cases hb
 refine hw_skip ?_
 refine T0 (hK _ _ _ ?_)
 clear hK K
 refine hw_seq fun K hK => ?_
 refine R0 ?_
 refine hw_block ?_
 have hk50 : r.k.length ≤ 50 := by simp at h1_12; omega
 refine hw_loop (α := {i : Nat // i ≤ r.k.length ∧ ∀ x ∈ r.k.take i, lightK x = true}) (fun i => (fin [(1, .ptr 0 0), (3, .c (.int .i64 i.1))], fob [(0, .box 26 (.c r.cv))])) 100 (fun i => r.k.length - i.1) ⟨0, by omega, by simp⟩ (fF) ?_
 rintro ⟨i, hi, h0⟩
 refine hw_seq fun K hK => ?_
 refine hw_seq fun K hK => hw_region (by kernel_rfl) ?_
 simp only [sR, simprocAttr]
 iterate 5 refine S0 ?_ (e := fun K_ h_ => by simp only [sH, ↓sP, sA, tyS, simprocAttr, h1_7, h1_12, h1_18]; exact AX h_)
 refine T2 (hK _ _ _ ?_)
 clear hK K
 refine hw_cond (b := decide ((i : Int) < r.k.length)) rfl (fun hb => ?_) (fun hb => ?_)
 ·
  have hlt : i < r.k.length := by simpa using hb
  refine hw_skip ?_
  refine T0 (hK _ _ _ ?_)
  clear hK K
  refine hw_seq fun K hK => ?_
  refine hw_block ?_
  refine hw_seq fun K hK => hw_region (by kernel_rfl) ?_
  simp only [sR, simprocAttr]
  iterate 9 refine S0 ?_ (e := fun K_ h_ => by simp only [sH, ↓sP, sA, tyS, simprocAttr, Int.natCast_nonneg, Int.ofNat_lt, hlt, nth_map hlt, h1_7, h1_12, h1_18]; exact AX h_)
  refine hlex_cases 34 rfl (fun h6_34 => ?_) (fun h6_34 => ?_)
  ·
   iterate 8 refine S0 ?_ (e := fun K_ h_ => by simp only [sH, ↓sP, sA, tyS, simprocAttr, Int.natCast_nonneg, Int.ofNat_lt, hlt, nth_map hlt, h1_7, h1_12, h1_18, h6_34]; exact AX h_)
   refine S0 ?_ (e := fun K_ h_ => by simp only [sH, ↓sP, sA, tyS, simprocAttr, Int.natCast_nonneg, Int.ofNat_lt, hlt, nth_map hlt, h1_7, h1_12, h1_18, h6_34]; exact AX h_)
   refine T2 (hK _ _ _ ?_)
   clear hK K
   refine hw_cond (b := true) rfl (fun hb => ?_) (fun hb => ?_)
   ·
    refine R0 ?_
    refine hw_ret ?_
    simp only [hpost, Tryz.results24, hresL, hres1, tupOf, ↓sP, sA, tyS, simprocAttr]
    exact hret_pure [] (.bool false) rfl (by rw [light_bad hlt (by simp only [lightK_code, h1_7, h1_12, h1_18, h6_34, Bool.not_true, Bool.not_false, Bool.true_and, Bool.false_and, Bool.and_false])])
   cases hb
  iterate 8 refine S0 ?_ (e := fun K_ h_ => by simp only [sH, ↓sP, sA, tyS, simprocAttr, Int.natCast_nonneg, Int.ofNat_lt, hlt, nth_map hlt, h1_7, h1_12, h1_18, h6_34]; exact AX h_)
  refine S0 ?_ (e := fun K_ h_ => by simp only [sH, ↓sP, sA, tyS, simprocAttr, Int.natCast_nonneg, Int.ofNat_lt, hlt, nth_map hlt, h1_7, h1_12, h1_18, h6_34]; exact AX h_)
  refine hlex_cases 43 rfl (fun h6_43 => ?_) (fun h6_43 => ?_)
  ·
   simp only [h6_43]
   refine T2 (hK _ _ _ ?_)
   clear hK K
   refine hw_cond (b := true) rfl (fun hb => ?_) (fun hb => ?_)
   ·
    refine R0 ?_
    refine hw_ret ?_
    simp only [hpost, Tryz.results24, hresL, hres1, tupOf, ↓sP, sA, tyS, simprocAttr]
    exact hret_pure [] (.bool false) rfl (by rw [light_bad hlt (by simp only [lightK_code, h1_7, h1_12, h1_18, h6_34, h6_43, Bool.not_true, Bool.not_false, Bool.true_and, Bool.false_and, Bool.and_false])])
   cases hb
  simp only [h6_43]
  refine T2 (hK _ _ _ ?_)
  clear hK K
  refine hw_cond (b := false) rfl (fun hb => ?_) (fun hb => ?_)
  ·
   cases hb
  refine hw_skip ?_
  refine T0 (hK _ _ _ ?_)
  clear hK K
  refine hw_region (by kernel_rfl) ?_
  simp only [↓sP, sA, tyS, simprocAttr, i64s i]
  refine ⟨⟨i + 1, hlt, fun x hx => ?_⟩, fF, ?_⟩
  ·
   rw [List.take_succ_eq_append_getElem hlt, List.mem_append, List.mem_singleton] at hx
   rcases hx with hx | rfl
   ·
    exact h0 x hx
   simp only [lightK_code, h1_7, h1_12, h1_18, h6_34, h6_43, Bool.not_false, Bool.true_and]
  show r.k.length - (i + 1) < r.k.length - i
  omega
 refine hw_exit ?_
 simp only [↓sP, sA, tyS, simprocAttr]
 clear hK K
 refine AX (hK _ _ _ ?_)
 clear hK K
 refine R0 ?_
 refine hw_ret ?_
 simp only [hpost, Tryz.results24, hresL, hres1, tupOf, ↓sP, sA, tyS, simprocAttr]
 have hei : i = r.k.length := by simp at hb; omega
 subst hei
 rw [List.take_length] at h0
 exact hret_pure [] (.bool true) rfl (by rw [light_code, List.all_eq_true.2 h0, h1_7, h1_12, h1_18]; rfl)


end Go.Proofs.YtenbfeemmpjdhaaGreatDoor

namespace Go.Proofs.YtenbfeemmpjdhaaGreatDoor
open Go Go.Hl Go.Pl
set_option maxRecDepth 10000
set_option maxHeartbeats 4000000
set_option linter.unusedSimpArgs false
set_option linter.unusedVariables false
attribute [local simp] tp

theorem roots_ok (raw : Rt) (L : List Int) (hraw : rRaw raw) : HPure Tryz.prog 7 [raw.cv, .slc (L.map (.int .i64))] (fun v => ∃ rs : List Rt, v = .slc (rs.map Rt.cv) ∧ rs.length ≤ 3 ∧ ∀ r ∈ rs, rSz r) := by
 refine hfn_walk Tryz.func7 rfl (by kernel_rfl) (locOk_nil _) (Nat.le_of_ble_eq_true rfl) ?_
 refine R0 ?_
 refine hw_seq fun K hK => hw_region (by kernel_rfl) ?_
 simp only [sR, simprocAttr]
 iterate 4 refine S0 ?_ (e := fun K_ h_ => by simp only [sH, ↓sP, sA, tyS, simprocAttr, denilL_int]; exact AX h_)
 refine T2 (hK _ _ _ ?_)
 clear hK K
 refine hw_seq fun K hK => hw_region (by kernel_rfl) ?_
 simp only [sR, simprocAttr]
 iterate 2 refine S0 ?_
 refine hlex_step (g := none) rfl rfl fun K' hK' => ?_
 simp only [sH, ↓sP, sA, tyS, simprocAttr]
 refine call_box (args := [_]) (next_ok L 0 3 (by omega) (by omega)) rfl (by simp) ⟨rfl, rfl, rfl, rfl⟩ ?_
 rintro u v' ⟨x, a1, rfl, rfl, k1, k2, k3, k4⟩
 refine AX (hK' _ _ ?_)
 clear hK' K'
 refine S0 ?_
 refine hlex_step (g := none) rfl rfl fun K' hK' => ?_
 simp only [sH, ↓sP, sA, tyS, simprocAttr]
 refine call_box (args := [_]) (root_ok L a1 (IntKind.i64.wrap (1 + x)) (by omega)) rfl (by simp) ⟨rfl, rfl, rfl, rfl⟩ ?_
 rintro u v' ⟨r, a2, rfl, rfl, k5, hr, hv⟩
 have e1 : IntKind.i64.wrap (1 + x) = 1 + x := IntWalk.i64_in _ (by omega)
 rw [e1] at hv
 obtain ⟨hm, hk0, hq0, hx0⟩ := rMid_of_valid (hv (by omega) (by unfold maxN; omega))
 refine AX (hK' _ _ ?_)
 clear hK' K'
 iterate 2 refine S0 ?_
 refine T2 (hK _ _ _ ?_)
 clear hK K
 refine hw_seq fun K hK => hw_draw2 mixed [(0, [], []), (1, [], []), (2, [], []), (3, [], [0]), (4, [], []), (5, [], [])] [0, 0, 0, 6, 15, 31] (by kernel_rfl) (by kernel_rfl) (by kernel_rfl) (by kernel_rfl) rfl (by kernel_rfl) ?_
 iterate 3 refine W0 ?_ (e := fun K_ h_ => by simp only [sH, ↓sP, sA, tyS, simprocAttr, cells_rt]; exact AX h_)
 refine hwalk2_step (g := none) rfl rfl fun K' hK' => ?_
 simp only [sH, ↓sP, sA, tyS, simprocAttr, cells_rt]
 refine call_boxl (args := [_]) (odd_ok (fun i hi => mid_ok i hi) r L a2 (by omega) hm hk0 hq0 hx0) rfl (by simp) ⟨rfl, rfl, rfl, rfl⟩ ?_
 rintro u v' ⟨r2, a3, rfl, rfl, k6, hm2⟩
 refine AX (hK' _ _ ?_)
 clear hK' K'
 iterate 2 refine W0 ?_ (e := fun K_ h_ => by simp only [sH, ↓sP, sA, tyS, simprocAttr, cells_rt]; exact AX h_)
 refine T2 (hK _ _ _ ?_)
 clear hK K
 refine hw_seq fun K hK => ?_
 have key : ∀ (m : List Rt) fr ob nx, m.length ≤ 3 → (∀ r ∈ m, rSz r) → Fits 0 fr ob (fin [(7, .own 68 m.length)]) (fob [(68, .row 26 5 (m.map Rt.cv))]) 500 → K fr ob nx := by
  intro m fr ob nx w1 w2 hf
  refine hK _ _ _ (hw_fits hf ?_)
  clear hf hK K
  refine R0 ?_
  refine hw_ret ?_
  simp only [hpost, Tryz.results7, hresL, hres1, tupOf, ↓sP, sA, tyS, simprocAttr]
  refine hret_pure [68] (.slc (m.map Rt.cv)) ?_ ⟨m, rfl, w1, w2⟩
  simp [HV.close, upd_at, fob_at, HV.norm, HV.toC, List.take_of_length_le]
 refine hw_seq fun K hK => hw_region (by kernel_rfl) ?_
 simp only [sR, simprocAttr]
 refine S0 ?_
 refine hlex_step (g := none) rfl rfl fun K' hK' => ?_
 simp only [sH, ↓sP, sA, tyS, simprocAttr]
 refine call_pure (args := [_]) (light_ok raw) ⟨rfl, rfl, rfl, rfl⟩ ?_
 rintro u rfl
 refine AX (hK' _ _ ?_)
 clear hK' K'
 refine T2 (hK _ _ _ ?_)
 clear hK K
 refine hw_cond (b := lightB raw) rfl (fun hb => ?_) (fun hb => ?_)
 ·
  refine hw_region (by kernel_rfl) ?_
  simp only [sR, simprocAttr]
  iterate 5 refine S0 ?_ (e := fun K_ h_ => by simp only [sH, ↓sP, sA, tyS, simprocAttr, List.length_append, cells_rt]; exact AX h_)
  simp only [sE, ↓reduceIte, simprocAttr]
  exact key [r, r2, raw] _ _ _ (by simp) (by intro z hz; simp only [List.mem_cons, List.not_mem_nil, or_false] at hz; rcases hz with rfl | rfl | rfl <;> first | exact hr.1 | exact hm2.sz | exact light_sz hraw hb) (fF)
 refine hw_skip ?_
 simp only [↓sP, sA, tyS, simprocAttr]
 exact key [r, r2] _ _ _ (by simp) (by intro z hz; simp only [List.mem_cons, List.not_mem_nil, or_false] at hz; rcases hz with rfl | rfl <;> first | exact hr.1 | exact hm2.sz) (fF)

end Go.Proofs.YtenbfeemmpjdhaaGreatDoor
