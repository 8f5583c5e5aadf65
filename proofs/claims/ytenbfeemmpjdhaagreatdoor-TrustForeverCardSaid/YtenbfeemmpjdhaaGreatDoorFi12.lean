/- TrustForever: for any tape of numbers the law returns true and leaves it as it was: in any sequence of rotations a key that was revoked never counts again at the time of its revocation or later, and versions rise by one. The listed tables of the library are tied to the program's text by the card. By an AI agent. -/
import Derived.Test.YtenbfeemmpjdhaaGreatDoorHySq
import Derived.Test.YtenbfeemmpjdhaaGreatDoorHyU1
import Derived.Test.YtenbfeemmpjdhaaGreatDoorHlZb
import Derived.Test.YtenbfeemmpjdhaaGreatDoorHyFm
import Derived.Test.YtenbfeemmpjdhaaGreatDoorHlFl
import Derived.Test.YtenbfeemmpjdhaaGreatDoorPl11A
import Derived.Test.YtenbfeemmpjdhaaGreatDoorHyTg
import Derived.Test.YtenbfeemmpjdhaaGreatDoorHyVa
import Derived.Test.YtenbfeemmpjdhaaGreatDoorHyTz
import Derived.Lay
import Derived.SevenTiedAt
import Derived.Test.YtenbfeemmpjdhaaGreatDoorRows
import Derived.Test.YtenbfeemmpjdhaaGreatDoorCards
import Derived.Test.YtenbfeemmpjdhaaGreatDoorTie
set_option linter.unusedSimpArgs false
set_option linter.unusedVariables false
set_option linter.defProp false
namespace Go.Proofs.YtenbfeemmpjdhaaGreatDoor
open Go Go.Hl Go.Pl
set_option maxRecDepth 10000
set_option maxHeartbeats 2000000
set_option linter.unusedSimpArgs false
set_option linter.unusedVariables false

theorem num2_ok (n : Int) (hn : -9223372036854775808 ≤ n ∧ n ≤ 9223372036854775807) : HPure Tryz.prog 74 [.int .i64 n] (fun v => v = .str (numW n)) := by
 refine hfn_walk Tryz.func74 rfl (by kernel_rfl) (locOk_nil _) (Nat.le_of_ble_eq_true rfl) ?_
 refine R0 ?_
 refine hw_seq fun K hK => ?_
 refine R0 ?_
 refine hw_cond (b := n == 0) rfl (fun hb => ?_) (fun hb => ?_)
 ·
  refine R0 ?_
  refine hw_ret ?_
  simp only [hpost, Tryz.results74, hresL, hres1, tupOf, ↓sP, sA, tyS, simprocAttr]
  exact hret_pure [] (.str [48]) rfl (by rw [show n = 0 from by simpa using hb, numW_zero])
 refine hw_skip ?_
 refine T0 (hK _ _ _ ?_)
 clear hK K
 have hne : n ≠ 0 := by simpa using hb
 clear hb
 refine hw_seq fun K hK => Rg ?_
 iterate 4 refine S0 ?_
 refine T2 (hK _ _ _ ?_)
 clear hK K
 refine hw_seq fun K hK => ?_
 have key : ∀ (sg : Word) (u : Nat) fr ob nx, (u < 18446744073709551616 ∧ u ≠ 0 ∧ sg.length ≤ 1 ∧ numW n = sg ++ Lib.decDigits u) → Fits 0 fr ob (fin [(3, .c (.str sg)), (4, .c (.int .u64 u))]) (fob []) 600 → K fr ob nx := by
  rintro sg u fr ob nx ⟨hu, hu0, hsg, hnum⟩ hf
  refine hK _ _ _ (hw_fits hf ?_)
  clear hf hK K
  have hdl := decD_len hu
  refine R0 ?_
  refine hw_seq fun K hK => ?_
  refine hw_block ?_
  refine hw_loop (α := {y : Nat × Word // y.1 ≤ u ∧ (if y.1 = 0 then [] else Lib.decDigits y.1) ++ y.2 = Lib.decDigits u}) (fun y => (fin [(3, .c (.str sg)), (4, .c (.int .u64 y.1.1)), (5, .c (.str y.1.2))], fob [])) 100 (fun y => y.1.1) ⟨(u, []), by simp, by simp [hu0]⟩ (fF) ?_
  rintro ⟨⟨v, s⟩, hv, hs⟩
  simp only at hv hs ⊢
  have hsl : s.length ≤ 20 := by
   have := congrArg List.length hs
   rw [List.length_append] at this
   omega
  refine hw_seq fun K hK => ?_
  refine R0 ?_
  refine hw_cond (b := decide ((0 : Int) < v)) rfl (fun hb => ?_) (fun hb => ?_)
  ·
   have hv0 : v ≠ 0 := by simp at hb; omega
   clear hb
   have hv64 : v < 18446744073709551616 := by omega
   have h10 : ((10 : Int) = 0) ↔ False := by simp
   have hsl1 : [UInt8.ofNat (48 + v % 10)].length + s.length ≤ 9223372036854775807 := by simp; omega
   rw [if_neg hv0, dec_step hv0] at hs
   refine hw_skip ?_
   refine T0 (hK _ _ _ ?_)
   clear hK K
   refine hw_block ?_
   refine hw_seq fun K hK => hw_regionG (by kernel_rfl) ?_
   simp only [sR, simprocAttr]
   iterate 4 refine SG0 ?_ (e := fun _ h_ => by simp only [sH, ↓sP, sA, tyS, simprocAttr, dig_byte, bytesC_one, h10, hsl1]; exact AX h_)
   refine hlexG_stepC (g := none) 124 rfl rfl fun K' hK' => ?_
   simp only [hop1C, mkId, sH, ↓sP, sA, tyS, simprocAttr, dig_byte, bytesC_one, h10, hsl1]
   repeat refine AI ?_
   refine closeK_mk (by first | rfl | simp) ?_
   try simp only [sH, ↓sP, sA, tyS, simprocAttr, dig_byte, bytesC_one, h10, hsl1]
   refine AX (hK' _ _ ?_)
   clear hK' K'
   iterate 4 refine SG0 ?_ (e := fun _ h_ => by simp only [sH, ↓sP, sA, tyS, simprocAttr, dig_byte, bytesC_one, h10, hsl1]; exact AX h_)
   refine T2 (hK _ _ _ ?_)
   clear hK K
   refine hw_region (by kernel_rfl) ?_
   simp only [↓sP, sA, tyS, simprocAttr, quo_nat hv64, h10]
   refine ⟨⟨(v / 10, [UInt8.ofNat (48 + v % 10)] ++ s), by simp only; omega, by simp only; rw [← hs, List.append_assoc]⟩, fF, ?_⟩
   show v / 10 < v
   omega
  have hv0 : v = 0 := by simp at hb; omega
  clear hb
  subst hv0
  rw [if_pos rfl, List.nil_append] at hs
  subst hs
  have hle : sg.length + (Lib.decDigits u).length ≤ 9223372036854775807 := by omega
  refine hw_exit ?_
  simp only [↓sP, sA, tyS, simprocAttr]
  clear hK K
  refine AX (hK _ _ _ ?_)
  clear hK K
  refine hw_seq fun K hK => Rg ?_
  iterate 4 refine S0 ?_ (e := fun _ h_ => by simp only [sH, ↓sP, sA, tyS, simprocAttr, hle]; exact AX h_)
  refine T2 (hK _ _ _ ?_)
  clear hK K
  refine hw_ret ?_
  simp only [hpost, Tryz.results74, hresL, hres1, tupOf, ↓sP, sA, tyS, simprocAttr]
  exact hret_pure [] (.str _) rfl (by rw [hnum])
 refine R0 ?_
 refine hw_cond (b := decide (n < 0)) rfl (fun hb => ?_) (fun hb => ?_)
 ·
  have hlt : n < 0 := by simpa using hb
  refine hw_region (by kernel_rfl) ?_
  simp only [sR, simprocAttr]
  iterate 4 refine S0 ?_ (e := fun _ h_ => by simp only [sH, ↓sP, sA, tyS, simprocAttr, neg_abs hlt hn.1]; exact AX h_)
  simp only [sE, ↓reduceIte, simprocAttr]
  first
   | exact key [45] n.natAbs _ _ _ ⟨by omega, by omega, by simp, numW_neg (by simpa using hb)⟩ (by rw [← neg_abs (by simpa using hb) hn.1]; exact fF)
   | (have h0 : 0 ≤ n := (by simp at hb; omega); exact key [] n.natAbs _ _ _ ⟨by omega, by omega, by simp, numW_pos h0⟩ (by rw [← pos_abs h0 hn.2]; exact fF))
 refine hw_skip ?_
 simp only [↓sP, sA, tyS, simprocAttr]
 first
  | exact key [45] n.natAbs _ _ _ ⟨by omega, by omega, by simp, numW_neg (by simpa using hb)⟩ (by rw [← neg_abs (by simpa using hb) hn.1]; exact fF)
  | (have h0 : 0 ≤ n := (by simp at hb; omega); exact key [] n.natAbs _ _ _ ⟨by omega, by omega, by simp, numW_pos h0⟩ (by rw [← pos_abs h0 hn.2]; exact fF))


theorem num11_ok (n : Int) (hn : -9223372036854775808 ≤ n ∧ n ≤ 9223372036854775807) : HPure Tryz.prog 27 [.int .i64 n] (fun v => v = .str (numW n)) := by
 refine hfn_walk Tryz.func27 rfl (by kernel_rfl) (locOk_nil _) (Nat.le_of_ble_eq_true rfl) ?_
 refine R0 ?_
 refine hw_seq fun K hK => Rg ?_
 refine S0 ?_
 refine hlex_step (g := none) rfl rfl fun K' hK' => ?_
 simp only [sH, ↓sP, sA, tyS, simprocAttr]
 refine call_pure (args := [_]) (num2_ok n hn) ⟨rfl, rfl, rfl, rfl⟩ ?_
 rintro u rfl
 refine AX (hK' _ _ ?_)
 clear hK' K'
 refine S0 ?_
 refine T2 (hK _ _ _ ?_)
 clear hK K
 refine hw_ret ?_
 simp only [hpost, Tryz.results27, hresL, hres1, tupOf, ↓sP, sA, tyS, simprocAttr]
 exact hret_pure [] (.str _) rfl rfl


end Go.Proofs.YtenbfeemmpjdhaaGreatDoor

namespace Go.Proofs.YtenbfeemmpjdhaaGreatDoor
open Go Go.Hl Go.Pl
set_option maxRecDepth 10000
set_option maxHeartbeats 2000000
set_option linter.unusedSimpArgs false
set_option linter.unusedVariables false

theorem word2_ok (w : Word) (hl : w.length < 2 ^ 40) : HPure Tryz.prog 76 [.str w] (fun v => v = .str (encW w)) := by
 refine hfn_walk Tryz.func76 rfl (by kernel_rfl) (locOk_nil _) (Nat.le_of_ble_eq_true rfl) ?_
 refine R0 ?_
 refine hw_seq fun K hK => ?_
 refine R0 ?_
 refine hw_cond (b := w == []) rfl (fun hb => ?_) (fun hb => ?_)
 ·
  refine R0 ?_
  refine hw_ret ?_
  simp only [hpost, Tryz.results76, hresL, hres1, tupOf, ↓sP, sA, tyS, simprocAttr]
  exact hret_pure [] (.str [126]) rfl (by rw [encW, if_pos (by simpa using hb)])
 refine hw_skip ?_
 refine T0 (hK _ _ _ ?_)
 clear hK K
 have hne : w ≠ [] := by simpa using hb
 clear hb
 refine R0 ?_
 refine R0 ?_
 refine hw_seq fun K hK => ?_
 refine R0 ?_
 refine hw_block ?_
 refine hw_own 4 0 5 1 rfl rfl rfl rfl ?_
 refine hw_loop (α := {i : Nat // i ≤ w.length}) (fun i => (fin [(0, .c (.str w)), (3, .c (.str [48, 49, 50, 51, 52, 53, 54, 55, 56, 57, 65, 66, 67, 68, 69, 70])), (4, .own 24 (encBs (w.take i.1)).length), (5, .c (.int .i64 i.1))], fob [(24, .row 5 1 ((encBs (w.take i.1)).map byteC))])) 100 (fun i => w.length - i.1) ⟨0, by omega⟩ (fF) ?_
 rintro ⟨i, hi⟩
 have hle := encBs_take_le w i
 have hle3 := encBs_le w
 refine hw_seq fun K hK => ?_
 refine hw_seq fun K hK => Rg ?_
 iterate 4 refine S0 ?_
 refine T2 (hK _ _ _ ?_)
 clear hK K
 refine hw_cond (b := decide ((i : Int) < w.length)) rfl (fun hb => ?_) (fun hb => ?_)
 ·
  have hlt : i < w.length := by simpa using hb
  have hgd : w.getD i 0 = w[i] := by simp [hlt]
  have hs := encBs_take hlt
  refine hw_skip ?_
  refine T0 (hK _ _ _ ?_)
  clear hK K
  refine hw_seq fun K hK => ?_
  refine hw_block ?_
  refine hw_seq fun K hK => Rg ?_
  iterate 3 refine S0 ?_ (e := fun _ h_ => by simp only [sH, ↓sP, sA, tyS, simprocAttr, Int.natCast_nonneg, Int.ofNat_lt, hlt, hgd]; exact AX h_)
  refine hlex_step (g := none) rfl rfl fun K' hK' => ?_
  simp only [sH, ↓sP, sA, tyS, simprocAttr, Int.natCast_nonneg, Int.ofNat_lt, hlt, hgd]
  refine call_pure (args := [_]) (plain2_ok w[i]) ⟨rfl, rfl, rfl, rfl⟩ ?_
  rintro u rfl
  refine AX (hK' _ _ ?_)
  clear hK' K'
  refine T2 (hK _ _ _ ?_)
  clear hK K
  refine hw_cond (b := plainB w[i]) rfl (fun hb => ?_) (fun hb => ?_)
  ·
   refine hw_region (by kernel_rfl) ?_
   simp only [sR, simprocAttr]
   iterate 7 refine S0 ?_ (e := fun _ h_ => by simp only [sH, ↓sP, sA, tyS, simprocAttr, Int.natCast_nonneg, Int.ofNat_lt, hlt, hgd, List.length_append, List.length_map]; exact AX h_)
   refine T2 (hK _ _ _ ?_)
   clear hK K
   refine hw_region (by kernel_rfl) ?_
   simp only [↓sP, sA, tyS, simprocAttr, i64s i]
   refine ⟨⟨i + 1, hlt⟩, fits_fin (by omega) ?_ ?_, ?_⟩
   ·
    rw [hs, encB, if_pos hb]
    simp [FinOk, upd_at, fin_at, HV.men]
   ·
    rw [hs, encB, if_pos hb, List.map_append]
    exact ⟨rfl, by omega, trivial, trivial⟩
   show w.length - (i + 1) < w.length - i
   omega
  have h16 : ((w[i].toNat / 16 : Nat) : Int) < 16 := by have := w[i].toNat_lt; omega
  have h15 : ((w[i].toNat % 16 : Nat) : Int) < 16 := by omega
  refine hw_draw2 mixed [(0, [], []), (1, [], []), (2, [], []), (3, [], []), (4, [], []), (5, [], []), (6, [], []), (7, [], []), (8, [], []), (9, [], []), (10, [], []), (11, [], []), (12, [], []), (13, [], []), (14, [], []), (15, [], [])] [0, 0, 0, 0, 12, 28, 62, 0, 0, 0, 768, 1792, 3968, 8190, 16383, 32767] (by kernel_rfl) (by kernel_rfl) (by kernel_rfl) (by kernel_rfl) rfl (by kernel_rfl) ?_
  iterate 16 refine W0 ?_ (e := fun _ h_ => by simp only [sH, ↓sP, sA, tyS, simprocAttr, Int.natCast_nonneg, Int.ofNat_lt, hlt, hgd, List.length_append, List.length_map, shr4, and15, h16, h15]; exact AX h_)
  refine T2 (hK _ _ _ ?_)
  clear hK K
  refine hw_region (by kernel_rfl) ?_
  simp only [↓sP, sA, tyS, simprocAttr, i64s i]
  refine ⟨⟨i + 1, hlt⟩, fits_fin (by omega) ?_ ?_, ?_⟩
  ·
   rw [hs, encB, if_neg (by rw [hb]; simp)]
   simp [FinOk, upd_at, fin_at, HV.men]
  ·
   rw [hs, encB, if_neg (by rw [hb]; simp), List.map_append]
   exact ⟨rfl, by omega, trivial, trivial⟩
  show w.length - (i + 1) < w.length - i
  omega
 refine hw_exit ?_
 simp only [↓sP, sA, tyS, simprocAttr]
 clear hK K
 refine AX (hK _ _ _ ?_)
 clear hK K
 refine hw_close [24] (hw_fits (fr2 := fin [(4, .c (.slc ((encBs (w.take i)).map byteC)))]) (ob2 := fob []) (nx2 := 200) (fits_fin (by omega) (by simp [FinOk, clF_at, fin_at, finA_at, upd_at, fob_at, HV.close, HV.closeL, CV.denil, CV.denilL, denilL_byte, HV.men, HV.menL, HV.norm, HV.toC, HV.toCL]) (by simp [FobOk, clO_at, fob_at, upd_at, none0_at, gone, HO.close, HV.close, HV.closeL, HO.men, HV.men, HV.menL, HV.norm, HV.toC, HV.toCL])) ?_)
 refine R0 ?_ (e := fun _ h_ => by simp only [↓sP, sA, tyS, simprocAttr, bytesC_map]; exact AX h_)
 refine hw_ret ?_
 simp only [hpost, Tryz.results76, hresL, hres1, tupOf, ↓sP, sA, tyS, simprocAttr]
 have hei : i = w.length := by simp at hb; omega
 subst hei
 exact hret_pure [] (.str (encBs w)) (by rw [List.take_length]; rfl) (by rw [encW, if_neg hne])


theorem enc2_ok (ls : List (List Word)) (h0 : ls.length < 2 ^ 40) (h1 : ∀ l ∈ ls, l.length < 2 ^ 40) : HPure2 Tryz.prog 30 [.slc (ls.map fun l => .slc (l.map .str))] (fun u v => u = .slc ((encO ls).map byteC) ∧ v = .int .i64 (encE ls)) := by
 refine hfn_walk Tryz.func30 rfl (by kernel_rfl) (locOk_nil _) (Nat.le_of_ble_eq_true rfl) ?_
 refine R0 ?_
 refine hw_seq fun K hK => ?_
 refine R0 ?_
 refine hw_cond (b := decide ((1000 : Int) < ls.length)) rfl (fun hb => ?_) (fun hb => ?_)
 ·
  refine R0 ?_
  refine hw_ret ?_
  simp only [hpost, Tryz.results30, hresL, hres1, tupOf, ↓sP, sA, tyS, simprocAttr]
  have hE := encE_long (ls := ls) (by simp at hb; omega)
  refine hret_pure2 [] (.slc []) (.int .i64 3) ?_ ⟨by rw [encO_nil (by rw [hE]; decide)]; rfl, by rw [hE]⟩
  simp [HV.close, HV.closeL, CV.denil, CV.denilL, HV.norm, HV.toC, HV.toCL]
 refine hw_skip ?_
 refine T0 (hK _ _ _ ?_)
 clear hK K
 have hn : ls.length ≤ 1000 := by simp at hb; omega
 clear hb
 refine R0 ?_
 refine hw_seq fun K hK => ?_
 refine R0 ?_
 refine hw_block ?_
 refine hw_own 4 0 5 1 rfl rfl rfl rfl ?_
 refine hw_loop (α := {i : Nat // i ≤ ls.length ∧ ∀ x ∈ ls.take i, okL x = true}) (fun i => (fin [(0, .c (.slc (ls.map fun l => .slc (l.map .str)))), (4, .own 28 (docB (ls.take i.1)).length), (5, .c (.int .i64 i.1))], fob [(28, .row 5 1 ((docB (ls.take i.1)).map byteC))])) 100 (fun i => ls.length - i.1) ⟨0, by omega, by simp⟩ (fF) ?_
 rintro ⟨i, hi, hk⟩
 refine hw_seq fun K hK => ?_
 refine hw_seq fun K hK => Rg ?_
 iterate 4 refine S0 ?_
 refine T2 (hK _ _ _ ?_)
 clear hK K
 refine hw_cond (b := decide ((i : Int) < ls.length)) rfl (fun hb => ?_) (fun hb => ?_)
 ·
  have hlt : i < ls.length := by simpa using hb
  clear hb
  have hl1 := h1 ls[i] (List.getElem_mem hlt)
  have hne : ∀ l ∈ ls.take i, l ≠ [] := fun l hl => ((okL_iff l).1 (hk l hl)).1
  have hsd := sumD_le hk
  rw [List.length_take] at hsd
  have hdl := docB_len hne
  have hdt1 := docB_take hlt
  obtain ⟨l, hl⟩ : ∃ l, l = ls[i] := ⟨_, rfl⟩
  have hln : nth (ls.map fun l => CV.slc (l.map .str)) i = .slc (l.map .str) := by rw [nth_map hlt, hl]
  rw [← hl] at hdt1 hl1
  have hlti : (i : Int) < ls.length := by omega
  refine hw_skip ?_
  refine T0 (hK _ _ _ ?_)
  clear hK K
  refine hw_seq fun K hK => ?_
  refine hw_block ?_
  refine hw_seq fun K hK => ?_
  refine hw_seq fun K hK => Rg ?_
  iterate 6 refine S0 ?_ (e := fun _ h_ => by simp only [sH, ↓sP, sA, tyS, simprocAttr, Int.natCast_nonneg, Int.ofNat_lt, hlt, hln]; exact AX h_)
  refine T2 (hK _ _ _ ?_)
  clear hK K
  refine hw_cond (b := (l.length : Int) == 0) rfl (fun hb => ?_) (fun hb => ?_)
  ·
   refine R0 ?_
   refine hw_ret ?_
   simp only [hpost, Tryz.results30, hresL, hres1, tupOf, ↓sP, sA, tyS, simprocAttr]
   have hc : chkL l = 1 := by rw [chkL, if_pos (by simp at hb; simp [hb])]
   have hE := encE_bad hn hlt hk (by rw [← hl, okL, hc]; rfl)
   rw [← hl, hc] at hE
   refine hret_pure2 [] (.slc []) (.int .i64 1) ?_ ⟨by rw [encO_nil (by rw [hE]; decide)]; rfl, by rw [hE]⟩
   simp [HV.close, HV.closeL, CV.denil, CV.denilL, HV.norm, HV.toC, HV.toCL]
  refine hw_skip ?_
  refine T0 (hK _ _ _ ?_)
  clear hK K
  refine hw_seq fun K hK => ?_
  have hn0 : l.length ≠ 0 := by simp at hb; simp [hb]
  clear hb
  refine hw_seq fun K hK => Rg ?_
  iterate 6 refine S0 ?_ (e := fun _ h_ => by simp only [sH, ↓sP, sA, tyS, simprocAttr, Int.natCast_nonneg, Int.ofNat_lt, hlt, hln]; exact AX h_)
  refine T2 (hK _ _ _ ?_)
  clear hK K
  refine hw_cond (b := decide ((120 : Int) < l.length)) rfl (fun hb => ?_) (fun hb => ?_)
  ·
   refine R0 ?_
   refine hw_ret ?_
   simp only [hpost, Tryz.results30, hresL, hres1, tupOf, ↓sP, sA, tyS, simprocAttr]
   have hc : chkL l = 3 := by rw [chkL, if_neg hn0, if_pos (by simp at hb; omega)]
   have hE := encE_bad hn hlt hk (by rw [← hl, okL, hc]; rfl)
   rw [← hl, hc] at hE
   refine hret_pure2 [] (.slc []) (.int .i64 3) ?_ ⟨by rw [encO_nil (by rw [hE]; decide)]; rfl, by rw [hE]⟩
   simp [HV.close, HV.closeL, CV.denil, CV.denilL, HV.norm, HV.toC, HV.toCL]
  refine hw_skip ?_
  refine T0 (hK _ _ _ ?_)
  clear hK K
  refine hw_seq fun K hK => ?_
  have hn1 : l.length ≤ 120 := by simp at hb; omega
  clear hb
  refine R0 ?_
  refine hw_block ?_
  refine hw_loop (α := {k : Nat // k ≤ l.length ∧ ∀ x ∈ l.take k, x.length ≤ 32768}) (fun k => (fin [(0, .c (.slc (ls.map fun l => .slc (l.map .str)))), (4, .own 28 (docB (ls.take i) ++ sepW (l.take k.1)).length), (5, .c (.int .i64 i)), (6, .c (.int .i64 k.1))], fob [(28, .row 5 1 ((docB (ls.take i) ++ sepW (l.take k.1)).map byteC))])) 200 (fun k => l.length - k.1) ⟨0, by omega, by simp⟩ (fF) ?_
  rintro ⟨k, hk', hkw⟩
  have hsw := sepW_le2 (l.take k) hkw
  rw [List.length_take] at hsw
  refine hw_seq fun K hK => ?_
  refine hw_seq fun K hK => Rg ?_
  iterate 7 refine S0 ?_ (e := fun _ h_ => by simp only [sH, ↓sP, sA, tyS, simprocAttr, Int.natCast_nonneg, hlti, hln]; exact AX h_)
  refine T2 (hK _ _ _ ?_)
  clear hK K
  refine hw_cond (b := decide ((k : Int) < l.length)) rfl (fun hb => ?_) (fun hb => ?_)
  ·
   have hlk : k < l.length := by simpa using hb
   clear hb
   refine hw_skip ?_
   refine T0 (hK _ _ _ ?_)
   clear hK K
   refine hw_seq fun K hK => ?_
   refine hw_block ?_
   refine hw_seq fun K hK => ?_
   refine hw_seq fun K hK => Rg ?_
   iterate 9 refine S0 ?_ (e := fun _ h_ => by simp only [sH, ↓sP, sA, tyS, simprocAttr, Int.natCast_nonneg, Int.ofNat_lt, hlt, hln, hlk, nth_map hlk]; exact AX h_)
   refine T2 (hK _ _ _ ?_)
   clear hK K
   refine hw_cond (b := decide ((32768 : Int) < l[k].length)) rfl (fun hb => ?_) (fun hb => ?_)
   ·
    refine R0 ?_
    refine hw_ret ?_
    simp only [hpost, Tryz.results30, hresL, hres1, tupOf, ↓sP, sA, tyS, simprocAttr]
    have hc : chkL l = 3 := by rw [chkL, if_neg hn0, if_neg (by omega), if_pos]; simp only [List.any_eq_true, decide_eq_true_eq]; exact ⟨_, List.getElem_mem hlk, by simp at hb; omega⟩
    have hE := encE_bad hn hlt hk (by rw [← hl, okL, hc]; rfl)
    rw [← hl, hc] at hE
    refine hret_pure2 [] (.slc []) (.int .i64 3) ?_ ⟨by rw [encO_nil (by rw [hE]; decide)]; rfl, by rw [hE]⟩
    simp [HV.close, HV.closeL, CV.denil, CV.denilL, HV.norm, HV.toC, HV.toCL]
   refine hw_skip ?_
   refine T0 (hK _ _ _ ?_)
   clear hK K
   refine hw_seq fun K hK => ?_
   have hw2 : l[k].length ≤ 32768 := by simp at hb; omega
   clear hb
   have hel := encW_len l[k]
   have hsz := sizeW_le l[k]
   have hsp := sizeW_pos l[k]
   have hpe : 0 < (encW l[k]).length := by omega
   have htk := sepW_take hlk
   have hbe : (docB (ls.take i)).length + (sepW (l.take k)).length + (encW l[k]).length ≤ 140737488355328 := by omega
   have hbe1 : (docB (ls.take i)).length + (sepW (l.take k)).length + 1 + (encW l[k]).length ≤ 140737488355328 := by omega
   refine R0 ?_
   refine hw_cond (b := decide ((0 : Int) < k)) rfl (fun hb => ?_) (fun hb => ?_)
   ·
    refine hw_region (by kernel_rfl) ?_
    simp only [sR, simprocAttr]
    iterate 4 refine S0 ?_ (e := fun _ h_ => by simp only [sH, ↓sP, sA, tyS, simprocAttr, List.length_append, List.length_map]; exact AX h_)
    refine T2 (hK _ _ _ ?_)
    clear hK K
    refine hw_region (by kernel_rfl) ?_
    simp only [sR, simprocAttr]
    iterate 8 refine S0 ?_ (e := fun _ h_ => by simp only [sH, ↓sP, sA, tyS, simprocAttr, Int.natCast_nonneg, Int.ofNat_lt, hlt, hln, hlk, nth_map hlk, List.length_append, List.length_map, hpe, hbe, hbe1]; exact AX h_)
    refine hlex_step (g := none) rfl rfl fun K' hK' => ?_
    simp only [sH, ↓sP, sA, tyS, simprocAttr, Int.natCast_nonneg, Int.ofNat_lt, hlt, hln, hlk, nth_map hlk, List.length_append, List.length_map, hpe, hbe, hbe1]
    refine call_pure (args := [_]) (word2_ok l[k] (by omega)) ⟨rfl, rfl, rfl, rfl⟩ ?_
    rintro u rfl
    refine AX (hK' _ _ ?_)
    clear hK' K'
    iterate 2 refine S0 ?_ (e := fun _ h_ => by simp only [sH, ↓sP, sA, tyS, simprocAttr, Int.natCast_nonneg, Int.ofNat_lt, hlt, hln, hlk, nth_map hlk, List.length_append, List.length_map, hpe, hbe, hbe1]; exact AX h_)
    refine T2 (hK _ _ _ ?_)
    clear hK K
    refine hw_region (by kernel_rfl) ?_
    simp only [↓sP, sA, tyS, simprocAttr, i64s k]
    have hk0 : k ≠ 0 := by simp at hb; omega
    refine ⟨⟨k + 1, hlk, all_takeP (p := fun x => x.length ≤ 32768) hlk hw2 hkw⟩, fits_fin (by omega) ?_ ?_, ?_⟩
    ·
     rw [htk, if_neg hk0]
     simp [FinOk, upd_at, fin_at, HV.men]
     omega
    ·
     rw [htk, if_neg hk0]
     simp only [List.map_append, ← List.append_assoc]
     exact ⟨rfl, by omega, trivial, trivial⟩
    show l.length - (k + 1) < l.length - k
    omega
   refine hw_skip ?_
   refine T0 (hK _ _ _ ?_)
   clear hK K
   refine hw_region (by kernel_rfl) ?_
   simp only [sR, simprocAttr]
   iterate 8 refine S0 ?_ (e := fun _ h_ => by simp only [sH, ↓sP, sA, tyS, simprocAttr, Int.natCast_nonneg, Int.ofNat_lt, hlt, hln, hlk, nth_map hlk, List.length_append, List.length_map, hpe, hbe, hbe1]; exact AX h_)
   refine hlex_step (g := none) rfl rfl fun K' hK' => ?_
   simp only [sH, ↓sP, sA, tyS, simprocAttr, Int.natCast_nonneg, Int.ofNat_lt, hlt, hln, hlk, nth_map hlk, List.length_append, List.length_map, hpe, hbe, hbe1]
   refine call_pure (args := [_]) (word2_ok l[k] (by omega)) ⟨rfl, rfl, rfl, rfl⟩ ?_
   rintro u rfl
   refine AX (hK' _ _ ?_)
   clear hK' K'
   iterate 2 refine S0 ?_ (e := fun _ h_ => by simp only [sH, ↓sP, sA, tyS, simprocAttr, Int.natCast_nonneg, Int.ofNat_lt, hlt, hln, hlk, nth_map hlk, List.length_append, List.length_map, hpe, hbe, hbe1]; exact AX h_)
   refine T2 (hK _ _ _ ?_)
   clear hK K
   refine hw_region (by kernel_rfl) ?_
   simp only [↓sP, sA, tyS, simprocAttr, i64s k]
   have hk0 : k = 0 := by simp at hb; omega
   refine ⟨⟨k + 1, hlk, all_takeP (p := fun x => x.length ≤ 32768) hlk hw2 hkw⟩, fits_fin (by omega) ?_ ?_, ?_⟩
   ·
    rw [htk, if_pos hk0]
    simp [FinOk, upd_at, fin_at, HV.men]
    omega
   ·
    rw [htk, if_pos hk0, List.nil_append]
    simp only [List.map_append, ← List.append_assoc]
    exact ⟨rfl, by omega, trivial, trivial⟩
   show l.length - (k + 1) < l.length - k
   omega
  have hek : k = l.length := by simp at hb; omega
  subst hek
  clear hb
  rw [List.take_length] at *
  have hokl : okL l = true := (okL_iff l).2 ⟨fun h => hn0 (by rw [h]; rfl), hn1, hkw⟩
  refine hw_exit ?_
  simp only [↓sP, sA, tyS, simprocAttr]
  clear hK K
  refine AX (hK _ _ _ ?_)
  clear hK K
  refine hw_region (by kernel_rfl) ?_
  simp only [sR, simprocAttr]
  iterate 4 refine S0 ?_ (e := fun _ h_ => by simp only [sH, ↓sP, sA, tyS, simprocAttr, List.length_append, List.length_map, List.take_length]; exact AX h_)
  refine T2 (hK _ _ _ ?_)
  clear hK K
  refine hw_region (by kernel_rfl) ?_
  simp only [↓sP, sA, tyS, simprocAttr, i64s i]
  refine ⟨⟨i + 1, hlt, all_takeP (p := fun x => okL x = true) hlt (by rw [← hl]; exact hokl) hk⟩, fits_fin (by omega) ?_ ?_, ?_⟩
  ·
   rw [hdt1, encL]
   simp [FinOk, upd_at, fin_at, HV.men]
   try omega
  ·
   rw [hdt1, encL]
   simp only [List.map_append, ← List.append_assoc, List.take_length]
   exact ⟨rfl, by omega, trivial, trivial⟩
  show ls.length - (i + 1) < ls.length - i
  omega
 have hei : i = ls.length := by simp at hb; omega
 subst hei
 clear hb
 rw [List.take_length] at hk
 have hE := encE_ok hn hk
 refine hw_exit ?_
 simp only [↓sP, sA, tyS, simprocAttr]
 clear hK K
 refine AX (hK _ _ _ ?_)
 clear hK K
 refine hw_seq fun K hK => ?_
 refine R0 ?_ (e := fun _ h_ => by simp only [↓sP, sA, tyS, simprocAttr, List.take_length, List.length_map]; exact AX h_)
 refine hw_cond (b := decide ((262144 : Int) < (docB ls).length)) rfl (fun hb => ?_) (fun hb => ?_)
 ·
  refine R0 ?_
  refine hw_ret ?_
  simp only [hpost, Tryz.results30, hresL, hres1, tupOf, ↓sP, sA, tyS, simprocAttr]
  rw [if_pos (by simp at hb; omega)] at hE
  refine hret_pure2 [] (.slc []) (.int .i64 3) ?_ ⟨by rw [encO_nil (by rw [hE]; decide)]; rfl, by rw [hE]⟩
  simp [HV.close, HV.closeL, CV.denil, CV.denilL, HV.norm, HV.toC, HV.toCL]
 refine hw_skip ?_
 refine T0 (hK _ _ _ ?_)
 clear hK K
 refine R0 ?_
 refine hw_ret ?_
 simp only [hpost, Tryz.results30, hresL, hres1, tupOf, ↓sP, sA, tyS, simprocAttr]
 rw [if_neg (by simp at hb; omega)] at hE
 refine hret_pure2 [28] (.slc ((docB ls).map byteC)) (.int .i64 0) ?_ ⟨by rw [encO_ok hE], by rw [hE]⟩
 simp [HV.close, fob_at, upd_at, HV.norm, HV.toC, HV.closeL, HV.toCL, List.take_of_length_le, CV.denil, denilL_byte]

end Go.Proofs.YtenbfeemmpjdhaaGreatDoor

namespace Go.Proofs.YtenbfeemmpjdhaaGreatDoor
open Go Go.Hl Go.Pl
set_option maxRecDepth 10000
set_option maxHeartbeats 4000000
set_option linter.unusedSimpArgs false
set_option linter.unusedVariables false

theorem rencr_ok (r : Rt) (hr : rSz r) : HPure2 Tryz.prog 9 [r.cv] (fun u v => u = .slc ((encR r).map byteC) ∧ v = .int .i64 (errR r)) := by
 refine hfn_walk Tryz.func9 rfl (by kernel_rfl) (locOk_nil _) (Nat.le_of_ble_eq_true rfl) ?_
 refine R0 ?_
 refine hw_seq fun K hK => ?_
 refine hw_seq fun K hK => Rg ?_
 refine S0 ?_
 refine hlex_step (g := none) rfl rfl fun K' hK' => ?_
 simp only [sH, ↓sP, sA, tyS, simprocAttr]
 refine call_pure (args := [_]) (rvalid_ok r hr) ⟨rfl, rfl, rfl, rfl⟩ ?_
 rintro u rfl
 refine AX (hK' _ _ ?_)
 clear hK' K'
 refine S0 ?_
 refine T2 (hK _ _ _ ?_)
 clear hK K
 refine hw_cond (b := !validR r) rfl (fun hb => ?_) (fun hb => ?_)
 ·
  refine R0 ?_
  refine hw_ret ?_
  simp only [hpost, Tryz.results9, hresL, hres1, tupOf, ↓sP, sA, tyS, simprocAttr]
  have hv : validR r = false := by simpa using hb
  refine hret_pure2 [] (.slc []) (.int .i64 1) ?_ ⟨by rw [encR, hv]; rfl, by rw [errR, hv]; rfl⟩
  simp [HV.close, HV.closeL, CV.denil, CV.denilL, HV.norm, HV.toC, HV.toCL]
 refine hw_skip ?_
 refine T0 (hK _ _ _ ?_)
 clear hK K
 have hv : validR r = true := by simpa using hb
 clear hb
 obtain ⟨⟨v0, v1⟩, ⟨e0, e1⟩, hq, hk, hx⟩ := rNum_of_valid hv
 obtain ⟨⟨⟨lq, -⟩, ⟨lk, lks⟩, -⟩, -, -, lx⟩ := rMid_of_valid hv
 rw [maxN_val] at v1 e1 hk hx
 refine hw_seq fun K hK => hw_draw2G mixed [(0, [], []), (1, [], []), (3, [], []), (4, [], []), (2, [], [3, 4]), (5, [], []), (6, [], []), (7, [], []), (8, [], [])] [0, 1, 3, 0, 8, 31, 63, 127, 255] (by kernel_rfl) (by kernel_rfl) (by kernel_rfl) (by kernel_rfl) rfl (by kernel_rfl) ?_
 iterate 4 refine WG0 ?_
 refine hwalk2G_step (g := none) rfl rfl fun K' hK' => ?_
 simp only [sH, ↓sP, sA, tyS, simprocAttr]
 refine call_pure (args := [_]) (num11_ok r.v (by omega)) ⟨rfl, rfl, rfl, rfl⟩ ?_
 rintro u rfl
 refine AX (hK' _ _ ?_)
 clear hK' K'
 refine hwalk2G_step (g := none) rfl rfl fun K' hK' => ?_
 simp only [sH, ↓sP, sA, tyS, simprocAttr]
 refine call_pure (args := [_]) (num11_ok r.e (by omega)) ⟨rfl, rfl, rfl, rfl⟩ ?_
 rintro u rfl
 refine AX (hK' _ _ ?_)
 clear hK' K'
 refine hwalk2G_stepC (g := none) 48 rfl rfl fun K' hK' => ?_
 simp only [hop1C, mkId, sH, ↓sP, sA, tyS, simprocAttr]
 repeat refine AI ?_
 refine closeK_mk (by first | rfl | simp) ?_
 try simp only [sH, ↓sP, sA, tyS, simprocAttr]
 refine AX (hK' _ _ ?_)
 clear hK' K'
 iterate 2 refine WG0 ?_
 refine T2 (hK _ _ _ ?_)
 clear hK K
 refine hw_seq fun K hK => ?_
 refine R0 ?_
 refine hw_block ?_
 refine hw_loop (α := {i : Nat // i ≤ r.q.length}) (fun i => (fin [(1, .ptr 0 0), (4, .own 52 ([linH r] ++ (r.q.take i.1).map linQ).length), (5, .c (.int .i64 i.1))], fob [(0, .box 26 (.c r.cv)), (52, .row 60 1 (([linH r] ++ (r.q.take i.1).map linQ).map lnC))])) 100 (fun i => r.q.length - i.1) ⟨0, by omega⟩ (fits_fin (by omega) (by simp [FinOk, fin_at, finA_at, upd_at, HV.men, HV.menL, HV.norm, HV.toC, HV.toCL]) (by simp [FobOk, fob_at, upd_at, none0_at, gone, HO.men, HV.men, HV.menL, HV.norm, HV.toC, HV.toCL]; rfl)) ?_
 rintro ⟨i, hi⟩
 have hti : (r.q.take i).length = i := by simp; omega
 refine hw_seq fun K hK => ?_
 refine hw_seq fun K hK => Rg ?_
 iterate 5 refine S0 ?_
 refine T2 (hK _ _ _ ?_)
 clear hK K
 refine hw_cond (b := decide ((i : Int) < r.q.length)) rfl (fun hb => ?_) (fun hb => ?_)
 ·
  have hlt : i < r.q.length := by simpa using hb
  clear hb
  obtain ⟨q, hqe⟩ : ∃ q, q = r.q[i] := ⟨_, rfl⟩
  have hq1 := hq q (by rw [hqe]; exact List.getElem_mem hlt)
  have hqn : nth (r.q.map Qt.cv) i = q.cv := by rw [nth_map hlt, hqe]
  refine hw_skip ?_
  refine T0 (hK _ _ _ ?_)
  clear hK K
  refine hw_seq fun K hK => ?_
  refine hw_block ?_
  refine hw_draw2G mixed [(0, [], []), (1, [], []), (2, [], []), (3, [], []), (4, [], []), (5, [], []), (6, [], []), (7, [], []), (8, [], []), (9, [], []), (10, [], []), (11, [], []), (12, [], []), (13, [], [0, 1, 2, 3, 4, 5, 6]), (14, [], []), (15, [], []), (16, [], []), (17, [], [])] [0, 0, 2, 0, 14, 30, 62, 0, 128, 0, 896, 1920, 3968, 8064, 16382, 32766, 65535, 131071] (by kernel_rfl) (by kernel_rfl) (by kernel_rfl) (by kernel_rfl) rfl (by kernel_rfl) ?_
  iterate 13 refine WG0 ?_ (e := fun _ h_ => by simp only [sH, ↓sP, sA, tyS, simprocAttr, Int.natCast_nonneg, Int.ofNat_lt, hlt, hqn, Qt.cells, hti, List.length_append, List.length_map]; exact AX h_)
  refine hwalk2G_step (g := none) rfl rfl fun K' hK' => ?_
  simp only [sH, ↓sP, sA, tyS, simprocAttr, Int.natCast_nonneg, Int.ofNat_lt, hlt, hqn, Qt.cells, hti, List.length_append, List.length_map]
  refine call_pure (args := [_]) (num11_ok q.n (by omega)) ⟨rfl, rfl, rfl, rfl⟩ ?_
  rintro u rfl
  refine AX (hK' _ _ ?_)
  clear hK' K'
  refine hwalk2G_stepC (g := none) 176 rfl rfl fun K' hK' => ?_
  simp only [hop1C, mkId, sH, ↓sP, sA, tyS, simprocAttr, Int.natCast_nonneg, Int.ofNat_lt, hlt, hqn, Qt.cells, hti, List.length_append, List.length_map]
  repeat refine AI ?_
  refine closeK_mk (by first | rfl | simp) ?_
  try simp only [sH, ↓sP, sA, tyS, simprocAttr, Int.natCast_nonneg, Int.ofNat_lt, hlt, hqn, Qt.cells, hti, List.length_append, List.length_map]
  refine AX (hK' _ _ ?_)
  clear hK' K'
  iterate 3 refine WG0 ?_ (e := fun _ h_ => by simp only [sH, ↓sP, sA, tyS, simprocAttr, Int.natCast_nonneg, Int.ofNat_lt, hlt, hqn, Qt.cells, hti, List.length_append, List.length_map]; exact AX h_)
  refine T2 (hK _ _ _ ?_)
  clear hK K
  refine hw_region (by kernel_rfl) ?_
  simp only [↓sP, sA, tyS, simprocAttr, i64s i]
  refine ⟨⟨i + 1, hlt⟩, fits_fin (by omega) ?_ ?_, ?_⟩
  ·
   simp [FinOk, upd_at, fin_at, HV.men]
   omega
  ·
   simp only [List.take_succ_eq_append_getElem hlt, List.map_append, ← List.append_assoc, ← hqe]
   exact ⟨rfl, by omega, trivial, rfl, by omega, trivial, trivial⟩
  show r.q.length - (i + 1) < r.q.length - i
  omega
 have hei : i = r.q.length := by simp at hb; omega
 subst hei
 clear hb
 rw [List.take_length]
 refine hw_exit ?_
 simp only [↓sP, sA, tyS, simprocAttr]
 clear hK K
 refine AX (hK _ _ _ ?_)
 clear hK K
 refine hw_seq fun K hK => ?_
 refine R0 ?_
 refine hw_block ?_
 refine hw_loop (α := {i : Nat // i ≤ r.k.length}) (fun i => (fin [(1, .ptr 0 0), (4, .own 52 ([linH r] ++ r.q.map linQ ++ (r.k.take i.1).map linK).length), (6, .c (.int .i64 i.1))], fob [(0, .box 26 (.c r.cv)), (52, .row 60 1 (([linH r] ++ r.q.map linQ ++ (r.k.take i.1).map linK).map lnC))])) 400 (fun i => r.k.length - i.1) ⟨0, by omega⟩ (fF) ?_
 rintro ⟨i, hi⟩
 have hti : (r.k.take i).length = i := by simp; omega
 refine hw_seq fun K hK => ?_
 refine hw_seq fun K hK => Rg ?_
 iterate 5 refine S0 ?_
 refine T2 (hK _ _ _ ?_)
 clear hK K
 refine hw_cond (b := decide ((i : Int) < r.k.length)) rfl (fun hb => ?_) (fun hb => ?_)
 ·
  have hlt : i < r.k.length := by simpa using hb
  clear hb
  obtain ⟨k, hke⟩ : ∃ k, k = r.k[i] := ⟨_, rfl⟩
  obtain ⟨⟨kh0, kh1⟩, ⟨kf0, kf1⟩, ⟨ku0, ku1⟩⟩ := hk k (by rw [hke]; exact List.getElem_mem hlt)
  have lks1 := (lks k (by rw [hke]; exact List.getElem_mem hlt)).2.1
  have hkn : nth (r.k.map Ky.cv) i = k.cv := by rw [nth_map hlt, hke]
  refine hw_skip ?_
  refine T0 (hK _ _ _ ?_)
  clear hK K
  refine hw_seq fun K hK => ?_
  refine hw_block ?_
  refine hw_seq fun K hK => Rg ?_
  iterate 7 refine S0 ?_ (e := fun _ h_ => by simp only [sH, ↓sP, sA, tyS, simprocAttr, Int.natCast_nonneg, Int.ofNat_lt, hlt, hkn, Ky.cells]; exact AX h_)
  refine T2 (hK _ _ _ ?_)
  clear hK K
  refine hw_seq fun K hK => hw_draw2 mixed [(0, [], []), (1, [], []), (2, [], []), (4, [], []), (5, [], []), (6, [], []), (8, [], []), (9, [], []), (10, [], []), (11, [], []), (13, [], []), (14, [], []), (3, [], [4, 5, 6, 8, 9, 10, 11, 13, 14]), (7, [], [8, 9, 10, 11, 13, 14]), (12, [], [8, 9, 13, 14]), (15, [], [8, 9]), (16, [], []), (17, [], [])] [0, 1, 3, 7, 0, 16, 48, 127, 0, 256, 0, 1024, 3327, 0, 8192, 31999, 65535, 131071] (by kernel_rfl) (by kernel_rfl) (by kernel_rfl) (by kernel_rfl) rfl (by kernel_rfl) ?_
  iterate 12 refine W0 ?_ (e := fun _ h_ => by simp only [sH, ↓sP, sA, tyS, simprocAttr, Ky.get_ph, Ky.get_pr, hf_isAgg]; exact AX h_)
  refine hwalk2_step (g := none) rfl rfl fun K' hK' => ?_
  simp only [sH, ↓sP, sA, tyS, simprocAttr, Ky.get_ph, Ky.get_pr, hf_isAgg]
  refine call_pure (args := [_]) (num11_ok k.p.h (by omega)) ⟨rfl, rfl, rfl, rfl⟩ ?_
  rintro u rfl
  refine AX (hK' _ _ ?_)
  clear hK' K'
  refine hwalk2_step (g := none) rfl rfl fun K' hK' => ?_
  simp only [sH, ↓sP, sA, tyS, simprocAttr, Ky.get_ph, Ky.get_pr, hf_isAgg]
  refine call_pure (args := [_]) (fmth1_ok k.p.r) ⟨rfl, rfl, rfl, rfl⟩ ?_
  rintro u rfl
  refine AX (hK' _ _ ?_)
  clear hK' K'
  refine hwalk2_step (g := none) rfl rfl fun K' hK' => ?_
  simp only [sH, ↓sP, sA, tyS, simprocAttr, Ky.get_ph, Ky.get_pr, hf_isAgg]
  refine call_pure (args := [_]) (num11_ok k.fr (by omega)) ⟨rfl, rfl, rfl, rfl⟩ ?_
  rintro u rfl
  refine AX (hK' _ _ ?_)
  clear hK' K'
  refine hwalk2_step (g := none) rfl rfl fun K' hK' => ?_
  simp only [sH, ↓sP, sA, tyS, simprocAttr, Ky.get_ph, Ky.get_pr, hf_isAgg]
  refine call_pure (args := [_]) (num11_ok k.un (by omega)) ⟨rfl, rfl, rfl, rfl⟩ ?_
  rintro u rfl
  refine AX (hK' _ _ ?_)
  clear hK' K'
  iterate 2 refine W0 ?_ (e := fun _ h_ => by simp only [sH, ↓sP, sA, tyS, simprocAttr, Ky.get_ph, Ky.get_pr, hf_isAgg]; exact AX h_)
  refine T2 (hK _ _ _ ?_)
  clear hK K
  refine hw_regionG (by kernel_rfl) ?_
  simp only [sR, simprocAttr]
  iterate 4 refine SG0 ?_ (e := fun _ h_ => by simp only [sH, ↓sP, sA, tyS, simprocAttr, hti, List.length_append, List.length_map]; exact AX h_)
  refine hlexG_stepC (g := none) 512 rfl rfl fun K' hK' => ?_
  simp only [hop1C, mkId, sH, ↓sP, sA, tyS, simprocAttr, hti, List.length_append, List.length_map]
  repeat refine AI ?_
  refine closeK_mk (by first | rfl | simp) ?_
  try simp only [sH, ↓sP, sA, tyS, simprocAttr, hti, List.length_append, List.length_map]
  refine AX (hK' _ _ ?_)
  clear hK' K'
  iterate 3 refine SG0 ?_ (e := fun _ h_ => by simp only [sH, ↓sP, sA, tyS, simprocAttr, hti, List.length_append, List.length_map]; exact AX h_)
  refine T2 (hK _ _ _ ?_)
  clear hK K
  refine hw_region (by kernel_rfl) ?_
  simp only [↓sP, sA, tyS, simprocAttr, i64s i]
  refine ⟨⟨i + 1, hlt⟩, fits_fin (by omega) ?_ ?_, ?_⟩
  ·
   simp [FinOk, upd_at, fin_at, HV.men]
   omega
  ·
   simp only [List.take_succ_eq_append_getElem hlt, List.map_append, ← List.append_assoc, ← hke]
   exact ⟨rfl, by omega, trivial, rfl, by omega, trivial, trivial⟩
  show r.k.length - (i + 1) < r.k.length - i
  omega
 have hei : i = r.k.length := by simp at hb; omega
 subst hei
 clear hb
 rw [List.take_length]
 refine hw_exit ?_
 simp only [↓sP, sA, tyS, simprocAttr]
 clear hK K
 refine AX (hK _ _ _ ?_)
 clear hK K
 refine hw_seq fun K hK => ?_
 refine R0 ?_
 refine hw_block ?_
 refine hw_loop (α := {i : Nat // i ≤ r.x.length}) (fun i => (fin [(1, .ptr 0 0), (4, .own 52 ([linH r] ++ r.q.map linQ ++ r.k.map linK ++ (r.x.take i.1).map linX).length), (9, .c (.int .i64 i.1))], fob [(0, .box 26 (.c r.cv)), (52, .row 60 1 (([linH r] ++ r.q.map linQ ++ r.k.map linK ++ (r.x.take i.1).map linX).map lnC))])) 800 (fun i => r.x.length - i.1) ⟨0, by omega⟩ (fF) ?_
 rintro ⟨i, hi⟩
 have hti : (r.x.take i).length = i := by simp; omega
 refine hw_seq fun K hK => ?_
 refine hw_seq fun K hK => Rg ?_
 iterate 5 refine S0 ?_
 refine T2 (hK _ _ _ ?_)
 clear hK K
 refine hw_cond (b := decide ((i : Int) < r.x.length)) rfl (fun hb => ?_) (fun hb => ?_)
 ·
  have hlt : i < r.x.length := by simpa using hb
  clear hb
  obtain ⟨x, hxe⟩ : ∃ x, x = r.x[i] := ⟨_, rfl⟩
  obtain ⟨hx0, hx1⟩ := hx x (by rw [hxe]; exact List.getElem_mem hlt)
  have hxn : nth (r.x.map Rv.cv) i = x.cv := by rw [nth_map hlt, hxe]
  refine hw_skip ?_
  refine T0 (hK _ _ _ ?_)
  clear hK K
  refine hw_seq fun K hK => ?_
  refine hw_block ?_
  refine hw_draw2G mixed [(0, [], []), (1, [], []), (2, [], []), (3, [], []), (4, [], []), (5, [], []), (6, [], []), (8, [], []), (9, [], []), (10, [], []), (11, [], []), (12, [], []), (13, [], []), (7, [], [0, 8, 9, 10, 11, 12, 13]), (14, [], [0]), (15, [], []), (16, [], []), (17, [], []), (18, [], [])] [0, 0, 2, 0, 14, 30, 62, 126, 0, 256, 0, 1792, 3840, 7936, 16382, 32766, 65534, 131071, 262143] (by kernel_rfl) (by kernel_rfl) (by kernel_rfl) (by kernel_rfl) rfl (by kernel_rfl) ?_
  iterate 13 refine WG0 ?_ (e := fun _ h_ => by simp only [sH, ↓sP, sA, tyS, simprocAttr, Int.natCast_nonneg, Int.ofNat_lt, hlt, hxn, Rv.cells, hti, List.length_append, List.length_map]; exact AX h_)
  refine hwalk2G_step (g := none) rfl rfl fun K' hK' => ?_
  simp only [sH, ↓sP, sA, tyS, simprocAttr, Int.natCast_nonneg, Int.ofNat_lt, hlt, hxn, Rv.cells, hti, List.length_append, List.length_map]
  refine call_pure (args := [_]) (fmtd1_ok x.k) ⟨rfl, rfl, rfl, rfl⟩ ?_
  rintro u rfl
  refine AX (hK' _ _ ?_)
  clear hK' K'
  refine hwalk2G_step (g := none) rfl rfl fun K' hK' => ?_
  simp only [sH, ↓sP, sA, tyS, simprocAttr, Int.natCast_nonneg, Int.ofNat_lt, hlt, hxn, Rv.cells, hti, List.length_append, List.length_map]
  refine call_pure (args := [_]) (num11_ok x.t (by omega)) ⟨rfl, rfl, rfl, rfl⟩ ?_
  rintro u rfl
  refine AX (hK' _ _ ?_)
  clear hK' K'
  refine hwalk2G_stepC (g := none) 880 rfl rfl fun K' hK' => ?_
  simp only [hop1C, mkId, sH, ↓sP, sA, tyS, simprocAttr, Int.natCast_nonneg, Int.ofNat_lt, hlt, hxn, Rv.cells, hti, List.length_append, List.length_map]
  repeat refine AI ?_
  refine closeK_mk (by first | rfl | simp) ?_
  try simp only [sH, ↓sP, sA, tyS, simprocAttr, Int.natCast_nonneg, Int.ofNat_lt, hlt, hxn, Rv.cells, hti, List.length_append, List.length_map]
  refine AX (hK' _ _ ?_)
  clear hK' K'
  iterate 3 refine WG0 ?_ (e := fun _ h_ => by simp only [sH, ↓sP, sA, tyS, simprocAttr, Int.natCast_nonneg, Int.ofNat_lt, hlt, hxn, Rv.cells, hti, List.length_append, List.length_map]; exact AX h_)
  refine T2 (hK _ _ _ ?_)
  clear hK K
  refine hw_region (by kernel_rfl) ?_
  simp only [↓sP, sA, tyS, simprocAttr, i64s i]
  refine ⟨⟨i + 1, hlt⟩, fits_fin (by omega) ?_ ?_, ?_⟩
  ·
   simp [FinOk, upd_at, fin_at, HV.men]
   omega
  ·
   simp only [List.take_succ_eq_append_getElem hlt, List.map_append, ← List.append_assoc, ← hxe]
   exact ⟨rfl, by omega, trivial, rfl, by omega, trivial, trivial⟩
  show r.x.length - (i + 1) < r.x.length - i
  omega
 refine hw_exit ?_
 simp only [↓sP, sA, tyS, simprocAttr]
 clear hK K
 refine AX (hK _ _ _ ?_)
 clear hK K
 have hei : i = r.x.length := by simp at hb; omega
 subst hei
 clear hb
 rw [List.take_length]
 refine hw_close [52] (hw_fits (fr2 := fin [(4, .c (.slc ((linR r).map lnC)))]) (ob2 := fob []) (nx2 := 1200) (fits_fin (by omega) (by simp [FinOk, clF_at, fin_at, finA_at, upd_at, fob_at, HV.close, HV.closeL, CV.denil, CV.denilL, denilL_str, denilL_ln, HV.men, HV.menL, HV.norm, HV.toC, HV.toCL, linR]) (by simp [FobOk, clO_at, fob_at, upd_at, none0_at, gone, HO.close, HV.close, HV.closeL, HO.men, HV.men, HV.menL, HV.norm, HV.toC, HV.toCL])) ?_)
 refine hw_seq fun K hK => Rg ?_
 refine S0 ?_ (e := fun _ h_ => by simp only [sH, ↓sP, sA, tyS, simprocAttr, denilL_ln]; exact AX h_)
 refine hlex_step (g := none) rfl rfl fun K' hK' => ?_
 simp only [sH, ↓sP, sA, tyS, simprocAttr, denilL_ln]
 refine call_pure2 (args := [_]) (enc2_ok (linR r) (linR_ok hv).1 (linR_ok hv).2) ⟨rfl, rfl, rfl, rfl⟩ ?_
 rintro u v ⟨rfl, rfl⟩
 refine AX (hK' _ _ ?_)
 clear hK' K'
 iterate 4 refine S0 ?_ (e := fun _ h_ => by simp only [sH, ↓sP, sA, tyS, simprocAttr, denilL_ln]; exact AX h_)
 refine T2 (hK _ _ _ ?_)
 clear hK K
 refine hw_ret ?_
 simp only [hpost, Tryz.results9, hresL, hres1, tupOf, ↓sP, sA, tyS, simprocAttr]
 exact hret_pure2 [] (.slc ((encO (linR r)).map byteC)) (.int .i64 (encE (linR r))) (by simp [HV.close, HV.closeL, CV.denil, CV.denilL, denilL_byte, HV.norm, HV.toC, HV.toCL]) ⟨by rw [encR, if_pos hv], by rw [errR, if_pos hv]⟩

end Go.Proofs.YtenbfeemmpjdhaaGreatDoor

namespace Go.Proofs.YtenbfeemmpjdhaaGreatDoor
open Go Go.Hl Go.Pl
set_option maxRecDepth 10000
set_option maxHeartbeats 4000000
set_option linter.unusedSimpArgs false
set_option linter.unusedVariables false
attribute [local simp] tp

theorem find_ok (r : Rt) (d : Dig) (hr : rSz r) : HPure2 Tryz.prog 55 [r.cv, dg d] (fun u v => u = ((findK r.k d).getD k0).cv ∧ v = .bool (findK r.k d).isSome) := by
 have hlk : r.k.length < 2 ^ 40 := hr.2.1.1
 refine hfn_walk Tryz.func55 rfl (by kernel_rfl) (locOk_nil _) (Nat.le_of_ble_eq_true rfl) ?_
 refine hw_seq fun K hK => Rg ?_
 iterate 4 refine S0 ?_
 refine T2 (hK _ _ _ ?_)
 clear hK K
 refine hw_seq fun K hK => ?_
 refine hw_seq fun K hK => Rg ?_
 iterate 4 refine S0 ?_
 refine T2 (hK _ _ _ ?_)
 clear hK K
 refine hw_block ?_
 refine hw_loop (α := {i : Nat // i ≤ r.k.length ∧ ∀ x ∈ r.k.take i, (kid x == d) = false}) (fun i => (fin [(3, .ptr 4 0), (4, .ptr 8 0), (9, .c (.slc (r.k.map Ky.cv))), (10, .c (.int .i64 r.k.length)), (11, .c (.int .i64 i.1))], fob [(4, .box 49 (.c (dg d))), (8, .box 70 (.c (.agg [Pk.cv ⟨0, zh⟩, .str [], .nils, .int .i64 0, .int .i64 0])))])) 100 (fun i => r.k.length - i.1) ⟨0, by omega, by simp⟩ (fF) ?_
 rintro ⟨i, hi, h0⟩
 refine R0 ?_
 refine hw_seq fun K hK => ?_
 refine hw_cond (b := decide ((i : Int) < r.k.length)) rfl (fun hb => ?_) (fun hb => ?_)
 ·
  have hlt : i < r.k.length := by simpa using hb
  have hk := hr.2.1.2 _ (List.getElem_mem hlt)
  refine hw_skip ?_
  refine T0 (hK _ _ _ ?_)
  clear hK K
  refine hw_seq fun K hK => ?_
  refine hw_block ?_
  refine hw_seq fun K hK => Rg ?_
  iterate 4 refine S0 ?_ (e := fun _ h_ => by simp only [sH, ↓sP, sA, tyS, simprocAttr, Int.natCast_nonneg, Int.ofNat_lt, hlt, nth_map hlt]; exact AX h_)
  refine T2 (hK _ _ _ ?_)
  clear hK K
  refine hw_seq fun K hK => hw_draw2 mixed [(0, [], []), (1, [], []), (3, [], []), (2, [], [3]), (4, [], [])] [0, 1, 3, 0, 15] (by kernel_rfl) (by kernel_rfl) (by kernel_rfl) (by kernel_rfl) rfl (by kernel_rfl) ?_
  iterate 3 refine W0 ?_
  refine hwalk2_step (g := none) rfl rfl fun K' hK' => ?_
  simp only [sH, ↓sP, sA, tyS, simprocAttr]
  refine call_pure (args := [_]) (pid_ok r.k[i].p) ⟨rfl, rfl, rfl, rfl⟩ ?_
  rintro u rfl
  refine AX (hK' _ _ ?_)
  clear hK' K'
  refine W0 ?_
  refine T2 (hK _ _ _ ?_)
  clear hK K
  refine hw_cond (b := kid r.k[i] == d) rfl (fun hb => ?_) (fun hb => ?_)
  ·
   refine hw_seq fun K hK => Rg ?_
   iterate 2 refine S0 ?_ (e := fun _ h_ => by simp only [sH, ↓sP, sA, tyS, simprocAttr, denilL_str, Ky.fold]; exact AX h_)
   refine hlex_step (g := none) rfl rfl fun K' hK' => ?_
   simp only [sH, ↓sP, sA, tyS, simprocAttr, denilL_str, Ky.fold]
   refine call_pure (args := [_]) (clone_ok r.k[i].rs hk.2.1) ⟨rfl, rfl, rfl, rfl⟩ ?_
   rintro u rfl
   refine AX (hK' _ _ ?_)
   clear hK' K'
   iterate 2 refine S0 ?_ (e := fun _ h_ => by simp only [sH, ↓sP, sA, tyS, simprocAttr, denilL_str, Ky.fold]; exact AX h_)
   refine T2 (hK _ _ _ ?_)
   clear hK K
   refine R0 ?_
   refine hw_ret ?_
   simp only [hpost, Tryz.results55, hresL, hres1, tupOf, ↓sP, sA, tyS, simprocAttr]
   have hf : findK r.k d = some r.k[i] := find_hit (p := fun k => kid k == d) hlt hb h0
   refine hret_pure2 [] r.k[i].cv (.bool true) ?_ ⟨by rw [hf]; rfl, by rw [hf]; rfl⟩
   simp [HV.close, HV.closeL, Ky.denil, CV.denil, HV.norm, HV.toC, HV.toCL]
  refine hw_skip ?_
  refine T0 (hK _ _ _ ?_)
  clear hK K
  refine hw_region (by kernel_rfl) ?_
  simp only [↓sP, sA, tyS, simprocAttr, i64s i]
  refine ⟨⟨i + 1, hlt, take_miss (p := fun k => kid k == d) hlt hb h0⟩, fF, ?_⟩
  show r.k.length - (i + 1) < r.k.length - i
  omega
 refine hw_exit ?_
 simp only [↓sP, sA, tyS, simprocAttr]
 clear hK K
 refine AX (hK _ _ _ ?_)
 clear hK K
 refine R0 ?_
 refine hw_ret ?_
 simp only [hpost, Tryz.results55, hresL, hres1, tupOf, ↓sP, sA, tyS, simprocAttr]
 have hei : i = r.k.length := by simp at hb; omega
 subst hei
 rw [List.take_length] at h0
 have hf : findK r.k d = none := find_miss (p := fun k => kid k == d) h0
 refine hret_pure2 [] k0.cv (.bool false) ?_ ⟨by rw [hf]; rfl, by rw [hf]; rfl⟩
 simp [HV.close, HV.closeL, CV.denil, CV.denilL, HV.norm, HV.toC, HV.toCL, Pk.denil, k0, Ky.cv]


theorem counts_ok (r : Rt) (d : Dig) (t : Int) (hr : rSz r) : HPure Tryz.prog 17 [r.cv, dg d, .int .i64 t] (fun v => v = .bool (countsR r d t)) := by
 refine hfn_walk Tryz.func17 rfl (by kernel_rfl) (locOk_nil _) (Nat.le_of_ble_eq_true rfl) ?_
 refine R0 ?_
 refine hw_seq fun K hK => Rg ?_
 iterate 2 refine S0 ?_
 refine hlex_step (g := none) rfl rfl fun K' hK' => ?_
 simp only [sH, ↓sP, sA, tyS, simprocAttr]
 refine call_pure2 (args := [_, _]) (find_ok r d hr) ⟨rfl, rfl, rfl, rfl⟩ ?_
 rintro u v ⟨rfl, rfl⟩
 refine AX (hK' _ _ ?_)
 clear hK' K'
 iterate 6 refine S0 ?_
 refine T2 (hK _ _ _ ?_)
 clear hK K
 refine hw_seq fun K hK => Rg ?_
 iterate 2 refine S0 ?_
 refine hlex_cases 15 rfl (fun h2_15 => ?_) (fun h2_15 => ?_)
 ·
  refine S0 ?_ (e := fun _ h_ => by simp only [sH, ↓sP, sA, tyS, simprocAttr, h2_15]; exact AX h_)
  refine hlex_step (g := some (16, true)) rfl rfl fun K' hK' => ?_
  simp only [sH, ↓sP, sA, tyS, simprocAttr, h2_15]
  refine call_pure (args := [_]) (valid_ok r hr) ⟨rfl, rfl, rfl, rfl⟩ ?_
  rintro u rfl
  refine AX (hK' _ _ ?_)
  clear hK' K'
  iterate 2 refine S0 ?_ (e := fun _ h_ => by simp only [sH, ↓sP, sA, tyS, simprocAttr, h2_15]; exact AX h_)
  refine hlex_cases 18 rfl (fun h2_18 => ?_) (fun h2_18 => ?_)
  ·
   iterate 3 refine S0 ?_ (e := fun _ h_ => by simp only [sH, ↓sP, sA, tyS, simprocAttr, h2_15, h2_18]; exact AX h_)
   refine hlex_step (g := some (20, true)) rfl rfl fun K' hK' => ?_
   simp only [sH, ↓sP, sA, tyS, simprocAttr, h2_15, h2_18]
   refine call_pure (args := [_, _, _]) (live_ok r ((findK r.k d).getD k0) t hr) ⟨rfl, rfl, rfl, rfl⟩ ?_
   rintro u rfl
   refine AX (hK' _ _ ?_)
   clear hK' K'
   iterate 2 refine S0 ?_ (e := fun _ h_ => by simp only [sH, ↓sP, sA, tyS, simprocAttr, h2_15, h2_18]; exact AX h_)
   refine hlex_cases 24 rfl (fun h2_24 => ?_) (fun h2_24 => ?_)
   ·
    simp only [h2_24]
    refine T2 (hK _ _ _ ?_)
    clear hK K
    refine hw_ret ?_
    simp only [hpost, Tryz.results17, hresL, hres1, tupOf, ↓sP, sA, tyS, simprocAttr]
    exact hret_pure [] (.bool true) rfl (by simp only [counts_code, fK, h2_15, h2_18, h2_24, Bool.and_true, Bool.and_false, Bool.true_and, Bool.false_and])
   simp only [h2_24]
   refine T2 (hK _ _ _ ?_)
   clear hK K
   refine hw_ret ?_
   simp only [hpost, Tryz.results17, hresL, hres1, tupOf, ↓sP, sA, tyS, simprocAttr]
   exact hret_pure [] (.bool false) rfl (by simp only [counts_code, fK, h2_15, h2_18, h2_24, Bool.and_true, Bool.and_false, Bool.true_and, Bool.false_and])
  iterate 6 refine S0 ?_ (e := fun _ h_ => by simp only [sH, ↓sP, sA, tyS, simprocAttr, h2_15, h2_18]; exact AX h_)
  refine T2 (hK _ _ _ ?_)
  clear hK K
  refine hw_ret ?_
  simp only [hpost, Tryz.results17, hresL, hres1, tupOf, ↓sP, sA, tyS, simprocAttr]
  exact hret_pure [] (.bool false) rfl (by simp only [counts_code, fK, h2_15, h2_18, Bool.and_true, Bool.and_false, Bool.true_and, Bool.false_and])
 iterate 10 refine S0 ?_ (e := fun _ h_ => by simp only [sH, ↓sP, sA, tyS, simprocAttr, h2_15]; exact AX h_)
 refine T2 (hK _ _ _ ?_)
 clear hK K
 refine hw_ret ?_
 simp only [hpost, Tryz.results17, hresL, hres1, tupOf, ↓sP, sA, tyS, simprocAttr]
 exact hret_pure [] (.bool false) rfl (by simp only [counts_code, fK, h2_15, Bool.and_true, Bool.and_false, Bool.true_and, Bool.false_and])


end Go.Proofs.YtenbfeemmpjdhaaGreatDoor

namespace Go.Proofs.YtenbfeemmpjdhaaGreatDoor
open Go Go.Hl Go.Pl
set_option maxRecDepth 10000
set_option maxHeartbeats 8000000
set_option linter.unusedSimpArgs false
set_option linter.unusedVariables false
attribute [local simp] tp

theorem dby (l : Word) : CV.denilL (l.map byteC) = l.map u8 := denilL_u8 l
theorem full_sz0 : rSz full := rMid.sz (rMid_of_valid full_valid).1

def FSt (r : Rt) (g : List Rv) (a i : Nat) : Prop := rSz r ∧ r.x.length ≤ 64 ∧ Gone g r ∧ g.length ≤ 65 * i ∧ a ≤ 1000 * i

theorem forever_law (L : List Int) : HPure Tryz.prog 4 [.slc (L.map (.int .i64))] (fun v => v = .bool true) := by
 refine hfn_walk Tryz.func4 rfl (by kernel_rfl) (locOk_nil _) (Nat.le_of_ble_eq_true rfl) ?_
 refine R0 ?_
 refine hw_seq fun K hK => Rg ?_
 iterate 4 refine S0 ?_ (e := fun _ h_ => by simp only [sH, ↓sP, sA, tyS, simprocAttr, denilL_int]; exact AX h_)
 refine T2 (hK _ _ _ ?_)
 clear hK K
 refine hw_seq fun K hK => Rg ?_
 refine hlex_step (g := none) rfl rfl fun K' hK' => ?_
 simp only [sH, ↓sP, sA, tyS, simprocAttr]
 refine call_pure (args := []) mfull_ok ⟨rfl, rfl, rfl, rfl⟩ ?_
 rintro u rfl
 refine AX (hK' _ _ ?_)
 clear hK' K'
 iterate 2 refine S0 ?_
 refine T2 (hK _ _ _ ?_)
 clear hK K
 refine R0 ?_
 refine hw_seq fun K hK => ?_
 refine R0 ?_
 refine hw_block ?_
 refine hw_own 5 0 51 33 rfl rfl rfl rfl ?_
 refine hw_loop (α := {z : Nat × Rt × List Rv × Nat // z.1 ≤ 5 ∧ FSt z.2.1 z.2.2.1 z.2.2.2 z.1}) (fun z => (fin [(3, .ptr 12 0), (4, .ptr 24 0), (5, .own 40 z.1.2.2.1.length), (6, .c (.int .i64 z.1.1))], fob [(12, .box 39 (.c (tp L z.1.2.2.2))), (24, .box 26 (.c z.1.2.1.cv)), (40, .row 51 33 (z.1.2.2.1.map Rv.cv))])) 100 (fun z => 5 - z.1.1) ⟨(0, full, [], 0), by simp, full_sz0, by decide, Gone.nil, by simp, by simp⟩ (fF) ?_
 rintro ⟨⟨i, r, g, a⟩, hi, hst⟩
 simp only at hi hst ⊢
 obtain ⟨hr, hrx, hg, hgl, ha⟩ := hst
 refine hw_seq fun K hK => ?_
 refine R0 ?_
 refine hw_cond (b := decide ((i : Int) < 5)) rfl (fun hb => ?_) (fun hb => ?_)
 ·
  have hlt : i < 5 := by simp at hb; omega
  clear hb
  refine hw_skip ?_
  refine T0 (hK _ _ _ ?_)
  clear hK K
  refine hw_seq fun K hK => ?_
  refine hw_block ?_
  refine hw_seq fun K hK => Rg ?_
  iterate 2 refine S0 ?_
  refine hlex_step (g := none) rfl rfl fun K' hK' => ?_
  simp only [sH, ↓sP, sA, tyS, simprocAttr]
  refine call_boxl2 (args := [_]) (nx_ok r L a (by omega) (by omega)) rfl (by simp) ⟨rfl, rfl, rfl, rfl⟩ ?_
  rintro u y v' ⟨x, K0, a1, rfl, rfl, rfl, k1, hx, hK0⟩
  refine AX (hK' _ _ ?_)
  clear hK' K'
  iterate 6 refine S0 ?_
  refine T2 (hK _ _ _ ?_)
  clear hK K
  refine hw_seq fun K hK => Rg ?_
  refine S0 ?_
  refine hlex_step (g := none) rfl rfl fun K' hK' => ?_
  simp only [sH, ↓sP, sA, tyS, simprocAttr]
  refine call_pure2 (args := [_]) (rencr_ok x hx) ⟨rfl, rfl, rfl, rfl⟩ ?_
  rintro u v ⟨rfl, rfl⟩
  refine AX (hK' _ _ ?_)
  clear hK' K'
  iterate 5 refine S0 ?_
  refine T2 (hK _ _ _ ?_)
  clear hK K
  refine hw_seq fun K hK => hw_draw2 mixed [(0, [], []), (1, [], []), (2, [], []), (3, [], []), (9, [], []), (4, [9], [0, 1, 2, 9]), (5, [9], [9]), (6, [9], []), (7, [9], []), (8, [9], []), (10, [], [8]), (11, [], [])] [0, 0, 0, 0, 8, 31, 63, 127, 127, 0, 767, 2047] (by kernel_rfl) (by kernel_rfl) (by kernel_rfl) (by kernel_rfl) rfl (by kernel_rfl) ?_
  iterate 5 refine W0 ?_ (e := fun _ h_ => by simp only [sH, ↓sP, sA, tyS, simprocAttr, dby]; exact AX h_)
  refine hwalk2_step (g := none) rfl rfl fun K' hK' => ?_
  simp only [sH, ↓sP, sA, tyS, simprocAttr, dby]
  refine call_box (args := [_]) (next_ok L a1 20 (by omega) (by omega)) rfl (by simp) ⟨rfl, rfl, rfl, rfl⟩ ?_
  rintro u v' ⟨at0, a2, rfl, rfl, j1, j2, j3, j4⟩
  have hel := encR_len x
  refine AX (hK' _ _ ?_)
  clear hK' K'
  refine hwalk2_step (g := none) rfl rfl fun K' hK' => ?_
  simp only [sH, ↓sP, sA, tyS, simprocAttr, dby]
  refine call_pure2 (args := [_, _, _, _]) (rotate_ok r (encR x) K0 at0 hr (by omega) (by omega)) ⟨rfl, rfl, rfl, rfl⟩ ?_
  rintro u v ⟨rfl, rfl⟩
  obtain ⟨b, hb0⟩ : ∃ b, b = encR x := ⟨_, rfl⟩
  rw [← hb0]
  refine AX (hK' _ _ ?_)
  clear hK' K'
  iterate 5 refine W0 ?_ (e := fun _ h_ => by simp only [sH, ↓sP, sA, tyS, simprocAttr, dby]; exact AX h_)
  refine T2 (hK _ _ _ ?_)
  clear hK K
  refine hw_seq fun K hK => ?_
  have key : ∀ (r : Rt) (g : List Rv) fr ob nx, FSt r g a2 (i + 1) → Fits 0 fr ob (fin [(3, .ptr 12 0), (4, .ptr 24 0), (5, .own 40 g.length), (6, .c (.int .i64 i))]) (fob [(12, .box 39 (.c (tp L a2))), (24, .box 26 (.c r.cv)), (40, .row 51 33 (g.map Rv.cv))]) 500 → K fr ob nx := by
   clear hg hgl hr hrx
   clear g r
   intro r g fr ob nx hst hf
   refine hK _ _ _ (hw_fits hf ?_)
   clear hf hK K
   obtain ⟨hr, hrx, hg, hgl, ha'⟩ := hst
   refine R0 ?_
   refine hw_block ?_
   refine hw_loop (α := {z : Nat × Nat // z.1 ≤ g.length ∧ z.2 ≤ a2 + z.1}) (fun z => (fin [(3, .ptr 12 0), (4, .ptr 24 0), (5, .own 40 g.length), (6, .c (.int .i64 i)), (13, .c (.int .i64 z.1.1))], fob [(12, .box 39 (.c (tp L z.1.2))), (24, .box 26 (.c r.cv)), (40, .row 51 33 (g.map Rv.cv))])) 600 (fun z => g.length - z.1.1) ⟨(0, a2), by simp, by simp⟩ (fF) ?_
   rintro ⟨⟨j, c⟩, hj, hc⟩
   simp only at hj hc ⊢
   refine hw_seq fun K hK => ?_
   refine hw_seq fun K hK => Rg ?_
   iterate 4 refine S0 ?_
   refine T2 (hK _ _ _ ?_)
   clear hK K
   refine hw_cond (b := decide ((j : Int) < g.length)) rfl (fun hb => ?_) (fun hb => ?_)
   ·
    have hlj : j < g.length := by simpa using hb
    clear hb
    have hm : g[j] ∈ g := List.getElem_mem hlj
    have hc0 := hg.not0 hm
    have hgm := hg _ hm
    have hgn : ¬ List.map Rv.cv g = [] := fun h => by have h2 := congrArg List.length h; rw [List.length_map] at h2; simp only [List.length_nil] at h2; omega
    refine hw_skip ?_
    refine T0 (hK _ _ _ ?_)
    clear hK K
    refine hw_seq fun K hK => ?_
    refine hw_block ?_
    refine hw_seq fun K hK => hw_draw2 mixed [(0, [], []), (1, [], []), (2, [], []), (3, [], []), (4, [], []), (5, [], []), (6, [], []), (7, [], []), (8, [], []), (9, [], []), (10, [], []), (11, [], []), (12, [], []), (13, [], []), (14, [], []), (15, [], []), (16, [], []), (17, [], []), (18, [], []), (19, [], []), (20, [], []), (21, [], []), (22, [], []), (23, [], []), (24, [], []), (25, [], [13, 14, 15, 16, 17, 18, 19, 20, 21, 22, 23]), (26, [], []), (27, [], []), (28, [], [])] [0, 0, 0, 6, 14, 30, 0, 0, 192, 448, 960, 2047, 4095, 8191, 8191, 8191, 57343, 122879, 253951, 8191, 8191, 1581055, 3678207, 7872511, 8191, 16785407, 66592767, 134217727, 268435455] (by kernel_rfl) (by kernel_rfl) (by kernel_rfl) (by kernel_rfl) rfl (by kernel_rfl) ?_
    iterate 11 refine W0 ?_ (e := fun _ h_ => by simp only [sH, ↓sP, sA, tyS, simprocAttr, hgn, not_false_eq_true, true_and, Int.natCast_nonneg, Int.ofNat_lt, hlj, nth_map hlj]; exact AX h_)
    refine hwalk2_step (g := none) rfl rfl fun K' hK' => ?_
    simp only [sH, ↓sP, sA, tyS, simprocAttr, hgn, not_false_eq_true, true_and, Int.natCast_nonneg, Int.ofNat_lt, hlj, nth_map hlj]
    refine call_pure (args := [_, _, _]) (counts_ok r g[j].k g[j].t hr) ⟨rfl, rfl, rfl, rfl⟩ ?_
    rintro u rfl
    rw [hc0]
    refine AX (hK' _ _ ?_)
    clear hK' K'
    iterate 13 refine W0 ?_ (e := fun _ h_ => by simp only [sH, ↓sP, sA, tyS, simprocAttr, hgn, not_false_eq_true, true_and, Int.natCast_nonneg, Int.ofNat_lt, hlj, nth_map hlj]; exact AX h_)
    refine hwalk2_step (g := some (73, false)) rfl rfl fun K' hK' => ?_
    simp only [sH, ↓sP, sA, tyS, simprocAttr, hgn, not_false_eq_true, true_and, Int.natCast_nonneg, Int.ofNat_lt, hlj, nth_map hlj]
    refine call_box (args := [_]) (next_ok L c 50 (by omega) (by omega)) rfl (by simp) ⟨rfl, rfl, rfl, rfl⟩ ?_
    rintro u v' ⟨n, c2, rfl, rfl, m1, m2, m3, m4⟩
    have hw : IntKind.i64.wrap (g[j].t + n) = g[j].t + n := IntWalk.i64_in _ (by have := m4 (by omega); have := hgm.2.2; unfold maxN at this; omega)
    have hc1 := hg.not hm m2
    refine AX (hK' _ _ ?_)
    clear hK' K'
    refine hwalk2_step (g := some (73, false)) rfl rfl fun K' hK' => ?_
    simp only [sH, ↓sP, sA, tyS, simprocAttr, hgn, not_false_eq_true, true_and, Int.natCast_nonneg, Int.ofNat_lt, hlj, nth_map hlj]
    try rw [hw]
    refine AX (hK' _ _ ?_)
    clear hK' K'
    refine hwalk2_step (g := some (73, false)) rfl rfl fun K' hK' => ?_
    simp only [sH, ↓sP, sA, tyS, simprocAttr, hgn, not_false_eq_true, true_and, Int.natCast_nonneg, Int.ofNat_lt, hlj, nth_map hlj]
    refine call_pure (args := [_, _, _]) (counts_ok r g[j].k (g[j].t + n) hr) ⟨rfl, rfl, rfl, rfl⟩ ?_
    rintro u rfl
    rw [hc1]
    refine AX (hK' _ _ ?_)
    clear hK' K'
    refine W0 ?_ (e := fun _ h_ => by simp only [sH, ↓sP, sA, tyS, simprocAttr, hgn, not_false_eq_true, true_and, Int.natCast_nonneg, Int.ofNat_lt, hlj, nth_map hlj]; exact AX h_)
    refine T2 (hK _ _ _ ?_)
    clear hK K
    refine hw_cond (b := false) rfl (fun hb => ?_) (fun hb => ?_)
    ·
     cases hb
    refine hw_skip ?_
    refine T0 (hK _ _ _ ?_)
    clear hK K
    refine hw_region (by kernel_rfl) ?_
    simp only [↓sP, sA, tyS, simprocAttr, i64s j]
    refine ⟨⟨(j + 1, c2), hlj, by simp only; omega⟩, fF, ?_⟩
    show g.length - (j + 1) < g.length - j
    omega
   refine hw_exit ?_
   simp only [↓sP, sA, tyS, simprocAttr]
   clear hK K
   refine AX (hK _ _ _ ?_)
   clear hK K
   have hej : j = g.length := by simp at hb; omega
   refine hw_region (by kernel_rfl) ?_
   simp only [↓sP, sA, tyS, simprocAttr, i64s i]
   refine ⟨⟨(i + 1, r, g, c), hlt, hr, hrx, hg, hgl, by show c ≤ 1000 * (i + 1); omega⟩, fF, ?_⟩
   show 5 - (i + 1) < 5 - i
   omega
  refine R0 ?_
  refine hw_cond (b := rotE r b K0 at0 == 0) rfl (fun hb => ?_) (fun hb => ?_)
  ·
   have he : rotE r b K0 at0 = 0 := by simpa using hb
   clear hb
   obtain ⟨e1, e2, e3, e4⟩ := rotE_zero he
   obtain ⟨hvy, hsy⟩ := rootE_zero e1
   obtain ⟨-, -, -, hy64⟩ := rMid_of_valid hvy
   rw [e4]
   have hA0 : ∀ v ∈ (rootO b).x.map Rv.cv, v.cells = 33 := fun v h => by obtain ⟨d, _, rfl⟩ := List.mem_map.1 h; exact Rv.cells d
   have hA1 : (g.length + (rootO b).x.length) * 40 ≤ 140737488355328 := by omega
   have hA2 : g.length + (rootO b).x.length ≤ maxLen := by unfold maxLen; omega
   refine hw_seq fun K hK => ?_
   refine hw_seq fun K hK => Rg ?_
   iterate 6 refine S0 ?_
   refine T2 (hK _ _ _ ?_)
   clear hK K
   refine hw_cond (b := (rootO b).v != IntKind.i64.wrap (r.v + 1)) rfl (fun hb => ?_) (fun hb => ?_)
   ·
    rw [e2] at hb
    simp at hb
   refine hw_skip ?_
   refine T0 (hK _ _ _ ?_)
   clear hK K
   refine R0 ?_
   refine hw_region (by kernel_rfl) ?_
   simp only [sR, simprocAttr]
   iterate 5 refine S0 ?_ (e := fun _ h_ => by simp only [sH, ↓sP, sA, tyS, simprocAttr, hA0, hA1, hA2, true_and]; exact AX h_)
   simp only [sE, ↓reduceIte, simprocAttr]
   exact key (rootO b) (g ++ (rootO b).x) _ _ _ ⟨hsy, hy64, (hg.kept e3).append (Gone.own hvy), by rw [List.length_append]; omega, by omega⟩ (fF)
  refine hw_skip ?_
  simp only [↓sP, sA, tyS, simprocAttr]
  exact key r g _ _ _ ⟨hr, hrx, hg, by omega, by omega⟩ (fF)
 refine hw_exit ?_
 simp only [↓sP, sA, tyS, simprocAttr]
 clear hK K
 refine AX (hK _ _ _ ?_)
 clear hK K
 refine hw_seq fun K hK => Rg ?_
 refine hlex_step (g := none) rfl rfl fun K' hK' => ?_
 simp only [sH, ↓sP, sA, tyS, simprocAttr]
 refine call_pure (args := []) awake_ok ⟨rfl, rfl, rfl, rfl⟩ ?_
 rintro u rfl
 refine AX (hK' _ _ ?_)
 clear hK' K'
 refine S0 ?_
 refine T2 (hK _ _ _ ?_)
 clear hK K
 refine hw_ret ?_
 simp only [hpost, Tryz.results4, hresL, hres1, tupOf, ↓sP, sA, tyS, simprocAttr]
 exact hret_pure [] (.bool true) rfl rfl

end Go.Proofs.YtenbfeemmpjdhaaGreatDoor

namespace Go.Proofs.YtenbfeemmpjdhaaGreatDoor
open Go Go.Hl Go.Pl
set_option linter.unusedVariables false
set_option maxRecDepth 100000

theorem trustForever_contract (H : Type) (enc : TypeId × Value → H) (W : World) (args : Array Value) (ds gs : List (DataW H)) (before : List MemPlace)
    (hL : laidMetH Tryz.prog Rows.trustForeverRow.laid W)
    (hval : ∀ (j : Nat) t v, Tryz.f4.params[j]? = some t → args[j]? = some v → Value.okWide Tryz.prog W .any 0 t v)
    (hW : DataW.Whole enc Tryz.prog Tryz.f4.params.toList Rows.trustForeverSpec.vars false W args.toList ds gs before) :
    Calls Tryz.prog 4 args W fun e W' => ∃ v, e = .returned v ∧ Rows.trustForeverSpec.post enc Tryz.prog Tryz.f4 false true false false W args v W' := by
  refine law_post (mm := 6) (tb := 4) (by kernel_rfl) kids slicesFull rfl (by kernel_rfl) Tryz.underlying4 ?_ ?_ ?_ (fun j t v h1 h2 => ?_) hW
  · rw [Tryz.params4]
    intro H ds h
    match ds, h with
    | [c0], _ => exact ⟨rfl, rfl, rfl⟩
  · rw [Tryz.params4]
    intro t ht
    simp only [List.mem_cons, List.not_mem_nil, or_false] at ht
    rcases ht with rfl
    · exact ⟨by kernel_rfl, of_decide_eq_true (by kernel_rfl)⟩
  · rw [Tryz.params4]
    intro cs hn hty
    match cs, hn, hty with
    | [c0], _, hty =>
      obtain ⟨L, rfl, hw, hl⟩ := of_ints (hty 0 _ c0 rfl rfl)
      exact forever_law L
  · exact hval j t v h1 h2

open Go.ChangeShapes Go.WideShapes Go.ChangeAt Go.RowKit in
set_option maxRecDepth 100000 in
theorem trustForever_lifted (os : Os) (started : os.Started) (H : Type) (enc : TypeId × Value → H) :
    ReturnsInHanded {} Tryz.checked os 4 .any (fun w args => (Rows.trustForeverSpec.pre enc Tryz.prog Tryz.f4 [] false w args ∧ laidMetH Tryz.prog Rows.trustForeverRow.laid w) ∧ sizedMet enc Tryz.prog Tryz.f4 (OpenSpec.ofChange Rows.trustForeverSpec) false w args)
      (Rows.trustForeverSpec.post enc Tryz.prog Tryz.f4 false true false false) := by
  refine returnsInHanded_of_change_and (C := Tryz.checked) (X := fun w _ => laidMetH Tryz.prog Rows.trustForeverRow.laid w) (fun _ _ _ hh h => h.of_heap hh) own started (by kernel_rfl) Tryz.func4
    (ChangeSpec.witness_shaped (enc := enc) (C := Tryz.checked) (os := os) (X := fun w _ => laidMetH Tryz.prog Rows.trustForeverRow.laid w) false (World.laidAll Tryz.prog os Rows.trustForeverRow.laid) #[.slice none 0 0] 8 (World.laidAll_os _ _ _)
      (World.shaped_of_ZipB (by kernel_rfl) (by kernel_rfl)) (by kernel_rfl) (by kernel_rfl) (by kernel_rfl)
      (by rw [MakeChecks.laidMetH_plain _ _ _ (by kernel_rfl)]; exact laidMet_laidAll _ (by kernel_rfl) (by kernel_rfl))) ?_
  intro W base args ds gs before hval hW _ _ hL _
  exact trustForever_contract H enc W args ds gs before hL (fun j t v h1 h2 => (hval j t v h1 h2)) hW

theorem trustForever_row : Rows.TrustForeverSaid :=
  OpenClaim.holds_of_wide 4 Tryz.f4 rfl rfl rfl rfl rfl rfl rfl ⟨rfl, rfl, rfl, rfl, rfl⟩ rfl rfl rfl rfl rfl (by kernel_rfl) Tryz.func4 (by kernel_rfl)
    (of_decide_eq_true (by kernel_rfl)) (by unfold Func.isWrapper; first | (rw [if_pos (by decide +kernel)]; kernel_rfl) | (rw [if_neg (by decide +kernel)]; exact ⟨rfl, rfl⟩))
    (fun os started H enc _ => trustForever_lifted os started H enc)

theorem trustForever_said : Rows.TrustForeverCardSaid :=
  Claim7.holds_tied_plain_at .later [] [.data, .pinned] true (true, "a6004cba14d084c939e55818a9fd244e68653aaafb07118b80d6f1b0c2c3011d") true trustForever_row (fun _ h => by cases h) (by kernel_rfl) (fun _ h => by cases h) trustForever_row_tie rfl ⟨rfl, rfl⟩ (by kernel_rfl) rfl
    (fun f fn hf hfn => by
      obtain rfl : f = 4 := Option.some.inj ((show Tryz.prog.funcNamed "admission/admissionlaw11.TrustForever" = some 4 by kernel_rfl).symm.trans hf) |>.symm
      obtain rfl : fn = Tryz.f4 := (Option.some.inj (Tryz.func4.symm.trans hfn)).symm
      exact ⟨by kernel_rfl, fun j t ht => by
        rw [Tryz.params4] at ht
        have hm : t ∈ [27] := by simpa using Array.mem_of_getElem? ht
        have hall : ([27].all fun u => !Tryz.prog.wantsStandIn u) = true := by kernel_rfl
        exact (show Tryz.prog.wantsStandIn t = false by simpa using List.all_eq_true.1 hall t hm)⟩)
    (by kernel_rfl)
#print axioms trustForever_said
end Go.Proofs.YtenbfeemmpjdhaaGreatDoor
