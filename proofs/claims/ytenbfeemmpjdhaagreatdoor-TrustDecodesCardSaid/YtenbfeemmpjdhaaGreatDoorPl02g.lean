/- Pieces of a string (strings.Split), in plain Lean. By an AI agent. -/
import Derived.Test.YtenbfeemmpjdhaaGreatDoorPl02e
import Derived.Test.YtenbfeemmpjdhaaGreatDoorHySb
import Derived.Test.YtenbfeemmpjdhaaGreatDoorPl11h
import Derived.Test.YtenbfeemmpjdhaaGreatDoorHlIt
set_option linter.unusedSimpArgs false
set_option linter.unusedVariables false
set_option linter.defProp false
namespace Go.Proofs.YtenbfeemmpjdhaaGreatDoor
open Go Go.Hl Go.Pl
set_option maxRecDepth 10000
set_option maxHeartbeats 16000000

theorem pV (c : UInt8) : aW Tryz.prog 111 [.int .u8 c.toNat] (fun v => v = .bool (bS c)) := by
 refine FW Tryz.func111 ?_
 refine R0 ?_
 refine aB fun K hK => Rg ?_
 iterate 3 refine S0 ?_
 refine aF 4 rfl (fun h1_4 => ?_) (fun h1_4 => ?_)
 ·
  have F := h1_4
  iterate 4 refine SF ?_
  refine aF 7 rfl (fun h1_7 => ?_) (fun h1_7 => ?_)
  ·
   have F := aI h1_4 h1_7
   iterate 4 refine SF ?_
   refine T2 (hK _ _ _ ?_)
   clear hK K
   refine aD (RT Tryz.results111 ?_)
   refine aC [] (.bool _) rfl ?_
   simp [h1_4, h1_7, bS]
   all_goals first | rfl | simp_all | omega
  have F := aI h1_4 h1_7
  iterate 4 refine SF ?_
  refine T2 (hK _ _ _ ?_)
  clear hK K
  refine aD (RT Tryz.results111 ?_)
  refine aC [] (.bool _) rfl ?_
  simp [h1_4, h1_7, bS]
  all_goals first | rfl | simp_all | omega
 have F := h1_4
 iterate 8 refine SF ?_
 refine T2 (hK _ _ _ ?_)
 clear hK K
 refine aD (RT Tryz.results111 ?_)
 refine aC [] (.bool _) rfl ?_
 simp [h1_4, bS]
 all_goals first | rfl | simp_all | omega


theorem rA (c : UInt8) : aW Tryz.prog 112 [.int .u8 c.toNat] (fun v => v = .bool (bS c)) := by
 refine FW Tryz.func112 ?_
 refine R0 ?_
 refine aB fun K hK => Rg ?_
 iterate 3 refine S0 ?_
 refine aF 4 rfl (fun h1_4 => ?_) (fun h1_4 => ?_)
 ·
  have F := h1_4
  iterate 4 refine SF ?_
  refine aF 7 rfl (fun h1_7 => ?_) (fun h1_7 => ?_)
  ·
   have F := aI h1_4 h1_7
   iterate 4 refine SF ?_
   refine T2 (hK _ _ _ ?_)
   clear hK K
   refine aD (RT Tryz.results112 ?_)
   refine aC [] (.bool _) rfl ?_
   simp [h1_4, h1_7, bS]
   all_goals first | rfl | simp_all | omega
  have F := aI h1_4 h1_7
  iterate 4 refine SF ?_
  refine T2 (hK _ _ _ ?_)
  clear hK K
  refine aD (RT Tryz.results112 ?_)
  refine aC [] (.bool _) rfl ?_
  simp [h1_4, h1_7, bS]
  all_goals first | rfl | simp_all | omega
 have F := h1_4
 iterate 8 refine SF ?_
 refine T2 (hK _ _ _ ?_)
 clear hK K
 refine aD (RT Tryz.results112 ?_)
 refine aC [] (.bool _) rfl ?_
 simp [h1_4, bS]
 all_goals first | rfl | simp_all | omega


theorem aV1 (w : aK) (hl : w.length < 2 ^ 40) : aW Tryz.prog 72 [.str w] (fun v => v = .int .i64 (sizeW w : Nat)) := by
 refine FW Tryz.func72 ?_
 refine R0 ?_
 refine R0 ?_
 refine aB fun K hK => ?_
 refine R0 ?_
 refine aH ?_
 refine aU (α := {i : Nat // i ≤ w.length}) (fun i => (fin [(0, .c (.str w)), (3, .c (.int .i64 (bW (w.take i.1)).length)), (4, .c (.int .i64 i.1))], fob [])) 100 (fun i => w.length - i.1) ⟨0, by omega⟩ (fF) ?_
 rintro ⟨i, hi⟩
 have hle := jC w i
 have hle3 := pQ w
 refine aB fun K hK => ?_
 refine aB fun K hK => Rg ?_
 iterate 4 refine S0 ?_
 refine T2 (hK _ _ _ ?_)
 clear hK K
 refine aJ (b := decide ((i : Int) < w.length)) rfl (fun hb => ?_) (fun hb => ?_)
 ·
  have hlt : i < w.length := by simpa using hb
  have hgd : w.getD i 0 = w[i] := by simp [hlt]
  have hs := oD hlt
  refine aG ?_
  refine T0 (hK _ _ _ ?_)
  clear hK K
  refine aB fun K hK => ?_
  refine aH ?_
  have F := IntWalk.i64_in _ (show -9223372036854775808 ≤ ((bW (w.take i)).length : Int) + 1 ∧ ((bW (w.take i)).length : Int) + 1 ≤ 9223372036854775807 by omega)
  refine RF ?_
  refine aB fun K hK => Rg ?_
  iterate 3 refine S0 ?_ (e := fun _ h_ => by simp only [sH, ↓sP, sA, tyS, simprocAttr, Int.natCast_nonneg, Int.ofNat_lt, hlt, hgd]; exact AX h_)
  refine HS rfl rfl fun K' hK' => ?_
  simp only [sH, ↓sP, sA, tyS, simprocAttr, Int.natCast_nonneg, Int.ofNat_lt, hlt, hgd]
  refine C1 (pV w[i]) ?_
  rintro u rfl
  refine AX (hK' _ _ ?_)
  clear hK' K'
  refine S0 ?_ (e := fun _ h_ => by simp only [sH, ↓sP, sA, tyS, simprocAttr, Int.natCast_nonneg, Int.ofNat_lt, hlt, hgd]; exact AX h_)
  refine T2 (hK _ _ _ ?_)
  clear hK K
  refine aJ (b := !bS w[i]) rfl (fun hb => ?_) (fun hb => ?_)
  ·
   refine aL (by kernel_rfl) ?_
   refine TQ (IntWalk.i64_in _ (show -9223372036854775808 ≤ ((bW (w.take i)).length : Int) + 1 + 2 ∧ ((bW (w.take i)).length : Int) + 1 + 2 ≤ 9223372036854775807 by omega)) ?_
   refine AX (hK _ _ _ ?_)
   clear hK K
   refine aL (by kernel_rfl) ?_
   refine TQ (bK i) ?_
   have hp : bS w[i] = false := by simpa using hb
   have he : ((bW (w.take i)).length : Int) + 1 + 2 = ((bW (w.take (i + 1))).length : Int) := by
    rw [hs, List.length_append, gL, if_neg (by rw [hp]; simp)]; simp; omega
   simp only [he]
   refine ⟨⟨i + 1, hlt⟩, fF, ?_⟩
   show w.length - (i + 1) < w.length - i
   omega
  refine aG ?_
  refine T0 (hK _ _ _ ?_)
  clear hK K
  refine aL (by kernel_rfl) ?_
  refine TQ (bK i) ?_
  have hp : bS w[i] = true := by simpa using hb
  have he : ((bW (w.take i)).length : Int) + 1 = ((bW (w.take (i + 1))).length : Int) := by
   rw [hs, List.length_append, gL, if_pos hp]; simp
  simp only [he]
  refine ⟨⟨i + 1, hlt⟩, fF, ?_⟩
  show w.length - (i + 1) < w.length - i
  omega
 refine aS (T3 ?_)
 clear hK K
 refine AX (hK _ _ _ ?_)
 clear hK K
 have F := @cG1
 refine RF ?_
 refine aD (RT Tryz.results72 ?_)
 have hei : i = w.length := by simp at hb; omega
 subst hei
 exact aC [] (.int .i64 (sizeW w : Nat)) (by rw [List.take_length]; rfl) rfl


theorem aV2 (w : aK) (hl : w.length < 2 ^ 40) : aW Tryz.prog 73 [.str w] (fun v => v = .str (fV w)) := by
 refine FW Tryz.func73 ?_
 refine R0 ?_
 refine aB fun K hK => ?_
 refine R0 ?_
 refine aJ (b := w == []) rfl (fun hb => ?_) (fun hb => ?_)
 ·
  refine R0 ?_
  refine aD (RT Tryz.results73 ?_)
  exact aC [] (.str [126]) rfl (by rw [fV, if_pos (by simpa using hb)])
 refine aG ?_
 refine T0 (hK _ _ _ ?_)
 clear hK K
 have hne : w ≠ [] := by simpa using hb
 have hz : (sizeW w : Int) ≤ 140737488355328 := by have := mF w; omega
 clear hb
 refine aB fun K hK => Rg ?_
 have F := aI @Int.natCast_nonneg (aI hz @Int.mul_one)
 refine SF ?_
 refine HS rfl rfl fun K' hK' => T6 ?_
 refine C1 (aV1 w hl) ?_
 rintro u rfl
 refine AX (hK' _ _ ?_)
 clear hK' K'
 iterate 2 refine SF ?_
 refine T2 (hK _ _ _ ?_)
 clear hK K
 refine aB fun K hK => ?_
 refine R0 ?_
 refine aH ?_
 refine aU (α := {i : Nat // i ≤ w.length}) (fun i => (fin [(0, .c (.str w)), (3, .own 20 (bW (w.take i.1)).length), (4, .c (.int .i64 i.1))], fob [(20, .row 5 1 ((bW (w.take i.1)).map cU))])) 100 (fun i => w.length - i.1) ⟨0, by omega⟩ (fF) ?_
 rintro ⟨i, hi⟩
 have hle := jC w i
 have hle3 := pQ w
 refine aB fun K hK => ?_
 refine aB fun K hK => Rg ?_
 iterate 4 refine S0 ?_
 refine T2 (hK _ _ _ ?_)
 clear hK K
 refine aJ (b := decide ((i : Int) < w.length)) rfl (fun hb => ?_) (fun hb => ?_)
 ·
  have hlt : i < w.length := by simpa using hb
  have hgd : w.getD i 0 = w[i] := by simp [hlt]
  have hs := oD hlt
  refine aG ?_
  refine T0 (hK _ _ _ ?_)
  clear hK K
  refine aB fun K hK => ?_
  refine aH ?_
  refine aB fun K hK => Rg ?_
  iterate 3 refine S0 ?_ (e := fun _ h_ => by simp only [sH, ↓sP, sA, tyS, simprocAttr, Int.natCast_nonneg, Int.ofNat_lt, hlt, hgd]; exact AX h_)
  refine HS rfl rfl fun K' hK' => ?_
  simp only [sH, ↓sP, sA, tyS, simprocAttr, Int.natCast_nonneg, Int.ofNat_lt, hlt, hgd]
  refine C1 (pV w[i]) ?_
  rintro u rfl
  refine AX (hK' _ _ ?_)
  clear hK' K'
  refine T2 (hK _ _ _ ?_)
  clear hK K
  refine aJ (b := bS w[i]) rfl (fun hb => ?_) (fun hb => ?_)
  ·
   refine Rg ?_
   iterate 7 refine S0 ?_ (e := fun _ h_ => by simp only [sH, ↓sP, sA, tyS, simprocAttr, Int.natCast_nonneg, Int.ofNat_lt, hlt, hgd, List.length_append, List.length_map]; exact AX h_)
   refine T2 (hK _ _ _ ?_)
   clear hK K
   refine aL (by kernel_rfl) ?_
   refine TQ (bK i) ?_
   refine ⟨⟨i + 1, hlt⟩, aQ (by omega) ?_ ?_, ?_⟩
   ·
    rw [hs, gL, if_pos hb]
    simp [aY, upd_at, fin_at, HV.men]
   ·
    rw [hs, gL, if_pos hb, List.map_append]
    exact ⟨rfl, by omega, trivial, trivial⟩
   show w.length - (i + 1) < w.length - i
   omega
  have h16 : ((w[i].toNat / 16 : Nat) : Int) < 16 := by have := w[i].toNat_lt; omega
  have h15 : ((w[i].toNat % 16 : Nat) : Int) < 16 := by omega
  refine DW [(0, [], []), (1, [], []), (2, [], []), (3, [], []), (4, [], []), (5, [], []), (6, [], []), (7, [], []), (8, [], []), (9, [], []), (10, [], []), (11, [], []), (12, [], []), (13, [], [])] [0, 0, 0, 6, 14, 30, 0, 0, 192, 448, 960, 2046, 4095, 8191] ?_
  iterate 14 refine W0 ?_ (e := fun _ h_ => by simp only [sH, ↓sP, sA, tyS, simprocAttr, Int.natCast_nonneg, Int.ofNat_lt, hlt, hgd, List.length_append, List.length_map, cE0, bW3, h16, h15]; exact AX h_)
  refine T2 (hK _ _ _ ?_)
  clear hK K
  refine aL (by kernel_rfl) ?_
  refine TQ (bK i) ?_
  refine ⟨⟨i + 1, hlt⟩, aQ (by omega) ?_ ?_, ?_⟩
  ·
   rw [hs, gL, if_neg (by rw [hb]; simp)]
   simp [aY, upd_at, fin_at, HV.men]
  ·
   rw [hs, gL, if_neg (by rw [hb]; simp), List.map_append]
   exact ⟨rfl, by omega, trivial, trivial⟩
  show w.length - (i + 1) < w.length - i
  omega
 refine aS (T3 ?_)
 clear hK K
 refine AX (hK _ _ _ ?_)
 clear hK K
 refine cM [20] (bF (fr2 := fin [(3, .c (.slc ((bW (w.take i)).map cU)))]) (ob2 := fob []) (nx2 := 200) (aQ (by omega) (by simp [aY, cQ, fin_at, finA_at, upd_at, fob_at, HV.close, HV.closeL, CV.denil, CV.denilL, dX, HV.men, HV.menL, HV.norm, HV.toC, HV.toCL]) (by simp [bC, cR, fob_at, upd_at, none0_at, bT, HO.close, HV.close, HV.closeL, HO.men, HV.men, HV.menL, HV.norm, HV.toC, HV.toCL])) ?_)
 have F := @bytesC_map
 refine RF ?_
 refine aD (RT Tryz.results73 ?_)
 have hei : i = w.length := by simp at hb; omega
 subst hei
 exact aC [] (.str (bW w)) (by rw [List.take_length]; rfl) (by rw [fV, if_neg hne])

end Go.Proofs.YtenbfeemmpjdhaaGreatDoor

namespace Go.Proofs.YtenbfeemmpjdhaaGreatDoor
open Go Go.Hl Go.Pl
set_option maxRecDepth 10000
set_option maxHeartbeats 16000000

theorem aK0 (l : List aK) (hl : l.length < 2 ^ 40) : aW Tryz.prog 71 [.slc (l.map .str)] (fun v => v = .int .i64 (lA l)) := by
 refine FW Tryz.func71 ?_
 refine R0 ?_
 refine aB fun K hK => ?_
 refine aH ?_
 refine aB fun K hK => Rg ?_
 iterate 4 refine S0 ?_
 refine T2 (hK _ _ _ ?_)
 clear hK K
 refine aJ (b := (l.length : Int) == 0) rfl (fun hb => ?_) (fun hb => ?_)
 ·
  refine R0 ?_
  refine aD (RT Tryz.results71 ?_)
  exact aC [] (.int .i64 1) rfl (by rw [lA, if_pos (by simp at hb; simp [hb])])
 have hn0 : l.length ≠ 0 := by simp at hb; simp [hb]
 clear hb
 refine aB fun K hK => Rg ?_
 iterate 4 refine S0 ?_
 refine T2 (hK _ _ _ ?_)
 clear hK K
 refine aJ (b := decide ((120 : Int) < l.length)) rfl (fun hb => ?_) (fun hb => ?_)
 ·
  refine R0 ?_
  refine aD (RT Tryz.results71 ?_)
  exact aC [] (.int .i64 3) rfl (by rw [lA, if_neg hn0, if_pos (by simp at hb; omega)])
 refine aG ?_
 refine T0 (hK _ _ _ ?_)
 clear hK K
 refine aB fun K hK => ?_
 have hn1 : l.length ≤ 120 := by simp at hb; omega
 clear hb
 refine R0 ?_
 refine aH ?_
 refine aU (α := {i : Nat // i ≤ l.length ∧ ∀ x ∈ l.take i, decide (32768 < x.length) = false}) (fun i => (fin [(13, .c (.slc (l.map .str))), (14, .c (.int .i64 l.length)), (15, .c (.int .i64 i.1))], fob [])) 100 (fun i => l.length - i.1) ⟨0, by omega, by simp⟩ (fF) ?_
 rintro ⟨i, hi, h0⟩
 refine R0 ?_
 refine aB fun K hK => ?_
 refine aJ (b := decide ((i : Int) < l.length)) rfl (fun hb => ?_) (fun hb => ?_)
 ·
  have hlt : i < l.length := by simpa using hb
  clear hb
  refine aG ?_
  refine T0 (hK _ _ _ ?_)
  clear hK K
  refine aB fun K hK => ?_
  refine aH ?_
  have F := aI @Int.natCast_nonneg (aI @Int.ofNat_lt (aI hlt (nM hlt)))
  refine RF ?_
  refine R0 ?_
  refine aJ (b := decide ((32768 : Int) < l[i].length)) rfl (fun hb => ?_) (fun hb => ?_)
  ·
   refine R0 ?_
   refine aD (RT Tryz.results71 ?_)
   exact aC [] (.int .i64 3) rfl (by rw [lA, if_neg hn0, if_neg (by omega), if_pos]; simp only [List.any_eq_true, decide_eq_true_eq]; exact ⟨_, List.getElem_mem hlt, by simp at hb; omega⟩)
  refine aG ?_
  refine T0 (hK _ _ _ ?_)
  clear hK K
  refine aL (by kernel_rfl) ?_
  refine TQ (bK i) ?_
  have hb2 : decide (32768 < l[i].length) = false := by simp at hb ⊢; omega
  refine ⟨⟨i + 1, hlt, gV (p := fun x => decide (32768 < x.length)) hlt hb2 h0⟩, fF, ?_⟩
  show l.length - (i + 1) < l.length - i
  omega
 refine aS (T3 ?_)
 clear hK K
 refine AX (hK _ _ _ ?_)
 clear hK K
 refine R0 ?_
 refine aD (RT Tryz.results71 ?_)
 have hei : i = l.length := by simp at hb; omega
 subst hei
 rw [List.take_length] at h0
 exact aC [] (.int .i64 0) rfl (by rw [lA, if_neg hn0, if_neg (by omega), if_neg]; simp only [List.any_eq_true, not_exists, not_and]; intro x hx; simp [h0 x hx])


theorem cA1 (ls : List (List aK)) (h0 : ls.length < 2 ^ 40) (h1 : ∀ l ∈ ls, l.length < 2 ^ 40) : dF Tryz.prog 26 [.slc (ls.map fun l => .slc (l.map .str))] (fun u v => u = .slc ((qY ls).map cU) ∧ v = .int .i64 (iN ls)) := by
 refine FW Tryz.func26 ?_
 refine R0 ?_
 refine aB fun K hK => ?_
 refine R0 ?_
 refine aJ (b := decide ((1000 : Int) < ls.length)) rfl (fun hb => ?_) (fun hb => ?_)
 ·
  refine R0 ?_
  refine aD (RT Tryz.results26 ?_)
  have hE := qZ (ls := ls) (by simp at hb; omega)
  refine aM [] (.slc []) (.int .i64 3) ?_ ⟨by rw [gJ (by rw [hE]; decide)]; rfl, by rw [hE]⟩
  simp [HV.close, HV.closeL, CV.denil, CV.denilL, HV.norm, HV.toC, HV.toCL]
 refine aG ?_
 refine T0 (hK _ _ _ ?_)
 clear hK K
 refine aB fun K hK => ?_
 have hn : ls.length ≤ 1000 := by simp at hb; omega
 clear hb
 refine R0 ?_
 refine aH ?_
 refine aU (α := {i : Nat // i ≤ ls.length ∧ ∀ x ∈ ls.take i, okL x = true}) (fun i => (fin [(0, .c (.slc (ls.map fun l => .slc (l.map .str)))), (20, .c (.slc (ls.map fun l => .slc (l.map .str)))), (21, .c (.int .i64 ls.length)), (22, .c (.int .i64 i.1))], fob [])) 100 (fun i => ls.length - i.1) ⟨0, by omega, by simp⟩ (fF) ?_
 rintro ⟨i, hi, hk⟩
 refine R0 ?_
 refine aB fun K hK => ?_
 refine aJ (b := decide ((i : Int) < ls.length)) rfl (fun hb => ?_) (fun hb => ?_)
 ·
  have hlt : i < ls.length := by simpa using hb
  clear hb
  have hl1 := h1 ls[i] (List.getElem_mem hlt)
  refine aG ?_
  refine T0 (hK _ _ _ ?_)
  clear hK K
  refine aB fun K hK => ?_
  refine aH ?_
  have F := aI @Int.natCast_nonneg (aI @Int.ofNat_lt (aI hlt (nM hlt)))
  refine RF ?_
  refine aB fun K hK => Rg ?_
  refine S0 ?_
  refine HS rfl rfl fun K' hK' => T5 ?_
  refine C1 (aK0 ls[i] hl1) ?_
  rintro u rfl
  refine AX (hK' _ _ ?_)
  clear hK' K'
  refine S0 ?_
  refine T2 (hK _ _ _ ?_)
  clear hK K
  refine R0 ?_
  refine aJ (b := lA ls[i] != 0) rfl (fun hb => ?_) (fun hb => ?_)
  ·
   refine R0 ?_
   refine aD (RT Tryz.results26 ?_)
   have hE := pU hn hlt hk (by simpa [okL] using hb)
   refine aM [] (.slc []) (.int .i64 (lA ls[i])) ?_ ⟨by rw [gJ (by rw [hE]; simpa using hb)]; rfl, by rw [hE]⟩
   simp [HV.close, HV.closeL, CV.denil, CV.denilL, HV.norm, HV.toC, HV.toCL]
  refine aG ?_
  refine T0 (hK _ _ _ ?_)
  clear hK K
  refine aL (by kernel_rfl) ?_
  refine TQ (bK i) ?_
  refine ⟨⟨i + 1, hlt, ?_⟩, fF, ?_⟩
  ·
   intro x hx
   rw [List.take_succ_eq_append_getElem hlt, List.mem_append, List.mem_singleton] at hx
   rcases hx with hx | rfl
   ·
    exact hk x hx
   simpa [okL] using hb
  show ls.length - (i + 1) < ls.length - i
  omega
 have hei : i = ls.length := by simp at hb; omega
 subst hei
 clear hb
 rw [List.take_length] at hk
 have hne : ∀ l ∈ ls, l ≠ [] := fun l hl => ((iT l).1 (hk l hl)).1
 have hsd := aU9 hk
 have hdl := pS hne
 have hE := aC8 hn hk
 have hst : ∀ j, sumD (ls.take j) ≤ sumD ls := fun j => aC7 ls j
 have hdt : ∀ j, (eL (ls.take j)).length ≤ sumD ls := fun j => by rw [pS fun l hl => hne l (List.mem_of_mem_take hl)]; exact hst j
 refine aS (T3 ?_)
 clear hK K
 refine AX (hK _ _ _ ?_)
 clear hK K
 refine R0 ?_
 refine aB fun K hK => ?_
 refine R0 ?_
 refine aH ?_
 refine aU (α := {i : Nat // i ≤ ls.length}) (fun i => (fin [(0, .c (.slc (ls.map fun l => .slc (l.map .str)))), (7, .c (.int .i64 (sumD (ls.take i.1) : Nat))), (32, .c (.slc (ls.map fun l => .slc (l.map .str)))), (33, .c (.int .i64 ls.length)), (34, .c (.int .i64 i.1))], fob [])) 200 (fun i => ls.length - i.1) ⟨0, by omega⟩ (fF) ?_
 rintro ⟨i, hi⟩
 refine R0 ?_
 refine aB fun K hK => ?_
 refine aJ (b := decide ((i : Int) < ls.length)) rfl (fun hb => ?_) (fun hb => ?_)
 ·
  have hlt : i < ls.length := by simpa using hb
  clear hb
  have hst1 := bA8 hlt
  have hst2 := hst (i + 1)
  obtain ⟨l, hl⟩ : ∃ l, l = ls[i] := ⟨_, rfl⟩
  obtain ⟨hl0, hl1, hl2⟩ := (iT l).1 (hk l (by rw [hl]; exact List.getElem_mem hlt))
  have hln : nth (ls.map fun l => CV.slc (l.map .str)) i = .slc (l.map .str) := by rw [aN hlt, hl]
  rw [← hl] at hst1
  refine aG ?_
  refine T0 (hK _ _ _ ?_)
  clear hK K
  refine aB fun K hK => ?_
  refine aH ?_
  have F := aI @Int.natCast_nonneg (aI @Int.ofNat_lt (aI hlt hln))
  refine RF ?_
  refine R0 ?_
  refine aH ?_
  refine aU (α := {i : Nat // i ≤ l.length}) (fun k => (fin [(0, .c (.slc (ls.map fun l => .slc (l.map .str)))), (7, .c (.int .i64 (sumD (ls.take i) + fQ (l.take k.1) : Nat))), (32, .c (.slc (ls.map fun l => .slc (l.map .str)))), (33, .c (.int .i64 ls.length)), (34, .c (.int .i64 i)), (38, .c (.slc (l.map .str))), (39, .c (.int .i64 l.length)), (40, .c (.int .i64 k.1))], fob [])) 300 (fun k => l.length - k.1) ⟨0, by omega⟩ (fF) ?_
  rintro ⟨k, hk'⟩
  refine R0 ?_
  refine aB fun K hK => ?_
  refine aJ (b := decide ((k : Int) < l.length)) rfl (fun hb => ?_) (fun hb => ?_)
  ·
   have hlk : k < l.length := by simpa using hb
   clear hb
   have hlt1 := bA7 hlk
   have hlt2 := pT l (k + 1)
   have hw2 := hl2 l[k] (List.getElem_mem hlk)
   refine aG ?_
   refine T0 (hK _ _ _ ?_)
   clear hK K
   refine aB fun K hK => ?_
   refine aH ?_
   have F := aI @Int.natCast_nonneg (aI @Int.ofNat_lt (aI hlk (nM hlk)))
   refine RF ?_
   refine Rg ?_
   have F := aI (IntWalk.i64_in _ (show -9223372036854775808 ≤ ((sizeW l[k] : Nat) : Int) + 1 ∧ ((sizeW l[k] : Nat) : Int) + 1 ≤ 9223372036854775807 by omega)) (IntWalk.i64_in _ (show -9223372036854775808 ≤ ((sumD (ls.take i) + fQ (l.take k) : Nat) : Int) + (((sizeW l[k] : Nat) : Int) + 1) ∧ ((sumD (ls.take i) + fQ (l.take k) : Nat) : Int) + (((sizeW l[k] : Nat) : Int) + 1) ≤ 9223372036854775807 by omega))
   iterate 2 refine SF ?_
   refine HS rfl rfl fun K' hK' => T6 ?_
   refine C1 (aV1 l[k] (by omega)) ?_
   rintro u rfl
   refine AX (hK' _ _ ?_)
   clear hK' K'
   iterate 3 refine SF ?_
   refine T2 (hK _ _ _ ?_)
   clear hK K
   refine aL (by kernel_rfl) ?_
   refine TQ (bK k) ?_
   have he : ((sumD (ls.take i) + fQ (l.take k) : Nat) : Int) + (((sizeW l[k] : Nat) : Int) + 1) = ((sumD (ls.take i) + fQ (l.take (k + 1)) : Nat) : Int) := by omega
   simp only [he]
   refine ⟨⟨k + 1, hlk⟩, fF, ?_⟩
   show l.length - (k + 1) < l.length - k
   omega
  have hek : k = l.length := by simp at hb; omega
  subst hek
  clear hb
  refine aS (T3 ?_)
  clear hK K
  refine AX (hK _ _ _ ?_)
  clear hK K
  refine aL (by kernel_rfl) ?_
  refine TQ (bK i) ?_
  have he : ((sumD (ls.take i) + fQ (l.take l.length) : Nat) : Int) = ((sumD (ls.take (i + 1)) : Nat) : Int) := by rw [List.take_length]; omega
  simp only [he]
  refine ⟨⟨i + 1, hlt⟩, fF, ?_⟩
  show ls.length - (i + 1) < ls.length - i
  omega
 have hei : i = ls.length := by simp at hb; omega
 subst hei
 clear hb
 refine aS (T3 ?_)
 clear hK K
 refine AX (hK _ _ _ ?_)
 clear hK K
 refine aB fun K hK => ?_
 have F := @List.take_length.{0}
 refine RF ?_
 refine aJ (b := decide ((262144 : Int) < (sumD ls : Nat))) rfl (fun hb => ?_) (fun hb => ?_)
 ·
  refine R0 ?_
  refine aD (RT Tryz.results26 ?_)
  rw [if_pos (by rw [hdl]; simp at hb; omega)] at hE
  refine aM [] (.slc []) (.int .i64 3) ?_ ⟨by rw [gJ (by rw [hE]; decide)]; rfl, by rw [hE]⟩
  simp [HV.close, HV.closeL, CV.denil, CV.denilL, HV.norm, HV.toC, HV.toCL]
 refine aG ?_
 refine T0 (hK _ _ _ ?_)
 clear hK K
 have hle : sumD ls ≤ 262144 := by simp at hb; omega
 have hz : ((sumD ls : Nat) : Int) ≤ 140737488355328 := by omega
 clear hb
 rw [if_neg (by rw [hdl]; omega)] at hE
 have hO := aC9 hE
 have F := aI @Int.natCast_nonneg (aI hz (aI @Int.mul_one @List.take_length.{0}))
 refine RF ?_
 refine aB fun K hK => ?_
 refine R0 ?_
 refine aH ?_
 refine aU (α := {i : Nat // i ≤ ls.length}) (fun i => (fin [(12, .own 216 (eL (ls.take i.1)).length), (55, .c (.slc (ls.map fun l => .slc (l.map .str)))), (56, .c (.int .i64 ls.length)), (57, .c (.int .i64 i.1))], fob [(216, .row 5 1 ((eL (ls.take i.1)).map cU))])) 400 (fun i => ls.length - i.1) ⟨0, by omega⟩ (fF) ?_
 rintro ⟨i, hi⟩
 refine R0 ?_
 refine aB fun K hK => ?_
 refine aJ (b := decide ((i : Int) < ls.length)) rfl (fun hb => ?_) (fun hb => ?_)
 ·
  have hlt : i < ls.length := by simpa using hb
  clear hb
  have hdt1 := yK hlt
  have hdt0 := hdt i
  obtain ⟨l, hl⟩ : ∃ l, l = ls[i] := ⟨_, rfl⟩
  have hok := hk l (by rw [hl]; exact List.getElem_mem hlt)
  have hsl := aU8 hok
  obtain ⟨hl0, hl1, hl2⟩ := (iT l).1 hok
  have hln : nth (ls.map fun l => CV.slc (l.map .str)) i = .slc (l.map .str) := by rw [aN hlt, hl]
  rw [← hl] at hdt1
  refine aG ?_
  refine T0 (hK _ _ _ ?_)
  clear hK K
  refine aB fun K hK => ?_
  refine aH ?_
  have F := aI @Int.natCast_nonneg (aI @Int.ofNat_lt (aI hlt hln))
  refine RF ?_
  refine aB fun K hK => ?_
  refine R0 ?_
  refine aH ?_
  refine aU (α := {i : Nat // i ≤ l.length}) (fun k => (fin [(12, .own 216 (eL (ls.take i) ++ fH (l.take k.1)).length), (55, .c (.slc (ls.map fun l => .slc (l.map .str)))), (56, .c (.int .i64 ls.length)), (57, .c (.int .i64 i)), (61, .c (.slc (l.map .str))), (62, .c (.int .i64 l.length)), (63, .c (.int .i64 k.1))], fob [(216, .row 5 1 ((eL (ls.take i) ++ fH (l.take k.1)).map cU))])) 500 (fun k => l.length - k.1) ⟨0, by omega⟩ (fF) ?_
  rintro ⟨k, hk'⟩
  have hsw := aU7 (l.take k)
  have hst2 := pT l k
  refine R0 ?_
  refine aB fun K hK => ?_
  refine aJ (b := decide ((k : Int) < l.length)) rfl (fun hb => ?_) (fun hb => ?_)
  ·
   have hlk : k < l.length := by simpa using hb
   clear hb
   have hw2 := hl2 l[k] (List.getElem_mem hlk)
   have hel := pR l[k]
   have hsz := mF l[k]
   have hsp := yI l[k]
   have hpe : 0 < (fV l[k]).length := by omega
   have htk := yJ hlk
   have hbe : (eL (ls.take i)).length + (fH (l.take k)).length + (fV l[k]).length ≤ 140737488355328 := by omega
   have hbe1 : (eL (ls.take i)).length + (fH (l.take k)).length + 1 + (fV l[k]).length ≤ 140737488355328 := by omega
   refine aG ?_
   refine T0 (hK _ _ _ ?_)
   clear hK K
   refine aB fun K hK => ?_
   refine aH ?_
   refine aB fun K hK => Rg ?_
   have F := aI @Int.natCast_nonneg (aI @Int.ofNat_lt (aI hlk (nM hlk)))
   iterate 5 refine SF ?_
   refine T2 (hK _ _ _ ?_)
   clear hK K
   refine aB fun K hK => ?_
   refine R0 ?_
   refine aJ (b := decide ((0 : Int) < k)) rfl (fun hb => ?_) (fun hb => ?_)
   ·
    refine Rg ?_
    have F := aI @List.length_append.{0} @List.length_map.{0,0}
    iterate 4 refine SF ?_
    refine T2 (hK _ _ _ ?_)
    clear hK K
    refine Rg ?_
    have F := aI @List.length_append.{0} (aI @List.length_map.{0,0} (aI hpe (aI hbe hbe1)))
    iterate 2 refine SF ?_
    refine HS rfl rfl fun K' hK' => T6 ?_
    refine C1 (aV2 l[k] (by omega)) ?_
    rintro u rfl
    refine AX (hK' _ _ ?_)
    clear hK' K'
    iterate 2 refine SF ?_
    refine T2 (hK _ _ _ ?_)
    clear hK K
    refine aL (by kernel_rfl) ?_
    refine TQ (bK k) ?_
    have hk0 : k ≠ 0 := by simp at hb; omega
    refine ⟨⟨k + 1, hlk⟩, aQ (by omega) ?_ ?_, ?_⟩
    ·
     rw [htk, if_neg hk0]
     simp [aY, upd_at, fin_at, HV.men]
     omega
    ·
     rw [htk, if_neg hk0]
     simp only [List.map_append, ← List.append_assoc]
     exact ⟨rfl, by omega, trivial, trivial⟩
    show l.length - (k + 1) < l.length - k
    omega
   refine aG ?_
   refine T0 (hK _ _ _ ?_)
   clear hK K
   refine Rg ?_
   have F := aI @List.length_append.{0} (aI @List.length_map.{0,0} (aI hpe (aI hbe hbe1)))
   iterate 2 refine SF ?_
   refine HS rfl rfl fun K' hK' => T6 ?_
   refine C1 (aV2 l[k] (by omega)) ?_
   rintro u rfl
   refine AX (hK' _ _ ?_)
   clear hK' K'
   iterate 2 refine SF ?_
   refine T2 (hK _ _ _ ?_)
   clear hK K
   refine aL (by kernel_rfl) ?_
   refine TQ (bK k) ?_
   have hk0 : k = 0 := by simp at hb; omega
   refine ⟨⟨k + 1, hlk⟩, aQ (by omega) ?_ ?_, ?_⟩
   ·
    rw [htk, if_pos hk0]
    simp [aY, upd_at, fin_at, HV.men]
    omega
   ·
    rw [htk, if_pos hk0, List.nil_append]
    simp only [List.map_append, ← List.append_assoc]
    exact ⟨rfl, by omega, trivial, trivial⟩
   show l.length - (k + 1) < l.length - k
   omega
  have hek : k = l.length := by simp at hb; omega
  subst hek
  clear hb
  rw [List.take_length] at *
  refine aS (T3 ?_)
  clear hK K
  refine AX (hK _ _ _ ?_)
  clear hK K
  refine Rg ?_
  have F := aI @List.length_append.{0} @List.length_map.{0,0}
  iterate 4 refine SF ?_
  refine T2 (hK _ _ _ ?_)
  clear hK K
  refine aL (by kernel_rfl) ?_
  refine TQ (bK i) ?_
  refine ⟨⟨i + 1, hlt⟩, aQ (by omega) ?_ ?_, ?_⟩
  ·
   rw [hdt1, vH]
   simp [aY, upd_at, fin_at, HV.men]
   omega
  ·
   rw [hdt1, vH]
   simp only [List.map_append, ← List.append_assoc]
   exact ⟨rfl, by omega, trivial, trivial⟩
  show ls.length - (i + 1) < ls.length - i
  omega
 refine aS (T3 ?_)
 clear hK K
 refine AX (hK _ _ _ ?_)
 clear hK K
 refine R0 ?_
 refine aD (RT Tryz.results26 ?_)
 have hei : i = ls.length := by simp at hb; omega
 subst hei
 refine aM [216] (.slc ((eL ls).map cU)) (.int .i64 0) ?_ ⟨by rw [hO], by rw [hE]⟩
 rw [List.take_length]
 simp [HV.close, fob_at, upd_at, HV.norm, HV.toC, HV.closeL, HV.toCL, List.take_of_length_le, CV.denil, dX]

end Go.Proofs.YtenbfeemmpjdhaaGreatDoor

namespace Go.Hl
open Go Go.Pl

def dT (l : List UInt8) (c : UInt8) : Int := match l.findIdx? (· == c) with | some i => (i : Int) | none => -1
theorem aK1 {α : Type} {p : α → Bool} (d : α) : ∀ (l : List α), (List.range l.length).find? (fun i => p (l.getD i d)) = l.findIdx? p
 | [] => rfl
 | a :: l => by
  rw [List.length_cons, uS, List.findIdx?_cons]
  simp only [List.getD_cons_zero, List.getD_cons_succ]
  rw [aK1 d l]
theorem aV3 {P : Program} {w : World} {l : List UInt8} {x y : Value} {c : UInt8} (hx : (Extern.Bytes.bytesOf x).run P w = .ok ⟨l.toArray⟩ w) (hy : (Extern.Bytes.asByte y).run P w = .ok c w) :
  (Extern.BytealgIndexByte.indexByte #[x, y]).run P w = .ok (.int .i64 (dT l c)) w := by
 change (Sem.run P (do
  let b ← Extern.Bytes.bytesOf x
  let c ← Extern.Bytes.asByte y
  match (List.range b.size).find? fun i => b[i]! == c with
  | some i => pure (goInt i)
  | none => pure (goInt (-1))) w) = _
 simp only [Sem.run_bind, hx, hy, Result.andThen_ok]
 have h1 : (⟨l.toArray⟩ : ByteArray).size = l.length := by simp [ByteArray.size]
 have h2 : ∀ i : Nat, (⟨l.toArray⟩ : ByteArray)[i]! = l.getD i 0 := fun i => by exact Go.Lib.get!_eq l i
 simp only [h1, h2, aK1 (p := fun b => b == c)]
 unfold dT
 cases l.findIdx? fun b => b == c <;> rfl
theorem vI {P : Program} {w : World} {ρ : Env} {O : Nat → Prop} {c : UInt8} {y : Value} (h : RepV w ρ O (.c (u8 c)) y) : (Extern.Bytes.asByte y).run P w = .ok c w := by
 have h1 := h.single rfl
 simp only [u8, RepC, List.cons.injEq, and_true] at h1
 subst h1
 simp [Extern.Bytes.asByte]
theorem cA2 {P : Program} {f : FuncId} {fn : Func} (hf : P.funcs[f]? = some fn) (hname : (fn.name == "runtime.NumGoroutine") = false) (hb : fn.body.isNone = true) (hn : Extern.findNext fn = none)
  (he : Extern.find fn = some Extern.BytealgIndexByte.indexByte) (l : List UInt8) (c : UInt8) : aW P f [.slc (l.map u8), u8 c] (fun v => v = .int .i64 (dT l c)) :=
 mY hf hname hb hn he fun w ρ O xs h => by
  simp only [List.map_cons, List.map_nil, aX, RepHV] at h
  obtain ⟨x, l1, rfl, hx, y, l2, rfl, hy, rfl⟩ := h
  exact ⟨_, _, rfl, dB _ _ _ _ _, aV3 (qT hx) (vI hy)⟩
theorem bR4 {P : Program} {f : FuncId} {fn : Func} (hf : P.funcs[f]? = some fn) (hname : (fn.name == "runtime.NumGoroutine") = false) (hb : fn.body.isNone = true) (hn : Extern.findNext fn = none)
  (he : Extern.find fn = some Extern.BytealgIndexByte.indexByte) (l : List UInt8) (c : UInt8) : aW P f [.str l, u8 c] (fun v => v = .int .i64 (dT l c)) :=
 mY hf hname hb hn he fun w ρ O xs h => by
  simp only [List.map_cons, List.map_nil, aX, RepHV] at h
  obtain ⟨x, l1, rfl, hx, y, l2, rfl, hy, rfl⟩ := h
  have hx' : (Extern.Bytes.bytesOf x).run P w = .ok ⟨l.toArray⟩ w := by
   have h1 := hx.single rfl
   simp only [RepC, List.cons.injEq, and_true] at h1
   subst h1
   rfl
  exact ⟨_, _, rfl, dB _ _ _ _ _, aV3 hx' (vI hy)⟩
end Go.Hl

namespace Go.Hl
open Go

section
variable {P : Program} {av : List Nat} {f : FuncId} {ob : Ob} {nid id n : Nat} {K : HV → Ob → Prop} {T e : TypeId} {sz : Nat} {v : CV} {l : List CV} {rest : List HV}
end

def bK2 (P : Program) (f : FuncId) (args : List CV) (R : CV → CV → CV → Prop) : Prop :=
 HFn P f (args.map .c) 0 bP (fun r ob' => ∃ u v x, r = .tup [.c u, .c v, .c x] ∧ R u v x ∧ ob' = bP)
theorem vJ {ob : Ob} {r : HV} {R : CV → CV → CV → Prop} (cl : List Nat) (u v x : CV) (h : (r.close ob cl).norm = .tup [.c u, .c v, .c x]) (hR : R u v x) : oS 0 r ob (fun r ob' => ∃ u v x, r = .tup [.c u, .c v, .c x] ∧ R u v x ∧ ob' = bP) :=
 ⟨cl, id, .tup [.c u, .c v, .c x], bP, ⟨u, v, x, rfl, hR, rfl⟩, by rw [h]; rfl, fun _ h => by omega, fun _ _ _ _ h => h, by simp [HV.men, HV.menL], fun j o h => by simp [bP] at h⟩
theorem aP8 {P : Program} {av : List Nat} {f : FuncId} {ob : Ob} {nid : Nat} {K : HV → Ob → Prop} {args : List CV} {R : CV → CV → CV → Prop} (h : bK2 P f args R) (hfree : Free4 ob nid) (hK : ∀ u v x, R u v x → K (.tup [.c u, .c v, .c x]) ob) :
  HCall P av f (args.map .c) ob nid K := by
 refine ⟨[], args.map .c, bP, _, h, cS args, ⟨List.nodup_nil, by simp⟩, (HV.renL_c _ _).symm, fun j o h => by simp [bP] at h, fun r lob' hR _ => ?_⟩
 obtain ⟨u, v, x, rfl, hv, rfl⟩ := hR
 rw [iR hfree.all]
 exact hK u v x hv
end Go.Hl

namespace Go.Pl
open Go Go.Hl

def aT (c : UInt8) : List UInt8 → List (List UInt8)
 | [] => [[]]
 | b :: l => if b = c then [] :: aT c l else match aT c l with
  | x :: xs => (b :: x) :: xs
  | [] => [[b]]
theorem bX (c : UInt8) (l : List UInt8) : aT c l ≠ [] := by
 cases l with
 | nil => simp [aT]
 | cons b l => unfold aT; split <;> (try split) <;> simp
theorem oE (c : UInt8) : ∀ l : List UInt8, match l.findIdx? (· == c) with
  | some i => i < l.length ∧ aT c l = l.take i :: aT c (l.drop (i + 1))
  | none => aT c l = [l]
 | [] => rfl
 | b :: l => by
  have ih := oE c l
  rw [List.findIdx?_cons]
  by_cases h : b = c
  ·
   subst h
   simp [aT]
  ·
   have hb : (b == c) = false := by simpa using h
   simp only [hb, Bool.false_eq_true, if_false]
   cases hf : l.findIdx? (· == c) with
   | none =>
    rw [hf] at ih
    simp only at ih
    simp only [Option.map_none, aT, if_neg h, ih]
   | some i =>
    rw [hf] at ih
    simp only at ih
    simp only [Option.map_some, aT, if_neg h, ih.2, List.length_cons, List.take_succ_cons, List.drop_succ_cons]
    exact ⟨by omega, trivial⟩
theorem pW {l : List UInt8} {c : UInt8} (h : dT l c < 0) : aT c l = [l] := by
 have := oE c l
 unfold dT at h
 split at h
 ·
  omega
 ·
  rename_i hf; rw [hf] at this; exact this
theorem fP {l : List UInt8} {c : UInt8} (h : ¬ dT l c < 0) : ∃ i : Nat, dT l c = (i : Int) ∧ i < l.length ∧ aT c l = l.take i :: aT c (l.drop (i + 1)) := by
 have := oE c l
 unfold dT at h ⊢
 split at h
 ·
  rename_i i hf
  rw [hf] at this
  exact ⟨i, rfl, this⟩
 ·
  omega
theorem dO (c : UInt8) : ∀ l : List UInt8, (aT c l).length ≤ l.length + 1
 | [] => by simp [aT]
 | b :: l => by
  have ih := dO c l
  unfold aT
  split
  ·
   simp; omega
  ·
   split
   ·
    rename_i h; rw [h] at ih; simp only [List.length_cons] at ih ⊢; omega
   ·
    simp
theorem lB (c : UInt8) : ∀ (l : List UInt8), ∀ p ∈ aT c l, p.length ≤ l.length
 | [], p, hp => by simp [aT] at hp; simp [hp]
 | b :: l, p, hp => by
  have ih := lB c l
  unfold aT at hp
  split at hp
  ·
   rcases List.mem_cons.1 hp with rfl | hp
   ·
    simp
   ·
    have := ih p hp; simp only [List.length_cons]; omega
  ·
   split at hp
   ·
    rename_i x xs h
    rw [h] at ih
    rcases List.mem_cons.1 hp with rfl | hp
    ·
     have := ih x List.mem_cons_self; simp only [List.length_cons]; omega
    ·
     have := ih p (List.mem_cons_of_mem _ hp); simp only [List.length_cons]; omega
   ·
    simp only [List.mem_singleton] at hp; subst hp; simp

def valH (c : UInt8) : Nat := if 48 ≤ c.toNat ∧ c.toNat ≤ 57 then c.toNat - 48 else if 65 ≤ c.toNat ∧ c.toNat ≤ 70 then c.toNat - 55 else 16
theorem aV4 (c : UInt8) : valH c ≤ 16 := by unfold valH; split <;> (try split) <;> omega
def byteH (x y : UInt8) : UInt8 := UInt8.ofNat (16 * valH x + valH y)
def okH (x y : UInt8) : Bool := decide (valH x < 16) && decide (valH y < 16) && !bS (byteH x y)
def unB : List UInt8 → Option aK
 | [] => some []
 | c :: l => if bS c then (unB l).map (c :: ·) else if c = 37 then match l with
   | x :: y :: l' => if okH x y then (unB l').map (byteH x y :: ·) else none
   | _ => none
  else none
def unW (s : aK) : Option aK := if s = [126] then some [] else if s = [] then none else unB s

theorem nC {c : UInt8} {l : aK} (h : bS c = true) : unB (c :: l) = (unB l).map (c :: ·) := by
 rw [unB.eq_def]; simp only [h, if_true]
theorem tB {c : UInt8} {l : aK} (h : bS c = false) (h1 : c ≠ 37 ∨ l.length < 2) : unB (c :: l) = none := by
 rw [unB.eq_def]
 simp only [h, Bool.false_eq_true, if_false]
 split
 ·
  rename_i hc
  have h2 := h1.resolve_left fun h => h hc
  split
  ·
   simp only [List.length_cons] at h2; omega
  ·
   rfl
 ·
  rfl
theorem aD0 {x y : UInt8} {l : aK} (h : okH x y = true) : unB (37 :: x :: y :: l) = (unB l).map (byteH x y :: ·) := by
 rw [unB.eq_def]
 have : bS 37 = false := by rfl
 simp only [this, Bool.false_eq_true, if_false, if_true, h]
theorem sD {x y : UInt8} {l : aK} (h : okH x y = false) : unB (37 :: x :: y :: l) = none := by
 rw [unB.eq_def]
 have : bS 37 = false := by rfl
 simp only [this, Bool.false_eq_true, if_false, if_true, h]
theorem cA3 {s : aK} {w : aK} (hs : s ≠ []) (h : unB s = some w) : w ≠ [] := by
 cases s with
 | nil => exact absurd rfl hs
 | cons c l =>
  by_cases hp : bS c = true
  ·
   rw [nC hp, Option.map_eq_some_iff] at h
   obtain ⟨a, _, rfl⟩ := h
   simp
  ·
   have hp : bS c = false := by simpa using hp
   rw [unB.eq_def] at h
   simp only [hp, Bool.false_eq_true, if_false] at h
   split at h
   ·
    split at h
    ·
     split at h
     ·
      rw [Option.map_eq_some_iff] at h; obtain ⟨a, _, rfl⟩ := h; simp
     ·
      cases h
    ·
     cases h
   ·
    cases h


def bR5 : List UInt8 := [48, 49, 50, 51, 52, 53, 54, 55, 56, 57, 65, 66, 67, 68, 69, 70]
set_option maxRecDepth 20000 in
theorem pX (c : UInt8) : dT bR5 c = if valH c < 16 then (valH c : Int) else -1 := by
 have h : ∀ n : Fin 256, dT bR5 (UInt8.ofNat n.1) = if valH (UInt8.ofNat n.1) < 16 then (valH (UInt8.ofNat n.1) : Int) else -1 := by decide
 have := h ⟨c.toNat, c.toNat_lt⟩
 simpa only [UInt8.ofNat_toNat] using this
theorem rB {x y : UInt8} (hx : valH x < 16) (hy : valH y < 16) : (byteH x y).toNat = 16 * valH x + valH y := by
 unfold byteH
 rw [UInt8.toNat_ofNat']
 omega

def UnSt (s : aK) (i : Nat) (out : aK) : Prop := i ≤ s.length ∧ unB s = (unB (s.drop i)).map (out ++ ·) ∧ (out = [] → i = 0) ∧ out.length ≤ i
section
variable {s : aK} {i : Nat} {out : aK}
theorem UnSt.init (s : aK) : UnSt s 0 [] := ⟨Nat.zero_le _, by simp, fun _ => rfl, Nat.le_refl _⟩
theorem UnSt.plain (h : UnSt s i out) (hi : i < s.length) (hp : bS s[i] = true) : UnSt s (i + 1) (out ++ [s[i]]) := by
 obtain ⟨_, h2, _, h4⟩ := h
 refine ⟨hi, ?_, by simp, by simp; omega⟩
 rw [h2, List.drop_eq_getElem_cons hi, nC hp, Option.map_map]
 congr 1
 funext l
 simp
theorem UnSt.bad1 (h : UnSt s i out) (hi : i < s.length) (hp : bS s[i] = false) (h1 : s[i] ≠ 37 ∨ s.length ≤ i + 2) : unB s = none := by
 rw [h.2.1, List.drop_eq_getElem_cons hi, tB hp (h1.imp id fun h => by rw [List.length_drop]; omega)]
 rfl
theorem bW4 {s : aK} {i : Nat} (hi : i + 2 < s.length) : s.drop i = s[i] :: s[i + 1] :: s[i + 2] :: s.drop (i + 3) := by
 rw [List.drop_eq_getElem_cons (show i < s.length by omega), List.drop_eq_getElem_cons (show i + 1 < s.length by omega), List.drop_eq_getElem_cons hi]
theorem UnSt.esc (h : UnSt s i out) (hi : i + 2 < s.length) (h37 : s[i] = 37) (hok : okH s[i + 1] s[i + 2] = true) : UnSt s (i + 3) (out ++ [byteH s[i + 1] s[i + 2]]) := by
 obtain ⟨_, h2, _, h4⟩ := h
 refine ⟨hi, ?_, by simp, by simp; omega⟩
 rw [h2, bW4 hi, h37, aD0 hok, Option.map_map]
 congr 1
 funext l
 simp
theorem UnSt.bad2 (h : UnSt s i out) (hi : i + 2 < s.length) (h37 : s[i] = 37) (hok : okH s[i + 1] s[i + 2] = false) : unB s = none := by
 rw [h.2.1, bW4 hi, h37, sD hok]
 rfl
theorem fA (h : unB s = none) (h1 : s ≠ [126]) : unW s = none := by
 unfold unW
 rw [if_neg h1]
 split <;> first | rfl | exact h
theorem UnSt.fin (h : UnSt s i out) (hi : i = s.length) (h1 : s ≠ [126]) : unW s = if out = [] then none else some out := by
 subst hi
 obtain ⟨_, h2, h3, h4⟩ := h
 rw [List.drop_length] at h2
 unfold unW
 rw [if_neg h1]
 by_cases ho : out = []
 ·
  have := List.eq_nil_of_length_eq_zero (h3 ho)
  rw [if_pos this, if_pos ho]
 ·
  have hs : s ≠ [] := by
   rintro rfl
   simp only [List.length_nil, Nat.le_zero] at h4
   exact ho (List.eq_nil_of_length_eq_zero h4)
  rw [if_neg hs, if_neg ho, h2]
  simp [unB]
end

def CutR (l : List UInt8) (c : UInt8) (li re : List UInt8) (fd : Bool) : Prop :=
 (fd = false ∧ dT l c < 0 ∧ li = l ∧ re = []) ∨ (fd = true ∧ ∃ i : Nat, dT l c = (i : Int) ∧ i < l.length ∧ li = l.take i ∧ re = l.drop (i + 1))

def unL (r : aK) : Option (List aK) := (aT 32 r).mapM unW
def unR (r : aK) : Option (List aK) := match unL r with | some ws => if okL ws then some ws else none | none => none
def fU (b : aK) : Option (List (List aK)) :=
 if b = [] then some [] else if (aT 10 b).getLast (bX 10 b) = [] then (aT 10 b).dropLast.mapM unR else none
theorem aK2 {l li re : aK} (hc : CutR l 10 li re true) : fU l = (unR li).bind fun ws => (fU re).map (ws :: ·) := by
 rcases hc with ⟨h, _⟩ | ⟨_, i, h1, h2, rfl, rfl⟩
 ·
  cases h
 ·
  obtain ⟨i', h3, _, hsp⟩ := fP (l := l) (c := 10) (by omega)
  have : i' = i := by omega
  subst this
  have hne : l ≠ [] := by rintro rfl; simp at h2
  have hd : fU l = if (aT 10 (l.drop (i' + 1))).getLast (bX 10 _) = [] then (l.take i' :: (aT 10 (l.drop (i' + 1))).dropLast).mapM unR else none := by
   unfold fU
   rw [if_neg hne]
   simp only [hsp]
   rw [List.getLast_cons (bX 10 _), List.dropLast_cons_of_ne_nil (bX 10 _)]
  rw [hd]
  have he : fU (l.drop (i' + 1)) = if (aT 10 (l.drop (i' + 1))).getLast (bX 10 _) = [] then (aT 10 (l.drop (i' + 1))).dropLast.mapM unR else none := by
   unfold fU
   split
   ·
    rename_i h
    rw [h]; rfl
   ·
    rfl
  rw [he]
  split
  ·
   rw [List.mapM_cons]
   cases unR (l.take i') with
   | none => rfl
   | some ws => cases (aT 10 (l.drop (i' + 1))).dropLast.mapM unR <;> rfl
  ·
   cases unR (l.take i') <;> rfl
theorem vK {l li re : aK} (hc : CutR l 10 li re false) (hne : l ≠ []) : fU l = none := by
 rcases hc with ⟨_, h, _⟩ | ⟨h, _⟩
 ·
  unfold fU
  rw [if_neg hne]
  have hsp := pW h
  rw [if_neg]
  simp only [hsp, List.getLast_singleton]
  exact hne
 ·
  cases h
theorem bK3 {l li re : aK} {fd : Bool} (hc : CutR l 10 li re fd) (hne : l ≠ []) (h : unR li = none) : fU l = none := by
 cases fd with
 | false => exact vK hc hne
 | true => rw [aK2 hc, h]; rfl
theorem CutR.lt {l li re : aK} {c : UInt8} {fd : Bool} (hc : CutR l c li re fd) (hne : l ≠ []) : re.length < l.length ∧ li.length ≤ l.length := by
 have : 0 < l.length := List.length_pos_iff.2 hne
 rcases hc with ⟨_, _, rfl, rfl⟩ | ⟨_, i, _, h, rfl, rfl⟩
 ·
  exact ⟨this, Nat.le_refl _⟩
 ·
  exact ⟨by rw [List.length_drop]; omega, by rw [List.length_take]; omega⟩

def wsT (r : aK) (i : Nat) : List aK := ((aT 32 r).take i).map fun p => (unW p).getD []
def aK3 (r : aK) (i : Nat) : Prop := ∀ p ∈ (aT 32 r).take i, (unW p).isSome = true
theorem aK4 {r : aK} {i : Nat} (h : i < (aT 32 r).length) : wsT r (i + 1) = wsT r i ++ [(unW (aT 32 r)[i]).getD []] := by
 simp only [wsT, List.take_succ_eq_append_getElem h, List.map_append, List.map_cons, List.map_nil]
theorem oF {r : aK} {i : Nat} (h : i ≤ (aT 32 r).length) : (wsT r i).length = i := by
 simp only [wsT, List.length_map, List.length_take]; omega
theorem yL {r : aK} {i : Nat} (h : i < (aT 32 r).length) (h1 : aK3 r i) (h2 : (unW (aT 32 r)[i]).isSome = true) : aK3 r (i + 1) := by
 intro p hp
 rw [List.take_succ_eq_append_getElem h, List.mem_append, List.mem_singleton] at hp
 rcases hp with hp | rfl
 ·
  exact h1 p hp
 ·
  exact h2
theorem nD {α β : Type} {f : α → Option β} : ∀ {l : List α} {x : α}, x ∈ l → f x = none → l.mapM f = none
 | a :: l, x, hx, h => by
  rw [List.mapM_cons]
  rcases List.mem_cons.1 hx with rfl | hx
  ·
   rw [h]; rfl
  ·
   rw [nD hx h]
   cases f a <;> rfl
theorem pY {α β : Type} {f : α → Option β} (d : β) : ∀ {l : List α}, (∀ x ∈ l, (f x).isSome = true) → l.mapM f = some (l.map fun x => (f x).getD d)
 | [], _ => rfl
 | a :: l, h => by
  rw [List.mapM_cons, pY d fun x hx => h x (List.mem_cons_of_mem _ hx)]
  obtain ⟨y, hy⟩ := Option.isSome_iff_exists.1 (h a List.mem_cons_self)
  rw [hy]
  simp [hy]
theorem bK4 {r : aK} {i : Nat} (h : i < (aT 32 r).length) (h2 : (unW (aT 32 r)[i]).isSome = false) : unR r = none := by
 unfold unR unL
 rw [nD (List.getElem_mem h) (by simpa using h2)]
theorem bR6 {r : aK} (h : aK3 r (aT 32 r).length) : unR r = if okL (wsT r (aT 32 r).length) then some (wsT r (aT 32 r).length) else none := by
 unfold aK3 at h
 rw [List.take_length] at h
 unfold unR unL
 rw [pY [] h]
 simp only [wsT, List.take_length]

def DecSt (b rest : aK) (ls : List (List aK)) : Prop := fU b = (fU rest).map (ls ++ ·) ∧ rest.length ≤ b.length ∧ ls.length + rest.length ≤ b.length
theorem DecSt.init (b : aK) : DecSt b b [] := ⟨by simp, Nat.le_refl _, by simp⟩
theorem DecSt.bad {b rest li re : aK} {ls : List (List aK)} {fd : Bool} (h : DecSt b rest ls) (hc : CutR rest 10 li re fd) (hne : rest ≠ []) (hb : unR li = none) : fU b = none := by
 rw [h.1, bK3 hc hne hb]; rfl
theorem DecSt.bad0 {b rest li re : aK} {ls : List (List aK)} (h : DecSt b rest ls) (hc : CutR rest 10 li re false) (hne : rest ≠ []) : fU b = none := by
 rw [h.1, vK hc hne]; rfl
theorem DecSt.next {b rest li re : aK} {ls : List (List aK)} (h : DecSt b rest ls) (hc : CutR rest 10 li re true) (hne : rest ≠ []) {ws : List aK} (hb : unR li = some ws) : DecSt b re (ls ++ [ws]) := by
 have hl := hc.lt hne
 obtain ⟨h1, h2, h3⟩ := h
 refine ⟨?_, by omega, by simp only [List.length_append, List.length_singleton]; omega⟩
 rw [h1, aK2 hc, hb]
 cases fU re with
 | none => rfl
 | some l => simp
theorem DecSt.fin {b : aK} {ls : List (List aK)} (h : DecSt b [] ls) : fU b = some ls := by
 rw [h.1]
 simp [fU]
def eB (b : aK) : Int := if 262144 < b.length then 3 else match fU b with | some ls => if 1000 < ls.length then 2 else 0 | none => 2
def gT (b : aK) : List (List aK) := if eB b = 0 then (fU b).getD [] else []
end Go.Pl

namespace Go.Proofs.YtenbfeemmpjdhaaGreatDoor
open Go Go.Hl Go.Pl
set_option maxRecDepth 10000
set_option maxHeartbeats 16000000

theorem bR7 (v : CV) : nth [v] 0 = v := rfl
theorem vL (c : UInt8) : (u8 c).denil = u8 c := rfl
theorem denilL_u8 : ∀ bs : List UInt8, CV.denilL (bs.map u8) = bs.map u8
 | [] => rfl
 | b :: bs => by simp only [List.map_cons, CV.denilL, denilL_u8 bs]; rfl
theorem bR8 (l : List UInt8) (c : UInt8) : aW Tryz.prog 175 [.slc (l.map u8), u8 c] (fun v => v = .int .i64 (dT l c)) :=
 cA2 (f := 175) (fn := Tryz.f175) Tryz.func175 (by kernel_rfl) (by kernel_rfl) (by kernel_rfl) (by kernel_rfl) l c
theorem bK5 (l : List UInt8) (c : UInt8) : aW Tryz.prog 178 [.str l, u8 c] (fun v => v = .int .i64 (dT l c)) :=
 bR4 (f := 178) (fn := Tryz.f178) Tryz.func178 (by kernel_rfl) (by kernel_rfl) (by kernel_rfl) (by kernel_rfl) l c

theorem cA4 (l : List UInt8) (c : UInt8) : aW Tryz.prog 152 [.slc (l.map u8), u8 c] (fun v => v = .int .i64 (dT l c)) := by
 refine FW Tryz.func152 ?_
 have F := rI
 refine RF ?_
 refine aB fun K hK => Rg ?_
 have F := aI rI (aI @denilL_u8 @vL)
 iterate 2 refine SF ?_
 refine HS rfl rfl fun K' hK' => T6 ?_
 refine C2 (bR8 l c) ?_
 rintro u rfl
 refine AX (hK' _ _ ?_)
 clear hK' K'
 refine SF ?_
 simp only [sE, ↓reduceIte, simprocAttr, rI]
 refine AX (hK _ _ _ ?_)
 clear hK K
 refine aD ?_
 simp only [cH, Tryz.results152, cD, cG, cA, ↓sP, sA, tyS, simprocAttr, rI]
 exact aC [] (.int .i64 (dT l c)) rfl rfl


theorem bK6 (l : List UInt8) (c : UInt8) : aW Tryz.prog 159 [.str l, u8 c] (fun v => v = .int .i64 (dT l c)) := by
 refine FW Tryz.func159 ?_
 have F := rI
 refine RF ?_
 refine aB fun K hK => Rg ?_
 have F := aI rI (aI @denilL_u8 @vL)
 iterate 2 refine SF ?_
 refine HS rfl rfl fun K' hK' => T6 ?_
 refine C2 (bK5 l c) ?_
 rintro u rfl
 refine AX (hK' _ _ ?_)
 clear hK' K'
 refine SF ?_
 simp only [sE, ↓reduceIte, simprocAttr, rI]
 refine AX (hK _ _ _ ?_)
 clear hK K
 refine aD ?_
 simp only [cH, Tryz.results159, cD, cG, cA, ↓sP, sA, tyS, simprocAttr, rI]
 exact aC [] (.int .i64 (dT l c)) rfl rfl


theorem pZ (l : List UInt8) (c : UInt8) : aW Tryz.prog 127 [.str l, u8 c] (fun v => v = .int .i64 (dT l c)) := by
 refine FW Tryz.func127 ?_
 have F := rI
 refine RF ?_
 refine aB fun K hK => Rg ?_
 have F := aI rI (aI @denilL_u8 @vL)
 iterate 2 refine SF ?_
 refine HS rfl rfl fun K' hK' => T6 ?_
 refine C2 (bK6 l c) ?_
 rintro u rfl
 refine AX (hK' _ _ ?_)
 clear hK' K'
 refine SF ?_
 simp only [sE, ↓reduceIte, simprocAttr, rI]
 refine AX (hK _ _ _ ?_)
 clear hK K
 refine aD ?_
 simp only [cH, Tryz.results127, cD, cG, cA, ↓sP, sA, tyS, simprocAttr, rI]
 exact aC [] (.int .i64 (dT l c)) rfl rfl


theorem yM (l : List UInt8) (c : UInt8) : aW Tryz.prog 125 [.slc (l.map u8), .slc [u8 c]] (fun v => v = .int .i64 (dT l c)) := by
 refine FW Tryz.func125 ?_
 have F := rI
 refine RF ?_
 refine RF ?_
 refine aB fun K hK => ?_
 refine aH ?_
 refine RF ?_
 refine aJ (b := (1 : Int) == 0) rfl (fun hb => ?_) (fun hb => ?_)
 ·
  exact absurd hb (by decide)
 refine RF ?_
 refine aJ (b := (1 : Int) == 1) rfl (fun hb => ?_) (fun hb => ?_)
 ·
  refine aB fun K hK => Rg ?_
  have F := aI rI (aI @u8.eq_1 (aI @bR7 @denilL_u8))
  iterate 4 refine SF ?_
  refine HS rfl rfl fun K' hK' => T6 ?_
  refine C2 (cA4 l c) ?_
  rintro u rfl
  refine AX (hK' _ _ ?_)
  clear hK' K'
  refine SF ?_
  simp only [sE, ↓reduceIte, simprocAttr, rI]
  refine AX (hK _ _ _ ?_)
  clear hK K
  refine aD ?_
  simp only [cH, Tryz.results125, cD, cG, cA, ↓sP, sA, tyS, simprocAttr, rI]
  exact aC [] (.int .i64 (dT l c)) rfl rfl
 exact absurd hb (by decide)


theorem bR9 (l : List UInt8) (c : UInt8) (hl : l.length < 2 ^ 40) : bK2 Tryz.prog 98 [.slc (l.map u8), .slc [u8 c]] (fun x y f => ∃ (li re : List UInt8) (fd : Bool), x = .slc (li.map u8) ∧ y = .slc (re.map u8) ∧ f = .bool fd ∧ CutR l c li re fd) := by
 refine FW Tryz.func98 ?_
 have F := rI
 refine RF ?_
 refine aB fun K hK => ?_
 refine aB fun K hK => Rg ?_
 have F := aI rI @denilL_u8
 iterate 2 refine SF ?_
 refine HS rfl rfl fun K' hK' => T6 ?_
 refine C2 (yM l c) ?_
 rintro u rfl
 refine AX (hK' _ _ ?_)
 clear hK' K'
 refine SF ?_
 simp only [sE, ↓reduceIte, simprocAttr, rI]
 refine AX (hK _ _ _ ?_)
 clear hK K
 have F := rI
 refine RF ?_
 refine aJ (b := decide ((0 : Int) ≤ dT l c)) rfl (fun hb => ?_) (fun hb => ?_)
 ·
  have hn : ¬ dT l c < 0 := by simp at hb; omega
  obtain ⟨i, hi, hil, hsp⟩ := fP hn
  have hi' := hi
  rw [hi]
  refine aB fun K hK => QR ?_
  have F := aI rI (aI @Int.natCast_nonneg (aI @Int.ofNat_le (aI @Int.sub_zero (aI @Nat.sub_zero (aI @List.drop_zero.{0} (aI @bG (aI @denilL_u8 (aI @List.length_map.{0,0} (show IntKind.i64.wrap ((i : Int) + 1) = ((i + 1 : Nat) : Int) from by rw [IntWalk.i64_in _ (by omega)]; rfl)))))))))
  iterate 12 refine SF ?_
  simp only [sE, ↓reduceIte, simprocAttr, rI]
  refine AX (hK _ _ _ ?_)
  clear hK K
  refine aD ?_
  simp only [cH, Tryz.results98, cD, cG, cA, ↓sP, sA, tyS, simprocAttr, rI]
  refine vJ [] (.slc ((l.take i).map u8)) (.slc ((l.drop (i + 1)).map u8)) (.bool true) ?_ ⟨_, _, _, rfl, rfl, rfl, .inr ⟨rfl, i, hi, hil, rfl, rfl⟩⟩
  simp [HV.close, HV.closeL, HV.norm, HV.toC, HV.toCL, CV.denil, denilL_u8]
  exact ⟨by rw [← List.map_take, denilL_u8], by rw [← List.map_drop, ← List.map_take, denilL_u8, List.take_of_length_le (by simp)]⟩
 have hn : dT l c < 0 := by simp at hb; omega
 refine aG ?_
 refine TQ rI ?_
 refine AX (hK _ _ _ ?_)
 clear hK K
 refine aB fun K hK => Rg ?_
 iterate 4 refine SF ?_
 simp only [sE, ↓reduceIte, simprocAttr, rI]
 refine AX (hK _ _ _ ?_)
 clear hK K
 refine aD ?_
 simp only [cH, Tryz.results98, cD, cG, cA, ↓sP, sA, tyS, simprocAttr, rI]
 refine vJ [] (.slc (l.map u8)) (.slc []) (.bool false) ?_ ⟨l, [], false, rfl, rfl, rfl, .inl ⟨rfl, hn, rfl, rfl⟩⟩
 simp [HV.close, HV.closeL, HV.norm, HV.toC, HV.toCL, CV.denil, denilL_u8]


theorem bS0 (l : List UInt8) (c : UInt8) : bJ3 Tryz.prog 126 157 [.slc (l.map u8), .slc [u8 c], .int .i64 0] [(30, .slc [u8 c]), (30, .slc (l.map u8)), (3, .int .i64 0)] := by
 refine FW Tryz.func126 ?_
 refine aB fun K hK => Rg ?_
 have F := rI
 iterate 4 refine SF ?_
 simp only [sE, ↓reduceIte, simprocAttr, rI]
 refine AX (hK _ _ _ ?_)
 clear hK K
 refine RF ?_
 refine aD ?_
 simp only [cH, Tryz.results126, cD, cG, cA, ↓sP, sA, tyS, simprocAttr, rI]
 refine yH (gf := 157) (bs := [(30, .slc [u8 c]), (30, .slc (l.map u8)), (3, .int .i64 0)]) (ids := [4, 0, 8]) rfl (by simp) (by decide) ?_ ?_
 ·
  intro j x hx
  match j, hx with
  | 0, hx => cases hx; rfl
  | 1, hx => cases hx; rfl
  | 2, hx => cases hx; rfl
 intro x hx
 simp only [List.mem_cons, List.not_mem_nil, or_false] at hx
 rcases hx with rfl | rfl | rfl
 ·
  rfl
 ·
  exact congrArg CV.slc (denilL_u8 l)
 rfl


theorem bB0 (l : List UInt8) (c : UInt8) : bJ3 Tryz.prog 99 157 [.slc (l.map u8), .slc [u8 c]] [(30, .slc [u8 c]), (30, .slc (l.map u8)), (3, .int .i64 0)] := by
 refine FW Tryz.func99 ?_
 have F := rI
 refine RF ?_
 refine aB fun K hK => Rg ?_
 iterate 2 refine S0 ?_ (e := fun _ h_ => by simp only [sH, ↓sP, sA, tyS, simprocAttr, rI, denilL_u8, pO, gI, List.range', List.map_cons, List.map_nil]; exact AX h_)
 refine HS rfl rfl fun K' hK' => ?_
 simp only [sH, ↓sP, sA, tyS, simprocAttr, rI, denilL_u8, pO, gI, List.range', List.map_cons, List.map_nil]
 refine yG (args := [_, _, _]) (bS0 l c) (by simp) ⟨rfl, rfl, rfl, rfl⟩ ?_
 refine AX (hK' _ _ ?_)
 clear hK' K'
 refine S0 ?_ (e := fun _ h_ => by simp only [sH, ↓sP, sA, tyS, simprocAttr, rI, denilL_u8, pO, gI, List.range', List.map_cons, List.map_nil]; exact AX h_)
 simp only [sE, ↓reduceIte, simprocAttr, rI]
 refine AX (hK _ _ _ ?_)
 clear hK K
 refine aD ?_
 simp only [cH, Tryz.results99, cD, cG, cA, ↓sP, sA, tyS, simprocAttr, rI]
 refine yH (gf := 157) (bs := [(30, .slc [u8 c]), (30, .slc (l.map u8)), (3, .int .i64 0)]) (ids := [12, 13, 14]) rfl (by simp) (by decide) ?_ ?_
 ·
  intro j x hx
  match j, hx with
  | 0, hx => cases hx; rfl
  | 1, hx => cases hx; rfl
  | 2, hx => cases hx; rfl
 intro x hx
 simp only [List.mem_cons, List.not_mem_nil, or_false] at hx
 rcases hx with rfl | rfl | rfl
 ·
  rfl
 ·
  exact congrArg CV.slc (denilL_u8 l)
 rfl

end Go.Proofs.YtenbfeemmpjdhaaGreatDoor

namespace Go.Pl
open Go Go.Hl

theorem qA (c : UInt8) : ∀ l : List UInt8, (aT c l).length = Lib.countByte l c + 1
 | [] => rfl
 | b :: l => by
  have ih := qA c l
  unfold Lib.countByte at ih ⊢
  rw [List.count_cons]
  unfold aT
  by_cases h : b = c
  ·
   rw [if_pos h]
   simp only [List.length_cons, ih, h, beq_self_eq_true, if_true]
  ·
   have hb : (b == c) = false := by simpa using h
   rw [if_neg h]
   simp only [hb, Bool.false_eq_true, if_false, Nat.add_zero]
   split
   ·
    rename_i x xs hx
    rw [hx] at ih
    simpa using ih
   ·
    rename_i hx
    exact absurd hx (bX c l)
theorem aP9 {c : UInt8} {l : List UInt8} (h : (aT c l).length = 1) : aT c l = [l] := by
 by_cases hn : dT l c < 0
 ·
  exact pW hn
 ·
  obtain ⟨i, _, _, hsp⟩ := fP hn
  rw [hsp] at h
  have := List.length_pos_iff.2 (bX c (l.drop (i + 1)))
  simp only [List.length_cons] at h
  omega

def SplSt (l : aK) (c : UInt8) (i : Nat) (rest : aK) (a : List aK) : Prop :=
 a.length = (aT c l).length ∧ a.take i = (aT c l).take i ∧ (aT c l).drop i = aT c rest ∧ i < (aT c l).length ∧ rest.length ≤ l.length
section
variable {l rest : aK} {c : UInt8} {i k : Nat} {a : List aK}
theorem SplSt.init (l : aK) (c : UInt8) : SplSt l c 0 l (List.replicate (aT c l).length []) :=
 ⟨by simp, by simp, rfl, List.length_pos_iff.2 (bX c l), Nat.le_refl _⟩
theorem SplSt.next (h : SplSt l c i rest a) (hk : dT rest c = (k : Int)) : k < rest.length ∧ SplSt l c (i + 1) (rest.drop (k + 1)) (a.set i (rest.take k)) := by
 obtain ⟨h1, h2, h3, h4, h5⟩ := h
 obtain ⟨k', e1, e2, e3⟩ := fP (l := rest) (c := c) (by omega)
 have : k' = k := by omega
 subst this
 rw [e3] at h3
 have h6 := List.drop_eq_getElem_cons h4
 rw [h6] at h3
 have h7 := List.head_eq_of_cons_eq h3
 have h8 := List.tail_eq_of_cons_eq h3
 refine ⟨e2, by simpa using h1, ?_, h8, ?_, by rw [List.length_drop]; omega⟩
 ·
  rw [List.take_succ_eq_append_getElem (by rw [List.length_set]; omega), List.take_succ_eq_append_getElem h4, List.getElem_set_self, List.take_set_of_le (Nat.le_refl _), h2, h7]
 ·
  rcases Nat.lt_or_ge (i + 1) (aT c l).length with h' | h'
  ·
   exact h'
  ·
   rw [List.drop_eq_nil_of_le h'] at h8
   exact absurd h8.symm (bX _ _)
theorem SplSt.last (h : SplSt l c i rest a) (hk : dT rest c < 0) : i + 1 = (aT c l).length := by
 obtain ⟨h1, h2, h3, h4, h5⟩ := h
 rw [pW hk] at h3
 have := congrArg List.length h3
 simp only [List.length_drop, List.length_singleton] at this
 omega
theorem SplSt.fin (h : SplSt l c i rest a) (hi : i + 1 = (aT c l).length) : a.set i rest = aT c l := by
 obtain ⟨h1, h2, h3, h4, h5⟩ := h
 have h6 : (aT c rest).length = 1 := by rw [← h3, List.length_drop]; omega
 rw [aP9 h6] at h3
 have e1 : a.set i rest = (a.set i rest).take (i + 1) := (List.take_of_length_le (by rw [List.length_set]; omega)).symm
 rw [e1, List.take_succ_eq_append_getElem (by rw [List.length_set]; omega), List.getElem_set_self, List.take_set_of_le (Nat.le_refl _), h2]
 conv => rhs; rw [← List.take_append_drop i (aT c l), h3]
end

def iO (c : UInt8) : Bool := decide (48 ≤ c.toNat) && decide (c.toNat ≤ 57)
def eC : aK → Nat → Option Nat
 | [], n => some n
 | c :: l, n => if iO c then eC l (10 * n + (c.toNat - 48)) else none
def eH (s : aK) : Bool := decide (s.length < 1) || decide (13 < s.length) || (decide (1 < s.length) && s.getD 0 0 == 48)
def bJ (s : aK) : Option Int := if eH s then none else match eC s 0 with | some n => if 1099511627776 < n then none else some (n : Int) | none => none
def DgSt (s : aK) (i n : Nat) : Prop := i ≤ s.length ∧ eC s 0 = eC (s.drop i) n ∧ n < 10 ^ i
theorem DgSt.init (s : aK) : DgSt s 0 0 := ⟨Nat.zero_le _, rfl, by omega⟩
theorem DgSt.next {s : aK} {i n : Nat} (h : DgSt s i n) (hi : i < s.length) (hd : iO s[i] = true) : DgSt s (i + 1) (10 * n + (s[i].toNat - 48)) := by
 obtain ⟨h1, h2, h3⟩ := h
 refine ⟨hi, ?_, ?_⟩
 ·
  rw [h2, List.drop_eq_getElem_cons hi, eC, if_pos hd]
 ·
  simp only [iO, Bool.and_eq_true, decide_eq_true_eq] at hd
  rw [Nat.pow_succ]
  omega
theorem DgSt.bad {s : aK} {i n : Nat} (h : DgSt s i n) (hi : i < s.length) (hd : iO s[i] = false) : eC s 0 = none := by
 rw [h.2.1, List.drop_eq_getElem_cons hi, eC, if_neg (by rw [hd]; simp)]
theorem DgSt.fin {s : aK} {i n : Nat} (h : DgSt s i n) (hi : i = s.length) : eC s 0 = some n := by
 rw [h.2.1, hi, List.drop_length]; rfl
theorem DgSt.lt {s : aK} {i n : Nat} (h : DgSt s i n) (hs : s.length ≤ 13) : n < 10000000000000 := by
 have : 10 ^ i ≤ 10 ^ 13 := Nat.pow_le_pow_right (by omega) (Nat.le_trans h.1 hs)
 have := h.2.2
 omega
theorem mH {s : aK} (h : eH s = true) : bJ s = none := by unfold bJ; rw [if_pos h]
theorem nE {s : aK} (h : eC s 0 = none) : bJ s = none := by unfold bJ; split <;> first | rfl | (rw [h])
theorem aK5 {s : aK} {n : Nat} (h : eC s 0 = some n) (h1 : 1099511627776 < n) : bJ s = none := by
 unfold bJ; split
 ·
  rfl
 ·
  rw [h]; simp only; rw [if_pos h1]
theorem aD1 {s : aK} {n : Nat} (h0 : eH s = false) (h : eC s 0 = some n) (h1 : ¬ 1099511627776 < n) : bJ s = some (n : Int) := by
 unfold bJ
 rw [if_neg (by rw [h0]; simp), h]; simp only; rw [if_neg h1]
theorem aK6 (c : UInt8) : iO c = (decide ((48 : Int) ≤ (c.toNat : Int)) && decide ((c.toNat : Int) ≤ 57)) := by
 unfold iO
 have h1 : decide ((48 : Int) ≤ (c.toNat : Int)) = decide (48 ≤ c.toNat) := by rw [decide_eq_decide]; omega
 have h2 : decide ((c.toNat : Int) ≤ 57) = decide (c.toNat ≤ 57) := by rw [decide_eq_decide]; omega
 rw [h1, h2]
end Go.Pl
