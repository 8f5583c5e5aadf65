/- Part of a proof: walks of functions of the program, by contracts, and the rules they use. By an AI agent. -/
import Derived.Test.YtenbfeemmpjdhaaGreatDoorPl02e
import Derived.Test.YtenbfeemmpjdhaaGreatDoorHyV3
import Derived.Test.YtenbfeemmpjdhaaGreatDoorHySb
import Derived.Test.YtenbfeemmpjdhaaGreatDoorHlIt
import Derived.Test.YtenbfeemmpjdhaaGreatDoorPl02g
import Derived.Test.YtenbfeemmpjdhaaGreatDoorPl11v
import Derived.Test.YtenbfeemmpjdhaaGreatDoorPl11h
set_option linter.unusedSimpArgs false
set_option linter.unusedVariables false
set_option linter.defProp false
namespace Go.Proofs.YtenbfeemmpjdhaaGreatDoor
open Go Go.Hl Go.Pl
set_option maxRecDepth 10000
set_option maxHeartbeats 16000000

def lsC (l : List aK) : CV := .slc (l.map .str)
theorem cN (l : List aK) : (lsC l).cells = 1 := rfl
theorem nH (l : List aK) : (lsC l).denil = lsC l := by simp only [lsC, CV.denil, denilL_str]
theorem fJ (l : List (List aK)) : CV.denilL (l.map lsC) = l.map lsC := cB nH l
theorem cA6 (b : aK) (hl : b.length < 2 ^ 40) : dF Tryz.prog 60 [.slc (b.map u8)] (fun u v => u = .slc ((gT b).map lsC) ∧ v = .int .i64 (eB b)) := by
 refine FW Tryz.func60 ?_
 have F := rI
 refine RF ?_
 refine bI7 ?_
 refine aB fun K hK => ?_
 have F := aI rI @List.length_map.{0,0}
 refine RF ?_
 refine aJ (b := decide ((262144 : Int) < b.length)) rfl (fun hb => ?_) (fun hb => ?_)
 ·
  have F := rI
  refine RF ?_
  refine aD ?_
  simp only [cH, Tryz.results60, cD, cG, cA, ↓sP, sA, tyS, simprocAttr, rI]
  have hE : eB b = 3 := by unfold eB; rw [if_pos (by simp at hb; omega)]
  refine aM [] (.slc []) (.int .i64 3) ?_ ⟨by simp only [gT, hE]; rfl, by rw [hE]⟩
  simp [HV.close, HV.closeL, CV.denil, CV.denilL, HV.norm, HV.toC, HV.toCL]
 refine aG ?_
 refine TQ rI ?_
 refine AX (hK _ _ _ ?_)
 clear hK K
 have hle : b.length ≤ 262144 := by simp at hb; omega
 clear hb
 have F := rI
 refine RF ?_
 refine RF ?_
 refine aB fun K hK => ?_
 refine bE7 ?_
 try simp only [↓sP, sA, tyS, simprocAttr, rI]
 refine AX (hK _ _ _ ?_)
 clear hK K
 refine aB fun K hK => ?_
 have key : ∀ (ok : Bool) (ls : List (List aK)) fr ob nx, (ok = true → fU b = some ls) → (ok = false → fU b = none) → ls.length ≤ b.length → Fits 0 fr ob (fin [(4, .own 32 ls.length), (5, .ptr 24 0)]) (fob [(24, .box 4 (.c (.bool ok))), (32, .row 60 1 (ls.map lsC))]) 1000 → K fr ob nx := by
  intro ok ls fr ob nx h1 h2 h3 hf
  refine hK _ _ _ (bF hf ?_)
  clear hf hK K
  refine aB fun K hK => ?_
  cases ok
  ·
   refine aB fun K hK => Rg ?_
   have F := aI rI @List.length_map.{0,0}
   iterate 7 refine SF ?_
   simp only [sE, ↓reduceIte, simprocAttr, rI]
   refine AX (hK _ _ _ ?_)
   clear hK K
   refine CT rfl ?_
   have F := rI
   refine RF ?_
   refine aD ?_
   simp only [cH, Tryz.results60, cD, cG, cA, ↓sP, sA, tyS, simprocAttr, rI]
   have hE : eB b = 2 := by unfold eB; rw [if_neg (by omega), h2 rfl]
   refine aM [] (.slc []) (.int .i64 2) ?_ ⟨by simp only [gT, hE]; rfl, by rw [hE]⟩
   simp [HV.close, HV.closeL, CV.denil, CV.denilL, HV.norm, HV.toC, HV.toCL]
  refine aB fun K hK => Rg ?_
  have F := aI rI @List.length_map.{0,0}
  iterate 7 refine SF ?_
  simp only [sE, ↓reduceIte, simprocAttr, rI]
  refine AX (hK _ _ _ ?_)
  clear hK K
  refine aJ (b := decide ((1000 : Int) < ls.length)) rfl (fun hb => ?_) (fun hb => ?_)
  ·
   have F := rI
   refine RF ?_
   refine aD ?_
   simp only [cH, Tryz.results60, cD, cG, cA, ↓sP, sA, tyS, simprocAttr, rI]
   have hE : eB b = 2 := by unfold eB; rw [if_neg (by omega), h1 rfl]; simp only; rw [if_pos (by simp at hb; omega)]
   refine aM [] (.slc []) (.int .i64 2) ?_ ⟨by simp only [gT, hE]; rfl, by rw [hE]⟩
   simp [HV.close, HV.closeL, CV.denil, CV.denilL, HV.norm, HV.toC, HV.toCL]
  refine aG ?_
  refine TQ rI ?_
  refine AX (hK _ _ _ ?_)
  clear hK K
  have F := rI
  refine RF ?_
  refine aD ?_
  simp only [cH, Tryz.results60, cD, cG, cA, ↓sP, sA, tyS, simprocAttr, rI]
  have hE : eB b = 0 := by unfold eB; rw [if_neg (by omega), h1 rfl]; simp only; rw [if_neg (by simp at hb; omega)]
  refine aM [32] (.slc (ls.map lsC)) (.int .i64 0) ?_ ⟨by simp only [gT, hE, h1 rfl]; rfl, by rw [hE]⟩
  simp [HV.close, fob_at, upd_at, HV.norm, HV.toC, HV.closeL, HV.toCL, CV.denil, fJ]
 refine aH ?_
 refine fE 4 0 60 1 rfl rfl rfl rfl ?_
 refine aU (α := {y : aK × List (List aK) // DecSt b y.1 y.2}) (fun y => (fin [(0, .c (.slc (y.1.1.map u8))), (4, .own 32 y.1.2.length), (5, .ptr 24 0)], fob [(24, .box 4 (.c (.bool true))), (32, .row 60 1 (y.1.2.map lsC))])) 100 (fun y => y.1.1.length) ⟨(b, []), DecSt.init b⟩ (fF) ?_
 rintro ⟨⟨rest, ls⟩, hst⟩
 simp only at hst
 have hr1 := hst.2.1
 have hr2 := hst.2.2
 refine aB fun K hK => ?_
 have F := aI rI @List.length_map.{0,0}
 refine RF ?_
 refine aJ (b := decide ((0 : Int) < rest.length)) rfl (fun hb => ?_) (fun hb => ?_)
 ·
  refine aG ?_
  refine TQ rI ?_
  refine AX (hK _ _ _ ?_)
  clear hK K
  refine aH ?_
  have hne : rest ≠ [] := by rintro rfl; simp at hb
  clear hb
  refine aB fun K hK => dN (by kernel_rfl) ?_
  simp only [sR, simprocAttr]
  have F := aI rI @denilL_u8
  refine SGF ?_
  refine dJ (g := none) 116 rfl rfl fun K' hK' => ?_
  simp only [iS, lR, sH, ↓sP, sA, tyS, simprocAttr, rI, denilL_u8]
  repeat refine AI ?_
  refine eG (by first | rfl | simp) ?_
  try simp only [sH, ↓sP, sA, tyS, simprocAttr, rI, denilL_u8]
  refine AX (hK' _ _ ?_)
  clear hK' K'
  refine eN (g := none) rfl rfl fun K' hK' => T6 ?_
  refine aP8 (args := [_, _]) (bR9 rest 10 (by omega)) ⟨rfl, rfl, rfl, rfl⟩ ?_
  rintro u v x ⟨li, re, fd, rfl, rfl, rfl, hcut⟩
  have hlt := hcut.lt hne
  refine AX (hK' _ _ ?_)
  clear hK' K'
  iterate 7 refine SGF ?_
  simp only [sE, ↓reduceIte, simprocAttr, rI]
  refine AX (hK _ _ _ ?_)
  clear hK K
  have F := rI
  refine RF ?_
  refine aB fun K hK => ?_
  refine aB fun K hK => dN (by kernel_rfl) ?_
  simp only [sR, simprocAttr]
  refine SG0 ?_ (e := fun _ h_ => by simp only [sH, ↓sP, sA, tyS, simprocAttr, rI, denilL_u8, pO, gI, List.range', List.map_cons, List.map_nil]; exact AX h_)
  refine dJ (g := none) 160 rfl rfl fun K' hK' => ?_
  simp only [iS, lR, sH, ↓sP, sA, tyS, simprocAttr, rI, denilL_u8, pO, gI, List.range', List.map_cons, List.map_nil]
  repeat refine AI ?_
  refine eG (by first | rfl | simp) ?_
  try simp only [sH, ↓sP, sA, tyS, simprocAttr, rI, denilL_u8, pO, gI, List.range', List.map_cons, List.map_nil]
  refine AX (hK' _ _ ?_)
  clear hK' K'
  refine eN (g := none) rfl rfl fun K' hK' => ?_
  simp only [sH, ↓sP, sA, tyS, simprocAttr, rI, denilL_u8, pO, gI, List.range', List.map_cons, List.map_nil]
  refine yG (args := [_, _]) (bB0 li 32) (by simp) ⟨rfl, rfl, rfl, rfl⟩ ?_
  refine AX (hK' _ _ ?_)
  clear hK' K'
  simp only [sE, ↓reduceIte, simprocAttr, rI]
  refine AX (hK _ _ _ ?_)
  clear hK K
  refine aH ?_
  refine gQ 152 0 9 1 rfl rfl rfl rfl ?_
  refine bA0 (ids := [164, 165, 166]) (fin [(0, .c (.slc (rest.map u8))), (4, .own 32 ls.length), (5, .ptr 24 0), (7, .c (.slc (re.map u8))), (8, .c (.bool fd)), (9, .ptr 152 0)]) (fun i => fob [(24, .box 4 (.c (.bool true))), (32, .row 60 1 (ls.map lsC)), (152, .box 60 (.own 168 i)), (168, .row 9 1 ((wsT li i).map .str))]) 200 (fun i => aK3 li i) (fun p hp => by simp at hp) (aQ5 li 32 (by omega)) rfl rfl (by decide) ?_ ?_ ?_ ?_ ?_ rfl rfl ?_ ?_
  ·
   intro j x hx
   match j, hx with
   | 0, hx => cases hx; rfl
   | 1, hx => cases hx; rfl
   | 2, hx => cases hx; rfl
  ·
   exact aQ (by omega) (by simp [aY, fin_at, finA_at, upd_at, HV.men, HV.menL, HV.norm, HV.toC, HV.toCL]) (by simp [bC, fob_at, upd_at, none0_at, bT, pO, wsT, HO.men, HV.men, HV.menL, HV.norm, HV.toC, HV.toCL])
  ·
   intro id hid
   simp only [List.mem_cons, List.not_mem_nil, or_false] at hid
   rcases hid with rfl | rfl | rfl <;> rfl
  ·
   intro x hx
   obtain ⟨p, _, rfl⟩ := List.mem_map.1 hx
   rfl
  ·
   intro p hp
   simp only [List.mem_cons, List.not_mem_nil, or_false] at hp
   subst hp
   exact Nat.le_of_ble_eq_true rfl
  ·
   intro i hi hΦ K hK
   have hi' : i < (aT 32 li).length := by simpa using hi
   have hwl := oF (r := li) (Nat.le_of_lt hi')
   have hsl := dO 32 li
   obtain ⟨p, hp⟩ : ∃ p, p = (aT 32 li)[i] := ⟨_, rfl⟩
   have hpl : p.length ≤ li.length := by rw [hp]; exact lB 32 li _ (List.getElem_mem hi')
   have hx : (List.map (fun p => [CV.slc (List.map u8 p)]) (aT 32 li))[i] = [CV.slc (p.map u8)] := by rw [List.getElem_map, hp]
   rw [hx]
   simp only [wP]
   have hbc : gK (p.map u8) = some p := bytesC_map p
   refine aL (by kernel_rfl) ?_
   refine TQ rI ?_
   refine AX (hK _ _ _ ?_)
   clear hK K
   refine aH ?_
   refine aB fun K hK => Rg ?_
   have F := aI rI hbc
   iterate 2 refine SF ?_
   refine HS rfl rfl fun K' hK' => T6 ?_
   refine D1 (cA5 p (by omega)) ?_
   rintro u v ⟨rfl, rfl⟩
   refine AX (hK' _ _ ?_)
   clear hK' K'
   iterate 5 refine SF ?_
   simp only [sE, ↓reduceIte, simprocAttr, rI]
   refine AX (hK _ _ _ ?_)
   clear hK K
   refine aB fun K hK => ?_
   have F := rI
   refine RF ?_
   refine aJ (b := !(unW p).isSome) rfl (fun hb => ?_) (fun hb => ?_)
   ·
    refine RF ?_
    refine aS ?_
    refine TQ rI ?_
    clear hK K
    clear hK K
    exact key false ls _ _ _ (fun h => by cases h) (fun _ => hst.bad hcut hne (bK4 hi' (by rw [← hp]; simpa using hb))) (by omega) (fF)
   refine aG ?_
   refine TQ rI ?_
   refine AX (hK _ _ _ ?_)
   clear hK K
   refine Rg ?_
   have F := aI rI (aI @List.length_append.{0} (aI @List.length_map.{0,0} hwl))
   iterate 5 refine SF ?_
   simp only [sE, ↓reduceIte, simprocAttr, rI]
   refine ⟨(show Fits 200 _ _ (fin []) _ 200 from aQ (by omega) trivial ?_), yL hi' hΦ (by rw [← hp]; simpa using hb)⟩
   rw [aK4 hi', ← hp]
   simp [bC, fob_at, upd_at, none0_at, bT, HO.men, HV.men, HV.menL, HV.norm, HV.toC, HV.toCL]
  intro hΦ
  simp only [sE, ↓reduceIte, simprocAttr, rI]
  rw [List.length_map] at hΦ ⊢
  have hwl := oF (r := li) (Nat.le_refl _)
  have hul := bR6 hΦ
  have hsl := dO 32 li
  obtain ⟨ws, hws⟩ : ∃ ws, ws = wsT li (aT 32 li).length := ⟨_, rfl⟩
  rw [← hws] at hul hwl
  rw [← hws, ← hwl]
  refine AX (hK _ _ _ ?_)
  clear hK K
  refine aB fun K hK => ?_
  cases fd
  ·
   refine cM [168] (bF (fr2 := fin [(0, .c (.slc (rest.map u8))), (4, .own 32 ls.length), (5, .ptr 24 0), (7, .c (.slc (re.map u8))), (8, .c (.bool false)), (9, .ptr 152 0)]) (ob2 := fob [(24, .box 4 (.c (.bool true))), (32, .row 60 1 (ls.map lsC)), (152, .box 60 (.c (.slc (ws.map .str))))]) (nx2 := 300) (aQ (by omega) (by simp [aY, cQ, fin_at, finA_at, upd_at, fob_at, HV.close, HV.closeL, CV.denil, CV.denilL, denilL_u8, HV.men, HV.menL, HV.norm, HV.toC, HV.toCL]) (by simp [bC, cR, fob_at, upd_at, none0_at, bT, HO.close, HV.close, HV.closeL, CV.denil, denilL_str, HO.men, HV.men, HV.menL, HV.norm, HV.toC, HV.toCL])) ?_)
   refine aB fun K hK => Rg ?_
   iterate 7 refine SF ?_
   simp only [sE, ↓reduceIte, simprocAttr, rI]
   refine AX (hK _ _ _ ?_)
   clear hK K
   refine CT rfl ?_
   refine RF ?_
   refine aS ?_
   refine TQ rI ?_
   clear hK K
   exact key false ls _ _ _ (fun h => by cases h) (fun _ => hst.bad0 hcut hne) (by omega) (fF)
  refine cM [168] (bF (fr2 := fin [(0, .c (.slc (rest.map u8))), (4, .own 32 ls.length), (5, .ptr 24 0), (7, .c (.slc (re.map u8))), (8, .c (.bool true)), (9, .ptr 152 0)]) (ob2 := fob [(24, .box 4 (.c (.bool true))), (32, .row 60 1 (ls.map lsC)), (152, .box 60 (.c (.slc (ws.map .str))))]) (nx2 := 300) (aQ (by omega) (by simp [aY, cQ, fin_at, finA_at, upd_at, fob_at, HV.close, HV.closeL, CV.denil, CV.denilL, denilL_u8, HV.men, HV.menL, HV.norm, HV.toC, HV.toCL]) (by simp [bC, cR, fob_at, upd_at, none0_at, bT, HO.close, HV.close, HV.closeL, CV.denil, denilL_str, HO.men, HV.men, HV.menL, HV.norm, HV.toC, HV.toCL])) ?_)
  refine aB fun K hK => Rg ?_
  iterate 4 refine SF ?_
  refine bA (g := some (44, false)) rfl rfl fun K' hK' => T6 ?_
  refine C1 (aK0 ws (by omega)) ?_
  rintro u rfl
  refine AX (hK' _ _ ?_)
  clear hK' K'
  iterate 2 refine SF ?_
  simp only [sE, ↓reduceIte, simprocAttr, rI]
  refine AX (hK _ _ _ ?_)
  clear hK K
  refine aJ (b := lA ws != 0) rfl (fun hb => ?_) (fun hb => ?_)
  ·
   refine RF ?_
   refine aS ?_
   refine TQ rI ?_
   clear hK K
   exact key false ls _ _ _ (fun h => by cases h) (fun _ => hst.bad hcut hne (by rw [hul, if_neg]; unfold okL; simpa using hb)) (by omega) (fF)
  refine aG ?_
  refine TQ rI ?_
  refine AX (hK _ _ _ ?_)
  clear hK K
  refine Rg ?_
  have F := aI rI (aI @List.length_append.{0} @List.length_map.{0,0})
  iterate 7 refine SF ?_
  simp only [sE, ↓reduceIte, simprocAttr, rI]
  have hok : okL ws = true := by unfold okL; simpa using hb
  refine ⟨⟨(re, ls ++ [ws]), hst.next hcut hne (by rw [hul, if_pos hok])⟩, aQ (by omega) ?_ ?_, hlt.1⟩
  ·
   simp [aY, upd_at, fin_at, HV.men]
  simp only [bC, List.map_append]
  exact ⟨rfl, by omega, trivial, rfl, by omega, trivial, trivial⟩
 refine aS ?_
 refine TQ rI ?_
 clear hK K
 have hr0 : rest = [] := by simpa using hb
 subst hr0
 exact key true ls _ _ _ (fun _ => hst.fin) (fun h => by cases h) (by omega) (fF)

end Go.Proofs.YtenbfeemmpjdhaaGreatDoor

namespace Go.Proofs.YtenbfeemmpjdhaaGreatDoor
open Go Go.Hl Go.Pl
set_option maxRecDepth 10000
set_option maxHeartbeats 16000000

theorem aL6 (w : aK) (hl : w.length < 2 ^ 40) : aW Tryz.prog 76 [.str w] (fun v => v = .str (fV w)) := by
 refine FW Tryz.func76 ?_
 refine R0 ?_
 refine aB fun K hK => ?_
 refine R0 ?_
 refine aJ (b := w == []) rfl (fun hb => ?_) (fun hb => ?_)
 ·
  refine R0 ?_
  refine aD (RT Tryz.results76 ?_)
  exact aC [] (.str [126]) rfl (by rw [fV, if_pos (by simpa using hb)])
 refine aG ?_
 refine T0 (hK _ _ _ ?_)
 clear hK K
 have hne : w ≠ [] := by simpa using hb
 clear hb
 refine R0 ?_
 refine R0 ?_
 refine aB fun K hK => ?_
 refine R0 ?_
 refine aH ?_
 refine fE 4 0 5 1 rfl rfl rfl rfl ?_
 refine aU (α := {i : Nat // i ≤ w.length}) (fun i => (fin [(0, .c (.str w)), (3, .c (.str [48, 49, 50, 51, 52, 53, 54, 55, 56, 57, 65, 66, 67, 68, 69, 70])), (4, .own 24 (bW (w.take i.1)).length), (5, .c (.int .i64 i.1))], fob [(24, .row 5 1 ((bW (w.take i.1)).map cU))])) 100 (fun i => w.length - i.1) ⟨0, by omega⟩ (fF) ?_
 rintro ⟨i, hi⟩
 have hle := jC w i
 have hle3 := pQ w
 refine aB fun K hK => ?_
 refine aB fun K hK => Rg ?_
 iterate 4 refine S0 ?_
 refine T2 (hK _ _ _ ?_)
 clear hK K
 refine aJ (b := decide ((i : Int) < w.length)) rfl (fun hb => ?_) (fun hb => ?_)
 ·
  have hlt : i < w.length := by simpa using hb
  have hgd : w.getD i 0 = w[i] := by simp [hlt]
  have hs := oD hlt
  refine aG ?_
  refine T0 (hK _ _ _ ?_)
  clear hK K
  refine aB fun K hK => ?_
  refine aH ?_
  refine aB fun K hK => Rg ?_
  iterate 3 refine S0 ?_ (e := fun _ h_ => by simp only [sH, ↓sP, sA, tyS, simprocAttr, Int.natCast_nonneg, Int.ofNat_lt, hlt, hgd]; exact AX h_)
  refine HS rfl rfl fun K' hK' => ?_
  simp only [sH, ↓sP, sA, tyS, simprocAttr, Int.natCast_nonneg, Int.ofNat_lt, hlt, hgd]
  refine C1 (rA w[i]) ?_
  rintro u rfl
  refine AX (hK' _ _ ?_)
  clear hK' K'
  refine T2 (hK _ _ _ ?_)
  clear hK K
  refine aJ (b := bS w[i]) rfl (fun hb => ?_) (fun hb => ?_)
  ·
   refine Rg ?_
   iterate 7 refine S0 ?_ (e := fun _ h_ => by simp only [sH, ↓sP, sA, tyS, simprocAttr, Int.natCast_nonneg, Int.ofNat_lt, hlt, hgd, List.length_append, List.length_map]; exact AX h_)
   refine T2 (hK _ _ _ ?_)
   clear hK K
   refine aL (by kernel_rfl) ?_
   refine TQ (bK i) ?_
   refine ⟨⟨i + 1, hlt⟩, aQ (by omega) ?_ ?_, ?_⟩
   ·
    rw [hs, gL, if_pos hb]
    simp [aY, upd_at, fin_at, HV.men]
   ·
    rw [hs, gL, if_pos hb, List.map_append]
    exact ⟨rfl, by omega, trivial, trivial⟩
   show w.length - (i + 1) < w.length - i
   omega
  have h16 : ((w[i].toNat / 16 : Nat) : Int) < 16 := by have := w[i].toNat_lt; omega
  have h15 : ((w[i].toNat % 16 : Nat) : Int) < 16 := by omega
  refine DW [(0, [], []), (1, [], []), (2, [], []), (3, [], []), (4, [], []), (5, [], []), (6, [], []), (7, [], []), (8, [], []), (9, [], []), (10, [], []), (11, [], []), (12, [], []), (13, [], []), (14, [], []), (15, [], [])] [0, 0, 0, 0, 12, 28, 62, 0, 0, 0, 768, 1792, 3968, 8190, 16383, 32767] ?_
  iterate 16 refine W0 ?_ (e := fun _ h_ => by simp only [sH, ↓sP, sA, tyS, simprocAttr, Int.natCast_nonneg, Int.ofNat_lt, hlt, hgd, List.length_append, List.length_map, cE0, bW3, h16, h15]; exact AX h_)
  refine T2 (hK _ _ _ ?_)
  clear hK K
  refine aL (by kernel_rfl) ?_
  refine TQ (bK i) ?_
  refine ⟨⟨i + 1, hlt⟩, aQ (by omega) ?_ ?_, ?_⟩
  ·
   rw [hs, gL, if_neg (by rw [hb]; simp)]
   simp [aY, upd_at, fin_at, HV.men]
  ·
   rw [hs, gL, if_neg (by rw [hb]; simp), List.map_append]
   exact ⟨rfl, by omega, trivial, trivial⟩
  show w.length - (i + 1) < w.length - i
  omega
 refine aS (T3 ?_)
 clear hK K
 refine AX (hK _ _ _ ?_)
 clear hK K
 refine cM [24] (bF (fr2 := fin [(4, .c (.slc ((bW (w.take i)).map cU)))]) (ob2 := fob []) (nx2 := 200) (aQ (by omega) (by simp [aY, cQ, fin_at, finA_at, upd_at, fob_at, HV.close, HV.closeL, CV.denil, CV.denilL, dX, HV.men, HV.menL, HV.norm, HV.toC, HV.toCL]) (by simp [bC, cR, fob_at, upd_at, none0_at, bT, HO.close, HV.close, HV.closeL, HO.men, HV.men, HV.menL, HV.norm, HV.toC, HV.toCL])) ?_)
 have F := @bytesC_map
 refine RF ?_
 refine aD (RT Tryz.results76 ?_)
 have hei : i = w.length := by simp at hb; omega
 subst hei
 exact aC [] (.str (bW w)) (by rw [List.take_length]; rfl) (by rw [fV, if_neg hne])


theorem bT0 (ls : List (List aK)) (h0 : ls.length < 2 ^ 40) (h1 : ∀ l ∈ ls, l.length < 2 ^ 40) : dF Tryz.prog 30 [.slc (ls.map fun l => .slc (l.map .str))] (fun u v => u = .slc ((qY ls).map cU) ∧ v = .int .i64 (iN ls)) := by
 refine FW Tryz.func30 ?_
 refine R0 ?_
 refine aB fun K hK => ?_
 refine R0 ?_
 refine aJ (b := decide ((1000 : Int) < ls.length)) rfl (fun hb => ?_) (fun hb => ?_)
 ·
  refine R0 ?_
  refine aD (RT Tryz.results30 ?_)
  have hE := qZ (ls := ls) (by simp at hb; omega)
  refine aM [] (.slc []) (.int .i64 3) ?_ ⟨by rw [gJ (by rw [hE]; decide)]; rfl, by rw [hE]⟩
  simp [HV.close, HV.closeL, CV.denil, CV.denilL, HV.norm, HV.toC, HV.toCL]
 refine aG ?_
 refine T0 (hK _ _ _ ?_)
 clear hK K
 have hn : ls.length ≤ 1000 := by simp at hb; omega
 clear hb
 refine R0 ?_
 refine aB fun K hK => ?_
 refine R0 ?_
 refine aH ?_
 refine fE 4 0 5 1 rfl rfl rfl rfl ?_
 refine aU (α := {i : Nat // i ≤ ls.length ∧ ∀ x ∈ ls.take i, okL x = true}) (fun i => (fin [(0, .c (.slc (ls.map fun l => .slc (l.map .str)))), (4, .own 28 (eL (ls.take i.1)).length), (5, .c (.int .i64 i.1))], fob [(28, .row 5 1 ((eL (ls.take i.1)).map cU))])) 100 (fun i => ls.length - i.1) ⟨0, by omega, by simp⟩ (fF) ?_
 rintro ⟨i, hi, hk⟩
 refine aB fun K hK => ?_
 refine aB fun K hK => Rg ?_
 iterate 4 refine S0 ?_
 refine T2 (hK _ _ _ ?_)
 clear hK K
 refine aJ (b := decide ((i : Int) < ls.length)) rfl (fun hb => ?_) (fun hb => ?_)
 ·
  have hlt : i < ls.length := by simpa using hb
  clear hb
  have hl1 := h1 ls[i] (List.getElem_mem hlt)
  have hne : ∀ l ∈ ls.take i, l ≠ [] := fun l hl => ((iT l).1 (hk l hl)).1
  have hsd := aU9 hk
  rw [List.length_take] at hsd
  have hdl := pS hne
  have hdt1 := yK hlt
  obtain ⟨l, hl⟩ : ∃ l, l = ls[i] := ⟨_, rfl⟩
  have hln : nth (ls.map fun l => CV.slc (l.map .str)) i = .slc (l.map .str) := by rw [aN hlt, hl]
  rw [← hl] at hdt1 hl1
  have hlti : (i : Int) < ls.length := by omega
  refine aG ?_
  refine T0 (hK _ _ _ ?_)
  clear hK K
  refine aB fun K hK => ?_
  refine aH ?_
  refine aB fun K hK => ?_
  refine aB fun K hK => Rg ?_
  have F := aI @Int.natCast_nonneg (aI @Int.ofNat_lt (aI hlt hln))
  iterate 6 refine SF ?_
  refine T2 (hK _ _ _ ?_)
  clear hK K
  refine aJ (b := (l.length : Int) == 0) rfl (fun hb => ?_) (fun hb => ?_)
  ·
   refine R0 ?_
   refine aD (RT Tryz.results30 ?_)
   have hc : lA l = 1 := by rw [lA, if_pos (by simp at hb; simp [hb])]
   have hE := pU hn hlt hk (by rw [← hl, okL, hc]; rfl)
   rw [← hl, hc] at hE
   refine aM [] (.slc []) (.int .i64 1) ?_ ⟨by rw [gJ (by rw [hE]; decide)]; rfl, by rw [hE]⟩
   simp [HV.close, HV.closeL, CV.denil, CV.denilL, HV.norm, HV.toC, HV.toCL]
  refine aG ?_
  refine T0 (hK _ _ _ ?_)
  clear hK K
  refine aB fun K hK => ?_
  have hn0 : l.length ≠ 0 := by simp at hb; simp [hb]
  clear hb
  refine aB fun K hK => Rg ?_
  iterate 6 refine SF ?_
  refine T2 (hK _ _ _ ?_)
  clear hK K
  refine aJ (b := decide ((120 : Int) < l.length)) rfl (fun hb => ?_) (fun hb => ?_)
  ·
   refine R0 ?_
   refine aD (RT Tryz.results30 ?_)
   have hc : lA l = 3 := by rw [lA, if_neg hn0, if_pos (by simp at hb; omega)]
   have hE := pU hn hlt hk (by rw [← hl, okL, hc]; rfl)
   rw [← hl, hc] at hE
   refine aM [] (.slc []) (.int .i64 3) ?_ ⟨by rw [gJ (by rw [hE]; decide)]; rfl, by rw [hE]⟩
   simp [HV.close, HV.closeL, CV.denil, CV.denilL, HV.norm, HV.toC, HV.toCL]
  refine aG ?_
  refine T0 (hK _ _ _ ?_)
  clear hK K
  refine aB fun K hK => ?_
  have hn1 : l.length ≤ 120 := by simp at hb; omega
  clear hb
  refine R0 ?_
  refine aH ?_
  refine aU (α := {k : Nat // k ≤ l.length ∧ ∀ x ∈ l.take k, x.length ≤ 32768}) (fun k => (fin [(0, .c (.slc (ls.map fun l => .slc (l.map .str)))), (4, .own 28 (eL (ls.take i) ++ fH (l.take k.1)).length), (5, .c (.int .i64 i)), (6, .c (.int .i64 k.1))], fob [(28, .row 5 1 ((eL (ls.take i) ++ fH (l.take k.1)).map cU))])) 200 (fun k => l.length - k.1) ⟨0, by omega, by simp⟩ (fF) ?_
  rintro ⟨k, hk', hkw⟩
  have hsw := bK0 (l.take k) hkw
  rw [List.length_take] at hsw
  refine aB fun K hK => ?_
  refine aB fun K hK => Rg ?_
  have F := aI @Int.natCast_nonneg (aI hlti hln)
  iterate 7 refine SF ?_
  refine T2 (hK _ _ _ ?_)
  clear hK K
  refine aJ (b := decide ((k : Int) < l.length)) rfl (fun hb => ?_) (fun hb => ?_)
  ·
   have hlk : k < l.length := by simpa using hb
   clear hb
   refine aG ?_
   refine T0 (hK _ _ _ ?_)
   clear hK K
   refine aB fun K hK => ?_
   refine aH ?_
   refine aB fun K hK => ?_
   refine aB fun K hK => Rg ?_
   have F := aI @Int.natCast_nonneg (aI @Int.ofNat_lt (aI hlt (aI hln (aI hlk (nM hlk)))))
   iterate 9 refine SF ?_
   refine T2 (hK _ _ _ ?_)
   clear hK K
   refine aJ (b := decide ((32768 : Int) < l[k].length)) rfl (fun hb => ?_) (fun hb => ?_)
   ·
    refine R0 ?_
    refine aD (RT Tryz.results30 ?_)
    have hc : lA l = 3 := by rw [lA, if_neg hn0, if_neg (by omega), if_pos]; simp only [List.any_eq_true, decide_eq_true_eq]; exact ⟨_, List.getElem_mem hlk, by simp at hb; omega⟩
    have hE := pU hn hlt hk (by rw [← hl, okL, hc]; rfl)
    rw [← hl, hc] at hE
    refine aM [] (.slc []) (.int .i64 3) ?_ ⟨by rw [gJ (by rw [hE]; decide)]; rfl, by rw [hE]⟩
    simp [HV.close, HV.closeL, CV.denil, CV.denilL, HV.norm, HV.toC, HV.toCL]
   refine aG ?_
   refine T0 (hK _ _ _ ?_)
   clear hK K
   refine aB fun K hK => ?_
   have hw2 : l[k].length ≤ 32768 := by simp at hb; omega
   clear hb
   have hel := pR l[k]
   have hsz := mF l[k]
   have hsp := yI l[k]
   have hpe : 0 < (fV l[k]).length := by omega
   have htk := yJ hlk
   have hbe : (eL (ls.take i)).length + (fH (l.take k)).length + (fV l[k]).length ≤ 140737488355328 := by omega
   have hbe1 : (eL (ls.take i)).length + (fH (l.take k)).length + 1 + (fV l[k]).length ≤ 140737488355328 := by omega
   refine R0 ?_
   refine aJ (b := decide ((0 : Int) < k)) rfl (fun hb => ?_) (fun hb => ?_)
   ·
    refine Rg ?_
    have F := aI @List.length_append.{0} @List.length_map.{0,0}
    iterate 4 refine SF ?_
    refine T2 (hK _ _ _ ?_)
    clear hK K
    refine Rg ?_
    iterate 8 refine S0 ?_ (e := fun _ h_ => by simp only [sH, ↓sP, sA, tyS, simprocAttr, Int.natCast_nonneg, Int.ofNat_lt, hlt, hln, hlk, aN hlk, List.length_append, List.length_map, hpe, hbe, hbe1]; exact AX h_)
    refine HS rfl rfl fun K' hK' => ?_
    simp only [sH, ↓sP, sA, tyS, simprocAttr, Int.natCast_nonneg, Int.ofNat_lt, hlt, hln, hlk, aN hlk, List.length_append, List.length_map, hpe, hbe, hbe1]
    refine C1 (aL6 l[k] (by omega)) ?_
    rintro u rfl
    refine AX (hK' _ _ ?_)
    clear hK' K'
    iterate 2 refine S0 ?_ (e := fun _ h_ => by simp only [sH, ↓sP, sA, tyS, simprocAttr, Int.natCast_nonneg, Int.ofNat_lt, hlt, hln, hlk, aN hlk, List.length_append, List.length_map, hpe, hbe, hbe1]; exact AX h_)
    refine T2 (hK _ _ _ ?_)
    clear hK K
    refine aL (by kernel_rfl) ?_
    refine TQ (bK k) ?_
    have hk0 : k ≠ 0 := by simp at hb; omega
    refine ⟨⟨k + 1, hlk, qX (p := fun x => x.length ≤ 32768) hlk hw2 hkw⟩, aQ (by omega) ?_ ?_, ?_⟩
    ·
     rw [htk, if_neg hk0]
     simp [aY, upd_at, fin_at, HV.men]
     omega
    ·
     rw [htk, if_neg hk0]
     simp only [List.map_append, ← List.append_assoc]
     exact ⟨rfl, by omega, trivial, trivial⟩
    show l.length - (k + 1) < l.length - k
    omega
   refine aG ?_
   refine T0 (hK _ _ _ ?_)
   clear hK K
   refine Rg ?_
   iterate 8 refine S0 ?_ (e := fun _ h_ => by simp only [sH, ↓sP, sA, tyS, simprocAttr, Int.natCast_nonneg, Int.ofNat_lt, hlt, hln, hlk, aN hlk, List.length_append, List.length_map, hpe, hbe, hbe1]; exact AX h_)
   refine HS rfl rfl fun K' hK' => ?_
   simp only [sH, ↓sP, sA, tyS, simprocAttr, Int.natCast_nonneg, Int.ofNat_lt, hlt, hln, hlk, aN hlk, List.length_append, List.length_map, hpe, hbe, hbe1]
   refine C1 (aL6 l[k] (by omega)) ?_
   rintro u rfl
   refine AX (hK' _ _ ?_)
   clear hK' K'
   iterate 2 refine S0 ?_ (e := fun _ h_ => by simp only [sH, ↓sP, sA, tyS, simprocAttr, Int.natCast_nonneg, Int.ofNat_lt, hlt, hln, hlk, aN hlk, List.length_append, List.length_map, hpe, hbe, hbe1]; exact AX h_)
   refine T2 (hK _ _ _ ?_)
   clear hK K
   refine aL (by kernel_rfl) ?_
   refine TQ (bK k) ?_
   have hk0 : k = 0 := by simp at hb; omega
   refine ⟨⟨k + 1, hlk, qX (p := fun x => x.length ≤ 32768) hlk hw2 hkw⟩, aQ (by omega) ?_ ?_, ?_⟩
   ·
    rw [htk, if_pos hk0]
    simp [aY, upd_at, fin_at, HV.men]
    omega
   ·
    rw [htk, if_pos hk0, List.nil_append]
    simp only [List.map_append, ← List.append_assoc]
    exact ⟨rfl, by omega, trivial, trivial⟩
   show l.length - (k + 1) < l.length - k
   omega
  have hek : k = l.length := by simp at hb; omega
  subst hek
  clear hb
  rw [List.take_length] at *
  have hokl : okL l = true := (iT l).2 ⟨fun h => hn0 (by rw [h]; rfl), hn1, hkw⟩
  refine aS (T3 ?_)
  clear hK K
  refine AX (hK _ _ _ ?_)
  clear hK K
  refine Rg ?_
  have F := aI @List.length_append.{0} (aI @List.length_map.{0,0} @List.take_length.{0})
  iterate 4 refine SF ?_
  refine T2 (hK _ _ _ ?_)
  clear hK K
  refine aL (by kernel_rfl) ?_
  refine TQ (bK i) ?_
  refine ⟨⟨i + 1, hlt, qX (p := fun x => okL x = true) hlt (by rw [← hl]; exact hokl) hk⟩, aQ (by omega) ?_ ?_, ?_⟩
  ·
   rw [hdt1, vH]
   simp [aY, upd_at, fin_at, HV.men]
   try omega
  ·
   rw [hdt1, vH]
   simp only [List.map_append, ← List.append_assoc, List.take_length]
   exact ⟨rfl, by omega, trivial, trivial⟩
  show ls.length - (i + 1) < ls.length - i
  omega
 have hei : i = ls.length := by simp at hb; omega
 subst hei
 clear hb
 rw [List.take_length] at hk
 have hE := aC8 hn hk
 refine aS (T3 ?_)
 clear hK K
 refine AX (hK _ _ _ ?_)
 clear hK K
 refine aB fun K hK => ?_
 have F := aI @List.take_length.{0} @List.length_map.{0,0}
 refine RF ?_
 refine aJ (b := decide ((262144 : Int) < (eL ls).length)) rfl (fun hb => ?_) (fun hb => ?_)
 ·
  refine R0 ?_
  refine aD (RT Tryz.results30 ?_)
  rw [if_pos (by simp at hb; omega)] at hE
  refine aM [] (.slc []) (.int .i64 3) ?_ ⟨by rw [gJ (by rw [hE]; decide)]; rfl, by rw [hE]⟩
  simp [HV.close, HV.closeL, CV.denil, CV.denilL, HV.norm, HV.toC, HV.toCL]
 refine aG ?_
 refine T0 (hK _ _ _ ?_)
 clear hK K
 refine R0 ?_
 refine aD (RT Tryz.results30 ?_)
 rw [if_neg (by simp at hb; omega)] at hE
 refine aM [28] (.slc ((eL ls).map cU)) (.int .i64 0) ?_ ⟨by rw [aC9 hE], by rw [hE]⟩
 simp [HV.close, fob_at, upd_at, HV.norm, HV.toC, HV.closeL, HV.toCL, List.take_of_length_le, CV.denil, dX]

end Go.Proofs.YtenbfeemmpjdhaaGreatDoor

namespace Go.Proofs.YtenbfeemmpjdhaaGreatDoor
open Go Go.Hl Go.Pl
set_option maxRecDepth 10000
set_option maxHeartbeats 16000000

theorem bT1 (b : aK) (hl : b.length < 2 ^ 40) : dF Tryz.prog 65 [.slc (b.map u8)] (fun u v => u = .slc ((gT b).map lsC) ∧ v = .int .i64 (eB b)) := by
 refine FW Tryz.func65 ?_
 refine R0 ?_
 refine aB fun K hK => ?_
 have F := @List.length_map.{0,0}
 refine RF ?_
 refine aJ (b := decide ((262144 : Int) < b.length)) rfl (fun hb => ?_) (fun hb => ?_)
 ·
  refine R0 ?_
  refine aD (RT Tryz.results65 ?_)
  have hE : eB b = 3 := by unfold eB; rw [if_pos (by simp at hb; omega)]
  refine aM [] (.slc []) (.int .i64 3) ?_ ⟨by simp only [gT, hE]; rfl, by rw [hE]⟩
  simp [HV.close, HV.closeL, CV.denil, CV.denilL, HV.norm, HV.toC, HV.toCL]
 refine aG ?_
 refine T0 (hK _ _ _ ?_)
 clear hK K
 refine aB fun K hK => ?_
 have hle : ¬ 262144 < b.length := by simp at hb; omega
 clear hb
 refine RF ?_
 refine aJ (b := (b.length : Int) == 0) rfl (fun hb => ?_) (fun hb => ?_)
 ·
  refine R0 ?_
  refine aD (RT Tryz.results65 ?_)
  have hbe : b = [] := by simpa using hb
  subst hbe
  refine aM [] (.slc []) (.int .i64 0) ?_ ⟨rfl, rfl⟩
  simp [HV.close, HV.closeL, CV.denil, CV.denilL, HV.norm, HV.toC, HV.toCL]
 refine aG ?_
 refine T0 (hK _ _ _ ?_)
 clear hK K
 refine aB fun K hK => ?_
 have hne : b ≠ [] := by rintro rfl; simp at hb
 clear hb
 have hpos : 0 < b.length := List.length_pos_iff.2 hne
 have hlt1 : b.length - 1 < b.length := by omega
 have hwl : IntKind.i64.wrap ((b.length : Int) - 1) = ((b.length - 1 : Nat) : Int) := by rw [IntWalk.i64_in _ (by omega)]; omega
 refine aB fun K hK => Rg ?_
 have F := aI @List.length_map.{0,0} (aI hwl (aI @Int.natCast_nonneg (aI @Int.ofNat_lt (aI hlt1 (aI (nM hlt1) @u8.eq_1)))))
 iterate 7 refine SF ?_
 refine T2 (hK _ _ _ ?_)
 clear hK K
 refine aJ (b := ((b[b.length - 1]).toNat : Int) != 10) rfl (fun hb => ?_) (fun hb => ?_)
 ·
  refine R0 ?_
  refine aD (RT Tryz.results65 ?_)
  have hE : eB b = 2 := bB5 hle hne (by
   intro h
   rw [List.getD_eq_getElem?_getD, List.getElem?_eq_getElem hlt1] at h
   simp only [Option.getD_some] at h
   rw [h] at hb
   simp at hb)
  refine aM [] (.slc []) (.int .i64 2) ?_ ⟨by simp only [gT, hE]; rfl, by rw [hE]⟩
  simp [HV.close, HV.closeL, CV.denil, CV.denilL, HV.norm, HV.toC, HV.toCL]
 refine aG ?_
 refine T0 (hK _ _ _ ?_)
 clear hK K
 have hl10 : b[b.length - 1] = 10 := by
  simp only [bne_eq_false_iff_eq] at hb
  exact UInt8.toNat_inj.1 (by show b[b.length - 1].toNat = 10; omega)
 clear hb
 obtain ⟨m, hm⟩ : ∃ m, b = m ++ [10] := ⟨b.dropLast, by rw [← hl10, ← List.getLast_eq_getElem hne]; exact (List.dropLast_concat_getLast hne).symm⟩
 have htk : List.take (b.length - 1) (b.map u8) = m.map u8 := by rw [hm]; simp
 have hbc : gK (m.map u8) = some m := bytesC_map m
 have hml : m.length + 1 = b.length := by rw [hm]; simp
 have hml3 : (m ++ [(10 : UInt8)]).length = m.length + 1 := by simp
 rw [hm] at hle
 refine aB fun K hK => Rg ?_
 have F := aI @List.length_map.{0,0} (aI hwl (aI @Int.natCast_nonneg (aI @Int.ofNat_le (aI @Nat.sub_le (aI @bG (aI @List.drop_zero.{0} (aI @Nat.sub_zero (aI htk hbc))))))))
 iterate 6 refine SF ?_
 refine HS rfl rfl fun K' hK' => T6 ?_
 refine C2 (aL5 m 10 (by omega)) ?_
 rintro u rfl
 refine AX (hK' _ _ ?_)
 clear hK' K'
 refine SF ?_
 refine T2 (hK _ _ _ ?_)
 clear hK K
 obtain ⟨rows, hrows⟩ : ∃ rows, rows = aT 10 m := ⟨_, rfl⟩
 have hrl := dO 10 m
 have hrs := lB 10 m
 rw [← hrows] at hrl hrs ⊢
 have hE2 : rows.mapM unL = none → eB b = 2 := fun h => by rw [hm]; exact bB6 hle (by rw [← hrows]; exact h)
 refine R0 ?_
 refine aB fun K hK => ?_
 refine R0 ?_
 refine aH ?_
 refine fE 5 0 60 1 rfl rfl rfl rfl ?_
 refine aU (α := {i : Nat // i ≤ rows.length ∧ ∀ r ∈ rows.take i, (unL r).isSome = true}) (fun i => (fin [(4, .c (.slc (rows.map .str))), (5, .own 100 i.1), (6, .c (.int .i64 i.1))], fob [(100, .row 60 1 ((lsT rows i.1).map lsC))])) 200 (fun i => rows.length - i.1) ⟨0, by omega, by simp⟩ (by simp only [lsT, List.take_zero, List.map_nil]; exact fF) ?_
 rintro ⟨i, hi, hok⟩
 simp only
 have hlsl := aQ1 hi
 refine aB fun K hK => ?_
 refine aB fun K hK => Rg ?_
 have F := @List.length_map.{0,0}
 iterate 4 refine SF ?_
 refine T2 (hK _ _ _ ?_)
 clear hK K
 refine aJ (b := decide ((i : Int) < rows.length)) rfl (fun hb => ?_) (fun hb => ?_)
 ·
  have hlt : i < rows.length := by simpa using hb
  clear hb
  obtain ⟨r, hr⟩ : ∃ r, r = rows[i] := ⟨_, rfl⟩
  have hrin : r ∈ rows := by rw [hr]; exact List.getElem_mem hlt
  have hrn := hrs r hrin
  have hnr : nth (rows.map CV.str) i = .str r := by rw [aN hlt, hr]
  refine aG ?_
  refine T0 (hK _ _ _ ?_)
  clear hK K
  refine aB fun K hK => ?_
  refine aH ?_
  refine aB fun K hK => Rg ?_
  have F := aI @Int.natCast_nonneg (aI @Int.ofNat_lt (aI hlt (aI hnr @List.length_map.{0,0})))
  iterate 4 refine SF ?_
  refine HS rfl rfl fun K' hK' => T6 ?_
  refine C2 (aL5 r 32 (by omega)) ?_
  rintro u rfl
  refine AX (hK' _ _ ?_)
  clear hK' K'
  refine SF ?_
  refine T2 (hK _ _ _ ?_)
  clear hK K
  refine R0 ?_
  refine aB fun K hK => ?_
  refine R0 ?_
  refine aH ?_
  refine fE 8 0 9 1 rfl rfl rfl rfl ?_
  refine aU (α := {k : Nat // k ≤ (aT 32 r).length ∧ aK3 r k}) (fun k => (fin [(4, .c (.slc (rows.map .str))), (5, .own 100 i), (6, .c (.int .i64 i)), (7, .c (.slc ((aT 32 r).map .str))), (8, .own 248 k.1), (9, .c (.int .i64 k.1))], fob [(100, .row 60 1 ((lsT rows i).map lsC)), (248, .row 9 1 ((wsT r k.1).map .str))])) 300 (fun k => (aT 32 r).length - k.1) ⟨0, by omega, fun p hp => by simp at hp⟩ (by simp only [wsT, List.take_zero, List.map_nil]; exact fF) ?_
  rintro ⟨k, hk, hwo⟩
  simp only
  have hwl2 := oF hk
  have hsl := dO 32 r
  refine aB fun K hK => ?_
  refine aB fun K hK => Rg ?_
  have F := @List.length_map.{0,0}
  iterate 4 refine SF ?_
  refine T2 (hK _ _ _ ?_)
  clear hK K
  refine aJ (b := decide ((k : Int) < (aT 32 r).length)) rfl (fun hb => ?_) (fun hb => ?_)
  ·
   have hkl : k < (aT 32 r).length := by simpa using hb
   clear hb
   obtain ⟨p, hp⟩ : ∃ p, p = (aT 32 r)[k] := ⟨_, rfl⟩
   have hpl := lB 32 r p (by rw [hp]; exact List.getElem_mem hkl)
   have hnp : nth ((aT 32 r).map CV.str) k = .str p := by rw [aN hkl, hp]
   refine aG ?_
   refine T0 (hK _ _ _ ?_)
   clear hK K
   refine aB fun K hK => ?_
   refine aH ?_
   refine aB fun K hK => Rg ?_
   have F := aI @Int.natCast_nonneg (aI @Int.ofNat_lt (aI hkl (aI hnp @List.length_map.{0,0})))
   iterate 4 refine SF ?_
   refine HS rfl rfl fun K' hK' => T6 ?_
   refine D1 (bS9 p (by omega)) ?_
   rintro u v ⟨rfl, rfl⟩
   refine AX (hK' _ _ ?_)
   clear hK' K'
   iterate 5 refine SF ?_
   refine T2 (hK _ _ _ ?_)
   clear hK K
   refine aB fun K hK => ?_
   refine R0 ?_
   refine aJ (b := !(unW p).isSome) rfl (fun hb => ?_) (fun hb => ?_)
   ·
    refine R0 ?_
    refine aD (RT Tryz.results65 ?_)
    have hE := hE2 (nD hrin (bL3 hkl (by rw [← hp]; simpa using hb)))
    refine aM [] (.slc []) (.int .i64 2) ?_ ⟨by simp only [gT, hE]; rfl, by rw [hE]⟩
    simp [HV.close, HV.closeL, CV.denil, CV.denilL, HV.norm, HV.toC, HV.toCL]
   refine aG ?_
   refine T0 (hK _ _ _ ?_)
   clear hK K
   refine Rg ?_
   have F := aI @List.length_append.{0} (aI @List.length_map.{0,0} hwl2)
   iterate 5 refine SF ?_
   refine T2 (hK _ _ _ ?_)
   clear hK K
   refine aL (by kernel_rfl) ?_
   refine TQ (bK k) ?_
   refine ⟨⟨k + 1, hkl, yL hkl hwo (by rw [← hp]; simpa using hb)⟩, aQ (by omega) ?_ ?_, ?_⟩
   ·
    simp [aY, upd_at, fin_at, HV.men]
   ·
    simp only [aK4 hkl, ← hp, bC, List.map_append]
    exact ⟨rfl, by omega, trivial, rfl, by omega, trivial, trivial⟩
   show (aT 32 r).length - (k + 1) < (aT 32 r).length - k
   omega
  refine aS (T3 ?_)
  clear hK K
  refine AX (hK _ _ _ ?_)
  clear hK K
  have hke : k = (aT 32 r).length := by simp at hb; omega
  subst hke
  have hul := bS3 hwo
  obtain ⟨ws, hws⟩ : ∃ ws, ws = wsT r (aT 32 r).length := ⟨_, rfl⟩
  rw [← hws] at hul hwl2 ⊢
  rw [← hwl2]
  refine cM [248] (bF (fr2 := fin [(4, .c (.slc (rows.map .str))), (5, .own 100 i), (6, .c (.int .i64 i)), (8, .c (.slc (ws.map .str)))]) (ob2 := fob [(100, .row 60 1 ((lsT rows i).map lsC))]) (nx2 := 400) (aQ (by omega) (by simp [aY, cQ, fin_at, finA_at, upd_at, fob_at, HV.close, HV.closeL, CV.denil, CV.denilL, denilL_str, HV.men, HV.menL, HV.norm, HV.toC, HV.toCL]) (by simp [bC, cR, fob_at, upd_at, none0_at, bT, HO.close, HV.close, HV.closeL, HO.men, HV.men, HV.menL, HV.norm, HV.toC, HV.toCL])) ?_)
  refine Rg ?_
  have F := aI @List.length_append.{0} (aI @List.length_map.{0,0} hlsl)
  iterate 5 refine SF ?_
  refine T2 (hK _ _ _ ?_)
  clear hK K
  refine aL (by kernel_rfl) ?_
  refine TQ (bK i) ?_
  have hok1 : ∀ x ∈ rows.take (i + 1), (unL x).isSome = true := by
   intro x hx
   rw [List.take_succ_eq_append_getElem hlt, List.mem_append, List.mem_singleton] at hx
   rcases hx with hx | rfl
   ·
    exact hok x hx
   rw [← hr, hul]; rfl
  refine ⟨⟨i + 1, hlt, hok1⟩, aQ (by omega) ?_ ?_, ?_⟩
  ·
   simp [aY, upd_at, fin_at, HV.men]
  ·
   simp only [bL2 hlt, ← hr, hul, bC, List.map_append, Option.getD_some]
   exact ⟨rfl, by omega, trivial, trivial⟩
  show rows.length - (i + 1) < rows.length - i
  omega
 refine aS (T3 ?_)
 clear hK K
 refine AX (hK _ _ _ ?_)
 clear hK K
 refine aB fun K hK => ?_
 have hie : i = rows.length := by simp at hb; omega
 subst hie
 have hml2 := bS4 hok
 have hlens := bL4 (rows := rows) (n := 2 ^ 39) (fun r hr => by have := hrs r hr; omega)
 obtain ⟨ls, hls⟩ : ∃ ls, ls = lsT rows rows.length := ⟨_, rfl⟩
 rw [← hls] at hml2 hlsl hlens ⊢
 rw [hrows] at hml2
 obtain ⟨hE0, hEn⟩ := bL1 hle hml2
 rw [← hm] at hE0 hEn
 rw [← hlsl]
 refine cM [100] (bF (fr2 := fin [(5, .c (.slc (ls.map lsC)))]) (ob2 := fob []) (nx2 := 300) (aQ (by omega) (by simp [aY, cQ, fin_at, finA_at, upd_at, fob_at, HV.close, HV.closeL, CV.denil, CV.denilL, fJ, HV.men, HV.menL, HV.norm, HV.toC, HV.toCL]) (by simp [bC, cR, fob_at, upd_at, none0_at, bT, HO.close, HV.close, HV.closeL, HO.men, HV.men, HV.menL, HV.norm, HV.toC, HV.toCL])) ?_)
 refine aB fun K hK => Rg ?_
 have F := @fJ
 refine SF ?_
 refine HS rfl rfl fun K' hK' => T6 ?_
 refine D1 (bT0 ls (by omega) (fun l hl => by have := hlens l hl; omega)) ?_
 rintro u v ⟨rfl, rfl⟩
 refine AX (hK' _ _ ?_)
 clear hK' K'
 iterate 5 refine SF ?_
 refine T2 (hK _ _ _ ?_)
 clear hK K
 refine R0 ?_
 refine aJ (b := iN ls != 0) rfl (fun hb => ?_) (fun hb => ?_)
 ·
  refine R0 ?_
  refine aD (RT Tryz.results65 ?_)
  have hE := hEn (by simpa using hb)
  refine aM [] (.slc []) (.int .i64 2) ?_ ⟨by simp only [gT, hE]; rfl, by rw [hE]⟩
  simp [HV.close, HV.closeL, CV.denil, CV.denilL, HV.norm, HV.toC, HV.toCL]
 refine aG ?_
 refine T0 (hK _ _ _ ?_)
 clear hK K
 refine R0 ?_
 refine aD (RT Tryz.results65 ?_)
 obtain ⟨hE, hO⟩ := hE0 (by simpa using hb)
 refine aM [] (.slc (ls.map lsC)) (.int .i64 0) ?_ ⟨by rw [hO], by rw [hE]⟩
 simp [HV.close, HV.closeL, CV.denil, CV.denilL, HV.norm, HV.toC, HV.toCL, fJ]

end Go.Proofs.YtenbfeemmpjdhaaGreatDoor

namespace Go.Proofs.YtenbfeemmpjdhaaGreatDoor
open Go Go.Hl Go.Pl
set_option maxRecDepth 10000
set_option maxHeartbeats 16000000
def tp (L : List Int) (a : Nat) : CV := .agg [.slc (L.map (.int .i64)), .int .i64 a]
attribute [local simp] tp

theorem cT (L : List Int) (a : Nat) (n : Int) (ha : a < 2 ^ 40) (hn : n < 2 ^ 40) : bO8 Tryz.prog 16 39 (tp L a) [.int .i64 n] (fun u v' => ∃ (x : Int) (a' : Nat), u = .int .i64 x ∧ v' = tp L a' ∧ a' ≤ a + 1 ∧ 0 ≤ x ∧ (n < 1 → x = 0) ∧ (1 ≤ n → x < n)) := by
 refine bH Tryz.func16 rfl (by kernel_rfl) (fY _ _ _) (Nat.le_of_ble_eq_true rfl) ?_
 refine R0 ?_
 refine aB fun K hK => ?_
 refine R0 ?_
 refine aJ (b := decide (n < 1)) rfl (fun hb => ?_) (fun hb => ?_)
 ·
  refine R0 ?_
  refine aD (RT Tryz.results16 ?_)
  refine jL [] (.int .i64 0) (tp L a) rfl rfl ?_ (by simp) ⟨0, a, rfl, rfl, by omega, by omega, fun _ => rfl, fun h => by omega⟩
  simp [HV.close, tp, CV.denil, CV.denilL, denilL_int, HV.norm, HV.toC]
 refine aG ?_
 refine T0 (hK _ _ _ ?_)
 clear hK K
 refine aB fun K hK => Rg ?_
 iterate 7 refine S0 ?_ (e := fun _ h_ => by simp only [sH, ↓sP, sA, tyS, simprocAttr, tp]; exact AX h_)
 refine T2 (hK _ _ _ ?_)
 clear hK K
 refine aB fun K hK => ?_
 have key : ∀ (v : Int) fr ob nx, Fits 1 fr ob (fin [(0, .ptr 0 0), (1, .c (.int .i64 n)), (5, .c (.int .i64 v))]) (fob [(0, .box 39 (.c (tp L a)))]) 300 → K fr ob nx := by
  intro v fr ob nx hf
  refine hK _ _ _ (bF hf ?_)
  clear hf hK K
  have hn1 : 1 ≤ n := by simp at hb; omega
  have e0 := Int.tmod_lt_of_pos v (b := n) (by omega)
  have e1 : -n < v.tmod n := Int.lt_tmod_of_pos v (by omega)
  refine aB fun K hK => Rg ?_
  iterate 8 refine S0 ?_ (e := fun _ h_ => by simp only [sH, ↓sP, sA, tyS, simprocAttr, tp]; exact AX h_)
  refine T2 (hK _ _ _ ?_)
  clear hK K
  refine aB fun K hK => Rg ?_
  iterate 8 refine S0 ?_ (e := fun _ h_ => by simp only [sH, ↓sP, sA, tyS, simprocAttr, tp]; exact AX h_)
  refine T2 (hK _ _ _ ?_)
  clear hK K
  refine aD (RT Tryz.results16 ?_)
  have e2 : IntKind.i64.wrap (v.tmod n + n) = v.tmod n + n := IntWalk.i64_in _ (by omega)
  have e3 : IntKind.i64.wrap ((a : Int) + 1) = ((a + 1 : Nat) : Int) := IntWalk.i64_in _ (by omega)
  refine jL [] (.int .i64 ((v.tmod n + n).tmod n)) (tp L (a + 1)) (by rw [e2]; rfl) rfl ?_ (by simp) ⟨_, a + 1, rfl, rfl, by omega, Int.tmod_nonneg _ (by omega), fun h => by omega, fun _ => Int.tmod_lt_of_pos _ (by omega)⟩
  simp [HV.close, HV.closeL, tp, CV.denil, CV.denilL, denilL_int, HV.norm, HV.toC, HV.toCL, e3]
 refine aB fun K hK => QR ?_
 iterate 10 refine S0 ?_ (e := fun _ h_ => by simp only [sH, ↓sP, sA, tyS, simprocAttr, tp]; exact AX h_)
 refine T2 (hK _ _ _ ?_)
 clear hK K
 refine aJ (b := decide ((a : Int) < L.length)) rfl (fun hb => ?_) (fun hb => ?_)
 ·
  refine QW ?_
  simp only [sR, simprocAttr]
  iterate 11 refine S0 ?_ (e := fun _ h_ => by simp only [sH, ↓sP, sA, tyS, simprocAttr, tp, Int.natCast_nonneg, (by simpa using hb : (a : Int) < L.length), aN (show a < L.length by simpa using hb)]; exact AX h_)
  refine T4 ?_
  exact key (L[a]'(by simpa using hb)) _ _ _ (fF)
 refine aG (T3 ?_)
 exact key (IntKind.i64.wrap (IntKind.i64.wrap (↑a * 7) + 3)) _ _ _ (fF)



theorem bM2 (a b : List UInt8) : aW Tryz.prog 135 [.slc (a.map u8), .slc (b.map u8)] (fun v => v = .int .i64 (oA a b)) :=
 aO2 (f := 135) (fn := Tryz.f135) Tryz.func135 (by kernel_rfl) (by kernel_rfl) (by kernel_rfl) (by kernel_rfl) a b

theorem bT2 (a b : List UInt8) : aW Tryz.prog 114 [.slc (a.map u8), .slc (b.map u8)] (fun v => v = .int .i64 (oA a b)) := by
 refine FW Tryz.func114 ?_
 refine R0 ?_
 refine aB fun K hK => Rg ?_
 have F := @denilL_u8
 iterate 2 refine SF ?_
 refine HS rfl rfl fun K' hK' => T6 ?_
 refine C2 (bM2 a b) ?_
 rintro u rfl
 refine AX (hK' _ _ ?_)
 clear hK' K'
 refine SF ?_
 refine T2 (hK _ _ _ ?_)
 clear hK K
 refine aD (RT Tryz.results114 ?_)
 exact aC [] (.int .i64 _) rfl rfl


theorem aL7 (a b : Dig) : aW Tryz.prog 80 [dg a, dg b] (fun v => v = .int .i64 (oA a.1 b.1)) := by
 refine FW Tryz.func80 ?_
 refine R0 ?_
 refine dQ 2 0 rfl rfl ?_
 refine dQ 3 4 rfl rfl ?_
 refine aB fun K hK => DW [(0, [], []), (1, [], []), (2, [], []), (3, [], [])] [0, 0, 3, 7] ?_
 iterate 2 refine W0 ?_ (e := fun _ h_ => by simp only [sH, ↓sP, sA, tyS, simprocAttr, xQ, bG, a.2, b.2, denilL_u8, List.drop_zero, mZ]; exact AX h_)
 refine aO (g := none) rfl rfl fun K' hK' => ?_
 simp only [sH, ↓sP, sA, tyS, simprocAttr, xQ, bG, a.2, b.2, denilL_u8, List.drop_zero, mZ]
 refine C2 (bT2 a.1 b.1) ?_
 rintro u rfl
 refine AX (hK' _ _ ?_)
 clear hK' K'
 refine W0 ?_ (e := fun _ h_ => by simp only [sH, ↓sP, sA, tyS, simprocAttr, xQ, bG, a.2, b.2, denilL_u8, List.drop_zero, mZ]; exact AX h_)
 refine T2 (hK _ _ _ ?_)
 clear hK K
 refine aD (RT Tryz.results80 ?_)
 exact aC [] (.int .i64 _) rfl rfl


theorem vS (s : aK) (hl : s.length < 2 ^ 63) : aW Tryz.prog 39 [.str s] (fun v => v = .bool (dV s)) := by
 refine FW Tryz.func39 ?_
 refine R0 ?_
 refine aB fun K hK => ?_
 refine aB fun K hK => ?_
 have key : ∀ (b : Bool) fr ob nx, b = eS s → Fits 0 fr ob (fin [(0, .c (.str s)), (26, .c (.bool b))]) (fob []) 600 → K fr ob nx := by
  rintro b fr ob nx rfl hf
  refine hK _ _ _ (bF hf ?_)
  clear hf hK K
  refine aJ (b := eS s) rfl (fun hb => ?_) (fun hb => ?_)
  ·
   refine R0 ?_
   refine aD (RT Tryz.results39 ?_)
   exact aC [] (.bool false) rfl (by rw [aO0 hb])
  refine aG ?_
  refine T0 (hK _ _ _ ?_)
  clear hK K
  refine aB fun K hK => ?_
  refine R0 ?_
  refine aH ?_
  have hbad := hb
  refine aU (α := {i : Nat // i ≤ s.length ∧ ∀ j (_ : j < i) (h : j < s.length), (alZ s[j] || puZ s[j]) = true}) (fun i => (fin [(0, .c (.str s)), (3, .c (.int .i64 i.1))], fob [])) 100 (fun i => s.length - i.1) ⟨0, by omega, fun j h => by omega⟩ (fF) ?_
  clear hb
  rintro ⟨i, hi, h0⟩
  refine aB fun K hK => ?_
  refine aB fun K hK => Rg ?_
  iterate 4 refine S0 ?_
  refine T2 (hK _ _ _ ?_)
  clear hK K
  refine aJ (b := decide ((i : Int) < s.length)) rfl (fun hb => ?_) (fun hb => ?_)
  ·
   have hlt : i < s.length := by simpa using hb
   have hgd : s.getD i 0 = s[i] := by simp [hlt]
   refine aG ?_
   refine T0 (hK _ _ _ ?_)
   clear hK K
   refine aB fun K hK => ?_
   refine aH ?_
   refine aB fun K hK => Rg ?_
   iterate 4 refine S0 ?_ (e := fun _ h_ => by simp only [sH, ↓sP, sA, tyS, simprocAttr, Int.natCast_nonneg, Int.ofNat_lt, hlt, hgd]; exact AX h_)
   refine T2 (hK _ _ _ ?_)
   clear hK K
   refine aB fun K hK => ?_
   have key : ∀ (b : Bool) fr ob nx, b = (!(alZ s[i] || puZ s[i])) → Fits 0 fr ob (fin [(0, .c (.str s)), (3, .c (.int .i64 i)), (62, .c (.bool b))]) (fob []) 600 → K fr ob nx := by
    rintro b fr ob nx rfl hf
    refine hK _ _ _ (bF hf ?_)
    clear hf hK K
    refine aJ (b := !(alZ s[i] || puZ s[i])) rfl (fun hb => ?_) (fun hb => ?_)
    ·
     refine R0 ?_
     refine aD (RT Tryz.results39 ?_)
     exact aC [] (.bool false) rfl (by rw [aO1 hlt (by simpa using hb)])
    refine aG ?_
    refine T0 (hK _ _ _ ?_)
    clear hK K
    refine aL (by kernel_rfl) ?_
    refine TQ (bK i) ?_
    refine ⟨⟨i + 1, hlt, fun j hj h' => ?_⟩, fF, ?_⟩
    ·
     rcases Nat.lt_or_ge j i with h1 | h1
     ·
      exact h0 j h1 h'
     have : j = i := by omega
     subst this
     rw [Bool.not_eq_false'] at hb
     exact hb
    show s.length - (i + 1) < s.length - i
    omega
   refine Rg ?_
   iterate 3 refine S0 ?_
   refine aF 37 rfl (fun h7_37 => ?_) (fun h7_37 => ?_)
   ·
    have F := h7_37
    iterate 4 refine SF ?_
    refine aF 40 rfl (fun h7_40 => ?_) (fun h7_40 => ?_)
    ·
     have F := aI h7_37 h7_40
     iterate 20 refine SF ?_
     refine T4 ?_
     exact key false _ _ _ (by simp only [alZ, puZ, h7_37, h7_40, Bool.and_true, Bool.and_false, Bool.true_and, Bool.false_and, Bool.or_true, Bool.true_or, Bool.false_or, Bool.or_false, Bool.and_self, Bool.or_self, Bool.not_true, Bool.not_false]) (fF)
    have F := aI h7_37 h7_40
    iterate 3 refine SF ?_
    refine aF 44 rfl (fun h7_44 => ?_) (fun h7_44 => ?_)
    ·
     have F := aI h7_37 (aI h7_40 h7_44)
     iterate 5 refine SF ?_
     refine aF 47 rfl (fun h7_47 => ?_) (fun h7_47 => ?_)
     ·
      have F := aI h7_37 (aI h7_40 (aI h7_44 h7_47))
      iterate 12 refine SF ?_
      refine T4 ?_
      exact key false _ _ _ (by simp only [alZ, puZ, h7_37, h7_40, h7_44, h7_47, Bool.and_true, Bool.and_false, Bool.true_and, Bool.false_and, Bool.or_true, Bool.true_or, Bool.false_or, Bool.or_false, Bool.and_self, Bool.or_self, Bool.not_true, Bool.not_false]) (fF)
     have F := aI h7_37 (aI h7_40 (aI h7_44 h7_47))
     iterate 4 refine SF ?_
     refine aF 52 rfl (fun h7_52 => ?_) (fun h7_52 => ?_)
     ·
      have F := aI h7_37 (aI h7_40 (aI h7_44 (aI h7_47 h7_52)))
      iterate 8 refine SF ?_
      refine T4 ?_
      exact key false _ _ _ (by simp only [alZ, puZ, h7_37, h7_40, h7_44, h7_47, h7_52, Bool.and_true, Bool.and_false, Bool.true_and, Bool.false_and, Bool.or_true, Bool.true_or, Bool.false_or, Bool.or_false, Bool.and_self, Bool.or_self, Bool.not_true, Bool.not_false]) (fF)
     have F := aI h7_37 (aI h7_40 (aI h7_44 (aI h7_47 h7_52)))
     iterate 4 refine SF ?_
     refine aF 56 rfl (fun h7_56 => ?_) (fun h7_56 => ?_)
     ·
      have F := aI h7_37 (aI h7_40 (aI h7_44 (aI h7_47 (aI h7_52 h7_56))))
      iterate 4 refine SF ?_
      refine T4 ?_
      exact key false _ _ _ (by simp only [alZ, puZ, h7_37, h7_40, h7_44, h7_47, h7_52, h7_56, Bool.and_true, Bool.and_false, Bool.true_and, Bool.false_and, Bool.or_true, Bool.true_or, Bool.false_or, Bool.or_false, Bool.and_self, Bool.or_self, Bool.not_true, Bool.not_false]) (fF)
     have F := aI h7_37 (aI h7_40 (aI h7_44 (aI h7_47 (aI h7_52 h7_56))))
     iterate 4 refine SF ?_
     refine aF 60 rfl (fun h7_60 => ?_) (fun h7_60 => ?_)
     ·
      simp only [h7_60]
      refine T4 ?_
      exact key false _ _ _ (by simp only [alZ, puZ, h7_37, h7_40, h7_44, h7_47, h7_52, h7_56, h7_60, Bool.and_true, Bool.and_false, Bool.true_and, Bool.false_and, Bool.or_true, Bool.true_or, Bool.false_or, Bool.or_false, Bool.and_self, Bool.or_self, Bool.not_true, Bool.not_false]) (fF)
     simp only [h7_60]
     refine T4 ?_
     exact key true _ _ _ (by simp only [alZ, puZ, h7_37, h7_40, h7_44, h7_47, h7_52, h7_56, h7_60, Bool.and_true, Bool.and_false, Bool.true_and, Bool.false_and, Bool.or_true, Bool.true_or, Bool.false_or, Bool.or_false, Bool.and_self, Bool.or_self, Bool.not_true, Bool.not_false]) (fF)
    have F := aI h7_37 (aI h7_40 h7_44)
    iterate 9 refine SF ?_
    refine aF 52 rfl (fun h7_52 => ?_) (fun h7_52 => ?_)
    ·
     have F := aI h7_37 (aI h7_40 (aI h7_44 h7_52))
     iterate 8 refine SF ?_
     refine T4 ?_
     exact key false _ _ _ (by simp only [alZ, puZ, h7_37, h7_40, h7_44, h7_52, Bool.and_true, Bool.and_false, Bool.true_and, Bool.false_and, Bool.or_true, Bool.true_or, Bool.false_or, Bool.or_false, Bool.and_self, Bool.or_self, Bool.not_true, Bool.not_false]) (fF)
    have F := aI h7_37 (aI h7_40 (aI h7_44 h7_52))
    iterate 4 refine SF ?_
    refine aF 56 rfl (fun h7_56 => ?_) (fun h7_56 => ?_)
    ·
     have F := aI h7_37 (aI h7_40 (aI h7_44 (aI h7_52 h7_56)))
     iterate 4 refine SF ?_
     refine T4 ?_
     exact key false _ _ _ (by simp only [alZ, puZ, h7_37, h7_40, h7_44, h7_52, h7_56, Bool.and_true, Bool.and_false, Bool.true_and, Bool.false_and, Bool.or_true, Bool.true_or, Bool.false_or, Bool.or_false, Bool.and_self, Bool.or_self, Bool.not_true, Bool.not_false]) (fF)
    have F := aI h7_37 (aI h7_40 (aI h7_44 (aI h7_52 h7_56)))
    iterate 4 refine SF ?_
    refine aF 60 rfl (fun h7_60 => ?_) (fun h7_60 => ?_)
    ·
     simp only [h7_60]
     refine T4 ?_
     exact key false _ _ _ (by simp only [alZ, puZ, h7_37, h7_40, h7_44, h7_52, h7_56, h7_60, Bool.and_true, Bool.and_false, Bool.true_and, Bool.false_and, Bool.or_true, Bool.true_or, Bool.false_or, Bool.or_false, Bool.and_self, Bool.or_self, Bool.not_true, Bool.not_false]) (fF)
    simp only [h7_60]
    refine T4 ?_
    exact key true _ _ _ (by simp only [alZ, puZ, h7_37, h7_40, h7_44, h7_52, h7_56, h7_60, Bool.and_true, Bool.and_false, Bool.true_and, Bool.false_and, Bool.or_true, Bool.true_or, Bool.false_or, Bool.or_false, Bool.and_self, Bool.or_self, Bool.not_true, Bool.not_false]) (fF)
   have F := h7_37
   iterate 7 refine SF ?_
   refine aF 44 rfl (fun h7_44 => ?_) (fun h7_44 => ?_)
   ·
    have F := aI h7_37 h7_44
    iterate 5 refine SF ?_
    refine aF 47 rfl (fun h7_47 => ?_) (fun h7_47 => ?_)
    ·
     have F := aI h7_37 (aI h7_44 h7_47)
     iterate 12 refine SF ?_
     refine T4 ?_
     exact key false _ _ _ (by simp only [alZ, puZ, h7_37, h7_44, h7_47, Bool.and_true, Bool.and_false, Bool.true_and, Bool.false_and, Bool.or_true, Bool.true_or, Bool.false_or, Bool.or_false, Bool.and_self, Bool.or_self, Bool.not_true, Bool.not_false]) (fF)
    have F := aI h7_37 (aI h7_44 h7_47)
    iterate 4 refine SF ?_
    refine aF 52 rfl (fun h7_52 => ?_) (fun h7_52 => ?_)
    ·
     have F := aI h7_37 (aI h7_44 (aI h7_47 h7_52))
     iterate 8 refine SF ?_
     refine T4 ?_
     exact key false _ _ _ (by simp only [alZ, puZ, h7_37, h7_44, h7_47, h7_52, Bool.and_true, Bool.and_false, Bool.true_and, Bool.false_and, Bool.or_true, Bool.true_or, Bool.false_or, Bool.or_false, Bool.and_self, Bool.or_self, Bool.not_true, Bool.not_false]) (fF)
    have F := aI h7_37 (aI h7_44 (aI h7_47 h7_52))
    iterate 4 refine SF ?_
    refine aF 56 rfl (fun h7_56 => ?_) (fun h7_56 => ?_)
    ·
     have F := aI h7_37 (aI h7_44 (aI h7_47 (aI h7_52 h7_56)))
     iterate 4 refine SF ?_
     refine T4 ?_
     exact key false _ _ _ (by simp only [alZ, puZ, h7_37, h7_44, h7_47, h7_52, h7_56, Bool.and_true, Bool.and_false, Bool.true_and, Bool.false_and, Bool.or_true, Bool.true_or, Bool.false_or, Bool.or_false, Bool.and_self, Bool.or_self, Bool.not_true, Bool.not_false]) (fF)
    have F := aI h7_37 (aI h7_44 (aI h7_47 (aI h7_52 h7_56)))
    iterate 4 refine SF ?_
    refine aF 60 rfl (fun h7_60 => ?_) (fun h7_60 => ?_)
    ·
     simp only [h7_60]
     refine T4 ?_
     exact key false _ _ _ (by simp only [alZ, puZ, h7_37, h7_44, h7_47, h7_52, h7_56, h7_60, Bool.and_true, Bool.and_false, Bool.true_and, Bool.false_and, Bool.or_true, Bool.true_or, Bool.false_or, Bool.or_false, Bool.and_self, Bool.or_self, Bool.not_true, Bool.not_false]) (fF)
    simp only [h7_60]
    refine T4 ?_
    exact key true _ _ _ (by simp only [alZ, puZ, h7_37, h7_44, h7_47, h7_52, h7_56, h7_60, Bool.and_true, Bool.and_false, Bool.true_and, Bool.false_and, Bool.or_true, Bool.true_or, Bool.false_or, Bool.or_false, Bool.and_self, Bool.or_self, Bool.not_true, Bool.not_false]) (fF)
   have F := aI h7_37 h7_44
   iterate 9 refine SF ?_
   refine aF 52 rfl (fun h7_52 => ?_) (fun h7_52 => ?_)
   ·
    have F := aI h7_37 (aI h7_44 h7_52)
    iterate 8 refine SF ?_
    refine T4 ?_
    exact key false _ _ _ (by simp only [alZ, puZ, h7_37, h7_44, h7_52, Bool.and_true, Bool.and_false, Bool.true_and, Bool.false_and, Bool.or_true, Bool.true_or, Bool.false_or, Bool.or_false, Bool.and_self, Bool.or_self, Bool.not_true, Bool.not_false]) (fF)
   have F := aI h7_37 (aI h7_44 h7_52)
   iterate 4 refine SF ?_
   refine aF 56 rfl (fun h7_56 => ?_) (fun h7_56 => ?_)
   ·
    have F := aI h7_37 (aI h7_44 (aI h7_52 h7_56))
    iterate 4 refine SF ?_
    refine T4 ?_
    exact key false _ _ _ (by simp only [alZ, puZ, h7_37, h7_44, h7_52, h7_56, Bool.and_true, Bool.and_false, Bool.true_and, Bool.false_and, Bool.or_true, Bool.true_or, Bool.false_or, Bool.or_false, Bool.and_self, Bool.or_self, Bool.not_true, Bool.not_false]) (fF)
   have F := aI h7_37 (aI h7_44 (aI h7_52 h7_56))
   iterate 4 refine SF ?_
   refine aF 60 rfl (fun h7_60 => ?_) (fun h7_60 => ?_)
   ·
    simp only [h7_60]
    refine T4 ?_
    exact key false _ _ _ (by simp only [alZ, puZ, h7_37, h7_44, h7_52, h7_56, h7_60, Bool.and_true, Bool.and_false, Bool.true_and, Bool.false_and, Bool.or_true, Bool.true_or, Bool.false_or, Bool.or_false, Bool.and_self, Bool.or_self, Bool.not_true, Bool.not_false]) (fF)
   simp only [h7_60]
   refine T4 ?_
   exact key true _ _ _ (by simp only [alZ, puZ, h7_37, h7_44, h7_52, h7_56, h7_60, Bool.and_true, Bool.and_false, Bool.true_and, Bool.false_and, Bool.or_true, Bool.true_or, Bool.false_or, Bool.or_false, Bool.and_self, Bool.or_self, Bool.not_true, Bool.not_false]) (fF)
  refine aS (T3 ?_)
  clear hK K
  refine AX (hK _ _ _ ?_)
  clear hK K
  refine R0 ?_
  refine aD (RT Tryz.results39 ?_)
  have hei : i = s.length := by simp at hb; omega
  exact aC [] (.bool true) rfl (by rw [aY4 hbad fun j h => h0 j (by omega) h])
 refine Rg ?_
 have F := @kY
 iterate 3 refine SF ?_
 refine aF 6 rfl (fun h1_6 => ?_) (fun h1_6 => ?_)
 ·
  have F := aI @kY h1_6
  iterate 19 refine SF ?_
  refine T4 ?_
  exact key true _ _ _ (by simp only [eS, gb, h1_6, Bool.and_true, Bool.and_false, Bool.true_and, Bool.false_and, Bool.or_true, Bool.true_or, Bool.false_or, Bool.or_false, Bool.and_self, Bool.or_self]) (fF)
 have F := aI @kY h1_6
 iterate 5 refine SF ?_
 refine aF 10 rfl (fun h1_10 => ?_) (fun h1_10 => ?_)
 ·
  have F := aI @kY (aI h1_6 h1_10)
  iterate 14 refine SF ?_
  refine T4 ?_
  exact key true _ _ _ (by simp only [eS, gb, h1_6, h1_10, Bool.and_true, Bool.and_false, Bool.true_and, Bool.false_and, Bool.or_true, Bool.true_or, Bool.false_or, Bool.or_false, Bool.and_self, Bool.or_self]) (fF)
 have F := aI @kY (aI h1_6 h1_10)
 iterate 5 refine SF ?_
 refine aF 15 rfl (fun h1_15 => ?_) (fun h1_15 => ?_)
 ·
  have F := aI @kY (aI h1_6 (aI h1_10 h1_15))
  iterate 9 refine SF ?_
  refine T4 ?_
  exact key true _ _ _ (by simp only [eS, gb, h1_6, h1_10, h1_15, Bool.and_true, Bool.and_false, Bool.true_and, Bool.false_and, Bool.or_true, Bool.true_or, Bool.false_or, Bool.or_false, Bool.and_self, Bool.or_self]) (fF)
 have F := aI @kY (aI h1_6 (aI h1_10 h1_15))
 iterate 5 refine SF ?_
 refine aF 20 rfl (fun h1_20 => ?_) (fun h1_20 => ?_)
 ·
  have F := aI @kY (aI h1_6 (aI h1_10 (aI h1_15 h1_20)))
  iterate 4 refine SF ?_
  refine T4 ?_
  exact key true _ _ _ (by simp only [eS, gb, h1_6, h1_10, h1_15, h1_20, Bool.and_true, Bool.and_false, Bool.true_and, Bool.false_and, Bool.or_true, Bool.true_or, Bool.false_or, Bool.or_false, Bool.and_self, Bool.or_self]) (fF)
 have F := aI @kY (aI h1_6 (aI h1_10 (aI h1_15 h1_20)))
 iterate 4 refine SF ?_
 refine aF 25 rfl (fun h1_25 => ?_) (fun h1_25 => ?_)
 ·
  simp only [h1_25]
  refine T4 ?_
  exact key true _ _ _ (by simp only [eS, gb, h1_6, h1_10, h1_15, h1_20, h1_25, Bool.and_true, Bool.and_false, Bool.true_and, Bool.false_and, Bool.or_true, Bool.true_or, Bool.false_or, Bool.or_false, Bool.and_self, Bool.or_self]) (fF)
 simp only [h1_25]
 refine T4 ?_
 exact key false _ _ _ (by simp only [eS, gb, h1_6, h1_10, h1_15, h1_20, h1_25, Bool.and_true, Bool.and_false, Bool.true_and, Bool.false_and, Bool.or_true, Bool.true_or, Bool.false_or, Bool.or_false, Bool.and_self, Bool.or_self]) (fF)


theorem bC5 (l : List aK) (hl : l.length < 2 ^ 40) (hw : ∀ w ∈ l, w.length < 2 ^ 63) : aW Tryz.prog 86 [.slc (l.map .str)] (fun v => v = .bool (kT l)) := by
 refine FW Tryz.func86 ?_
 refine R0 ?_
 refine aB fun K hK => ?_
 refine R0 ?_
 refine aH ?_
 refine aU (α := {i : Nat // i ≤ l.length ∧ ∀ w ∈ l.take i, dV w = true}) (fun i => (fin [(0, .c (.slc (l.map .str))), (3, .c (.int .i64 i.1))], fob [])) 100 (fun i => l.length - i.1) ⟨0, by omega, by simp⟩ (fF) ?_
 rintro ⟨i, hi, h0⟩
 refine aB fun K hK => ?_
 refine aB fun K hK => Rg ?_
 iterate 4 refine S0 ?_
 refine T2 (hK _ _ _ ?_)
 clear hK K
 refine aJ (b := decide ((i : Int) < l.length)) rfl (fun hb => ?_) (fun hb => ?_)
 ·
  have hlt : i < l.length := by simpa using hb
  refine aG ?_
  refine T0 (hK _ _ _ ?_)
  clear hK K
  refine aB fun K hK => ?_
  refine aH ?_
  refine aB fun K hK => Rg ?_
  have F := aI @Int.natCast_nonneg (aI @Int.ofNat_lt (aI hlt (nM hlt)))
  iterate 4 refine SF ?_
  refine HS rfl rfl fun K' hK' => T6 ?_
  refine C1 (vS l[i] (hw _ (List.getElem_mem hlt))) ?_
  rintro u rfl
  refine AX (hK' _ _ ?_)
  clear hK' K'
  refine SF ?_
  refine T2 (hK _ _ _ ?_)
  clear hK K
  refine aJ (b := !dV l[i]) rfl (fun hb => ?_) (fun hb => ?_)
  ·
   refine R0 ?_
   refine aD (RT Tryz.results86 ?_)
   exact aC [] (.bool false) rfl (by rw [mX, cV hlt (by simpa using hb)])
  refine aG ?_
  refine T0 (hK _ _ _ ?_)
  clear hK K
  refine aL (by kernel_rfl) ?_
  refine TQ (bK i) ?_
  refine ⟨⟨i + 1, hlt, fun w hw' => ?_⟩, fF, ?_⟩
  ·
   rw [List.take_succ_eq_append_getElem hlt, List.mem_append, List.mem_singleton] at hw'
   rcases hw' with hw' | rfl
   ·
    exact h0 w hw'
   simpa using hb
  show l.length - (i + 1) < l.length - i
  omega
 refine aS (T3 ?_)
 clear hK K
 refine AX (hK _ _ _ ?_)
 clear hK K
 refine aB fun K hK => Rg ?_
 refine S0 ?_
 refine HS rfl rfl fun K' hK' => T5 ?_
 refine C1 (aC5 l (by omega)) ?_
 rintro u rfl
 refine AX (hK' _ _ ?_)
 clear hK' K'
 refine S0 ?_
 refine T2 (hK _ _ _ ?_)
 clear hK K
 refine aD (RT Tryz.results86 ?_)
 have hei : i = l.length := by simp at hb; omega
 subst hei
 refine aC [] (.bool _) rfl ?_
 have : l.all dV = true := by rw [List.all_eq_true]; simpa using h0
 unfold kT; rw [this, Bool.true_and]


theorem bM3 (l : List aK) (hl : l.length < 2 ^ 40) (hw : ∀ w ∈ l, w.length < 2 ^ 63) : aW Tryz.prog 79 [.slc (l.map .str)] (fun v => v = .bool (kT l)) := by
 refine FW Tryz.func79 ?_
 refine R0 ?_
 refine aB fun K hK => ?_
 refine R0 ?_
 refine aH ?_
 refine aU (α := {i : Nat // i ≤ l.length ∧ GoodTo dV slt l i}) (fun i => (fin [(0, .c (.slc (l.map .str))), (5, .c (.slc (l.map .str))), (6, .c (.int .i64 l.length)), (7, .c (.int .i64 i.1))], fob [])) 100 (fun i => l.length - i.1) ⟨0, by omega, GoodTo.zero⟩ (fF) ?_
 rintro ⟨i, hi, h0⟩
 refine R0 ?_
 refine aB fun K hK => ?_
 refine aJ (b := decide ((i : Int) < l.length)) rfl (fun hb => ?_) (fun hb => ?_)
 ·
  have hlt : i < l.length := by simpa using hb
  have hi1 : i - 1 < l.length := by omega
  have hm : decide ((0 : Int) < (i : Int)) = true → IntKind.i64.wrap ((i : Int) - 1) = ((i - 1 : Nat) : Int) := fun h => by
   have : 0 < i := by simpa using h
   rw [IntWalk.i64_in _ (by omega)]; omega
  refine aG ?_
  refine T0 (hK _ _ _ ?_)
  clear hK K
  refine aB fun K hK => ?_
  refine aH ?_
  refine aB fun K hK => Rg ?_
  have F := aI @Int.natCast_nonneg (aI @Int.ofNat_lt (aI hlt (nM hlt)))
  iterate 5 refine SF ?_
  refine T2 (hK _ _ _ ?_)
  clear hK K
  refine aB fun K hK => Rg ?_
  have F := aI hm (aI @Int.natCast_nonneg (aI @Int.ofNat_lt (aI hi1 (nM hi1))))
  refine SF ?_
  refine HS rfl rfl fun K' hK' => T6 ?_
  refine C1 (aC6 l[i] (hw _ (List.getElem_mem hlt))) ?_
  rintro u rfl
  refine AX (hK' _ _ ?_)
  clear hK' K'
  iterate 2 refine SF ?_
  refine aF 13 rfl (fun h4_13 => ?_) (fun h4_13 => ?_)
  ·
   have F := aI hm (aI @Int.natCast_nonneg (aI @Int.ofNat_lt (aI hi1 (aI (nM hi1) h4_13))))
   iterate 3 refine SF ?_
   refine aF 17 rfl (fun h4_17 => ?_) (fun h4_17 => ?_)
   ·
    have F := aI hm (aI @Int.natCast_nonneg (aI @Int.ofNat_lt (aI hi1 (aI (nM hi1) (aI h4_13 h4_17)))))
    iterate 9 refine SF ?_
    refine aF 25 rfl (fun h4_25 => ?_) (fun h4_25 => ?_)
    ·
     simp only [h4_25]
     refine T2 (hK _ _ _ ?_)
     clear hK K
     refine CT rfl ?_
     refine R0 ?_
     refine aD (RT Tryz.results79 ?_)
     obtain ⟨j, rfl⟩ : ∃ j, i = j + 1 := ⟨i - 1, by simp at h4_17; omega⟩
     exact aC [] (.bool false) rfl (by rw [mX, kX (i := j) hlt (by simpa using h4_25)])
    simp only [h4_25]
    refine T2 (hK _ _ _ ?_)
    clear hK K
    refine CF rfl ?_
    refine aG ?_
    refine T0 (hK _ _ _ ?_)
    clear hK K
    refine aL (by kernel_rfl) ?_
    refine TQ (bK i) ?_
    obtain ⟨j, rfl⟩ : ∃ j, i = j + 1 := ⟨i - 1, by simp at h4_17; omega⟩
    refine ⟨⟨j + 1 + 1, hlt, h0.succ hlt h4_13 (by simpa using h4_25)⟩, fF, ?_⟩
    show l.length - (j + 1 + 1) < l.length - (j + 1)
    omega
   have F := aI hm (aI @Int.natCast_nonneg (aI @Int.ofNat_lt (aI hi1 (aI (nM hi1) (aI h4_13 h4_17)))))
   iterate 9 refine SF ?_
   refine T2 (hK _ _ _ ?_)
   clear hK K
   refine CF rfl ?_
   refine aG ?_
   refine T0 (hK _ _ _ ?_)
   clear hK K
   refine aL (by kernel_rfl) ?_
   refine TQ (bK i) ?_
   obtain rfl : i = 0 := by simp at h4_17; omega
   refine ⟨⟨1, hlt, GoodTo.one hlt h4_13⟩, fF, ?_⟩
   show l.length - 1 < l.length - 0
   omega
  have F := aI hm (aI @Int.natCast_nonneg (aI @Int.ofNat_lt (aI hi1 (aI (nM hi1) h4_13))))
  iterate 12 refine SF ?_
  refine T2 (hK _ _ _ ?_)
  clear hK K
  refine CT rfl ?_
  refine R0 ?_
  refine aD (RT Tryz.results79 ?_)
  exact aC [] (.bool false) rfl (by rw [mX, cV hlt h4_13])
 refine aS (T3 ?_)
 clear hK K
 refine AX (hK _ _ _ ?_)
 clear hK K
 refine R0 ?_
 refine aD (RT Tryz.results79 ?_)
 have hei : i = l.length := by simp at hb; omega
 subst hei
 exact aC [] (.bool true) rfl (by rw [mX, h0.all])

end Go.Proofs.YtenbfeemmpjdhaaGreatDoor
