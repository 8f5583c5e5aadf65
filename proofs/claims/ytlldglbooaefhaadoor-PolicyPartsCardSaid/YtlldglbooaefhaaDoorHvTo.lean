/- Part of a proof: walks of functions of the program, by contracts, and the rules they use. By an AI agent. -/
import Derived.Test.YtlldglbooaefhaaDoorHvV1
import Derived.Test.YtlldglbooaefhaaDoorHvV3
import Derived.Test.YtlldglbooaefhaaDoorHlCl
import Derived.Test.YtlldglbooaefhaaDoorHlIt
import Derived.Test.YtlldglbooaefhaaDoorPl28c
import Derived.Test.YtlldglbooaefhaaDoorPl03e
set_option linter.unusedSimpArgs false
set_option linter.unusedVariables false
set_option linter.defProp false
namespace Go.Proofs.YtlldglbooaefhaaDoor
open Go Go.Hl Go.Pl
set_option maxRecDepth 10000
set_option maxHeartbeats 16000000

def lsC (l : List aE) : CV := .slc (l.map .str)
theorem kT (l : List aE) : (lsC l).cells = 1 := rfl
theorem kU (l : List aE) : (lsC l).denil = lsC l := by simp only [lsC, CV.denil, denilL_str]
theorem aQ (l : List (List aE)) : CV.denilL (l.map lsC) = l.map lsC := bV kU l
theorem bZ6 (b : aE) (hl : b.length < 2 ^ 40) : mL Tryd.prog 22 [.slc (b.map u8)] (fun u v => u = .slc ((eZ b).map lsC) ∧ v = .int .i64 (iA b)) := by
 refine FW Tryd.func22 ?_
 have F := rI
 refine RF ?_
 refine bF9 ?_
 refine aC fun K hK => ?_
 have F := aI rI @List.length_map.{0,0}
 refine RF ?_
 refine aG (b := decide ((262144 : Int) < b.length)) rfl (fun hb => ?_) (fun hb => ?_)
 ·
  have F := rI
  refine RF ?_
  refine aF ?_
  simp only [fX, Tryd.results22, fC, fW, eQ, ↓sP, sA, tyS, simprocAttr, rI]
  have hE : iA b = 3 := by unfold iA; rw [if_pos (by simp at hb; omega)]
  refine bF [] (.slc []) (.int .i64 3) ?_ ⟨by simp only [eZ, hE]; rfl, by rw [hE]⟩
  simp [HV.close, HV.closeL, CV.denil, CV.denilL, HV.norm, HV.toC, HV.toCL]
 refine aJ ?_
 refine TQ rI ?_
 refine AX (hK _ _ _ ?_)
 clear hK K
 have hle : b.length ≤ 262144 := by simp at hb; omega
 clear hb
 have F := rI
 refine RF ?_
 refine RF ?_
 refine aC fun K hK => ?_
 refine bD6 ?_
 try simp only [↓sP, sA, tyS, simprocAttr, rI]
 refine AX (hK _ _ _ ?_)
 clear hK K
 refine aC fun K hK => ?_
 have key : ∀ (ok : Bool) (ls : List (List aE)) fr ob nx, (ok = true → fP b = some ls) → (ok = false → fP b = none) → ls.length ≤ b.length → Fits 0 fr ob (fin [(4, .own 32 ls.length), (5, .ptr 24 0)]) (fob [(24, .box 4 (.c (.bool ok))), (32, .row 52 1 (ls.map lsC))]) 1000 → K fr ob nx := by
  intro ok ls fr ob nx h1 h2 h3 hf
  refine hK _ _ _ (bU hf ?_)
  clear hf hK K
  refine aC fun K hK => ?_
  cases ok
  ·
   refine aC fun K hK => Rg ?_
   have F := aI rI @List.length_map.{0,0}
   iterate 7 refine SF ?_
   simp only [sE, ↓reduceIte, simprocAttr, rI]
   refine AX (hK _ _ _ ?_)
   clear hK K
   refine CT rfl ?_
   have F := rI
   refine RF ?_
   refine aF ?_
   simp only [fX, Tryd.results22, fC, fW, eQ, ↓sP, sA, tyS, simprocAttr, rI]
   have hE : iA b = 2 := by unfold iA; rw [if_neg (by omega), h2 rfl]
   refine bF [] (.slc []) (.int .i64 2) ?_ ⟨by simp only [eZ, hE]; rfl, by rw [hE]⟩
   simp [HV.close, HV.closeL, CV.denil, CV.denilL, HV.norm, HV.toC, HV.toCL]
  refine aC fun K hK => Rg ?_
  have F := aI rI @List.length_map.{0,0}
  iterate 7 refine SF ?_
  simp only [sE, ↓reduceIte, simprocAttr, rI]
  refine AX (hK _ _ _ ?_)
  clear hK K
  refine aG (b := decide ((1000 : Int) < ls.length)) rfl (fun hb => ?_) (fun hb => ?_)
  ·
   have F := rI
   refine RF ?_
   refine aF ?_
   simp only [fX, Tryd.results22, fC, fW, eQ, ↓sP, sA, tyS, simprocAttr, rI]
   have hE : iA b = 2 := by unfold iA; rw [if_neg (by omega), h1 rfl]; simp only; rw [if_pos (by simp at hb; omega)]
   refine bF [] (.slc []) (.int .i64 2) ?_ ⟨by simp only [eZ, hE]; rfl, by rw [hE]⟩
   simp [HV.close, HV.closeL, CV.denil, CV.denilL, HV.norm, HV.toC, HV.toCL]
  refine aJ ?_
  refine TQ rI ?_
  refine AX (hK _ _ _ ?_)
  clear hK K
  have F := rI
  refine RF ?_
  refine aF ?_
  simp only [fX, Tryd.results22, fC, fW, eQ, ↓sP, sA, tyS, simprocAttr, rI]
  have hE : iA b = 0 := by unfold iA; rw [if_neg (by omega), h1 rfl]; simp only; rw [if_neg (by simp at hb; omega)]
  refine bF [32] (.slc (ls.map lsC)) (.int .i64 0) ?_ ⟨by simp only [eZ, hE, h1 rfl]; rfl, by rw [hE]⟩
  simp [HV.close, fob_at, upd_at, HV.norm, HV.toC, HV.closeL, HV.toCL, CV.denil, aQ]
 refine aK ?_
 refine uO 4 0 52 1 rfl rfl rfl rfl ?_
 refine bO (α := {y : aE × List (List aE) // DecSt b y.1 y.2}) (fun y => (fin [(0, .c (.slc (y.1.1.map u8))), (4, .own 32 y.1.2.length), (5, .ptr 24 0)], fob [(24, .box 4 (.c (.bool true))), (32, .row 52 1 (y.1.2.map lsC))])) 100 (fun y => y.1.1.length) ⟨(b, []), DecSt.init b⟩ (fF) ?_
 rintro ⟨⟨rest, ls⟩, hst⟩
 simp only at hst
 have hr1 := hst.2.1
 have hr2 := hst.2.2
 refine aC fun K hK => ?_
 have F := aI rI @List.length_map.{0,0}
 refine RF ?_
 refine aG (b := decide ((0 : Int) < rest.length)) rfl (fun hb => ?_) (fun hb => ?_)
 ·
  refine aJ ?_
  refine TQ rI ?_
  refine AX (hK _ _ _ ?_)
  clear hK K
  refine aK ?_
  have hne : rest ≠ [] := by rintro rfl; simp at hb
  clear hb
  refine aC fun K hK => bE (by kernel_rfl) ?_
  simp only [sR, simprocAttr]
  have F := aI rI @denilL_u8
  refine SGF ?_
  refine cV (g := none) 116 rfl rfl fun K' hK' => ?_
  simp only [gS, kK, sH, ↓sP, sA, tyS, simprocAttr, rI, denilL_u8]
  repeat refine AI ?_
  refine dJ (by first | rfl | simp) ?_
  try simp only [sH, ↓sP, sA, tyS, simprocAttr, rI, denilL_u8]
  refine AX (hK' _ _ ?_)
  clear hK' K'
  refine bJ (g := none) rfl rfl fun K' hK' => T6 ?_
  refine oR (args := [_, _]) (bQ4 rest 10 (by omega)) ⟨rfl, rfl, rfl, rfl⟩ ?_
  rintro u v x ⟨li, re, fd, rfl, rfl, rfl, hcut⟩
  have hlt := hcut.lt hne
  refine AX (hK' _ _ ?_)
  clear hK' K'
  iterate 7 refine SGF ?_
  simp only [sE, ↓reduceIte, simprocAttr, rI]
  refine AX (hK _ _ _ ?_)
  clear hK K
  have F := rI
  refine RF ?_
  refine aC fun K hK => ?_
  refine aC fun K hK => bE (by kernel_rfl) ?_
  simp only [sR, simprocAttr]
  refine SG0 ?_ (e := fun _ h_ => by simp only [sH, ↓sP, sA, tyS, simprocAttr, rI, denilL_u8, lN, gA, List.range', List.map_cons, List.map_nil]; exact AX h_)
  refine cV (g := none) 160 rfl rfl fun K' hK' => ?_
  simp only [gS, kK, sH, ↓sP, sA, tyS, simprocAttr, rI, denilL_u8, lN, gA, List.range', List.map_cons, List.map_nil]
  repeat refine AI ?_
  refine dJ (by first | rfl | simp) ?_
  try simp only [sH, ↓sP, sA, tyS, simprocAttr, rI, denilL_u8, lN, gA, List.range', List.map_cons, List.map_nil]
  refine AX (hK' _ _ ?_)
  clear hK' K'
  refine bJ (g := none) rfl rfl fun K' hK' => ?_
  simp only [sH, ↓sP, sA, tyS, simprocAttr, rI, denilL_u8, lN, gA, List.range', List.map_cons, List.map_nil]
  refine rE (args := [_, _]) (aY3 li 32) (by simp) ⟨rfl, rfl, rfl, rfl⟩ ?_
  refine AX (hK' _ _ ?_)
  clear hK' K'
  simp only [sE, ↓reduceIte, simprocAttr, rI]
  refine AX (hK _ _ _ ?_)
  clear hK K
  refine aK ?_
  refine zW 152 0 9 1 rfl rfl rfl rfl ?_
  refine xX (ids := [164, 165, 166]) (fin [(0, .c (.slc (rest.map u8))), (4, .own 32 ls.length), (5, .ptr 24 0), (7, .c (.slc (re.map u8))), (8, .c (.bool fd)), (9, .ptr 152 0)]) (fun i => fob [(24, .box 4 (.c (.bool true))), (32, .row 52 1 (ls.map lsC)), (152, .box 52 (.own 168 i)), (168, .row 9 1 ((wsT li i).map .str))]) 200 (fun i => bF0 li i) (fun p hp => by simp at hp) (aP4 li 32 (by omega)) rfl rfl (by decide) ?_ ?_ ?_ ?_ ?_ rfl rfl ?_ ?_
  ·
   intro j x hx
   match j, hx with
   | 0, hx => cases hx; rfl
   | 1, hx => cases hx; rfl
   | 2, hx => cases hx; rfl
  ·
   exact aN (by omega) (by simp [bB, fin_at, finA_at, upd_at, HV.men, HV.menL, HV.norm, HV.toC, HV.toCL]) (by simp [bA, fob_at, upd_at, none0_at, cB, lN, wsT, HO.men, HV.men, HV.menL, HV.norm, HV.toC, HV.toCL])
  ·
   intro id hid
   simp only [List.mem_cons, List.not_mem_nil, or_false] at hid
   rcases hid with rfl | rfl | rfl <;> rfl
  ·
   intro x hx
   obtain ⟨p, _, rfl⟩ := List.mem_map.1 hx
   rfl
  ·
   intro p hp
   simp only [List.mem_cons, List.not_mem_nil, or_false] at hp
   subst hp
   exact Nat.le_of_ble_eq_true rfl
  ·
   intro i hi hΦ K hK
   have hi' : i < (aR 32 li).length := by simpa using hi
   have hwl := vB (r := li) (Nat.le_of_lt hi')
   have hsl := kC 32 li
   obtain ⟨p, hp⟩ : ∃ p, p = (aR 32 li)[i] := ⟨_, rfl⟩
   have hpl : p.length ≤ li.length := by rw [hp]; exact uZ 32 li _ (List.getElem_mem hi')
   have hx : (List.map (fun p => [CV.slc (List.map u8 p)]) (aR 32 li))[i] = [CV.slc (p.map u8)] := by rw [List.getElem_map, hp]
   rw [hx]
   simp only [vG]
   have hbc : iU (p.map u8) = some p := bytesC_map p
   refine aL (by kernel_rfl) ?_
   refine TQ rI ?_
   refine AX (hK _ _ _ ?_)
   clear hK K
   refine aK ?_
   refine aC fun K hK => Rg ?_
   have F := aI rI hbc
   iterate 2 refine SF ?_
   refine HS rfl rfl fun K' hK' => T6 ?_
   refine D1 (bZ5 p (by omega)) ?_
   rintro u v ⟨rfl, rfl⟩
   refine AX (hK' _ _ ?_)
   clear hK' K'
   iterate 5 refine SF ?_
   simp only [sE, ↓reduceIte, simprocAttr, rI]
   refine AX (hK _ _ _ ?_)
   clear hK K
   refine aC fun K hK => ?_
   have F := rI
   refine RF ?_
   refine aG (b := !(unW p).isSome) rfl (fun hb => ?_) (fun hb => ?_)
   ·
    refine RF ?_
    refine bD ?_
    refine TQ rI ?_
    clear hK K
    clear hK K
    exact key false ls _ _ _ (fun h => by cases h) (fun _ => hst.bad hcut hne (bF2 hi' (by rw [← hp]; simpa using hb))) (by omega) (fF)
   refine aJ ?_
   refine TQ rI ?_
   refine AX (hK _ _ _ ?_)
   clear hK K
   refine Rg ?_
   have F := aI rI (aI @List.length_append.{0} (aI @List.length_map.{0,0} hwl))
   iterate 5 refine SF ?_
   simp only [sE, ↓reduceIte, simprocAttr, rI]
   refine ⟨(show Fits 200 _ _ (fin []) _ 200 from aN (by omega) trivial ?_), aX3 hi' hΦ (by rw [← hp]; simpa using hb)⟩
   rw [bF1 hi', ← hp]
   simp [bA, fob_at, upd_at, none0_at, cB, HO.men, HV.men, HV.menL, HV.norm, HV.toC, HV.toCL]
  intro hΦ
  simp only [sE, ↓reduceIte, simprocAttr, rI]
  rw [List.length_map] at hΦ ⊢
  have hwl := vB (r := li) (Nat.le_refl _)
  have hul := bP7 hΦ
  have hsl := kC 32 li
  obtain ⟨ws, hws⟩ : ∃ ws, ws = wsT li (aR 32 li).length := ⟨_, rfl⟩
  rw [← hws] at hul hwl
  rw [← hws, ← hwl]
  refine AX (hK _ _ _ ?_)
  clear hK K
  refine aC fun K hK => ?_
  cases fd
  ·
   refine fD [168] (bU (fr2 := fin [(0, .c (.slc (rest.map u8))), (4, .own 32 ls.length), (5, .ptr 24 0), (7, .c (.slc (re.map u8))), (8, .c (.bool false)), (9, .ptr 152 0)]) (ob2 := fob [(24, .box 4 (.c (.bool true))), (32, .row 52 1 (ls.map lsC)), (152, .box 52 (.c (.slc (ws.map .str))))]) (nx2 := 300) (aN (by omega) (by simp [bB, jY, fin_at, finA_at, upd_at, fob_at, HV.close, HV.closeL, CV.denil, CV.denilL, denilL_u8, HV.men, HV.menL, HV.norm, HV.toC, HV.toCL]) (by simp [bA, jZ, fob_at, upd_at, none0_at, cB, HO.close, HV.close, HV.closeL, CV.denil, denilL_str, HO.men, HV.men, HV.menL, HV.norm, HV.toC, HV.toCL])) ?_)
   refine aC fun K hK => Rg ?_
   iterate 7 refine SF ?_
   simp only [sE, ↓reduceIte, simprocAttr, rI]
   refine AX (hK _ _ _ ?_)
   clear hK K
   refine CT rfl ?_
   refine RF ?_
   refine bD ?_
   refine TQ rI ?_
   clear hK K
   exact key false ls _ _ _ (fun h => by cases h) (fun _ => hst.bad0 hcut hne) (by omega) (fF)
  refine fD [168] (bU (fr2 := fin [(0, .c (.slc (rest.map u8))), (4, .own 32 ls.length), (5, .ptr 24 0), (7, .c (.slc (re.map u8))), (8, .c (.bool true)), (9, .ptr 152 0)]) (ob2 := fob [(24, .box 4 (.c (.bool true))), (32, .row 52 1 (ls.map lsC)), (152, .box 52 (.c (.slc (ws.map .str))))]) (nx2 := 300) (aN (by omega) (by simp [bB, jY, fin_at, finA_at, upd_at, fob_at, HV.close, HV.closeL, CV.denil, CV.denilL, denilL_u8, HV.men, HV.menL, HV.norm, HV.toC, HV.toCL]) (by simp [bA, jZ, fob_at, upd_at, none0_at, cB, HO.close, HV.close, HV.closeL, CV.denil, denilL_str, HO.men, HV.men, HV.menL, HV.norm, HV.toC, HV.toCL])) ?_)
  refine aC fun K hK => Rg ?_
  iterate 4 refine SF ?_
  refine aW (g := some (44, false)) rfl rfl fun K' hK' => T6 ?_
  refine C1 (aH1 ws (by omega)) ?_
  rintro u rfl
  refine AX (hK' _ _ ?_)
  clear hK' K'
  iterate 2 refine SF ?_
  simp only [sE, ↓reduceIte, simprocAttr, rI]
  refine AX (hK _ _ _ ?_)
  clear hK K
  refine aG (b := rA ws != 0) rfl (fun hb => ?_) (fun hb => ?_)
  ·
   refine RF ?_
   refine bD ?_
   refine TQ rI ?_
   clear hK K
   exact key false ls _ _ _ (fun h => by cases h) (fun _ => hst.bad hcut hne (by rw [hul, if_neg]; unfold okL; simpa using hb)) (by omega) (fF)
  refine aJ ?_
  refine TQ rI ?_
  refine AX (hK _ _ _ ?_)
  clear hK K
  refine Rg ?_
  have F := aI rI (aI @List.length_append.{0} @List.length_map.{0,0})
  iterate 7 refine SF ?_
  simp only [sE, ↓reduceIte, simprocAttr, rI]
  have hok : okL ws = true := by unfold okL; simpa using hb
  refine ⟨⟨(re, ls ++ [ws]), hst.next hcut hne (by rw [hul, if_pos hok])⟩, aN (by omega) ?_ ?_, hlt.1⟩
  ·
   simp [bB, upd_at, fin_at, HV.men]
  simp only [bA, List.map_append]
  exact ⟨rfl, by omega, trivial, rfl, by omega, trivial, trivial⟩
 refine bD ?_
 refine TQ rI ?_
 clear hK K
 have hr0 : rest = [] := by simpa using hb
 subst hr0
 exact key true ls _ _ _ (fun _ => hst.fin) (fun h => by cases h) (by omega) (fF)

end Go.Proofs.YtlldglbooaefhaaDoor

namespace Go.Proofs.YtlldglbooaefhaaDoor
open Go Go.Hl Go.Pl
set_option maxRecDepth 10000
set_option maxHeartbeats 16000000

theorem bT3 (s : aE) : mL Tryd.prog 59 [.str s] (fun u v => u = .int .i64 ((bH s).getD 0) ∧ v = .bool (bH s).isSome) := by
 refine FW Tryd.func59 ?_
 refine R0 ?_
 refine aC fun K hK => ?_
 have key : ∀ fr ob nx, gB s = false → Fits 0 fr ob (fin [(0, .c (.str s))]) (fob []) 100 → K fr ob nx := by
  intro fr ob nx hbad hf
  refine hK _ _ _ (bU hf ?_)
  clear hf hK K
  have hlen : s.length ≤ 13 := by
   simp only [gB, Bool.or_eq_false_iff, decide_eq_false_iff_not] at hbad
   omega
  refine R0 ?_
  refine aC fun K hK => ?_
  refine R0 ?_
  refine aK ?_
  refine bO (α := {y : Nat × Nat // DgSt s y.1 y.2}) (fun y => (fin [(0, .c (.str s)), (4, .c (.int .i64 y.1.2)), (5, .c (.int .i64 y.1.1))], fob [])) 200 (fun y => s.length - y.1.1) ⟨(0, 0), DgSt.init s⟩ (fF) ?_
  rintro ⟨⟨i, n⟩, hst⟩
  simp only at hst
  have hi := hst.1
  have hnl := hst.lt hlen
  refine aC fun K hK => ?_
  refine aC fun K hK => Rg ?_
  iterate 4 refine S0 ?_
  refine T2 (hK _ _ _ ?_)
  clear hK K
  refine aG (b := decide ((i : Int) < s.length)) rfl (fun hb => ?_) (fun hb => ?_)
  ·
   have hlt : i < s.length := by simpa using hb
   clear hb
   have hgd : s.getD i 0 = s[i] := by simp [hlt]
   have hdi := bG6 s[i]
   refine aJ ?_
   refine T0 (hK _ _ _ ?_)
   clear hK K
   refine aC fun K hK => ?_
   refine aK ?_
   refine aC fun K hK => ?_
   have key2 : ∀ fr ob nx, mS s[i] = true → Fits 0 fr ob (fin [(0, .c (.str s)), (4, .c (.int .i64 n)), (5, .c (.int .i64 i))]) (fob []) 300 → K fr ob nx := by
    intro fr ob nx hd hf
    refine hK _ _ _ (bU hf ?_)
    clear hf hK K
    have hd2 : 48 ≤ s[i].toNat ∧ s[i].toNat ≤ 57 := by simpa [mS] using hd
    have e1 : IntKind.i64.wrap (10 * (n : Int)) = ((10 * n : Nat) : Int) := by rw [IntWalk.i64_in _ (by omega)]; omega
    have e2 : IntKind.u8.wrap ((s[i].toNat : Int) - 48) = ((s[i].toNat - 48 : Nat) : Int) := by rw [IntWalk.u8_in _ (by omega)]; omega
    have e3 : IntKind.i64.wrap ((s[i].toNat - 48 : Nat) : Int) = ((s[i].toNat - 48 : Nat) : Int) := by rw [IntWalk.i64_in _ (by omega)]
    have e4 : IntKind.i64.wrap (((10 * n : Nat) : Int) + ((s[i].toNat - 48 : Nat) : Int)) = ((10 * n + (s[i].toNat - 48) : Nat) : Int) := by rw [IntWalk.i64_in _ (by omega)]; omega
    refine Rg ?_
    iterate 9 refine S0 ?_ (e := fun _ h_ => by simp only [sH, ↓sP, sA, tyS, simprocAttr, Int.natCast_nonneg, Int.ofNat_lt, hlt, hgd, e1, e2, e3, e4]; exact AX h_)
    refine T2 (hK _ _ _ ?_)
    clear hK K
    refine aL (by kernel_rfl) ?_
    refine TQ (lO i) ?_
    refine ⟨⟨(i + 1, 10 * n + (s[i].toNat - 48)), hst.next hlt hd⟩, fF, ?_⟩
    show s.length - (i + 1) < s.length - i
    omega
   refine aC fun K hK => Rg ?_
   iterate 5 refine S0 ?_ (e := fun _ h_ => by simp only [sH, ↓sP, sA, tyS, simprocAttr, Int.natCast_nonneg, Int.ofNat_lt, hlt, hgd]; exact AX h_)
   refine aH 33 rfl (fun h7_33 => ?_) (fun h7_33 => ?_)
   ·
    iterate 5 refine S0 ?_ (e := fun _ h_ => by simp only [sH, ↓sP, sA, tyS, simprocAttr, Int.natCast_nonneg, Int.ofNat_lt, hlt, hgd, h7_33]; exact AX h_)
    refine T2 (hK _ _ _ ?_)
    clear hK K
    refine CT rfl ?_
    refine R0 ?_
    refine aF (RT Tryd.results59 ?_)
    have hd : mS s[i] = false := by simp only [mS, Bool.and_eq_false_iff, decide_eq_false_iff_not]; simp at h7_33; omega
    have hn := yB (hst.bad hlt hd)
    exact bF [] (.int .i64 0) (.bool false) rfl ⟨by rw [hn]; rfl, by rw [hn]; rfl⟩
   iterate 5 refine S0 ?_ (e := fun _ h_ => by simp only [sH, ↓sP, sA, tyS, simprocAttr, Int.natCast_nonneg, Int.ofNat_lt, hlt, hgd, h7_33]; exact AX h_)
   refine aH 38 rfl (fun h7_38 => ?_) (fun h7_38 => ?_)
   ·
    simp only [h7_38]
    refine T2 (hK _ _ _ ?_)
    clear hK K
    refine CT rfl ?_
    refine R0 ?_
    refine aF (RT Tryd.results59 ?_)
    have hd : mS s[i] = false := by simp only [mS, Bool.and_eq_false_iff, decide_eq_false_iff_not]; simp at h7_38; omega
    have hn := yB (hst.bad hlt hd)
    exact bF [] (.int .i64 0) (.bool false) rfl ⟨by rw [hn]; rfl, by rw [hn]; rfl⟩
   simp only [h7_38]
   refine T2 (hK _ _ _ ?_)
   clear hK K
   refine CF rfl ?_
   refine aJ (T3 ?_)
   exact key2 _ _ _ (by simp only [mS, Bool.and_eq_true, decide_eq_true_eq]; simp at h7_33 h7_38; omega) (fF)
  refine bD (T3 ?_)
  clear hK K
  refine AX (hK _ _ _ ?_)
  clear hK K
  refine aC fun K hK => ?_
  have hfin := hst.fin (by simp at hb; omega)
  clear hb
  refine R0 ?_
  refine aG (b := decide ((1099511627776 : Int) < (n : Int))) rfl (fun hb => ?_) (fun hb => ?_)
  ·
   refine R0 ?_
   refine aF (RT Tryd.results59 ?_)
   have hn := bG5 hfin (by simp at hb; omega)
   exact bF [] (.int .i64 0) (.bool false) rfl ⟨by rw [hn]; rfl, by rw [hn]; rfl⟩
  refine aJ ?_
  refine T0 (hK _ _ _ ?_)
  clear hK K
  refine R0 ?_
  refine aF (RT Tryd.results59 ?_)
  have hn := aT0 hbad hfin (by simp at hb; omega)
  exact bF [] (.int .i64 n) (.bool true) rfl ⟨by rw [hn]; rfl, by rw [hn]; rfl⟩
 refine aC fun K hK => Rg ?_
 iterate 4 refine S0 ?_
 refine aH 8 rfl (fun h1_8 => ?_) (fun h1_8 => ?_)
 ·
  have F := h1_8
  iterate 14 refine SF ?_
  refine T2 (hK _ _ _ ?_)
  clear hK K
  refine CT rfl ?_
  refine R0 ?_
  refine aF (RT Tryd.results59 ?_)
  have hn : bH s = none := vK (by simp only [gB, Bool.or_eq_true, decide_eq_true_eq]; simp at h1_8; left; left; omega)
  exact bF [] (.int .i64 0) (.bool false) rfl ⟨by rw [hn]; rfl, by rw [hn]; rfl⟩
 have F := h1_8
 iterate 5 refine SF ?_
 refine aH 12 rfl (fun h1_12 => ?_) (fun h1_12 => ?_)
 ·
  have F := aI h1_8 h1_12
  iterate 9 refine SF ?_
  refine T2 (hK _ _ _ ?_)
  clear hK K
  refine CT rfl ?_
  refine R0 ?_
  refine aF (RT Tryd.results59 ?_)
  have hn : bH s = none := vK (by simp only [gB, Bool.or_eq_true, decide_eq_true_eq]; simp at h1_12; left; right; omega)
  exact bF [] (.int .i64 0) (.bool false) rfl ⟨by rw [hn]; rfl, by rw [hn]; rfl⟩
 have F := aI h1_8 h1_12
 iterate 4 refine SF ?_
 refine aH 17 rfl (fun h1_17 => ?_) (fun h1_17 => ?_)
 ·
  have F := aI h1_8 (aI h1_12 h1_17)
  refine SF ?_
  refine aW (g := some (18, true)) rfl rfl fun K' hK' => T6 ?_
  refine ⟨by simp at h1_17; omega, ?_⟩
  refine AX (hK' _ _ ?_)
  clear hK' K'
  iterate 3 refine SF ?_
  refine aH 21 rfl (fun h1_21 => ?_) (fun h1_21 => ?_)
  ·
   simp only [h1_21]
   refine T2 (hK _ _ _ ?_)
   clear hK K
   refine CT rfl ?_
   refine R0 ?_
   refine aF (RT Tryd.results59 ?_)
   have hn : bH s = none := vK (by
    simp only [gB, Bool.or_eq_true, Bool.and_eq_true, decide_eq_true_eq, beq_iff_eq]
    right
    refine ⟨by simp at h1_17; omega, UInt8.toNat_inj.1 ?_⟩
    simp only [beq_iff_eq] at h1_21
    show (s.getD 0 0).toNat = 48
    omega)
   exact bF [] (.int .i64 0) (.bool false) rfl ⟨by rw [hn]; rfl, by rw [hn]; rfl⟩
  simp only [h1_21]
  refine T2 (hK _ _ _ ?_)
  clear hK K
  refine CF rfl ?_
  refine aJ (T3 ?_)
  refine key _ _ _ ?_ (fF)
  simp only [gB, Bool.or_eq_false_iff, Bool.and_eq_false_iff, decide_eq_false_iff_not, beq_eq_false_iff_ne, ne_eq]
  simp only [decide_eq_false_iff_not, decide_eq_true_eq] at h1_8 h1_12
  refine ⟨⟨by omega, by omega⟩, ?_⟩
  first
   | (right; intro h0; rw [h0] at h1_21; simp at h1_21)
   | (left; simp at h1_17; omega)
 have F := aI h1_8 (aI h1_12 h1_17)
 iterate 5 refine SF ?_
 refine T2 (hK _ _ _ ?_)
 clear hK K
 refine CF rfl ?_
 refine aJ (T3 ?_)
 refine key _ _ _ ?_ (fF)
 simp only [gB, Bool.or_eq_false_iff, Bool.and_eq_false_iff, decide_eq_false_iff_not, beq_eq_false_iff_ne, ne_eq]
 simp only [decide_eq_false_iff_not, decide_eq_true_eq] at h1_8 h1_12
 refine ⟨⟨by omega, by omega⟩, ?_⟩
 first
  | (right; intro h0; rw [h0] at h1_21; simp at h1_21)
  | (left; simp at h1_17; omega)



end Go.Proofs.YtlldglbooaefhaaDoor

namespace Go.Pl
open Go Go.Hl

def isV (ls : List (List aE)) (a : Nat) (w : aE) (k : Nat) : Bool := decide (a < ls.length) && ((ls.getD a []).length == k && wd (ls.getD a []) 0 == w)
theorem aB1 {ls : List (List aE)} {a : Nat} (h : ¬ a < ls.length) (w : aE) (k : Nat) : isV ls a w k = false := by simp [isV, h]
theorem iB {ls : List (List aE)} {a : Nat} (h : a < ls.length) (w : aE) (k : Nat) : isV ls a w k = (ls[a].length == k && wd ls[a] 0 == w) := by simp [isV, h]
theorem fL {ls : List (List aE)} {a : Nat} {w : aE} {k : Nat} (h : isV ls a w k = true) : ∃ hl : a < ls.length, ls[a].length = k ∧ wd ls[a] 0 = w := by
 by_cases hl : a < ls.length
 all_goals simp_all [iB, Bool.and_eq_true, beq_iff_eq, aB1]
def fK (ls : List (List aE)) (a : Nat) (w : aE) : Option Int := if isV ls a w 2 then bH (wd (ls.getD a []) 1) else none
def lP (ls : List (List aE)) (a : Nat) (w : aE) : Option (Int × Int) := if isV ls a w 3 then match bH (wd (ls.getD a []) 1), bH (wd (ls.getD a []) 2) with | some n, some m => some (n, m) | _, _ => none else none
theorem aB2 {ls : List (List aE)} {a : Nat} {w : aE} (h : isV ls a w 2 = true) (hl : a < ls.length) : fK ls a w = bH (wd ls[a] 1) := by simp [fK, h, hl]
theorem bT4 {ls : List (List aE)} {a : Nat} {w : aE} (h : isV ls a w 2 = false) : fK ls a w = none := by simp [fK, h]
theorem bT5 {ls : List (List aE)} {a : Nat} {w : aE} (h : isV ls a w 3 = false) : lP ls a w = none := by simp [lP, h]
theorem aU2 {ls : List (List aE)} {a : Nat} {w : aE} (h : isV ls a w 3 = true) (hl : a < ls.length) : lP ls a w = match bH (wd ls[a] 1), bH (wd ls[a] 2) with | some n, some m => some (n, m) | _, _ => none := by simp [lP, h, hl]
theorem iS {ls : List (List aE)} {a : Nat} {w : aE} {n : Int} (h : fK ls a w = some n) : ∃ hl : a < ls.length, ls[a].length = 2 ∧ wd ls[a] 0 = w ∧ bH (wd ls[a] 1) = some n := by grind [fK, fL]
theorem bA6 {ls : List (List aE)} {a : Nat} {w : aE} {n m : Int} (h : lP ls a w = some (n, m)) : ∃ hl : a < ls.length, ls[a].length = 3 ∧ wd ls[a] 0 = w ∧ bH (wd ls[a] 1) = some n ∧ bH (wd ls[a] 2) = some m := by
 unfold lP at h
 grind [fL]
theorem wR {w : List aE} (h : w.length = 2) (h0 : wd w 0 = dK) : eU w = (bH (wd w 1)).map (⟨1, ·, 0, []⟩) := by simp [eU, h, h0]
theorem aB3 {w : List aE} (h : w.length = 2) (h0 : wd w 0 = dZ) : eU w = some ⟨2, 0, 0, wd w 1⟩ := by grind [eU, dZ, dK]
theorem wS {w : List aE} (h : w.length = 2) (h0 : wd w 0 = dQ) : eU w = (bH (wd w 1)).map (⟨3, ·, 0, []⟩) := by grind [eU, dQ, dK, dZ]
theorem aB4 {w : List aE} (h : w.length = 3) (h0 : wd w 0 = fI) : eU w = match bH (wd w 1), bH (wd w 2) with | some n, some m => some ⟨4, n, m, []⟩ | _, _ => none := by
 simp only [eU, h, h0]
 grind
theorem aJ8 {w : List aE} (h : w.length = 2) (h0 : wd w 0 = gE) : eU w = (bH (wd w 1)).map (⟨5, ·, 0, []⟩) := by grind [eU, gE, dK, dZ, dQ]
theorem aP5 {w : List aE} (h : w.length = 2) (h0 : wd w 0 = kD) : eU w = (bH (wd w 1)).map (⟨6, ·, 0, []⟩) := by grind [eU, kD, dK, dZ, dQ, gE]
theorem aP6 {w : List aE} (h : w.length = 2) (h0 : wd w 0 = lI) : eU w = (bH (wd w 1)).map (⟨7, ·, 0, []⟩) := by grind [eU, lI, dK, dZ, dQ, gE, kD]
theorem aB5 {w : List aE} (h : w.length = 1) (h0 : wd w 0 = jB) : eU w = some ⟨8, 0, 0, []⟩ := by simp [eU, h, h0]
def jL (ls : List (List aE)) (a : Nat) : Option Rq := if h : a < ls.length then eU ls[a] else none
theorem fM {ls : List (List aE)} {a : Nat} (h : a < ls.length) : jL ls a = eU ls[a] := by simp [jL, h]
theorem bA7 {ls : List (List aE)} {a : Nat} (h1 : fK ls a dK = none) (h2 : isV ls a dZ 2 = false) (h3 : fK ls a dQ = none) (h4 : lP ls a fI = none) (h5 : fK ls a gE = none) (h6 : fK ls a kD = none)
  (h7 : fK ls a lI = none) (h8 : isV ls a jB 1 = false) : jL ls a = none := by
 unfold jL
 split
 ·
  rename_i hl
  have n1 : ∀ w, fK ls a w = none → ls[a].length = 2 ∧ wd ls[a] 0 = w → bH (wd ls[a] 1) = none := fun w h hc => by grind [isV, iB, aB2]
  unfold eU
  split
  ·
   grind
  ·
   split
   ·
    grind [iB]
   ·
    split
    ·
     grind
    ·
     split
     ·
      rename_i hc
      have : isV ls a fI 3 = true := by rw [iB hl]; simp [hc]
      grind [aU2, absurd]
     ·
      split
      ·
       grind
      grind [iB]
 ·
  rfl
def jF (ls : List (List aE)) (a : Nat) : Option Nd := if h : a < ls.length then jE ls[a] else none
theorem bL2 {ls : List (List aE)} {a : Nat} (h : isV ls a oT 1 = true) : jF ls a = some ⟨2, 0, 0, rq0⟩ := by grind [fL, jF, jE]
theorem bL3 {ls : List (List aE)} {a : Nat} (h : isV ls a oU 1 = true) : jF ls a = some ⟨3, 0, 0, rq0⟩ := by grind [fL, jF, jE, oU, oT]
theorem bT6 {ls : List (List aE)} {a : Nat} {n : Int} (h : fK ls a dB = some n) : jF ls a = some ⟨4, n, 0, rq0⟩ := by grind [iS, jF, jE]
theorem bA8 {ls : List (List aE)} {a : Nat} (h1 : isV ls a oT 1 = false) (h2 : isV ls a oU 1 = false) (h3 : fK ls a dB = none) : jF ls a = none := by
 unfold jF
 split
 ·
  rename_i hl
  unfold jE
  split
  ·
   grind [iB]
  grind [iB, isV, dB, aB2]
 ·
  rfl
end Go.Pl

namespace Go.Proofs.YtlldglbooaefhaaDoor
open Go Go.Hl Go.Pl
set_option maxRecDepth 10000
set_option maxHeartbeats 16000000

def rdr (ls : List (List aE)) (a : Nat) : CV := .agg [.slc (ls.map lsC), .int .i64 a]
theorem yV (ls : List (List aE)) (a k : Nat) (w : aE) (hk : 1 ≤ k) : aM6 Tryd.prog 44 67 (rdr ls a) [.str w, .int .i64 k] (fun u v' => u = .bool (isV ls a w k) ∧ v' = rdr ls a) := by
 refine bP Tryd.func44 rfl (by kernel_rfl) (cP _ _ _) (Nat.le_of_ble_eq_true rfl) ?_
 refine R0 ?_
 refine aC fun K hK => QR ?_
 iterate 11 refine S0 ?_ (e := fun _ h_ => by simp only [sH, ↓sP, sA, tyS, simprocAttr, rdr, Int.natCast_nonneg]; exact AX h_)
 refine aH 16 rfl (fun h1_16 => ?_) (fun h1_16 => ?_)
 ·
  iterate 8 refine S0 ?_ (e := fun _ h_ => by simp only [sH, ↓sP, sA, tyS, simprocAttr, rdr, Int.natCast_nonneg, h1_16]; exact AX h_)
  refine aW (g := some (17, true)) rfl rfl fun K' hK' => ?_
  simp only [sH, ↓sP, sA, tyS, simprocAttr, rdr, Int.natCast_nonneg, h1_16]
  have hlt : a < ls.length := by simpa using h1_16
  simp only [↓sP, sA, tyS, simprocAttr, Int.natCast_nonneg, Int.ofNat_lt, hlt, aY hlt, lsC]
  refine AX (hK' _ _ ?_)
  clear hK' K'
  iterate 6 refine S0 ?_ (e := fun _ h_ => by simp only [sH, ↓sP, sA, tyS, simprocAttr, rdr, Int.natCast_nonneg, h1_16]; exact AX h_)
  refine aH 30 rfl (fun h1_30 => ?_) (fun h1_30 => ?_)
  ·
   iterate 8 refine S0 ?_ (e := fun _ h_ => by simp only [sH, ↓sP, sA, tyS, simprocAttr, rdr, Int.natCast_nonneg, h1_16, h1_30]; exact AX h_)
   refine aW (g := some (32, true)) rfl rfl fun K' hK' => ?_
   simp only [sH, ↓sP, sA, tyS, simprocAttr, rdr, Int.natCast_nonneg, h1_16, h1_30]
   have hlt : a < ls.length := by simpa using h1_16
   have h0 : 0 < ls[a].length := by simp at h1_30; omega
   simp only [↓sP, sA, tyS, simprocAttr, Int.natCast_nonneg, Int.ofNat_lt, hlt, aY hlt, lsC]
   refine AX (hK' _ _ ?_)
   clear hK' K'
   refine S0 ?_ (e := fun _ h_ => by simp only [sH, ↓sP, sA, tyS, simprocAttr, rdr, Int.natCast_nonneg, h1_16, h1_30]; exact AX h_)
   refine aW (g := some (32, true)) rfl rfl fun K' hK' => ?_
   simp only [sH, ↓sP, sA, tyS, simprocAttr, rdr, Int.natCast_nonneg, h1_16, h1_30]
   have hlt : a < ls.length := by simpa using h1_16
   have h0 : 0 < ls[a].length := by simp at h1_30; omega
   simp only [↓sP, sA, tyS, simprocAttr, Int.natCast_pos, h0, aY h0]
   refine AX (hK' _ _ ?_)
   clear hK' K'
   iterate 5 refine S0 ?_ (e := fun _ h_ => by simp only [sH, ↓sP, sA, tyS, simprocAttr, rdr, Int.natCast_nonneg, h1_16, h1_30]; exact AX h_)
   refine T2 (hK _ _ _ ?_)
   clear hK K
   refine aF (RT Tryd.results44 ?_)
   have hlt : a < ls.length := by simpa using h1_16
   have h30 : ls[a].length = k := by simpa [Int.ofNat_inj] using h1_30
   refine eR [] (.bool _) (rdr ls a) rfl rfl (by simp [HV.close, HV.closeL, rdr, CV.denil, CV.denilL, aQ, HV.norm, HV.toC, HV.toCL]) (by simp) ⟨?_, rfl⟩
   rw [iB hlt, h30]; simp [wd, show 0 < ls[a].length by omega]
  iterate 16 refine S0 ?_ (e := fun _ h_ => by simp only [sH, ↓sP, sA, tyS, simprocAttr, rdr, Int.natCast_nonneg, h1_16, h1_30]; exact AX h_)
  refine T2 (hK _ _ _ ?_)
  clear hK K
  refine aF (RT Tryd.results44 ?_)
  have hlt : a < ls.length := by simpa using h1_16
  have h30 : ¬ ls[a].length = k := by simpa [Int.ofNat_inj] using h1_30
  refine eR [] (.bool false) (rdr ls a) rfl rfl (by simp [HV.close, HV.closeL, rdr, CV.denil, CV.denilL, aQ, HV.norm, HV.toC, HV.toCL]) (by simp) ⟨?_, rfl⟩
  rw [iB hlt]; simp [h30]
 iterate 31 refine S0 ?_ (e := fun _ h_ => by simp only [sH, ↓sP, sA, tyS, simprocAttr, rdr, Int.natCast_nonneg, h1_16]; exact AX h_)
 refine T2 (hK _ _ _ ?_)
 clear hK K
 refine aF (RT Tryd.results44 ?_)
 have hlt : ¬ a < ls.length := by simpa using h1_16
 refine eR [] (.bool false) (rdr ls a) rfl rfl (by simp [HV.close, HV.closeL, rdr, CV.denil, CV.denilL, aQ, HV.norm, HV.toC, HV.toCL]) (by simp) ⟨?_, rfl⟩
 rw [aB1 hlt]


theorem kV (ls : List (List aE)) (a j : Nat) (ha : a < ls.length) (hj : j < ls[a].length) : sK Tryd.prog 45 67 (rdr ls a) [.int .i64 j] (fun u x v' => u = .int .i64 ((bH (wd ls[a] j)).getD 0) ∧ x = .bool (bH (wd ls[a] j)).isSome ∧ v' = rdr ls a) := by
 refine bP Tryd.func45 rfl (by kernel_rfl) (cP _ _ _) (Nat.le_of_ble_eq_true rfl) ?_
 refine R0 ?_
 refine aC fun K hK => DW [(0, [], []), (1, [], []), (2, [], []), (3, [], []), (4, [], []), (5, [], []), (6, [], []), (7, [], []), (8, [], []), (9, [], []), (10, [], []), (11, [], []), (12, [], []), (13, [], []), (14, [], []), (15, [], []), (16, [], []), (17, [], [])] [0, 1, 3, 7, 0, 16, 48, 112, 255, 511, 0, 2047, 4095, 8191, 16383, 16383, 65535, 131071] ?_
 iterate 13 refine W0 ?_ (e := fun _ h_ => by simp only [sH, ↓sP, sA, tyS, simprocAttr, rdr, Int.natCast_nonneg, Int.ofNat_lt, ha, aY ha, lsC, hj, aY hj]; exact AX h_)
 refine cM (g := none) rfl rfl fun K' hK' => ?_
 simp only [sH, ↓sP, sA, tyS, simprocAttr, rdr, Int.natCast_nonneg, Int.ofNat_lt, ha, aY ha, lsC, hj, aY hj]
 refine D1 (bT3 ls[a][j]) ?_
 rintro u v ⟨rfl, rfl⟩
 refine AX (hK' _ _ ?_)
 clear hK' K'
 iterate 4 refine W0 ?_ (e := fun _ h_ => by simp only [sH, ↓sP, sA, tyS, simprocAttr, rdr, Int.natCast_nonneg, Int.ofNat_lt, ha, aY ha, lsC, hj, aY hj]; exact AX h_)
 refine T2 (hK _ _ _ ?_)
 clear hK K
 refine aF (RT Tryd.results45 ?_)
 exact bR [] (.int .i64 _) (.bool _) (rdr ls a) rfl rfl (by simp [HV.close, HV.closeL, rdr, CV.denil, CV.denilL, aQ, HV.norm, HV.toC, HV.toCL, lsC]) (by simp) ⟨by simp [wd, hj], by simp [wd, hj], rfl⟩

end Go.Proofs.YtlldglbooaefhaaDoor

namespace Go.Proofs.YtlldglbooaefhaaDoor
open Go Go.Hl Go.Pl
set_option maxRecDepth 10000
set_option maxHeartbeats 16000000

theorem nC (ls : List (List aE)) (a : Nat) (w : aE) (ha : ls.length < 2 ^ 40) : aM6 Tryd.prog 78 67 (rdr ls a) [.str w, .slc []] (fun u v' => u = .bool (isV ls a w 1) ∧ v' = rdr ls (if isV ls a w 1 then a + 1 else a)) := by
 refine bP Tryd.func78 rfl (by kernel_rfl) (cP _ _ _) (Nat.le_of_ble_eq_true rfl) ?_
 refine R0 ?_
 refine aC fun K hK => ?_
 refine aC fun K hK => Rg ?_
 iterate 5 refine S0 ?_
 refine HS rfl rfl fun K' hK' => T5 ?_
 refine bQ (args := [_, _]) (yV ls a 1 w (by omega)) rfl (by simp) ⟨rfl, rfl, rfl, rfl⟩ ?_
 rintro u v' ⟨rfl, rfl⟩
 refine AX (hK' _ _ ?_)
 clear hK' K'
 refine S0 ?_
 refine T2 (hK _ _ _ ?_)
 clear hK K
 refine aG (b := !isV ls a w 1) rfl (fun hb => ?_) (fun hb => ?_)
 ·
  refine R0 ?_
  refine aF (RT Tryd.results78 ?_)
  have hv : isV ls a w 1 = false := by simpa using hb
  refine eR [] (.bool false) (rdr ls a) rfl rfl (by simp [HV.close, HV.closeL, rdr, CV.denil, CV.denilL, aQ, HV.norm, HV.toC, HV.toCL]) (by simp) ⟨by rw [hv], by rw [hv]; rfl⟩
 refine aJ ?_
 refine T0 (hK _ _ _ ?_)
 clear hK K
 refine aC fun K hK => ?_
 have hv : isV ls a w 1 = true := by simpa using hb
 obtain ⟨hl, hl1, hl2⟩ := fL hv
 rw [hv]
 clear hb
 refine R0 ?_
 refine aK ?_
 refine bO (α := {i : Nat // i = 0}) (fun i => (fin [(0, .ptr 0 0), (18, .c (.slc [])), (19, .c (.int .i64 0)), (20, .c (.int .i64 0))], fob [(0, .box 67 (.c (rdr ls a)))])) 100 (fun i => 0) ⟨0, rfl⟩ (fF) ?_
 rintro ⟨i, hi⟩
 refine R0 ?_
 refine aC fun K hK => ?_
 refine CF rfl ?_
 refine bD (T3 ?_)
 clear hK K
 refine AX (hK _ _ _ ?_)
 clear hK K
 have hw : IntKind.i64.wrap ((a : Int) + 1) = ((a + 1 : Nat) : Int) := IntWalk.i64_in _ (by omega)
 refine aC fun K hK => Rg ?_
 iterate 8 refine S0 ?_ (e := fun _ h_ => by simp only [sH, ↓sP, sA, tyS, simprocAttr, rdr, hw]; exact AX h_)
 refine T2 (hK _ _ _ ?_)
 clear hK K
 refine R0 ?_
 refine aF (RT Tryd.results78 ?_)
 refine eR [] (.bool true) (rdr ls (a + 1)) rfl rfl (by simp [HV.close, HV.closeL, rdr, CV.denil, CV.denilL, aQ, HV.norm, HV.toC, HV.toCL]) (by simp) ⟨by rw [hv], by rw [hv]; rfl⟩


theorem cE2 (ls : List (List aE)) (a : Nat) (x : Int) : lst [.box 67 (.c (rdr ls a)), .hrow 148 1 [.ptr 2 0], .box 2 (.c (.int .i64 x))] = fob [(0, .box 67 (.c (rdr ls a))), (1, .hrow 148 1 [.ptr 2 0]), (2, .box 2 (.c (.int .i64 x)))] := by
 funext i
 match i with
 | 0 => rfl
 | 1 => rfl
 | 2 => rfl
 | i + 3 => simp [lst, fob, upd]

theorem bL4 (ls : List (List aE)) (a : Nat) (w : aE) (x : Int) (ha : ls.length < 2 ^ 40) :
  HGe Tryd.prog 78 [.ptr 0 0, .c (.str w), .own 1 1] [.box 67 (.c (rdr ls a)), .hrow 148 1 [.ptr 2 0], .box 2 (.c (.int .i64 x))]
   (fun r os' => r = .c (.bool (fK ls a w).isSome) ∧ os' = [.box 67 (.c (rdr ls (if (fK ls a w).isSome then a + 1 else a))), .hrow 148 1 [.ptr 2 0], .box 2 (.c (.int .i64 ((fK ls a w).getD x)))]) := by
 refine bP (args := [.ptr 0 0, .c (.str w), .own 1 1]) Tryd.func78 rfl (by kernel_rfl) (fE rfl (by simp [eE, HO.men, HV.men, HV.menL]) (by simp [HV.menL, HV.men])) (Nat.le_of_ble_eq_true rfl) ?_
 show Hw _ _ 3 _ _ _ (lst _) 3
 rw [cE2]
 refine R0 ?_
 refine aC fun K hK => ?_
 refine aC fun K hK => bE (by kernel_rfl) ?_
 simp only [sR, simprocAttr]
 iterate 3 refine SG0 ?_
 refine bY (g := none) rfl rfl fun K' hK' => ?_
 simp only [sN, ↓hopH.eq_def, sH, ↓sP, sA, tyS, simprocAttr]
 refine AX (hK' _ _ ?_)
 clear hK' K'
 refine SG0 ?_
 refine bJ (g := none) rfl rfl fun K' hK' => T5 ?_
 refine bQ (args := [_, _]) (yV ls a 2 w (by omega)) rfl (by simp) ⟨rfl, rfl, rfl, rfl⟩ ?_
 rintro u v' ⟨rfl, rfl⟩
 refine AX (hK' _ _ ?_)
 clear hK' K'
 refine SG0 ?_
 refine T2 (hK _ _ _ ?_)
 clear hK K
 refine aG (b := !isV ls a w 2) rfl (fun hb => ?_) (fun hb => ?_)
 ·
  refine R0 ?_
  refine aF (RT Tryd.results78 ?_)
  have hv : isV ls a w 2 = false := by simpa using hb
  rw [bT4 hv]
  exact dX [] [] (.c (.bool false)) [.box 67 (.c (rdr ls a)), .hrow 148 1 [.ptr 2 0], .box 2 (.c (.int .i64 x))] rfl (by simp [HV.men]) (⟨⟨by simp [HO.men, HV.men], by simp, _, rfl, by simp [HO.close, HV.close, HV.closeL, HO.ren, HV.ren, HV.renL, tau, CV.denil, HV.norm, fG, upd_at, fob_at, HV.toC, HV.toCL, rdr, CV.denilL, aQ]⟩, ⟨by simp [HO.men, HV.men, HV.menL], by simp, _, rfl, by simp [HO.close, HV.close, HV.closeL, HO.ren, HV.ren, HV.renL, tau, CV.denil, HV.norm, fG, upd_at, fob_at, HV.toC, HV.toCL]⟩, ⟨by simp [HO.men, HV.men], by simp, _, rfl, by simp [HO.close, HV.close, HV.closeL, HO.ren, HV.ren, HV.renL, tau, CV.denil, HV.norm, fG, upd_at, fob_at, HV.toC, HV.toCL]⟩, trivial⟩) rfl List.nodup_nil (by simp) (by simp) ⟨rfl, rfl⟩
 refine aJ ?_
 refine T0 (hK _ _ _ ?_)
 clear hK K
 refine aC fun K hK => ?_
 have hv : isV ls a w 2 = true := by simpa using hb
 obtain ⟨hl, hl1, hl2⟩ := fL hv
 have hnum := aB2 hv hl
 have hw : IntKind.i64.wrap ((a : Int) + 1) = ((a + 1 : Nat) : Int) := IntWalk.i64_in _ (by omega)
 clear hb
 refine aC fun K hK => bE (by kernel_rfl) ?_
 simp only [sR, simprocAttr]
 refine SG0 ?_
 refine bY (g := none) rfl rfl fun K' hK' => ?_
 simp only [sN, ↓hopH.eq_def, sH, ↓sP, sA, tyS, simprocAttr]
 refine AX (hK' _ _ ?_)
 clear hK' K'
 refine SG0 ?_
 refine T2 (hK _ _ _ ?_)
 clear hK K
 refine aK ?_
 refine bO (α := {y : Nat × Int // (y.1 = 0 ∧ y.2 = x) ∨ (y.1 = 1 ∧ bH (wd ls[a] 1) = some y.2)}) (fun y => (fin [(0, .ptr 0 0), (18, .own 1 1), (19, .c (.int .i64 1)), (20, .c (.int .i64 y.1.1))], fob [(0, .box 67 (.c (rdr ls a))), (1, .hrow 148 1 [.ptr 2 0]), (2, .box 2 (.c (.int .i64 y.1.2)))])) 100 (fun y => 1 - y.1.1) ⟨(0, x), .inl ⟨rfl, rfl⟩⟩ (fF) ?_
 rintro ⟨⟨i, y⟩, hiy⟩
 simp only at hiy
 refine R0 ?_
 refine aC fun K hK => ?_
 refine aG (b := decide ((i : Int) < 1)) rfl (fun hb => ?_) (fun hb => ?_)
 ·
  have hi0 : i = 0 := by simp at hb; omega
  subst hi0
  obtain rfl : y = x := by rcases hiy with h | h; exact h.2; exact absurd h.1 (by decide)
  clear hb
  refine aJ ?_
  refine T0 (hK _ _ _ ?_)
  clear hK K
  refine aC fun K hK => ?_
  refine aK ?_
  refine aC fun K hK => bE (by kernel_rfl) ?_
  simp only [sR, simprocAttr]
  refine SG0 ?_
  refine bY (g := none) rfl rfl fun K' hK' => ?_
  simp only [sN, ↓hopH.eq_def, sH, ↓sP, sA, tyS, simprocAttr]
  refine AX (hK' _ _ ?_)
  clear hK' K'
  refine bY (g := none) rfl rfl fun K' hK' => ?_
  simp only [sN, ↓hopH.eq_def, sH, ↓sP, sA, tyS, simprocAttr]
  refine AX (hK' _ _ ?_)
  clear hK' K'
  iterate 2 refine SG0 ?_
  refine T2 (hK _ _ _ ?_)
  clear hK K
  refine aC fun K hK => Rg ?_
  iterate 3 refine S0 ?_
  refine HS rfl rfl fun K' hK' => T5 ?_
  refine dP (args := [_]) (kV ls a 1 hl (by omega)) rfl (by simp) ⟨rfl, rfl, rfl, rfl⟩ ?_
  rintro u x' v' ⟨rfl, rfl, rfl⟩
  refine AX (hK' _ _ ?_)
  clear hK' K'
  iterate 5 refine S0 ?_
  refine T2 (hK _ _ _ ?_)
  clear hK K
  refine aC fun K hK => ?_
  refine R0 ?_
  refine aG (b := !(bH (wd ls[a] 1)).isSome) rfl (fun hb => ?_) (fun hb => ?_)
  ·
   have hno : bH (wd ls[a] 1) = none := by simpa using hb
   rw [hno] at hnum
   refine R0 ?_
   refine aF (RT Tryd.results78 ?_)
   rw [hnum]
   exact dX [] [] (.c (.bool false)) [.box 67 (.c (rdr ls a)), .hrow 148 1 [.ptr 2 0], .box 2 (.c (.int .i64 y))] rfl (by simp [HV.men]) (⟨⟨by simp [HO.men, HV.men], by simp, _, rfl, by simp [HO.close, HV.close, HV.closeL, HO.ren, HV.ren, HV.renL, tau, CV.denil, HV.norm, fG, upd_at, fob_at, HV.toC, HV.toCL, rdr, CV.denilL, aQ]⟩, ⟨by simp [HO.men, HV.men, HV.menL], by simp, _, rfl, by simp [HO.close, HV.close, HV.closeL, HO.ren, HV.ren, HV.renL, tau, CV.denil, HV.norm, fG, upd_at, fob_at, HV.toC, HV.toCL]⟩, ⟨by simp [HO.men, HV.men], by simp, _, rfl, by simp [HO.close, HV.close, HV.closeL, HO.ren, HV.ren, HV.renL, tau, CV.denil, HV.norm, fG, upd_at, fob_at, HV.toC, HV.toCL]⟩, trivial⟩) rfl List.nodup_nil (by simp) (by simp) ⟨rfl, rfl⟩
  obtain ⟨n, hn⟩ : ∃ n, bH (wd ls[a] 1) = some n := by
   cases h : bH (wd ls[a] 1) with
   | none => rw [h] at hb; simp at hb
   | some n => exact ⟨n, rfl⟩
  simp only [hn, Option.getD_some, Option.isSome_some, Bool.not_true]
  clear hb
  refine aJ ?_
  refine T0 (hK _ _ _ ?_)
  clear hK K
  refine Rg ?_
  iterate 4 refine S0 ?_
  refine T2 (hK _ _ _ ?_)
  clear hK K
  refine aL (by kernel_rfl) ?_
  refine TQ (show IntKind.i64.wrap 1 = 1 from rfl) ?_
  refine ⟨⟨(1, n), .inr ⟨rfl, hn⟩⟩, fF, ?_⟩
  show 1 - 1 < 1 - 0
  omega
 refine bD (T3 ?_)
 clear hK K
 refine AX (hK _ _ _ ?_)
 clear hK K
 obtain ⟨rfl, hn⟩ : i = 1 ∧ bH (wd ls[a] 1) = some y := by
  rcases hiy with h | h
  ·
   rw [h.1] at hb; simp at hb
  exact h
 clear hb
 refine aC fun K hK => Rg ?_
 iterate 8 refine S0 ?_ (e := fun _ h_ => by simp only [sH, ↓sP, sA, tyS, simprocAttr, rdr, hw]; exact AX h_)
 refine T2 (hK _ _ _ ?_)
 clear hK K
 refine R0 ?_
 refine aF (RT Tryd.results78 ?_)
 rw [hnum, hn]
 exact dX [] [] (.c (.bool true)) [.box 67 (.c (rdr ls (a + 1))), .hrow 148 1 [.ptr 2 0], .box 2 (.c (.int .i64 y))] rfl (by simp [HV.men]) (⟨⟨by simp [HO.men, HV.men], by simp, _, rfl, by simp [HO.close, HV.close, HV.closeL, HO.ren, HV.ren, HV.renL, tau, CV.denil, HV.norm, fG, upd_at, fob_at, HV.toC, HV.toCL, rdr, CV.denilL, aQ]⟩, ⟨by simp [HO.men, HV.men, HV.menL], by simp, _, rfl, by simp [HO.close, HV.close, HV.closeL, HO.ren, HV.ren, HV.renL, tau, CV.denil, HV.norm, fG, upd_at, fob_at, HV.toC, HV.toCL]⟩, ⟨by simp [HO.men, HV.men], by simp, _, rfl, by simp [HO.close, HV.close, HV.closeL, HO.ren, HV.ren, HV.renL, tau, CV.denil, HV.norm, fG, upd_at, fob_at, HV.toC, HV.toCL]⟩, trivial⟩) rfl List.nodup_nil (by simp) (by simp) ⟨rfl, rfl⟩


theorem cE3 (ls : List (List aE)) (a : Nat) (x y : Int) : lst [.box 67 (.c (rdr ls a)), .hrow 148 1 [.ptr 2 0, .ptr 3 0], .box 2 (.c (.int .i64 x)), .box 2 (.c (.int .i64 y))] = fob [(0, .box 67 (.c (rdr ls a))), (1, .hrow 148 1 [.ptr 2 0, .ptr 3 0]), (2, .box 2 (.c (.int .i64 x))), (3, .box 2 (.c (.int .i64 y)))] := by
 funext i
 match i with
 | 0 => rfl
 | 1 => rfl
 | 2 => rfl
 | 3 => rfl
 | i + 4 => simp [lst, fob, upd]

theorem bL5 (ls : List (List aE)) (a : Nat) (w : aE) (x y : Int) (ha : ls.length < 2 ^ 40) :
  HGe Tryd.prog 78 [.ptr 0 0, .c (.str w), .own 1 2] [.box 67 (.c (rdr ls a)), .hrow 148 1 [.ptr 2 0, .ptr 3 0], .box 2 (.c (.int .i64 x)), .box 2 (.c (.int .i64 y))]
   (fun r os' => r = .c (.bool (lP ls a w).isSome) ∧ ∃ x' y', os' = [.box 67 (.c (rdr ls (if (lP ls a w).isSome then a + 1 else a))), .hrow 148 1 [.ptr 2 0, .ptr 3 0], .box 2 (.c (.int .i64 x')), .box 2 (.c (.int .i64 y'))] ∧ ∀ n m, lP ls a w = some (n, m) → x' = n ∧ y' = m) := by
 refine bP (args := [.ptr 0 0, .c (.str w), .own 1 2]) Tryd.func78 rfl (by kernel_rfl) (fE rfl (by simp [eE, HO.men, HV.men, HV.menL]) (by simp [HV.menL, HV.men])) (Nat.le_of_ble_eq_true rfl) ?_
 show Hw _ _ 4 _ _ _ (lst _) 4
 rw [cE3]
 refine R0 ?_
 refine aC fun K hK => ?_
 refine aC fun K hK => bE (by kernel_rfl) ?_
 simp only [sR, simprocAttr]
 iterate 3 refine SG0 ?_
 refine bY (g := none) rfl rfl fun K' hK' => ?_
 simp only [sN, ↓hopH.eq_def, sH, ↓sP, sA, tyS, simprocAttr]
 refine AX (hK' _ _ ?_)
 clear hK' K'
 refine SG0 ?_
 refine bJ (g := none) rfl rfl fun K' hK' => T5 ?_
 refine bQ (args := [_, _]) (yV ls a 3 w (by omega)) rfl (by simp) ⟨rfl, rfl, rfl, rfl⟩ ?_
 rintro u v' ⟨rfl, rfl⟩
 refine AX (hK' _ _ ?_)
 clear hK' K'
 refine SG0 ?_
 refine T2 (hK _ _ _ ?_)
 clear hK K
 refine aG (b := !isV ls a w 3) rfl (fun hb => ?_) (fun hb => ?_)
 ·
  refine R0 ?_
  refine aF (RT Tryd.results78 ?_)
  have hv : isV ls a w 3 = false := by simpa using hb
  rw [bT5 hv]
  exact dX [] [] (.c (.bool false)) [.box 67 (.c (rdr ls a)), .hrow 148 1 [.ptr 2 0, .ptr 3 0], .box 2 (.c (.int .i64 x)), .box 2 (.c (.int .i64 y))] rfl (by simp [HV.men]) (⟨⟨by simp [HO.men, HV.men], by simp, _, rfl, by simp [HO.close, HV.close, HV.closeL, HO.ren, HV.ren, HV.renL, tau, CV.denil, HV.norm, fG, upd_at, fob_at, HV.toC, HV.toCL, rdr, CV.denilL, aQ]⟩, ⟨by simp [HO.men, HV.men, HV.menL], by simp, _, rfl, by simp [HO.close, HV.close, HV.closeL, HO.ren, HV.ren, HV.renL, tau, CV.denil, HV.norm, fG, upd_at, fob_at, HV.toC, HV.toCL, rdr, CV.denilL, aQ]⟩, ⟨by simp [HO.men, HV.men], by simp, _, rfl, by simp [HO.close, HV.close, HV.closeL, HO.ren, HV.ren, HV.renL, tau, CV.denil, HV.norm, fG, upd_at, fob_at, HV.toC, HV.toCL, rdr, CV.denilL, aQ]⟩, ⟨by simp [HO.men, HV.men], by simp, _, rfl, by simp [HO.close, HV.close, HV.closeL, HO.ren, HV.ren, HV.renL, tau, CV.denil, HV.norm, fG, upd_at, fob_at, HV.toC, HV.toCL, rdr, CV.denilL, aQ]⟩, trivial⟩) rfl List.nodup_nil (by simp) (by simp) ⟨rfl, x, y, rfl, fun n m h => by cases h⟩
 refine aJ ?_
 refine T0 (hK _ _ _ ?_)
 clear hK K
 refine aC fun K hK => ?_
 have hv : isV ls a w 3 = true := by simpa using hb
 obtain ⟨hl, hl1, hl2⟩ := fL hv
 have hnum := aU2 hv hl
 have hw : IntKind.i64.wrap ((a : Int) + 1) = ((a + 1 : Nat) : Int) := IntWalk.i64_in _ (by omega)
 clear hb
 refine aC fun K hK => bE (by kernel_rfl) ?_
 simp only [sR, simprocAttr]
 refine SG0 ?_
 refine bY (g := none) rfl rfl fun K' hK' => ?_
 simp only [sN, ↓hopH.eq_def, sH, ↓sP, sA, tyS, simprocAttr]
 refine AX (hK' _ _ ?_)
 clear hK' K'
 refine SG0 ?_
 refine T2 (hK _ _ _ ?_)
 clear hK K
 refine aK ?_
 refine bO (α := {y' : Nat × Int × Int // (y'.1 = 0 ∧ y'.2 = (x, y)) ∨ (y'.1 = 1 ∧ bH (wd ls[a] 1) = some y'.2.1 ∧ y'.2.2 = y) ∨ (y'.1 = 2 ∧ bH (wd ls[a] 1) = some y'.2.1 ∧ bH (wd ls[a] 2) = some y'.2.2)}) (fun y' => (fin [(0, .ptr 0 0), (18, .own 1 2), (19, .c (.int .i64 2)), (20, .c (.int .i64 y'.1.1))], fob [(0, .box 67 (.c (rdr ls a))), (1, .hrow 148 1 [.ptr 2 0, .ptr 3 0]), (2, .box 2 (.c (.int .i64 y'.1.2.1))), (3, .box 2 (.c (.int .i64 y'.1.2.2)))])) 100 (fun y' => 2 - y'.1.1) ⟨(0, x, y), .inl ⟨rfl, rfl⟩⟩ (fF) ?_
 rintro ⟨⟨i, x1, y1⟩, hiy⟩
 simp only [Prod.mk.injEq] at hiy
 refine R0 ?_
 refine aC fun K hK => ?_
 refine aG (b := decide ((i : Int) < 2)) rfl (fun hb => ?_) (fun hb => ?_)
 ·
  have hi2 : i < 2 := by simp at hb; omega
  clear hb
  refine aJ ?_
  refine T0 (hK _ _ _ ?_)
  clear hK K
  refine aC fun K hK => ?_
  refine aK ?_
  by_cases hi0 : i = 0
  ·
   subst hi0
   refine aC fun K hK => bE (by kernel_rfl) ?_
   simp only [sR, simprocAttr]
   refine SG0 ?_
   refine bY (g := none) rfl rfl fun K' hK' => ?_
   simp only [sN, ↓hopH.eq_def, sH, ↓sP, sA, tyS, simprocAttr]
   refine AX (hK' _ _ ?_)
   clear hK' K'
   refine bY (g := none) rfl rfl fun K' hK' => ?_
   simp only [sN, ↓hopH.eq_def, sH, ↓sP, sA, tyS, simprocAttr]
   refine AX (hK' _ _ ?_)
   clear hK' K'
   iterate 2 refine SG0 ?_
   refine T2 (hK _ _ _ ?_)
   clear hK K
   refine aC fun K hK => Rg ?_
   iterate 3 refine S0 ?_
   refine HS rfl rfl fun K' hK' => T5 ?_
   refine dP (args := [_]) (kV ls a 1 hl (by omega)) rfl (by simp) ⟨rfl, rfl, rfl, rfl⟩ ?_
   rintro u x' v' ⟨rfl, rfl, rfl⟩
   refine AX (hK' _ _ ?_)
   clear hK' K'
   iterate 5 refine S0 ?_
   refine T2 (hK _ _ _ ?_)
   clear hK K
   refine aC fun K hK => ?_
   refine R0 ?_
   refine aG (b := !(bH (wd ls[a] 1)).isSome) rfl (fun hb => ?_) (fun hb => ?_)
   ·
    have hno : bH (wd ls[a] 1) = none := by simpa using hb
    rw [hno] at hnum
    have hnum : lP ls a w = none := hnum
    refine R0 ?_
    refine aF (RT Tryd.results78 ?_)
    rw [hnum]
    exact dX [] [] (.c (.bool false)) [.box 67 (.c (rdr ls a)), .hrow 148 1 [.ptr 2 0, .ptr 3 0], .box 2 (.c (.int .i64 x1)), .box 2 (.c (.int .i64 y1))] rfl (by simp [HV.men]) (⟨⟨by simp [HO.men, HV.men], by simp, _, rfl, by simp [HO.close, HV.close, HV.closeL, HO.ren, HV.ren, HV.renL, tau, CV.denil, HV.norm, fG, upd_at, fob_at, HV.toC, HV.toCL, rdr, CV.denilL, aQ]⟩, ⟨by simp [HO.men, HV.men, HV.menL], by simp, _, rfl, by simp [HO.close, HV.close, HV.closeL, HO.ren, HV.ren, HV.renL, tau, CV.denil, HV.norm, fG, upd_at, fob_at, HV.toC, HV.toCL, rdr, CV.denilL, aQ]⟩, ⟨by simp [HO.men, HV.men], by simp, _, rfl, by simp [HO.close, HV.close, HV.closeL, HO.ren, HV.ren, HV.renL, tau, CV.denil, HV.norm, fG, upd_at, fob_at, HV.toC, HV.toCL, rdr, CV.denilL, aQ]⟩, ⟨by simp [HO.men, HV.men], by simp, _, rfl, by simp [HO.close, HV.close, HV.closeL, HO.ren, HV.ren, HV.renL, tau, CV.denil, HV.norm, fG, upd_at, fob_at, HV.toC, HV.toCL, rdr, CV.denilL, aQ]⟩, trivial⟩) rfl List.nodup_nil (by simp) (by simp) ⟨rfl, _, _, rfl, fun n m h => by cases h⟩
   obtain ⟨n, hn⟩ : ∃ n, bH (wd ls[a] 1) = some n := by
    cases h : bH (wd ls[a] 1) with
    | none => rw [h] at hb; simp at hb
    | some n => exact ⟨n, rfl⟩
   simp only [hn, Option.getD_some, Option.isSome_some, Bool.not_true]
   clear hb
   refine aJ ?_
   refine T0 (hK _ _ _ ?_)
   clear hK K
   refine Rg ?_
   iterate 4 refine S0 ?_
   refine T2 (hK _ _ _ ?_)
   clear hK K
   refine aL (by kernel_rfl) ?_
   simp only [↓sP, sA, tyS, simprocAttr, (show IntKind.i64.wrap 1 = 1 from rfl), (show IntKind.i64.wrap 2 = 2 from rfl)]
   refine ⟨⟨(1, n, y1), .inr (.inl ⟨rfl, hn, by rcases hiy with h | h | h; exact h.2.2; exact absurd h.1 (by decide); exact absurd h.1 (by decide)⟩)⟩, fF, ?_⟩
   show 2 - 1 < 2 - 0
   omega
  obtain rfl : i = 1 := by omega
  have h1 : bH (wd ls[a] 1) = some x1 := by
   rcases hiy with h | h | h
   ·
    omega
   ·
    exact h.2.1
   omega
  refine aC fun K hK => bE (by kernel_rfl) ?_
  simp only [sR, simprocAttr]
  refine SG0 ?_
  refine bY (g := none) rfl rfl fun K' hK' => ?_
  simp only [sN, ↓hopH.eq_def, sH, ↓sP, sA, tyS, simprocAttr]
  refine AX (hK' _ _ ?_)
  clear hK' K'
  refine bY (g := none) rfl rfl fun K' hK' => ?_
  simp only [sN, ↓hopH.eq_def, sH, ↓sP, sA, tyS, simprocAttr]
  refine AX (hK' _ _ ?_)
  clear hK' K'
  iterate 2 refine SG0 ?_
  refine T2 (hK _ _ _ ?_)
  clear hK K
  refine aC fun K hK => Rg ?_
  iterate 3 refine S0 ?_
  refine HS rfl rfl fun K' hK' => T5 ?_
  refine dP (args := [_]) (kV ls a 2 hl (by omega)) rfl (by simp) ⟨rfl, rfl, rfl, rfl⟩ ?_
  rintro u x' v' ⟨rfl, rfl, rfl⟩
  refine AX (hK' _ _ ?_)
  clear hK' K'
  iterate 5 refine S0 ?_
  refine T2 (hK _ _ _ ?_)
  clear hK K
  refine aC fun K hK => ?_
  refine R0 ?_
  refine aG (b := !(bH (wd ls[a] 2)).isSome) rfl (fun hb => ?_) (fun hb => ?_)
  ·
   have hno : bH (wd ls[a] 2) = none := by simpa using hb
   rw [hno, h1] at hnum
   have hnum : lP ls a w = none := hnum
   refine R0 ?_
   refine aF (RT Tryd.results78 ?_)
   rw [hnum]
   exact dX [] [] (.c (.bool false)) [.box 67 (.c (rdr ls a)), .hrow 148 1 [.ptr 2 0, .ptr 3 0], .box 2 (.c (.int .i64 x1)), .box 2 (.c (.int .i64 y1))] rfl (by simp [HV.men]) (⟨⟨by simp [HO.men, HV.men], by simp, _, rfl, by simp [HO.close, HV.close, HV.closeL, HO.ren, HV.ren, HV.renL, tau, CV.denil, HV.norm, fG, upd_at, fob_at, HV.toC, HV.toCL, rdr, CV.denilL, aQ]⟩, ⟨by simp [HO.men, HV.men, HV.menL], by simp, _, rfl, by simp [HO.close, HV.close, HV.closeL, HO.ren, HV.ren, HV.renL, tau, CV.denil, HV.norm, fG, upd_at, fob_at, HV.toC, HV.toCL, rdr, CV.denilL, aQ]⟩, ⟨by simp [HO.men, HV.men], by simp, _, rfl, by simp [HO.close, HV.close, HV.closeL, HO.ren, HV.ren, HV.renL, tau, CV.denil, HV.norm, fG, upd_at, fob_at, HV.toC, HV.toCL, rdr, CV.denilL, aQ]⟩, ⟨by simp [HO.men, HV.men], by simp, _, rfl, by simp [HO.close, HV.close, HV.closeL, HO.ren, HV.ren, HV.renL, tau, CV.denil, HV.norm, fG, upd_at, fob_at, HV.toC, HV.toCL, rdr, CV.denilL, aQ]⟩, trivial⟩) rfl List.nodup_nil (by simp) (by simp) ⟨rfl, _, _, rfl, fun n m h => by cases h⟩
  obtain ⟨n, hn⟩ : ∃ n, bH (wd ls[a] 2) = some n := by
   cases h : bH (wd ls[a] 2) with
   | none => rw [h] at hb; simp at hb
   | some n => exact ⟨n, rfl⟩
  simp only [hn, Option.getD_some, Option.isSome_some, Bool.not_true]
  clear hb
  refine aJ ?_
  refine T0 (hK _ _ _ ?_)
  clear hK K
  refine Rg ?_
  iterate 4 refine S0 ?_
  refine T2 (hK _ _ _ ?_)
  clear hK K
  refine aL (by kernel_rfl) ?_
  simp only [↓sP, sA, tyS, simprocAttr, (show IntKind.i64.wrap 1 = 1 from rfl), (show IntKind.i64.wrap 2 = 2 from rfl)]
  refine ⟨⟨(2, x1, n), .inr (.inr ⟨rfl, h1, hn⟩)⟩, fF, ?_⟩
  show 2 - 2 < 2 - 1
  omega
 refine bD (T3 ?_)
 clear hK K
 refine AX (hK _ _ _ ?_)
 clear hK K
 obtain ⟨rfl, h1, h2⟩ : i = 2 ∧ bH (wd ls[a] 1) = some x1 ∧ bH (wd ls[a] 2) = some y1 := by
  rcases hiy with h | h | h
  ·
   rw [h.1] at hb; simp at hb
  ·
   rw [h.1] at hb; simp at hb
  exact h
 have hnum : lP ls a w = some (x1, y1) := by rw [hnum, h1, h2]
 clear hb
 refine aC fun K hK => Rg ?_
 iterate 8 refine S0 ?_ (e := fun _ h_ => by simp only [sH, ↓sP, sA, tyS, simprocAttr, rdr, hw]; exact AX h_)
 refine T2 (hK _ _ _ ?_)
 clear hK K
 refine R0 ?_
 refine aF (RT Tryd.results78 ?_)
 rw [hnum]
 exact dX [] [] (.c (.bool true)) [.box 67 (.c (rdr ls (a + 1))), .hrow 148 1 [.ptr 2 0, .ptr 3 0], .box 2 (.c (.int .i64 x1)), .box 2 (.c (.int .i64 y1))] rfl (by simp [HV.men]) (⟨⟨by simp [HO.men, HV.men], by simp, _, rfl, by simp [HO.close, HV.close, HV.closeL, HO.ren, HV.ren, HV.renL, tau, CV.denil, HV.norm, fG, upd_at, fob_at, HV.toC, HV.toCL, rdr, CV.denilL, aQ]⟩, ⟨by simp [HO.men, HV.men, HV.menL], by simp, _, rfl, by simp [HO.close, HV.close, HV.closeL, HO.ren, HV.ren, HV.renL, tau, CV.denil, HV.norm, fG, upd_at, fob_at, HV.toC, HV.toCL, rdr, CV.denilL, aQ]⟩, ⟨by simp [HO.men, HV.men], by simp, _, rfl, by simp [HO.close, HV.close, HV.closeL, HO.ren, HV.ren, HV.renL, tau, CV.denil, HV.norm, fG, upd_at, fob_at, HV.toC, HV.toCL, rdr, CV.denilL, aQ]⟩, ⟨by simp [HO.men, HV.men], by simp, _, rfl, by simp [HO.close, HV.close, HV.closeL, HO.ren, HV.ren, HV.renL, tau, CV.denil, HV.norm, fG, upd_at, fob_at, HV.toC, HV.toCL, rdr, CV.denilL, aQ]⟩, trivial⟩) rfl List.nodup_nil (by simp) (by simp) ⟨rfl, _, _, rfl, fun n m h => by cases h; exact ⟨rfl, rfl⟩⟩

end Go.Proofs.YtlldglbooaefhaaDoor

namespace Go.Proofs.YtlldglbooaefhaaDoor
open Go Go.Hl Go.Pl
set_option maxRecDepth 10000
set_option maxHeartbeats 16000000

theorem gO {av : List Nat} {ob : Ob} {nid : Nat} {K : HV → Ob → Prop} {ls : List (List aE)} {a : Nat} (w : aE) {x : Int} {id idh ix : Nat} (hl : ls.length < 2 ^ 40) (h1 : ob id = some (.box 67 (.c (rdr ls a)))) (h2 : ob idh = some (.hrow 148 1 [.ptr ix 0])) (h3 : ob ix = some (.box 2 (.c (.int .i64 x))))
  (hn : [id, idh, ix].Nodup) (hav : ∀ s ∈ [id, idh, ix], s ∉ av) (hfree : Free4 ob nid)
  (hK : K (.c (.bool (fK ls a w).isSome)) (upd (upd (upd ob id (some (.box 67 (.c (rdr ls (if (fK ls a w).isSome then a + 1 else a)))))) idh (some (.hrow 148 1 [.ptr ix 0]))) ix (some (.box 2 (.c (.int .i64 ((fK ls a w).getD x))))))) :
  HCall Tryd.prog av 78 [.ptr id 0, .c (.str w), .own idh 1] ob nid K := by
 refine fZ [id, idh, ix] (bL4 ls a w x hl) rfl ⟨h1, h2, h3, trivial⟩ hn hav hfree (by simp [eE, HO.men, HV.men, HV.menL]) (by simp [HV.menL, HV.men]) ?_
 rintro r os' ⟨rfl, rfl⟩
 exact hK
theorem aP7 {av : List Nat} {ob : Ob} {nid : Nat} {K : HV → Ob → Prop} {ls : List (List aE)} {a : Nat} (w : aE) {x y : Int} {id idh ix iy : Nat} (hl : ls.length < 2 ^ 40) (h1 : ob id = some (.box 67 (.c (rdr ls a)))) (h2 : ob idh = some (.hrow 148 1 [.ptr ix 0, .ptr iy 0])) (h3 : ob ix = some (.box 2 (.c (.int .i64 x)))) (h4 : ob iy = some (.box 2 (.c (.int .i64 y))))
  (hn : [id, idh, ix, iy].Nodup) (hav : ∀ s ∈ [id, idh, ix, iy], s ∉ av) (hfree : Free4 ob nid)
  (hK : ∀ x' y', (∀ n m, lP ls a w = some (n, m) → x' = n ∧ y' = m) → K (.c (.bool (lP ls a w).isSome)) (upd (upd (upd (upd ob id (some (.box 67 (.c (rdr ls (if (lP ls a w).isSome then a + 1 else a)))))) idh (some (.hrow 148 1 [.ptr ix 0, .ptr iy 0]))) ix (some (.box 2 (.c (.int .i64 x'))))) iy (some (.box 2 (.c (.int .i64 y')))))) :
  HCall Tryd.prog av 78 [.ptr id 0, .c (.str w), .own idh 2] ob nid K := by
 refine fZ [id, idh, ix, iy] (bL5 ls a w x y hl) rfl ⟨h1, h2, h3, h4, trivial⟩ hn hav hfree (by simp [eE, HO.men, HV.men, HV.menL]) (by simp [HV.menL, HV.men]) ?_
 rintro r os' ⟨rfl, x', y', rfl, h⟩
 exact hK x' y' h

theorem aJ9 (ls : List (List aE)) (a : Nat) (ha : ls.length < 2 ^ 40) : sK Tryd.prog 76 67 (rdr ls a) [] (fun u x v' => u = ((jL ls a).getD rq0).cv ∧ x = .bool (jL ls a).isSome ∧ v' = rdr ls (if (jL ls a).isSome then a + 1 else a)) := by
 refine bP Tryd.func76 rfl (by kernel_rfl) (cP _ _ _) (Nat.le_of_ble_eq_true rfl) ?_
 refine R0 ?_
 refine R0 ?_
 refine aC fun K hK => ?_
 refine aK ?_
 refine aC fun K hK => bE (by kernel_rfl) ?_
 simp only [sR, simprocAttr]
 refine SG0 ?_
 refine bY (g := none) rfl rfl fun K' hK' => ?_
 simp only [sN, ↓hopH.eq_def, sH, ↓sP, sA, tyS, simprocAttr]
 refine AX (hK' _ _ ?_)
 clear hK' K'
 refine bJ (g := none) rfl rfl fun K' hK' => T5 ?_
 refine gO dK ha rfl rfl rfl (by decide) (by simp) ⟨rfl, rfl, rfl, rfl⟩ ?_
 refine AX (hK' _ _ ?_)
 clear hK' K'
 refine SG0 ?_
 refine T2 (hK _ _ _ ?_)
 clear hK K
 refine aG (b := (fK ls a dK).isSome) rfl (fun hb => ?_) (fun hb => ?_)
 ·
  obtain ⟨n, hn⟩ := Option.isSome_iff_exists.1 hb
  obtain ⟨hl, hl1, hl2, hl3⟩ := iS hn
  have hreq : jL ls a = some ⟨1, n, 0, []⟩ := by rw [fM hl, wR hl1 hl2, hl3]; rfl
  simp only [hn, Option.isSome_some, if_true, Option.getD_some]
  refine aC fun K hK => Rg ?_
  iterate 4 refine S0 ?_
  refine T2 (hK _ _ _ ?_)
  clear hK K
  refine aF (RT Tryd.results76 ?_)
  rw [hreq]
  exact bR [] (Rq.cv ⟨1, n, 0, []⟩) (.bool true) (rdr ls (a + 1)) rfl rfl (by simp [HV.close, HV.closeL, rdr, CV.denil, CV.denilL, aQ, HV.norm, HV.toC, HV.toCL]) (by simp) ⟨rfl, rfl, rfl⟩
 have hwReleased : fK ls a dK = none := by simpa using hb
 simp only [hwReleased, Option.isSome_none, Bool.false_eq_true, if_false, Option.getD_none]
 clear hb
 refine aC fun K hK => Rg ?_
 refine S0 ?_
 refine HS rfl rfl fun K' hK' => T5 ?_
 refine bQ (args := [_, _]) (yV ls a 2 dZ (by omega)) rfl (by simp) ⟨rfl, rfl, rfl, rfl⟩ ?_
 rintro u v' ⟨rfl, rfl⟩
 refine AX (hK' _ _ ?_)
 clear hK' K'
 refine S0 ?_
 refine T2 (hK _ _ _ ?_)
 clear hK K
 refine aG (b := isV ls a dZ 2) rfl (fun hb => ?_) (fun hb => ?_)
 ·
  obtain ⟨hl, hl1, hl2⟩ := fL hb
  have hreq : jL ls a = some ⟨2, 0, 0, wd ls[a] 1⟩ := by rw [fM hl, aB3 hl1 hl2]
  have hw : IntKind.i64.wrap ((a : Int) + 1) = ((a + 1 : Nat) : Int) := IntWalk.i64_in _ (by omega)
  have hw2 : IntKind.i64.wrap (((a + 1 : Nat) : Int) - 1) = (a : Int) := by rw [IntWalk.i64_in _ (by omega)]; omega
  have h1 : 1 < ls[a].length := by omega
  refine aC fun K hK => Rg ?_
  iterate 8 refine S0 ?_ (e := fun _ h_ => by simp only [sH, ↓sP, sA, tyS, simprocAttr, rdr, hw]; exact AX h_)
  refine T2 (hK _ _ _ ?_)
  clear hK K
  refine aC fun K hK => DW [(0, [], []), (1, [], []), (2, [], []), (3, [], []), (4, [], []), (5, [], []), (6, [], []), (7, [], []), (8, [], []), (9, [], []), (10, [], []), (11, [], []), (12, [], []), (13, [], []), (14, [], []), (15, [], [])] [0, 1, 3, 7, 0, 16, 48, 112, 240, 511, 1023, 2047, 4095, 8191, 16383, 32767] ?_
  iterate 16 refine W0 ?_ (e := fun _ h_ => by simp only [sH, ↓sP, sA, tyS, simprocAttr, rdr, hw2, Int.natCast_nonneg, Int.ofNat_lt, hl, aY hl, lsC, vO h1, Int.one_nonneg, hl1]; exact AX h_)
  refine T2 (hK _ _ _ ?_)
  clear hK K
  refine aF (RT Tryd.results76 ?_)
  rw [hreq]
  exact bR [] (Rq.cv ⟨2, 0, 0, wd ls[a] 1⟩) (.bool true) (rdr ls (a + 1)) rfl rfl (by simp [HV.close, HV.closeL, rdr, CV.denil, CV.denilL, aQ, HV.norm, HV.toC, HV.toCL]) (by simp) ⟨rfl, rfl, rfl⟩
 have hChained : isV ls a dZ 2 = false := hb
 clear hb
 refine aC fun K hK => bE (by kernel_rfl) ?_
 simp only [sR, simprocAttr]
 refine SG0 ?_
 refine bY (g := none) rfl rfl fun K' hK' => ?_
 simp only [sN, ↓hopH.eq_def, sH, ↓sP, sA, tyS, simprocAttr]
 refine AX (hK' _ _ ?_)
 clear hK' K'
 refine bJ (g := none) rfl rfl fun K' hK' => T5 ?_
 refine gO dQ ha rfl rfl rfl (by decide) (by simp) ⟨rfl, rfl, rfl, rfl⟩ ?_
 refine AX (hK' _ _ ?_)
 clear hK' K'
 refine SG0 ?_
 refine T2 (hK _ _ _ ?_)
 clear hK K
 refine aG (b := (fK ls a dQ).isSome) rfl (fun hb => ?_) (fun hb => ?_)
 ·
  obtain ⟨n, hn⟩ := Option.isSome_iff_exists.1 hb
  obtain ⟨hl, hl1, hl2, hl3⟩ := iS hn
  have hreq : jL ls a = some ⟨3, n, 0, []⟩ := by rw [fM hl, wS hl1 hl2, hl3]; rfl
  simp only [hn, Option.isSome_some, if_true, Option.getD_some]
  refine aC fun K hK => Rg ?_
  iterate 4 refine S0 ?_
  refine T2 (hK _ _ _ ?_)
  clear hK K
  refine aF (RT Tryd.results76 ?_)
  rw [hreq]
  exact bR [] (Rq.cv ⟨3, n, 0, []⟩) (.bool true) (rdr ls (a + 1)) rfl rfl (by simp [HV.close, HV.closeL, rdr, CV.denil, CV.denilL, aQ, HV.norm, HV.toC, HV.toCL]) (by simp) ⟨rfl, rfl, rfl⟩
 have hwApproved : fK ls a dQ = none := by simpa using hb
 simp only [hwApproved, Option.isSome_none, Bool.false_eq_true, if_false, Option.getD_none]
 clear hb
 refine aC fun K hK => bE (by kernel_rfl) ?_
 simp only [sR, simprocAttr]
 refine SG0 ?_
 refine bY (g := none) rfl rfl fun K' hK' => ?_
 simp only [sN, ↓hopH.eq_def, sH, ↓sP, sA, tyS, simprocAttr]
 refine AX (hK' _ _ ?_)
 clear hK' K'
 refine bJ (g := none) rfl rfl fun K' hK' => T5 ?_
 refine aP7 fI ha rfl rfl rfl rfl (by decide) (by simp) ⟨rfl, rfl, rfl, rfl⟩ ?_
 intro x1 y1 hxy
 refine AX (hK' _ _ ?_)
 clear hK' K'
 refine SG0 ?_
 refine T2 (hK _ _ _ ?_)
 clear hK K
 refine aG (b := (lP ls a fI).isSome) rfl (fun hb => ?_) (fun hb => ?_)
 ·
  obtain ⟨⟨n, m⟩, hn⟩ := Option.isSome_iff_exists.1 hb
  obtain ⟨hl, hl1, hl2, hl3, hl4⟩ := bA6 hn
  obtain ⟨rfl, rfl⟩ := hxy _ _ hn
  have hreq : jL ls a = some ⟨4, x1, y1, []⟩ := by rw [fM hl, aB4 hl1 hl2, hl3, hl4]
  simp only [hn, Option.isSome_some, if_true]
  refine aC fun K hK => Rg ?_
  iterate 5 refine S0 ?_
  refine T2 (hK _ _ _ ?_)
  clear hK K
  refine aF (RT Tryd.results76 ?_)
  rw [hreq]
  exact bR [] (Rq.cv ⟨4, x1, y1, []⟩) (.bool true) (rdr ls (a + 1)) rfl rfl (by simp [HV.close, HV.closeL, rdr, CV.denil, CV.denilL, aQ, HV.norm, HV.toC, HV.toCL]) (by simp) ⟨rfl, rfl, rfl⟩
 have hRebuilt : lP ls a fI = none := by simpa using hb
 simp only [hRebuilt, Option.isSome_none, Bool.false_eq_true, if_false]
 clear hb
 refine aC fun K hK => bE (by kernel_rfl) ?_
 simp only [sR, simprocAttr]
 refine SG0 ?_
 refine bY (g := none) rfl rfl fun K' hK' => ?_
 simp only [sN, ↓hopH.eq_def, sH, ↓sP, sA, tyS, simprocAttr]
 refine AX (hK' _ _ ?_)
 clear hK' K'
 refine bJ (g := none) rfl rfl fun K' hK' => T5 ?_
 refine gO gE ha rfl rfl rfl (by decide) (by simp) ⟨rfl, rfl, rfl, rfl⟩ ?_
 refine AX (hK' _ _ ?_)
 clear hK' K'
 refine SG0 ?_
 refine T2 (hK _ _ _ ?_)
 clear hK K
 refine aG (b := (fK ls a gE).isSome) rfl (fun hb => ?_) (fun hb => ?_)
 ·
  obtain ⟨n, hn⟩ := Option.isSome_iff_exists.1 hb
  obtain ⟨hl, hl1, hl2, hl3⟩ := iS hn
  have hreq : jL ls a = some ⟨5, n, 0, []⟩ := by rw [fM hl, aJ8 hl1 hl2, hl3]; rfl
  simp only [hn, Option.isSome_some, if_true, Option.getD_some]
  refine aC fun K hK => Rg ?_
  iterate 4 refine S0 ?_
  refine T2 (hK _ _ _ ?_)
  clear hK K
  refine aF (RT Tryd.results76 ?_)
  rw [hreq]
  exact bR [] (Rq.cv ⟨5, n, 0, []⟩) (.bool true) (rdr ls (a + 1)) rfl rfl (by simp [HV.close, HV.closeL, rdr, CV.denil, CV.denilL, aQ, HV.norm, HV.toC, HV.toCL]) (by simp) ⟨rfl, rfl, rfl⟩
 have hwListed : fK ls a gE = none := by simpa using hb
 simp only [hwListed, Option.isSome_none, Bool.false_eq_true, if_false, Option.getD_none]
 clear hb
 refine aC fun K hK => bE (by kernel_rfl) ?_
 simp only [sR, simprocAttr]
 refine SG0 ?_
 refine bY (g := none) rfl rfl fun K' hK' => ?_
 simp only [sN, ↓hopH.eq_def, sH, ↓sP, sA, tyS, simprocAttr]
 refine AX (hK' _ _ ?_)
 clear hK' K'
 refine bJ (g := none) rfl rfl fun K' hK' => T5 ?_
 refine gO kD ha rfl rfl rfl (by decide) (by simp) ⟨rfl, rfl, rfl, rfl⟩ ?_
 refine AX (hK' _ _ ?_)
 clear hK' K'
 refine SG0 ?_
 refine T2 (hK _ _ _ ?_)
 clear hK K
 refine aG (b := (fK ls a kD).isSome) rfl (fun hb => ?_) (fun hb => ?_)
 ·
  obtain ⟨n, hn⟩ := Option.isSome_iff_exists.1 hb
  obtain ⟨hl, hl1, hl2, hl3⟩ := iS hn
  have hreq : jL ls a = some ⟨6, n, 0, []⟩ := by rw [fM hl, aP5 hl1 hl2, hl3]; rfl
  simp only [hn, Option.isSome_some, if_true, Option.getD_some]
  refine aC fun K hK => Rg ?_
  iterate 4 refine S0 ?_
  refine T2 (hK _ _ _ ?_)
  clear hK K
  refine aF (RT Tryd.results76 ?_)
  rw [hreq]
  exact bR [] (Rq.cv ⟨6, n, 0, []⟩) (.bool true) (rdr ls (a + 1)) rfl rfl (by simp [HV.close, HV.closeL, rdr, CV.denil, CV.denilL, aQ, HV.norm, HV.toC, HV.toCL]) (by simp) ⟨rfl, rfl, rfl⟩
 have hwClean : fK ls a kD = none := by simpa using hb
 simp only [hwClean, Option.isSome_none, Bool.false_eq_true, if_false, Option.getD_none]
 clear hb
 refine aC fun K hK => bE (by kernel_rfl) ?_
 simp only [sR, simprocAttr]
 refine SG0 ?_
 refine bY (g := none) rfl rfl fun K' hK' => ?_
 simp only [sN, ↓hopH.eq_def, sH, ↓sP, sA, tyS, simprocAttr]
 refine AX (hK' _ _ ?_)
 clear hK' K'
 refine bJ (g := none) rfl rfl fun K' hK' => T5 ?_
 refine gO lI ha rfl rfl rfl (by decide) (by simp) ⟨rfl, rfl, rfl, rfl⟩ ?_
 refine AX (hK' _ _ ?_)
 clear hK' K'
 refine SG0 ?_
 refine T2 (hK _ _ _ ?_)
 clear hK K
 refine aG (b := (fK ls a lI).isSome) rfl (fun hb => ?_) (fun hb => ?_)
 ·
  obtain ⟨n, hn⟩ := Option.isSome_iff_exists.1 hb
  obtain ⟨hl, hl1, hl2, hl3⟩ := iS hn
  have hreq : jL ls a = some ⟨7, n, 0, []⟩ := by rw [fM hl, aP6 hl1 hl2, hl3]; rfl
  simp only [hn, Option.isSome_some, if_true, Option.getD_some]
  refine aC fun K hK => Rg ?_
  iterate 4 refine S0 ?_
  refine T2 (hK _ _ _ ?_)
  clear hK K
  refine aF (RT Tryd.results76 ?_)
  rw [hreq]
  exact bR [] (Rq.cv ⟨7, n, 0, []⟩) (.bool true) (rdr ls (a + 1)) rfl rfl (by simp [HV.close, HV.closeL, rdr, CV.denil, CV.denilL, aQ, HV.norm, HV.toC, HV.toCL]) (by simp) ⟨rfl, rfl, rfl⟩
 have hwFresh : fK ls a lI = none := by simpa using hb
 simp only [hwFresh, Option.isSome_none, Bool.false_eq_true, if_false, Option.getD_none]
 clear hb
 refine aC fun K hK => Rg ?_
 refine S0 ?_
 refine HS rfl rfl fun K' hK' => T5 ?_
 refine bQ (args := [_, _]) (nC ls a jB ha) rfl (by simp) ⟨rfl, rfl, rfl, rfl⟩ ?_
 rintro u v' ⟨rfl, rfl⟩
 refine AX (hK' _ _ ?_)
 clear hK' K'
 refine S0 ?_
 refine T2 (hK _ _ _ ?_)
 clear hK K
 refine aG (b := isV ls a jB 1) rfl (fun hb => ?_) (fun hb => ?_)
 ·
  obtain ⟨hl, hl1, hl2⟩ := fL hb
  have hreq : jL ls a = some ⟨8, 0, 0, []⟩ := by rw [fM hl, aB5 hl1 hl2]
  rw [hb]
  refine aC fun K hK => Rg ?_
  iterate 3 refine S0 ?_
  refine T2 (hK _ _ _ ?_)
  clear hK K
  refine aF (RT Tryd.results76 ?_)
  rw [hreq]
  exact bR [] (Rq.cv ⟨8, 0, 0, []⟩) (.bool true) (rdr ls (a + 1)) rfl rfl (by simp [HV.close, HV.closeL, rdr, CV.denil, CV.denilL, aQ, HV.norm, HV.toC, HV.toCL]) (by simp) ⟨rfl, rfl, rfl⟩
 have hno : jL ls a = none := bA7 hwReleased hChained hwApproved hRebuilt hwListed hwClean hwFresh hb
 rw [hb]
 refine aJ ?_
 refine T0 (hK _ _ _ ?_)
 clear hK K
 refine aC fun K hK => Rg ?_
 iterate 3 refine S0 ?_
 refine T2 (hK _ _ _ ?_)
 clear hK K
 refine aF (RT Tryd.results76 ?_)
 rw [hno]
 exact bR [] rq0.cv (.bool false) (rdr ls a) rfl rfl (by simp [HV.close, HV.closeL, rdr, CV.denil, CV.denilL, aQ, HV.norm, HV.toC, HV.toCL]) (by simp) ⟨rfl, rfl, rfl⟩

end Go.Proofs.YtlldglbooaefhaaDoor
