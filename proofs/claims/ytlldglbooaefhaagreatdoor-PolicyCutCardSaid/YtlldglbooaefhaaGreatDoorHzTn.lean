/- Part of a proof: walks of functions of the program, by contracts, and the rules they use. By an AI agent. -/
import Derived.Test.YtlldglbooaefhaaGreatDoorHzU1
import Derived.Test.YtlldglbooaefhaaGreatDoorPl11u
import Derived.Test.YtlldglbooaefhaaGreatDoorHzSb
import Derived.Test.YtlldglbooaefhaaGreatDoorHzV2
import Derived.Test.YtlldglbooaefhaaGreatDoorHlIt
import Derived.Test.YtlldglbooaefhaaGreatDoorHzUj
set_option linter.unusedSimpArgs false
set_option linter.unusedVariables false
set_option linter.defProp false
namespace Go.Proofs.YtlldglbooaefhaaGreatDoor
open Go Go.Hl Go.Pl
set_option maxRecDepth 10000
set_option maxHeartbeats 16000000

theorem cH4 (s : aJ) (hl : s.length < 2 ^ 40) : fR Tryz.prog 87 [.str s] (fun u v => u = .str ((unW s).getD []) ∧ v = .bool (unW s).isSome) := by
 refine FW Tryz.func87 ?_
 refine R0 ?_
 refine aC fun K hK => ?_
 refine R0 ?_
 refine aG (b := s == [126]) rfl (fun hb => ?_) (fun hb => ?_)
 ·
  refine R0 ?_
  refine aF (RT Tryz.results87 ?_)
  have hs : s = [126] := by simpa using hb
  subst hs
  exact aR [] (.str []) (.bool true) rfl ⟨rfl, rfl⟩
 refine aK ?_
 refine T0 (hK _ _ _ ?_)
 clear hK K
 have hne : s ≠ [126] := by simpa using hb
 clear hb
 refine R0 ?_
 refine aC fun K hK => ?_
 refine R0 ?_
 refine aL ?_
 refine jW 4 0 5 1 rfl rfl rfl rfl ?_
 refine bE (α := {y : Nat × aJ // UnSt s y.1 y.2}) (fun y => (fin [(0, .c (.str s)), (4, .own 24 y.1.2.length), (5, .c (.int .i64 y.1.1))], fob [(24, .row 5 1 (y.1.2.map cP))])) 100 (fun y => s.length - y.1.1) ⟨(0, []), UnSt.init s⟩ (fF) ?_
 rintro ⟨⟨i, out⟩, hst⟩
 simp only at hst
 have hi := hst.1
 have ho := hst.2.2.2
 refine aC fun K hK => ?_
 refine AU ?_
 refine aG (b := decide ((i : Int) < s.length)) rfl (fun hb => ?_) (fun hb => ?_)
 ·
  have hlt : i < s.length := by simpa using hb
  clear hb
  have hgd : s.getD i 0 = s[i] := by simp [hlt]
  refine aK ?_
  refine T0 (hK _ _ _ ?_)
  clear hK K
  refine aC fun K hK => ?_
  refine aL ?_
  refine aC fun K hK => ?_
  refine aC fun K hK => Rg ?_
  iterate 3 refine S0 ?_ (e := fun _ h_ => by simp only [sH, ↓sP, sA, tyS, simprocAttr, Int.natCast_nonneg, Int.ofNat_lt, hlt, hgd]; exact AX h_)
  refine HS rfl rfl fun K' hK' => ?_
  simp only [sH, ↓sP, sA, tyS, simprocAttr, Int.natCast_nonneg, Int.ofNat_lt, hlt, hgd]
  refine C1 (rA s[i]) ?_
  rintro u rfl
  refine AX (hK' _ _ ?_)
  clear hK' K'
  refine T2 (hK _ _ _ ?_)
  clear hK K
  refine aG (b := cG s[i]) rfl (fun hb => ?_) (fun hb => ?_)
  ·
   refine RS ?_
   iterate 7 refine S0 ?_ (e := fun _ h_ => by simp only [sH, ↓sP, sA, tyS, simprocAttr, Int.natCast_nonneg, Int.ofNat_lt, hlt, hgd, List.length_append, List.length_map]; exact AX h_)
   refine RE ?_
   refine bA (T3 ?_)
   clear hK K
   refine AX (hK _ _ _ ?_)
   clear hK K
   refine aM (by kernel_rfl) ?_
   refine TQ (iN i) ?_
   refine ⟨⟨(i + 1, out ++ [s[i]]), hst.plain hlt hb⟩, aN (by omega) ?_ ?_, ?_⟩
   ·
    simp [aW, upd_at, fin_at, HV.men]
   ·
    simp only [aY, List.map_append]
    exact ⟨rfl, by omega, trivial, trivial⟩
   show s.length - (i + 1) < s.length - i
   omega
  refine aK ?_
  refine T0 (hK _ _ _ ?_)
  clear hK K
  refine aC fun K hK => ?_
  have hp : cG s[i] = false := hb
  clear hb
  have hw1 : IntKind.i64.wrap ((i : Int) + 1) = ((i + 1 : Nat) : Int) := by rw [IntWalk.i64_in _ (by omega)]; rfl
  have hw2 : IntKind.i64.wrap ((i : Int) + 2) = ((i + 2 : Nat) : Int) := by rw [IntWalk.i64_in _ (by omega)]; rfl
  have hw3 : IntKind.i64.wrap (((i + 2 : Nat) : Int) + 1) = ((i + 3 : Nat) : Int) := by rw [IntWalk.i64_in _ (by omega)]; rfl
  refine RS ?_
  iterate 5 refine S0 ?_ (e := fun _ h_ => by simp only [sH, ↓sP, sA, tyS, simprocAttr, Int.natCast_nonneg, Int.ofNat_lt, hlt, hgd, hw2]; exact AX h_)
  refine aE 29 rfl (fun h9_29 => ?_) (fun h9_29 => ?_)
  ·
   iterate 6 refine S0 ?_ (e := fun _ h_ => by simp only [sH, ↓sP, sA, tyS, simprocAttr, Int.natCast_nonneg, Int.ofNat_lt, hlt, hgd, hw2, h9_29]; exact AX h_)
   refine RE ?_
   refine CT rfl ?_
   refine R0 ?_
   refine aF (RT Tryz.results87 ?_)
   have h37 : s[i] ≠ 37 := by rintro h; rw [h] at h9_29; simp at h9_29
   have hn := fW (hst.bad1 hlt hp (.inl h37)) hne
   exact aR [] (.str []) (.bool false) rfl ⟨by rw [hn]; rfl, by rw [hn]; rfl⟩
  iterate 6 refine S0 ?_ (e := fun _ h_ => by simp only [sH, ↓sP, sA, tyS, simprocAttr, Int.natCast_nonneg, Int.ofNat_lt, hlt, hgd, hw2, h9_29]; exact AX h_)
  refine aE 35 rfl (fun h9_35 => ?_) (fun h9_35 => ?_)
  ·
   simp only [h9_35]
   refine RE ?_
   refine CT rfl ?_
   refine R0 ?_
   refine aF (RT Tryz.results87 ?_)
   have hi2 : s.length ≤ i + 2 := by simp at h9_35; omega
   have hn := fW (hst.bad1 hlt hp (.inr hi2)) hne
   exact aR [] (.str []) (.bool false) rfl ⟨by rw [hn]; rfl, by rw [hn]; rfl⟩
  simp only [h9_35]
  refine RE ?_
  refine CF rfl ?_
  refine aK ?_
  refine T0 (hK _ _ _ ?_)
  clear hK K
  have h37 : s[i] = 37 := by
   simp only [bne_eq_false_iff_eq] at h9_29
   exact UInt8.toNat_inj.1 (by show s[i].toNat = 37; omega)
  have hi2 : i + 2 < s.length := by simp at h9_35; omega
  have hi1 : i + 1 < s.length := by omega
  have hg1 : s.getD (i + 1) 0 = s[i + 1] := by simp [hi1]
  have hg2 : s.getD (i + 2) 0 = s[i + 2] := by simp [hi2]
  refine aC fun K hK => DW [(0, [], []), (1, [], []), (2, [], []), (3, [], []), (5, [], []), (6, [], []), (7, [], []), (8, [], []), (4, [], [5, 6, 7, 8]), (9, [], []), (10, [], []), (11, [], [])] [0, 0, 2, 7, 15, 0, 0, 64, 224, 511, 1023, 2047] ?_
  have F := aI @Int.natCast_nonneg (aI @Int.ofNat_lt (aI hw1 (aI hw2 (aI hg1 (aI hg2 (aI hi1 (aI hi2 (aI h9_29 h9_35))))))))
  iterate 8 refine WF ?_
  refine cF (g := none) rfl rfl fun K' hK' => T6 ?_
  refine C2 (rB bW9 s[i + 1]) ?_
  rintro u rfl
  refine AX (hK' _ _ ?_)
  clear hK' K'
  refine cF (g := none) rfl rfl fun K' hK' => T6 ?_
  refine C2 (rB bW9 s[i + 2]) ?_
  rintro u rfl
  refine AX (hK' _ _ ?_)
  clear hK' K'
  iterate 2 refine WF ?_
  refine T2 (hK _ _ _ ?_)
  clear hK K
  refine aC fun K hK => ?_
  by_cases hx : valH s[i + 1] < 16
  ·
   by_cases hy : valH s[i + 2] < 16
   ·
    rw [qT, qT, if_pos hx, if_pos hy]
    have hx0 : decide (((valH s[i + 1] : Nat) : Int) < 0) = false := by simp
    have hy0 : decide (((valH s[i + 2] : Nat) : Int) < 0) = false := by simp
    have e1 : IntKind.i64.wrap (16 * ((valH s[i + 1] : Nat) : Int)) = ((16 * valH s[i + 1] : Nat) : Int) := by rw [IntWalk.i64_in _ (by omega)]; omega
    have e2 : IntKind.i64.wrap (((16 * valH s[i + 1] : Nat) : Int) + ((valH s[i + 2] : Nat) : Int)) = ((16 * valH s[i + 1] + valH s[i + 2] : Nat) : Int) := by rw [IntWalk.i64_in _ (by omega)]; omega
    have e3 : IntKind.u8.wrap ((16 * valH s[i + 1] + valH s[i + 2] : Nat) : Int) = ((byteH s[i + 1] s[i + 2]).toNat : Int) := by rw [IntWalk.u8_in _ (by omega), sV hx hy]
    refine RS ?_
    have F := aI hx0 (aI hy0 (aI e1 (aI e2 (aI e3 (aI h9_29 h9_35)))))
    refine AU ?_
    refine SCF (rA (byteH s[i + 1] s[i + 2])) ?_
    refine AU ?_
    refine aG (b := cG (byteH s[i + 1] s[i + 2])) rfl (fun hb => ?_) (fun hb => ?_)
    ·
     refine R0 ?_
     refine aF (RT Tryz.results87 ?_)
     have hn := fW (hst.bad2 hi2 h37 (by simp [okH, hx, hy, hb])) hne
     exact aR [] (.str []) (.bool false) rfl ⟨by rw [hn]; rfl, by rw [hn]; rfl⟩
    refine aK ?_
    refine T0 (hK _ _ _ ?_)
    clear hK K
    refine RS ?_
    have F := aI @Int.natCast_nonneg (aI @List.length_append.{0} (aI @List.length_map.{0,0} (aI e1 (aI e2 (aI e3 (aI h9_29 h9_35))))))
    refine AU ?_
    refine aM (by kernel_rfl) ?_
    refine TQ hw2 ?_
    refine AX (hK _ _ _ ?_)
    clear hK K
    refine aM (by kernel_rfl) ?_
    refine TQ hw3 ?_
    refine ⟨⟨(i + 3, out ++ [byteH s[i + 1] s[i + 2]]), hst.esc hi2 h37 (by simp [okH, hx, hy, hb])⟩, aN (by omega) ?_ ?_, ?_⟩
    ·
     simp [aW, upd_at, fin_at, HV.men]
    ·
     simp only [aY, List.map_append]
     exact ⟨rfl, by omega, trivial, trivial⟩
    show s.length - (i + 3) < s.length - i
    omega
   rw [qT, qT, if_pos hx, if_neg hy]
   have hx0 : decide (((valH s[i + 1] : Nat) : Int) < 0) = false := by simp
   refine RS ?_
   have F := aI hx0 (aI h9_29 h9_35)
   refine AU ?_
   refine CT rfl ?_
   refine R0 ?_
   refine aF (RT Tryz.results87 ?_)
   have hn := fW (hst.bad2 hi2 h37 (by simp [okH, hx, hy])) hne
   exact aR [] (.str []) (.bool false) rfl ⟨by rw [hn]; rfl, by rw [hn]; rfl⟩
  rw [qT, if_neg hx]
  refine RS ?_
  have F := aI h9_29 h9_35
  refine AU ?_
  refine CT rfl ?_
  refine R0 ?_
  refine aF (RT Tryz.results87 ?_)
  have hn := fW (hst.bad2 hi2 h37 (by simp [okH, hx])) hne
  exact aR [] (.str []) (.bool false) rfl ⟨by rw [hn]; rfl, by rw [hn]; rfl⟩
 refine bA (T3 ?_)
 clear hK K
 refine AX (hK _ _ _ ?_)
 clear hK K
 have hei : i = s.length := by simp at hb; omega
 have hfin := hst.fin hei hne
 refine dW [24] (bG (fr2 := fin [(4, .c (.slc (out.map cP)))]) (ob2 := fob []) (nx2 := 200) (aN (by omega) (by simp [aW, gJ, fin_at, finA_at, upd_at, fob_at, HV.close, HV.closeL, CV.denil, CV.denilL, cM, HV.men, HV.menL, HV.norm, HV.toC, HV.toCL]) (by simp [aY, gK, fob_at, upd_at, none0_at, bX, HO.close, HV.close, HV.closeL, HO.men, HV.men, HV.menL, HV.norm, HV.toC, HV.toCL])) ?_)
 refine RS ?_
 have F := aI @bytesC_map @List.length_map.{0,0}
 refine AU ?_
 refine aF (RT Tryz.results87 ?_)
 refine aR [] (.str out) (.bool (decide (0 < (out.length : Int)))) rfl ?_
 rw [hfin]
 by_cases ho0 : out = []
 ·
  subst ho0; simp
 have : 0 < out.length := List.length_pos_iff.2 ho0
 simp [ho0, this]

end Go.Proofs.YtlldglbooaefhaaGreatDoor

namespace Go.Proofs.YtlldglbooaefhaaGreatDoor
open Go Go.Hl Go.Pl
set_option maxRecDepth 10000
set_option maxHeartbeats 16000000

def lsC (l : List aJ) : CV := .slc (l.map .str)
theorem eU (l : List aJ) : (lsC l).cells = 1 := rfl
theorem eI (l : List aJ) : (lsC l).denil = lsC l := by simp only [lsC, CV.denil, denilL_str]
theorem aQ (l : List (List aJ)) : CV.denilL (l.map lsC) = l.map lsC := cE eI l
theorem cH5 (b : aJ) (hl : b.length < 2 ^ 40) : fR Tryz.prog 62 [.slc (b.map u8)] (fun u v => u = .slc ((eD b).map lsC) ∧ v = .int .i64 (eC b)) := by
 refine FW Tryz.func62 ?_
 have F := rI
 refine RF ?_
 refine bN3 ?_
 refine aC fun K hK => ?_
 have F := aI rI @List.length_map.{0,0}
 refine RF ?_
 refine aG (b := decide ((262144 : Int) < b.length)) rfl (fun hb => ?_) (fun hb => ?_)
 ·
  have F := rI
  refine RF ?_
  refine aF ?_
  simp only [gU, Tryz.results62, fV, gT, fD, ↓sP, sA, tyS, simprocAttr, rI]
  have hE : eC b = 3 := by unfold eC; rw [if_pos (by simp at hb; omega)]
  refine aR [] (.slc []) (.int .i64 3) ?_ ⟨by simp only [eD, hE]; rfl, by rw [hE]⟩
  simp [HV.close, HV.closeL, CV.denil, CV.denilL, HV.norm, HV.toC, HV.toCL]
 refine aK ?_
 refine TQ rI ?_
 refine AX (hK _ _ _ ?_)
 clear hK K
 have hle : b.length ≤ 262144 := by simp at hb; omega
 clear hb
 have F := rI
 refine RF ?_
 refine RF ?_
 refine aC fun K hK => ?_
 refine bL1 ?_
 try simp only [↓sP, sA, tyS, simprocAttr, rI]
 refine AX (hK _ _ _ ?_)
 clear hK K
 refine aC fun K hK => ?_
 have key : ∀ (ok : Bool) (ls : List (List aJ)) fr ob nx, (ok = true → fQ b = some ls) → (ok = false → fQ b = none) → ls.length ≤ b.length → Fits 0 fr ob (fin [(4, .own 32 ls.length), (5, .ptr 24 0)]) (fob [(24, .box 4 (.c (.bool ok))), (32, .row 60 1 (ls.map lsC))]) 1000 → K fr ob nx := by
  intro ok ls fr ob nx h1 h2 h3 hf
  refine hK _ _ _ (bG hf ?_)
  clear hf hK K
  refine aC fun K hK => ?_
  cases ok
  ·
   refine RS ?_
   have F := aI rI @List.length_map.{0,0}
   refine AU ?_
   refine CT rfl ?_
   have F := rI
   refine RF ?_
   refine aF ?_
   simp only [gU, Tryz.results62, fV, gT, fD, ↓sP, sA, tyS, simprocAttr, rI]
   have hE : eC b = 2 := by unfold eC; rw [if_neg (by omega), h2 rfl]
   refine aR [] (.slc []) (.int .i64 2) ?_ ⟨by simp only [eD, hE]; rfl, by rw [hE]⟩
   simp [HV.close, HV.closeL, CV.denil, CV.denilL, HV.norm, HV.toC, HV.toCL]
  refine RS ?_
  have F := aI rI @List.length_map.{0,0}
  refine AU ?_
  refine aG (b := decide ((1000 : Int) < ls.length)) rfl (fun hb => ?_) (fun hb => ?_)
  ·
   have F := rI
   refine RF ?_
   refine aF ?_
   simp only [gU, Tryz.results62, fV, gT, fD, ↓sP, sA, tyS, simprocAttr, rI]
   have hE : eC b = 2 := by unfold eC; rw [if_neg (by omega), h1 rfl]; simp only; rw [if_pos (by simp at hb; omega)]
   refine aR [] (.slc []) (.int .i64 2) ?_ ⟨by simp only [eD, hE]; rfl, by rw [hE]⟩
   simp [HV.close, HV.closeL, CV.denil, CV.denilL, HV.norm, HV.toC, HV.toCL]
  refine aK ?_
  refine TQ rI ?_
  refine AX (hK _ _ _ ?_)
  clear hK K
  have F := rI
  refine RF ?_
  refine aF ?_
  simp only [gU, Tryz.results62, fV, gT, fD, ↓sP, sA, tyS, simprocAttr, rI]
  have hE : eC b = 0 := by unfold eC; rw [if_neg (by omega), h1 rfl]; simp only; rw [if_neg (by simp at hb; omega)]
  refine aR [32] (.slc (ls.map lsC)) (.int .i64 0) ?_ ⟨by simp only [eD, hE, h1 rfl]; rfl, by rw [hE]⟩
  simp [HV.close, fob_at, upd_at, HV.norm, HV.toC, HV.closeL, HV.toCL, CV.denil, aQ]
 refine aL ?_
 refine jW 4 0 60 1 rfl rfl rfl rfl ?_
 refine bE (α := {y : aJ × List (List aJ) // DecSt b y.1 y.2}) (fun y => (fin [(0, .c (.slc (y.1.1.map u8))), (4, .own 32 y.1.2.length), (5, .ptr 24 0)], fob [(24, .box 4 (.c (.bool true))), (32, .row 60 1 (y.1.2.map lsC))])) 100 (fun y => y.1.1.length) ⟨(b, []), DecSt.init b⟩ (fF) ?_
 rintro ⟨⟨rest, ls⟩, hst⟩
 simp only at hst
 have hr1 := hst.2.1
 have hr2 := hst.2.2
 refine aC fun K hK => ?_
 have F := aI rI @List.length_map.{0,0}
 refine RF ?_
 refine aG (b := decide ((0 : Int) < rest.length)) rfl (fun hb => ?_) (fun hb => ?_)
 ·
  refine aK ?_
  refine TQ rI ?_
  refine AX (hK _ _ _ ?_)
  clear hK K
  refine aL ?_
  have hne : rest ≠ [] := by rintro rfl; simp at hb
  clear hb
  refine aC fun K hK => bB (by kernel_rfl) ?_
  simp only [sR, simprocAttr]
  have F := aI rI @denilL_u8
  refine SGF ?_
  refine bZ (g := none) 116 rfl rfl fun K' hK' => ?_
  simp only [eN, iD, sH, ↓sP, sA, tyS, simprocAttr, rI, denilL_u8]
  repeat refine AI ?_
  refine cB (by first | rfl | simp) ?_
  try simp only [sH, ↓sP, sA, tyS, simprocAttr, rI, denilL_u8]
  refine AX (hK' _ _ ?_)
  clear hK' K'
  refine bI (g := none) rfl rfl fun K' hK' => T6 ?_
  refine pN (args := [_, _]) (bX6 rest 10 (by omega)) ⟨rfl, rfl, rfl, rfl⟩ ?_
  rintro u v x ⟨li, re, fd, rfl, rfl, rfl, hcut⟩
  have hlt := hcut.lt hne
  refine AX (hK' _ _ ?_)
  clear hK' K'
  iterate 7 refine SGF ?_
  simp only [sE, ↓reduceIte, simprocAttr, rI]
  refine AX (hK _ _ _ ?_)
  clear hK K
  have F := rI
  refine RF ?_
  refine aC fun K hK => ?_
  refine aC fun K hK => bB (by kernel_rfl) ?_
  simp only [sR, simprocAttr]
  refine SG0 ?_ (e := fun _ h_ => by simp only [sH, ↓sP, sA, tyS, simprocAttr, rI, denilL_u8, mP, gX, List.range', List.map_cons, List.map_nil]; exact AX h_)
  refine bZ (g := none) 160 rfl rfl fun K' hK' => ?_
  simp only [eN, iD, sH, ↓sP, sA, tyS, simprocAttr, rI, denilL_u8, mP, gX, List.range', List.map_cons, List.map_nil]
  repeat refine AI ?_
  refine cB (by first | rfl | simp) ?_
  try simp only [sH, ↓sP, sA, tyS, simprocAttr, rI, denilL_u8, mP, gX, List.range', List.map_cons, List.map_nil]
  refine AX (hK' _ _ ?_)
  clear hK' K'
  refine bI (g := none) rfl rfl fun K' hK' => ?_
  simp only [sH, ↓sP, sA, tyS, simprocAttr, rI, denilL_u8, mP, gX, List.range', List.map_cons, List.map_nil]
  refine sZ (args := [_, _]) (bF5 li 32) (by simp) ⟨rfl, rfl, rfl, rfl⟩ ?_
  refine AX (hK' _ _ ?_)
  clear hK' K'
  simp only [sE, ↓reduceIte, simprocAttr, rI]
  refine AX (hK _ _ _ ?_)
  clear hK K
  refine aL ?_
  refine aE3 152 0 9 1 rfl rfl rfl rfl ?_
  refine zU (ids := [164, 165, 166]) (fin [(0, .c (.slc (rest.map u8))), (4, .own 32 ls.length), (5, .ptr 24 0), (7, .c (.slc (re.map u8))), (8, .c (.bool fd)), (9, .ptr 152 0)]) (fun i => fob [(24, .box 4 (.c (.bool true))), (32, .row 60 1 (ls.map lsC)), (152, .box 60 (.own 168 i)), (168, .row 9 1 ((wsT li i).map .str))]) 200 (fun i => aL2 li i) (fun p hp => by simp at hp) (aV8 li 32 (by omega)) rfl rfl (by decide) ?_ ?_ ?_ ?_ ?_ rfl rfl ?_ ?_
  ·
   intro j x hx
   match j, hx with
   | 0, hx => cases hx; rfl
   | 1, hx => cases hx; rfl
   | 2, hx => cases hx; rfl
  ·
   exact aN (by omega) (by simp [aW, fin_at, finA_at, upd_at, HV.men, HV.menL, HV.norm, HV.toC, HV.toCL]) (by simp [aY, fob_at, upd_at, none0_at, bX, mP, wsT, HO.men, HV.men, HV.menL, HV.norm, HV.toC, HV.toCL])
  ·
   intro id hid
   simp only [List.mem_cons, List.not_mem_nil, or_false] at hid
   rcases hid with rfl | rfl | rfl <;> rfl
  ·
   intro x hx
   obtain ⟨p, _, rfl⟩ := List.mem_map.1 hx
   rfl
  ·
   intro p hp
   simp only [List.mem_cons, List.not_mem_nil, or_false] at hp
   subst hp
   exact Nat.le_of_ble_eq_true rfl
  ·
   intro i hi hΦ K hK
   have hi' : i < (aP 32 li).length := by simpa using hi
   have hwl := pM (r := li) (Nat.le_of_lt hi')
   have hsl := eB 32 li
   obtain ⟨p, hp⟩ : ∃ p, p = (aP 32 li)[i] := ⟨_, rfl⟩
   have hpl : p.length ≤ li.length := by rw [hp]; exact mF 32 li _ (List.getElem_mem hi')
   have hx : (List.map (fun p => [CV.slc (List.map u8 p)]) (aP 32 li))[i] = [CV.slc (p.map u8)] := by rw [List.getElem_map, hp]
   rw [hx]
   simp only [wT]
   have hbc : iJ (p.map u8) = some p := bytesC_map p
   refine aM (by kernel_rfl) ?_
   refine TQ rI ?_
   refine AX (hK _ _ _ ?_)
   clear hK K
   refine aL ?_
   refine aC fun K hK => Rg ?_
   have F := aI rI hbc
   refine AU ?_
   refine HS rfl rfl fun K' hK' => T6 ?_
   refine D1 (cH4 p (by omega)) ?_
   rintro u v ⟨rfl, rfl⟩
   refine AX (hK' _ _ ?_)
   clear hK' K'
   refine AU ?_
   simp only [sE, ↓reduceIte, simprocAttr, rI]
   refine AX (hK _ _ _ ?_)
   clear hK K
   refine aC fun K hK => ?_
   have F := rI
   refine RF ?_
   refine aG (b := !(unW p).isSome) rfl (fun hb => ?_) (fun hb => ?_)
   ·
    refine RF ?_
    refine bA ?_
    refine TQ rI ?_
    clear hK K
    clear hK K
    exact key false ls _ _ _ (fun h => by cases h) (fun _ => hst.bad hcut hne (bM5 hi' (by rw [← hp]; simpa using hb))) (by omega) (fF)
   refine aK ?_
   refine TQ rI ?_
   refine AX (hK _ _ _ ?_)
   clear hK K
   refine Rg ?_
   have F := aI rI (aI @List.length_append.{0} (aI @List.length_map.{0,0} hwl))
   refine AU ?_
   simp only [sE, ↓reduceIte, simprocAttr, rI]
   refine ⟨(show Fits 200 _ _ (fin []) _ 200 from aN (by omega) trivial ?_), zO hi' hΦ (by rw [← hp]; simpa using hb)⟩
   rw [aL3 hi', ← hp]
   simp [aY, fob_at, upd_at, none0_at, bX, HO.men, HV.men, HV.menL, HV.norm, HV.toC, HV.toCL]
  intro hΦ
  simp only [sE, ↓reduceIte, simprocAttr, rI]
  rw [List.length_map] at hΦ ⊢
  have hwl := pM (r := li) (Nat.le_refl _)
  have hul := bX0 hΦ
  have hsl := eB 32 li
  obtain ⟨ws, hws⟩ : ∃ ws, ws = wsT li (aP 32 li).length := ⟨_, rfl⟩
  rw [← hws] at hul hwl
  rw [← hws, ← hwl]
  refine AX (hK _ _ _ ?_)
  clear hK K
  refine aC fun K hK => ?_
  cases fd
  ·
   refine dW [168] (bG (fr2 := fin [(0, .c (.slc (rest.map u8))), (4, .own 32 ls.length), (5, .ptr 24 0), (7, .c (.slc (re.map u8))), (8, .c (.bool false)), (9, .ptr 152 0)]) (ob2 := fob [(24, .box 4 (.c (.bool true))), (32, .row 60 1 (ls.map lsC)), (152, .box 60 (.c (.slc (ws.map .str))))]) (nx2 := 300) (aN (by omega) (by simp [aW, gJ, fin_at, finA_at, upd_at, fob_at, HV.close, HV.closeL, CV.denil, CV.denilL, denilL_u8, HV.men, HV.menL, HV.norm, HV.toC, HV.toCL]) (by simp [aY, gK, fob_at, upd_at, none0_at, bX, HO.close, HV.close, HV.closeL, CV.denil, denilL_str, HO.men, HV.men, HV.menL, HV.norm, HV.toC, HV.toCL])) ?_)
   refine AU ?_
   refine CT rfl ?_
   refine RF ?_
   refine bA ?_
   refine TQ rI ?_
   clear hK K
   exact key false ls _ _ _ (fun h => by cases h) (fun _ => hst.bad0 hcut hne) (by omega) (fF)
  refine dW [168] (bG (fr2 := fin [(0, .c (.slc (rest.map u8))), (4, .own 32 ls.length), (5, .ptr 24 0), (7, .c (.slc (re.map u8))), (8, .c (.bool true)), (9, .ptr 152 0)]) (ob2 := fob [(24, .box 4 (.c (.bool true))), (32, .row 60 1 (ls.map lsC)), (152, .box 60 (.c (.slc (ws.map .str))))]) (nx2 := 300) (aN (by omega) (by simp [aW, gJ, fin_at, finA_at, upd_at, fob_at, HV.close, HV.closeL, CV.denil, CV.denilL, denilL_u8, HV.men, HV.menL, HV.norm, HV.toC, HV.toCL]) (by simp [aY, gK, fob_at, upd_at, none0_at, bX, HO.close, HV.close, HV.closeL, CV.denil, denilL_str, HO.men, HV.men, HV.menL, HV.norm, HV.toC, HV.toCL])) ?_)
  refine AU ?_
  refine SCF (aM8 ws (by omega)) ?_
  refine AU ?_
  refine aG (b := mE ws != 0) rfl (fun hb => ?_) (fun hb => ?_)
  ·
   refine RF ?_
   refine bA ?_
   refine TQ rI ?_
   clear hK K
   exact key false ls _ _ _ (fun h => by cases h) (fun _ => hst.bad hcut hne (by rw [hul, if_neg]; unfold okL; simpa using hb)) (by omega) (fF)
  refine aK ?_
  refine TQ rI ?_
  refine AX (hK _ _ _ ?_)
  clear hK K
  refine Rg ?_
  have F := aI rI (aI @List.length_append.{0} @List.length_map.{0,0})
  refine AU ?_
  simp only [sE, ↓reduceIte, simprocAttr, rI]
  have hok : okL ws = true := by unfold okL; simpa using hb
  refine ⟨⟨(re, ls ++ [ws]), hst.next hcut hne (by rw [hul, if_pos hok])⟩, aN (by omega) ?_ ?_, hlt.1⟩
  ·
   simp [aW, upd_at, fin_at, HV.men]
  simp only [aY, List.map_append]
  exact ⟨rfl, by omega, trivial, rfl, by omega, trivial, trivial⟩
 refine bA ?_
 refine TQ rI ?_
 clear hK K
 have hr0 : rest = [] := by simpa using hb
 subst hr0
 exact key true ls _ _ _ (fun _ => hst.fin) (fun h => by cases h) (by omega) (fF)

end Go.Proofs.YtlldglbooaefhaaGreatDoor

namespace Go.Proofs.YtlldglbooaefhaaGreatDoor
open Go Go.Hl Go.Pl
set_option maxRecDepth 10000
set_option maxHeartbeats 16000000

theorem cB8 (s : aJ) : fR Tryz.prog 107 [.str s] (fun u v => u = .int .i64 ((bJ s).getD 0) ∧ v = .bool (bJ s).isSome) := by
 refine FW Tryz.func107 ?_
 refine R0 ?_
 refine aC fun K hK => ?_
 have key : ∀ fr ob nx, gY s = false → Fits 0 fr ob (fin [(0, .c (.str s))]) (fob []) 100 → K fr ob nx := by
  intro fr ob nx hbad hf
  refine hK _ _ _ (bG hf ?_)
  clear hf hK K
  have hlen : s.length ≤ 13 := by
   simp only [gY, Bool.or_eq_false_iff, decide_eq_false_iff_not] at hbad
   omega
  refine R0 ?_
  refine aC fun K hK => ?_
  refine R0 ?_
  refine aL ?_
  refine bE (α := {y : Nat × Nat // DgSt s y.1 y.2}) (fun y => (fin [(0, .c (.str s)), (4, .c (.int .i64 y.1.2)), (5, .c (.int .i64 y.1.1))], fob [])) 200 (fun y => s.length - y.1.1) ⟨(0, 0), DgSt.init s⟩ (fF) ?_
  rintro ⟨⟨i, n⟩, hst⟩
  simp only at hst
  have hi := hst.1
  have hnl := hst.lt hlen
  refine aC fun K hK => ?_
  refine AU ?_
  refine aG (b := decide ((i : Int) < s.length)) rfl (fun hb => ?_) (fun hb => ?_)
  ·
   have hlt : i < s.length := by simpa using hb
   clear hb
   have hgd : s.getD i 0 = s[i] := by simp [hlt]
   have hdi := bO0 s[i]
   refine aK ?_
   refine T0 (hK _ _ _ ?_)
   clear hK K
   refine aC fun K hK => ?_
   refine aL ?_
   refine aC fun K hK => ?_
   have key2 : ∀ fr ob nx, nQ s[i] = true → Fits 0 fr ob (fin [(0, .c (.str s)), (4, .c (.int .i64 n)), (5, .c (.int .i64 i))]) (fob []) 300 → K fr ob nx := by
    intro fr ob nx hd hf
    refine hK _ _ _ (bG hf ?_)
    clear hf hK K
    have hd2 : 48 ≤ s[i].toNat ∧ s[i].toNat ≤ 57 := by simpa [nQ] using hd
    have e1 : IntKind.i64.wrap (10 * (n : Int)) = ((10 * n : Nat) : Int) := by rw [IntWalk.i64_in _ (by omega)]; omega
    have e2 : IntKind.u8.wrap ((s[i].toNat : Int) - 48) = ((s[i].toNat - 48 : Nat) : Int) := by rw [IntWalk.u8_in _ (by omega)]; omega
    have e3 : IntKind.i64.wrap ((s[i].toNat - 48 : Nat) : Int) = ((s[i].toNat - 48 : Nat) : Int) := by rw [IntWalk.i64_in _ (by omega)]
    have e4 : IntKind.i64.wrap (((10 * n : Nat) : Int) + ((s[i].toNat - 48 : Nat) : Int)) = ((10 * n + (s[i].toNat - 48) : Nat) : Int) := by rw [IntWalk.i64_in _ (by omega)]; omega
    refine Rg ?_
    iterate 9 refine S0 ?_ (e := fun _ h_ => by simp only [sH, ↓sP, sA, tyS, simprocAttr, Int.natCast_nonneg, Int.ofNat_lt, hlt, hgd, e1, e2, e3, e4]; exact AX h_)
    refine T2 (hK _ _ _ ?_)
    clear hK K
    refine aM (by kernel_rfl) ?_
    refine TQ (iN i) ?_
    refine ⟨⟨(i + 1, 10 * n + (s[i].toNat - 48)), hst.next hlt hd⟩, fF, ?_⟩
    show s.length - (i + 1) < s.length - i
    omega
   refine RS ?_
   iterate 5 refine S0 ?_ (e := fun _ h_ => by simp only [sH, ↓sP, sA, tyS, simprocAttr, Int.natCast_nonneg, Int.ofNat_lt, hlt, hgd]; exact AX h_)
   refine aE 33 rfl (fun h7_33 => ?_) (fun h7_33 => ?_)
   ·
    iterate 5 refine S0 ?_ (e := fun _ h_ => by simp only [sH, ↓sP, sA, tyS, simprocAttr, Int.natCast_nonneg, Int.ofNat_lt, hlt, hgd, h7_33]; exact AX h_)
    refine RE ?_
    refine CT rfl ?_
    refine R0 ?_
    refine aF (RT Tryz.results107 ?_)
    have hd : nQ s[i] = false := by simp only [nQ, Bool.and_eq_false_iff, decide_eq_false_iff_not]; simp at h7_33; omega
    have hn := zZ (hst.bad hlt hd)
    exact aR [] (.int .i64 0) (.bool false) rfl ⟨by rw [hn]; rfl, by rw [hn]; rfl⟩
   iterate 5 refine S0 ?_ (e := fun _ h_ => by simp only [sH, ↓sP, sA, tyS, simprocAttr, Int.natCast_nonneg, Int.ofNat_lt, hlt, hgd, h7_33]; exact AX h_)
   refine aE 38 rfl (fun h7_38 => ?_) (fun h7_38 => ?_)
   ·
    simp only [h7_38]
    refine RE ?_
    refine CT rfl ?_
    refine R0 ?_
    refine aF (RT Tryz.results107 ?_)
    have hd : nQ s[i] = false := by simp only [nQ, Bool.and_eq_false_iff, decide_eq_false_iff_not]; simp at h7_38; omega
    have hn := zZ (hst.bad hlt hd)
    exact aR [] (.int .i64 0) (.bool false) rfl ⟨by rw [hn]; rfl, by rw [hn]; rfl⟩
   simp only [h7_38]
   refine RE ?_
   refine CF rfl ?_
   refine aK (T3 ?_)
   exact key2 _ _ _ (by simp only [nQ, Bool.and_eq_true, decide_eq_true_eq]; simp at h7_33 h7_38; omega) (fF)
  refine bA (T3 ?_)
  clear hK K
  refine AX (hK _ _ _ ?_)
  clear hK K
  refine aC fun K hK => ?_
  have hfin := hst.fin (by simp at hb; omega)
  clear hb
  refine R0 ?_
  refine aG (b := decide ((1099511627776 : Int) < (n : Int))) rfl (fun hb => ?_) (fun hb => ?_)
  ·
   refine R0 ?_
   refine aF (RT Tryz.results107 ?_)
   have hn := bN9 hfin (by simp at hb; omega)
   exact aR [] (.int .i64 0) (.bool false) rfl ⟨by rw [hn]; rfl, by rw [hn]; rfl⟩
  refine aK ?_
  refine T0 (hK _ _ _ ?_)
  clear hK K
  refine R0 ?_
  refine aF (RT Tryz.results107 ?_)
  have hn := aZ3 hbad hfin (by simp at hb; omega)
  exact aR [] (.int .i64 n) (.bool true) rfl ⟨by rw [hn]; rfl, by rw [hn]; rfl⟩
 refine aC fun K hK => Rg ?_
 refine AU ?_
 refine aE 8 rfl (fun h1_8 => ?_) (fun h1_8 => ?_)
 ·
  have F := h1_8
  refine AU ?_
  refine T2 (hK _ _ _ ?_)
  clear hK K
  refine CT rfl ?_
  refine R0 ?_
  refine aF (RT Tryz.results107 ?_)
  have hn : bJ s = none := wZ (by simp only [gY, Bool.or_eq_true, decide_eq_true_eq]; simp at h1_8; left; left; omega)
  exact aR [] (.int .i64 0) (.bool false) rfl ⟨by rw [hn]; rfl, by rw [hn]; rfl⟩
 have F := h1_8
 refine AU ?_
 refine aE 12 rfl (fun h1_12 => ?_) (fun h1_12 => ?_)
 ·
  have F := aI h1_8 h1_12
  refine AU ?_
  refine T2 (hK _ _ _ ?_)
  clear hK K
  refine CT rfl ?_
  refine R0 ?_
  refine aF (RT Tryz.results107 ?_)
  have hn : bJ s = none := wZ (by simp only [gY, Bool.or_eq_true, decide_eq_true_eq]; simp at h1_12; left; right; omega)
  exact aR [] (.int .i64 0) (.bool false) rfl ⟨by rw [hn]; rfl, by rw [hn]; rfl⟩
 have F := aI h1_8 h1_12
 refine AU ?_
 refine aE 17 rfl (fun h1_17 => ?_) (fun h1_17 => ?_)
 ·
  have F := aI h1_8 (aI h1_12 h1_17)
  refine SF ?_
  refine bM (g := some (18, true)) rfl rfl fun K' hK' => T6 ?_
  refine ⟨by simp at h1_17; omega, ?_⟩
  refine AX (hK' _ _ ?_)
  clear hK' K'
  refine AU ?_
  refine aE 21 rfl (fun h1_21 => ?_) (fun h1_21 => ?_)
  ·
   simp only [h1_21]
   refine T2 (hK _ _ _ ?_)
   clear hK K
   refine CT rfl ?_
   refine R0 ?_
   refine aF (RT Tryz.results107 ?_)
   have hn : bJ s = none := wZ (by
    simp only [gY, Bool.or_eq_true, Bool.and_eq_true, decide_eq_true_eq, beq_iff_eq]
    right
    refine ⟨by simp at h1_17; omega, UInt8.toNat_inj.1 ?_⟩
    simp only [beq_iff_eq] at h1_21
    show (s.getD 0 0).toNat = 48
    omega)
   exact aR [] (.int .i64 0) (.bool false) rfl ⟨by rw [hn]; rfl, by rw [hn]; rfl⟩
  simp only [h1_21]
  refine T2 (hK _ _ _ ?_)
  clear hK K
  refine CF rfl ?_
  refine aK (T3 ?_)
  refine key _ _ _ ?_ (fF)
  simp only [gY, Bool.or_eq_false_iff, Bool.and_eq_false_iff, decide_eq_false_iff_not, beq_eq_false_iff_ne, ne_eq]
  simp only [decide_eq_false_iff_not, decide_eq_true_eq] at h1_8 h1_12
  refine ⟨⟨by omega, by omega⟩, ?_⟩
  first
   | (right; intro h0; rw [h0] at h1_21; simp at h1_21)
   | (left; simp at h1_17; omega)
 have F := aI h1_8 (aI h1_12 h1_17)
 refine AU ?_
 refine T2 (hK _ _ _ ?_)
 clear hK K
 refine CF rfl ?_
 refine aK (T3 ?_)
 refine key _ _ _ ?_ (fF)
 simp only [gY, Bool.or_eq_false_iff, Bool.and_eq_false_iff, decide_eq_false_iff_not, beq_eq_false_iff_ne, ne_eq]
 simp only [decide_eq_false_iff_not, decide_eq_true_eq] at h1_8 h1_12
 refine ⟨⟨by omega, by omega⟩, ?_⟩
 first
  | (right; intro h0; rw [h0] at h1_21; simp at h1_21)
  | (left; simp at h1_17; omega)


theorem aQ2 (c : UInt8) : bQ Tryz.prog 95 [.int .u8 c.toNat] (fun v => v = .int .i64 (valH c : Nat)) := by
 refine FW Tryz.func95 ?_
 refine R0 ?_
 refine aC fun K hK => ?_
 refine aC fun K hK => Rg ?_
 iterate 3 refine S0 ?_
 refine aE 4 rfl (fun h1_4 => ?_) (fun h1_4 => ?_)
 ·
  have F := h1_4
  iterate 3 refine SF ?_
  refine aE 7 rfl (fun h1_7 => ?_) (fun h1_7 => ?_)
  ·
   simp only [h1_7]
   refine T2 (hK _ _ _ ?_)
   clear hK K
   refine CT rfl ?_
   have e1 : IntKind.u8.wrap ((c.toNat : Int) - 48) = ((c.toNat - 48 : Nat) : Int) := by simp at h1_4 h1_7; rw [IntWalk.u8_in _ (by omega)]; omega
   have e2 : IntKind.i64.wrap ((c.toNat - 48 : Nat) : Int) = ((c.toNat - 48 : Nat) : Int) := by have := c.toNat_lt; rw [IntWalk.i64_in _ (by omega)]
   refine aC fun K hK => Rg ?_
   have F := aI e1 (aI e2 (aI h1_4 h1_7))
   iterate 4 refine SF ?_
   refine T2 (hK _ _ _ ?_)
   clear hK K
   refine aF (RT Tryz.results95 ?_)
   refine aH [] _ rfl ?_
   simp only [decide_eq_true_eq, decide_eq_false_iff_not] at *
   refine congrArg (CV.int IntKind.i64) ?_
   unfold valH
   split <;> (try split) <;> omega
  simp only [h1_7]
  refine T2 (hK _ _ _ ?_)
  clear hK K
  refine CF rfl ?_
  refine aK ?_
  refine T0 (hK _ _ _ ?_)
  clear hK K
  refine aC fun K hK => ?_
  refine aC fun K hK => Rg ?_
  have F := aI h1_4 h1_7
  iterate 3 refine SF ?_
  refine aE 13 rfl (fun h3_13 => ?_) (fun h3_13 => ?_)
  ·
   have F := aI h1_4 (aI h1_7 h3_13)
   iterate 3 refine SF ?_
   refine aE 16 rfl (fun h3_16 => ?_) (fun h3_16 => ?_)
   ·
    simp only [h3_16]
    refine T2 (hK _ _ _ ?_)
    clear hK K
    refine CT rfl ?_
    have e1 : IntKind.u8.wrap ((c.toNat : Int) - 65) = ((c.toNat - 65 : Nat) : Int) := by simp at h3_13 h3_16; rw [IntWalk.u8_in _ (by omega)]; omega
    have e2 : IntKind.i64.wrap ((c.toNat - 65 : Nat) : Int) = ((c.toNat - 65 : Nat) : Int) := by have := c.toNat_lt; rw [IntWalk.i64_in _ (by omega)]
    have e3 : IntKind.i64.wrap (((c.toNat - 65 : Nat) : Int) + 10) = ((c.toNat - 65 + 10 : Nat) : Int) := by have := c.toNat_lt; rw [IntWalk.i64_in _ (by omega)]; omega
    refine aC fun K hK => Rg ?_
    have F := aI e1 (aI e2 (aI e3 (aI h1_4 (aI h1_7 (aI h3_13 h3_16)))))
    iterate 5 refine SF ?_
    refine T2 (hK _ _ _ ?_)
    clear hK K
    refine aF (RT Tryz.results95 ?_)
    refine aH [] _ rfl ?_
    simp only [decide_eq_true_eq, decide_eq_false_iff_not] at *
    refine congrArg (CV.int IntKind.i64) ?_
    unfold valH
    split <;> (try split) <;> omega
   simp only [h3_16]
   refine T2 (hK _ _ _ ?_)
   clear hK K
   refine CF rfl ?_
   refine aK ?_
   refine T0 (hK _ _ _ ?_)
   clear hK K
   refine R0 ?_
   refine aF (RT Tryz.results95 ?_)
   refine aH [] _ rfl ?_
   simp only [decide_eq_true_eq, decide_eq_false_iff_not] at *
   refine congrArg (CV.int IntKind.i64) ?_
   unfold valH
   split <;> (try split) <;> omega
  have F := aI h1_4 (aI h1_7 h3_13)
  iterate 3 refine SF ?_
  refine T2 (hK _ _ _ ?_)
  clear hK K
  refine CF rfl ?_
  refine aK ?_
  refine T0 (hK _ _ _ ?_)
  clear hK K
  refine R0 ?_
  refine aF (RT Tryz.results95 ?_)
  refine aH [] _ rfl ?_
  simp only [decide_eq_true_eq, decide_eq_false_iff_not] at *
  refine congrArg (CV.int IntKind.i64) ?_
  unfold valH
  split <;> (try split) <;> omega
 have F := h1_4
 iterate 3 refine SF ?_
 refine T2 (hK _ _ _ ?_)
 clear hK K
 refine CF rfl ?_
 refine aK ?_
 refine T0 (hK _ _ _ ?_)
 clear hK K
 refine aC fun K hK => ?_
 refine aC fun K hK => Rg ?_
 iterate 3 refine SF ?_
 refine aE 13 rfl (fun h3_13 => ?_) (fun h3_13 => ?_)
 ·
  have F := aI h1_4 h3_13
  iterate 3 refine SF ?_
  refine aE 16 rfl (fun h3_16 => ?_) (fun h3_16 => ?_)
  ·
   simp only [h3_16]
   refine T2 (hK _ _ _ ?_)
   clear hK K
   refine CT rfl ?_
   have e1 : IntKind.u8.wrap ((c.toNat : Int) - 65) = ((c.toNat - 65 : Nat) : Int) := by simp at h3_13 h3_16; rw [IntWalk.u8_in _ (by omega)]; omega
   have e2 : IntKind.i64.wrap ((c.toNat - 65 : Nat) : Int) = ((c.toNat - 65 : Nat) : Int) := by have := c.toNat_lt; rw [IntWalk.i64_in _ (by omega)]
   have e3 : IntKind.i64.wrap (((c.toNat - 65 : Nat) : Int) + 10) = ((c.toNat - 65 + 10 : Nat) : Int) := by have := c.toNat_lt; rw [IntWalk.i64_in _ (by omega)]; omega
   refine aC fun K hK => Rg ?_
   have F := aI e1 (aI e2 (aI e3 (aI h1_4 (aI h3_13 h3_16))))
   iterate 5 refine SF ?_
   refine T2 (hK _ _ _ ?_)
   clear hK K
   refine aF (RT Tryz.results95 ?_)
   refine aH [] _ rfl ?_
   simp only [decide_eq_true_eq, decide_eq_false_iff_not] at *
   refine congrArg (CV.int IntKind.i64) ?_
   unfold valH
   split <;> (try split) <;> omega
  simp only [h3_16]
  refine T2 (hK _ _ _ ?_)
  clear hK K
  refine CF rfl ?_
  refine aK ?_
  refine T0 (hK _ _ _ ?_)
  clear hK K
  refine R0 ?_
  refine aF (RT Tryz.results95 ?_)
  refine aH [] _ rfl ?_
  simp only [decide_eq_true_eq, decide_eq_false_iff_not] at *
  refine congrArg (CV.int IntKind.i64) ?_
  unfold valH
  split <;> (try split) <;> omega
 have F := aI h1_4 h3_13
 iterate 3 refine SF ?_
 refine T2 (hK _ _ _ ?_)
 clear hK K
 refine CF rfl ?_
 refine aK ?_
 refine T0 (hK _ _ _ ?_)
 clear hK K
 refine R0 ?_
 refine aF (RT Tryz.results95 ?_)
 refine aH [] _ rfl ?_
 simp only [decide_eq_true_eq, decide_eq_false_iff_not] at *
 refine congrArg (CV.int IntKind.i64) ?_
 unfold valH
 split <;> (try split) <;> omega

end Go.Proofs.YtlldglbooaefhaaGreatDoor

namespace Go.Proofs.YtlldglbooaefhaaGreatDoor
open Go Go.Hl Go.Pl
set_option maxRecDepth 10000
set_option maxHeartbeats 16000000

def rdr (ls : List (List aJ)) (a : Nat) : CV := .agg [.slc (ls.map lsC), .int .i64 a]
theorem aC1 (ls : List (List aJ)) (a k : Nat) (w : aJ) (hk : 1 ≤ k) : aS4 Tryz.prog 88 94 (rdr ls a) [.str w, .int .i64 k] (fun u v' => u = .bool (isV ls a w k) ∧ v' = rdr ls a) := by
 refine bR Tryz.func88 rfl (by kernel_rfl) (cZ _ _ _) (Nat.le_of_ble_eq_true rfl) ?_
 refine R0 ?_
 refine aC fun K hK => QR ?_
 iterate 11 refine S0 ?_ (e := fun _ h_ => by simp only [sH, ↓sP, sA, tyS, simprocAttr, rdr, Int.natCast_nonneg]; exact AX h_)
 refine aE 16 rfl (fun h1_16 => ?_) (fun h1_16 => ?_)
 ·
  iterate 8 refine S0 ?_ (e := fun _ h_ => by simp only [sH, ↓sP, sA, tyS, simprocAttr, rdr, Int.natCast_nonneg, h1_16]; exact AX h_)
  refine bM (g := some (17, true)) rfl rfl fun K' hK' => ?_
  simp only [sH, ↓sP, sA, tyS, simprocAttr, rdr, Int.natCast_nonneg, h1_16]
  have hlt : a < ls.length := by simpa using h1_16
  simp only [↓sP, sA, tyS, simprocAttr, Int.natCast_nonneg, Int.ofNat_lt, hlt, bK hlt, lsC]
  refine AX (hK' _ _ ?_)
  clear hK' K'
  iterate 6 refine S0 ?_ (e := fun _ h_ => by simp only [sH, ↓sP, sA, tyS, simprocAttr, rdr, Int.natCast_nonneg, h1_16]; exact AX h_)
  refine aE 30 rfl (fun h1_30 => ?_) (fun h1_30 => ?_)
  ·
   iterate 8 refine S0 ?_ (e := fun _ h_ => by simp only [sH, ↓sP, sA, tyS, simprocAttr, rdr, Int.natCast_nonneg, h1_16, h1_30]; exact AX h_)
   refine bM (g := some (32, true)) rfl rfl fun K' hK' => ?_
   simp only [sH, ↓sP, sA, tyS, simprocAttr, rdr, Int.natCast_nonneg, h1_16, h1_30]
   have hlt : a < ls.length := by simpa using h1_16
   have h0 : 0 < ls[a].length := by simp at h1_30; omega
   simp only [↓sP, sA, tyS, simprocAttr, Int.natCast_nonneg, Int.ofNat_lt, hlt, bK hlt, lsC]
   refine AX (hK' _ _ ?_)
   clear hK' K'
   refine S0 ?_ (e := fun _ h_ => by simp only [sH, ↓sP, sA, tyS, simprocAttr, rdr, Int.natCast_nonneg, h1_16, h1_30]; exact AX h_)
   refine bM (g := some (32, true)) rfl rfl fun K' hK' => ?_
   simp only [sH, ↓sP, sA, tyS, simprocAttr, rdr, Int.natCast_nonneg, h1_16, h1_30]
   have hlt : a < ls.length := by simpa using h1_16
   have h0 : 0 < ls[a].length := by simp at h1_30; omega
   simp only [↓sP, sA, tyS, simprocAttr, Int.natCast_pos, h0, bK h0]
   refine AX (hK' _ _ ?_)
   clear hK' K'
   iterate 5 refine S0 ?_ (e := fun _ h_ => by simp only [sH, ↓sP, sA, tyS, simprocAttr, rdr, Int.natCast_nonneg, h1_16, h1_30]; exact AX h_)
   refine T2 (hK _ _ _ ?_)
   clear hK K
   refine aF (RT Tryz.results88 ?_)
   have hlt : a < ls.length := by simpa using h1_16
   have h30 : ls[a].length = k := by simpa [Int.ofNat_inj] using h1_30
   refine fE [] (.bool _) (rdr ls a) rfl rfl (by simp [HV.close, HV.closeL, rdr, CV.denil, CV.denilL, aQ, HV.norm, HV.toC, HV.toCL]) (by simp) ⟨?_, rfl⟩
   rw [jC hlt, h30]; simp [wd, show 0 < ls[a].length by omega]
  iterate 16 refine S0 ?_ (e := fun _ h_ => by simp only [sH, ↓sP, sA, tyS, simprocAttr, rdr, Int.natCast_nonneg, h1_16, h1_30]; exact AX h_)
  refine T2 (hK _ _ _ ?_)
  clear hK K
  refine aF (RT Tryz.results88 ?_)
  have hlt : a < ls.length := by simpa using h1_16
  have h30 : ¬ ls[a].length = k := by simpa [Int.ofNat_inj] using h1_30
  refine fE [] (.bool false) (rdr ls a) rfl rfl (by simp [HV.close, HV.closeL, rdr, CV.denil, CV.denilL, aQ, HV.norm, HV.toC, HV.toCL]) (by simp) ⟨?_, rfl⟩
  rw [jC hlt]; simp [h30]
 iterate 31 refine S0 ?_ (e := fun _ h_ => by simp only [sH, ↓sP, sA, tyS, simprocAttr, rdr, Int.natCast_nonneg, h1_16]; exact AX h_)
 refine T2 (hK _ _ _ ?_)
 clear hK K
 refine aF (RT Tryz.results88 ?_)
 have hlt : ¬ a < ls.length := by simpa using h1_16
 refine fE [] (.bool false) (rdr ls a) rfl rfl (by simp [HV.close, HV.closeL, rdr, CV.denil, CV.denilL, aQ, HV.norm, HV.toC, HV.toCL]) (by simp) ⟨?_, rfl⟩
 rw [aG2 hlt]


theorem lU (ls : List (List aJ)) (a j : Nat) (ha : a < ls.length) (hj : j < ls[a].length) : uD Tryz.prog 89 94 (rdr ls a) [.int .i64 j] (fun u x v' => u = .int .i64 ((bJ (wd ls[a] j)).getD 0) ∧ x = .bool (bJ (wd ls[a] j)).isSome ∧ v' = rdr ls a) := by
 refine bR Tryz.func89 rfl (by kernel_rfl) (cZ _ _ _) (Nat.le_of_ble_eq_true rfl) ?_
 refine R0 ?_
 refine aC fun K hK => DW [(0, [], []), (1, [], []), (2, [], []), (3, [], []), (4, [], []), (5, [], []), (6, [], []), (7, [], []), (8, [], []), (9, [], []), (10, [], []), (11, [], []), (12, [], []), (13, [], []), (14, [], []), (15, [], []), (16, [], []), (17, [], [])] [0, 1, 3, 7, 0, 16, 48, 112, 255, 511, 0, 2047, 4095, 8191, 16383, 16383, 65535, 131071] ?_
 iterate 13 refine W0 ?_ (e := fun _ h_ => by simp only [sH, ↓sP, sA, tyS, simprocAttr, rdr, Int.natCast_nonneg, Int.ofNat_lt, ha, bK ha, lsC, hj, bK hj]; exact AX h_)
 refine cF (g := none) rfl rfl fun K' hK' => ?_
 simp only [sH, ↓sP, sA, tyS, simprocAttr, rdr, Int.natCast_nonneg, Int.ofNat_lt, ha, bK ha, lsC, hj, bK hj]
 refine D1 (cB8 ls[a][j]) ?_
 rintro u v ⟨rfl, rfl⟩
 refine AX (hK' _ _ ?_)
 clear hK' K'
 iterate 4 refine W0 ?_ (e := fun _ h_ => by simp only [sH, ↓sP, sA, tyS, simprocAttr, rdr, Int.natCast_nonneg, Int.ofNat_lt, ha, bK ha, lsC, hj, bK hj]; exact AX h_)
 refine T2 (hK _ _ _ ?_)
 clear hK K
 refine aF (RT Tryz.results89 ?_)
 exact bT [] (.int .i64 _) (.bool _) (rdr ls a) rfl rfl (by simp [HV.close, HV.closeL, rdr, CV.denil, CV.denilL, aQ, HV.norm, HV.toC, HV.toCL, lsC]) (by simp) ⟨by simp [wd, hj], by simp [wd, hj], rfl⟩

end Go.Proofs.YtlldglbooaefhaaGreatDoor

namespace Go.Proofs.YtlldglbooaefhaaGreatDoor
open Go Go.Hl Go.Pl
set_option maxRecDepth 10000
set_option maxHeartbeats 16000000

theorem oA (ls : List (List aJ)) (a : Nat) (w : aJ) (ha : ls.length < 2 ^ 40) : aS4 Tryz.prog 130 94 (rdr ls a) [.str w, .slc []] (fun u v' => u = .bool (isV ls a w 1) ∧ v' = rdr ls (if isV ls a w 1 then a + 1 else a)) := by
 refine bR Tryz.func130 rfl (by kernel_rfl) (cZ _ _ _) (Nat.le_of_ble_eq_true rfl) ?_
 refine R0 ?_
 refine aC fun K hK => ?_
 refine aC fun K hK => Rg ?_
 refine AU ?_
 refine HS rfl rfl fun K' hK' => T5 ?_
 refine bS (args := [_, _]) (aC1 ls a 1 w (by omega)) rfl (by simp) ⟨rfl, rfl, rfl, rfl⟩ ?_
 rintro u v' ⟨rfl, rfl⟩
 refine AX (hK' _ _ ?_)
 clear hK' K'
 refine S0 ?_
 refine T2 (hK _ _ _ ?_)
 clear hK K
 refine aG (b := !isV ls a w 1) rfl (fun hb => ?_) (fun hb => ?_)
 ·
  refine R0 ?_
  refine aF (RT Tryz.results130 ?_)
  have hv : isV ls a w 1 = false := by simpa using hb
  refine fE [] (.bool false) (rdr ls a) rfl rfl (by simp [HV.close, HV.closeL, rdr, CV.denil, CV.denilL, aQ, HV.norm, HV.toC, HV.toCL]) (by simp) ⟨by rw [hv], by rw [hv]; rfl⟩
 refine aK ?_
 refine T0 (hK _ _ _ ?_)
 clear hK K
 refine aC fun K hK => ?_
 have hv : isV ls a w 1 = true := by simpa using hb
 obtain ⟨hl, hl1, hl2⟩ := gF hv
 rw [hv]
 clear hb
 refine R0 ?_
 refine aL ?_
 refine bE (α := {i : Nat // i = 0}) (fun i => (fin [(0, .ptr 0 0), (18, .c (.slc [])), (19, .c (.int .i64 0)), (20, .c (.int .i64 0))], fob [(0, .box 94 (.c (rdr ls a)))])) 100 (fun i => 0) ⟨0, rfl⟩ (fF) ?_
 rintro ⟨i, hi⟩
 refine R0 ?_
 refine aC fun K hK => ?_
 refine CF rfl ?_
 refine bA (T3 ?_)
 clear hK K
 refine AX (hK _ _ _ ?_)
 clear hK K
 have hw : IntKind.i64.wrap ((a : Int) + 1) = ((a + 1 : Nat) : Int) := IntWalk.i64_in _ (by omega)
 refine RS ?_
 iterate 8 refine S0 ?_ (e := fun _ h_ => by simp only [sH, ↓sP, sA, tyS, simprocAttr, rdr, hw]; exact AX h_)
 refine AU ?_
 refine aF (RT Tryz.results130 ?_)
 refine fE [] (.bool true) (rdr ls (a + 1)) rfl rfl (by simp [HV.close, HV.closeL, rdr, CV.denil, CV.denilL, aQ, HV.norm, HV.toC, HV.toCL]) (by simp) ⟨by rw [hv], by rw [hv]; rfl⟩


theorem cM1 (ls : List (List aJ)) (a : Nat) (x : Int) : lst [.box 94 (.c (rdr ls a)), .hrow 176 1 [.ptr 2 0], .box 2 (.c (.int .i64 x))] = fob [(0, .box 94 (.c (rdr ls a))), (1, .hrow 176 1 [.ptr 2 0]), (2, .box 2 (.c (.int .i64 x)))] := by
 funext i
 match i with
 | 0 => rfl
 | 1 => rfl
 | 2 => rfl
 | i + 3 => simp [lst, fob, upd]

theorem bU3 (ls : List (List aJ)) (a : Nat) (w : aJ) (x : Int) (ha : ls.length < 2 ^ 40) :
  HGe Tryz.prog 130 [.ptr 0 0, .c (.str w), .own 1 1] [.box 94 (.c (rdr ls a)), .hrow 176 1 [.ptr 2 0], .box 2 (.c (.int .i64 x))]
   (fun r os' => r = .c (.bool (gD ls a w).isSome) ∧ os' = [.box 94 (.c (rdr ls (if (gD ls a w).isSome then a + 1 else a))), .hrow 176 1 [.ptr 2 0], .box 2 (.c (.int .i64 ((gD ls a w).getD x)))]) := by
 refine bR (args := [.ptr 0 0, .c (.str w), .own 1 1]) Tryz.func130 rfl (by kernel_rfl) (fX rfl (by simp [eO, HO.men, HV.men, HV.menL]) (by simp [HV.menL, HV.men])) (Nat.le_of_ble_eq_true rfl) ?_
 show Hw _ _ 3 _ _ _ (lst _) 3
 rw [cM1]
 refine R0 ?_
 refine aC fun K hK => ?_
 refine aC fun K hK => bB (by kernel_rfl) ?_
 simp only [sR, simprocAttr]
 iterate 3 refine SG0 ?_
 refine bY (g := none) rfl rfl fun K' hK' => ?_
 simp only [sN, ↓hopH.eq_def, sH, ↓sP, sA, tyS, simprocAttr]
 refine AX (hK' _ _ ?_)
 clear hK' K'
 refine SG0 ?_
 refine bI (g := none) rfl rfl fun K' hK' => T5 ?_
 refine bS (args := [_, _]) (aC1 ls a 2 w (by omega)) rfl (by simp) ⟨rfl, rfl, rfl, rfl⟩ ?_
 rintro u v' ⟨rfl, rfl⟩
 refine AX (hK' _ _ ?_)
 clear hK' K'
 refine SG0 ?_
 refine T2 (hK _ _ _ ?_)
 clear hK K
 refine aG (b := !isV ls a w 2) rfl (fun hb => ?_) (fun hb => ?_)
 ·
  refine R0 ?_
  refine aF (RT Tryz.results130 ?_)
  have hv : isV ls a w 2 = false := by simpa using hb
  rw [cA3 hv]
  exact eE [] [] (.c (.bool false)) [.box 94 (.c (rdr ls a)), .hrow 176 1 [.ptr 2 0], .box 2 (.c (.int .i64 x))] rfl (by simp [HV.men]) (⟨⟨by simp [HO.men, HV.men], by simp, _, rfl, by simp [HO.close, HV.close, HV.closeL, HO.ren, HV.ren, HV.renL, tau, CV.denil, HV.norm, fY, upd_at, fob_at, HV.toC, HV.toCL, rdr, CV.denilL, aQ]⟩, ⟨by simp [HO.men, HV.men, HV.menL], by simp, _, rfl, by simp [HO.close, HV.close, HV.closeL, HO.ren, HV.ren, HV.renL, tau, CV.denil, HV.norm, fY, upd_at, fob_at, HV.toC, HV.toCL]⟩, ⟨by simp [HO.men, HV.men], by simp, _, rfl, by simp [HO.close, HV.close, HV.closeL, HO.ren, HV.ren, HV.renL, tau, CV.denil, HV.norm, fY, upd_at, fob_at, HV.toC, HV.toCL]⟩, trivial⟩) rfl List.nodup_nil (by simp) (by simp) ⟨rfl, rfl⟩
 refine aK ?_
 refine T0 (hK _ _ _ ?_)
 clear hK K
 refine aC fun K hK => ?_
 have hv : isV ls a w 2 = true := by simpa using hb
 obtain ⟨hl, hl1, hl2⟩ := gF hv
 have hnum := aG3 hv hl
 have hw : IntKind.i64.wrap ((a : Int) + 1) = ((a + 1 : Nat) : Int) := IntWalk.i64_in _ (by omega)
 clear hb
 refine aC fun K hK => bB (by kernel_rfl) ?_
 simp only [sR, simprocAttr]
 refine SG0 ?_
 refine bY (g := none) rfl rfl fun K' hK' => ?_
 simp only [sN, ↓hopH.eq_def, sH, ↓sP, sA, tyS, simprocAttr]
 refine AX (hK' _ _ ?_)
 clear hK' K'
 refine SG0 ?_
 refine T2 (hK _ _ _ ?_)
 clear hK K
 refine aL ?_
 refine bE (α := {y : Nat × Int // (y.1 = 0 ∧ y.2 = x) ∨ (y.1 = 1 ∧ bJ (wd ls[a] 1) = some y.2)}) (fun y => (fin [(0, .ptr 0 0), (18, .own 1 1), (19, .c (.int .i64 1)), (20, .c (.int .i64 y.1.1))], fob [(0, .box 94 (.c (rdr ls a))), (1, .hrow 176 1 [.ptr 2 0]), (2, .box 2 (.c (.int .i64 y.1.2)))])) 100 (fun y => 1 - y.1.1) ⟨(0, x), .inl ⟨rfl, rfl⟩⟩ (fF) ?_
 rintro ⟨⟨i, y⟩, hiy⟩
 simp only at hiy
 refine R0 ?_
 refine aC fun K hK => ?_
 refine aG (b := decide ((i : Int) < 1)) rfl (fun hb => ?_) (fun hb => ?_)
 ·
  have hi0 : i = 0 := by simp at hb; omega
  subst hi0
  obtain rfl : y = x := by rcases hiy with h | h; exact h.2; exact absurd h.1 (by decide)
  clear hb
  refine aK ?_
  refine T0 (hK _ _ _ ?_)
  clear hK K
  refine aC fun K hK => ?_
  refine aL ?_
  refine aC fun K hK => bB (by kernel_rfl) ?_
  simp only [sR, simprocAttr]
  refine SG0 ?_
  refine bY (g := none) rfl rfl fun K' hK' => ?_
  simp only [sN, ↓hopH.eq_def, sH, ↓sP, sA, tyS, simprocAttr]
  refine AX (hK' _ _ ?_)
  clear hK' K'
  refine bY (g := none) rfl rfl fun K' hK' => ?_
  simp only [sN, ↓hopH.eq_def, sH, ↓sP, sA, tyS, simprocAttr]
  refine AX (hK' _ _ ?_)
  clear hK' K'
  iterate 2 refine SG0 ?_
  refine T2 (hK _ _ _ ?_)
  clear hK K
  refine aC fun K hK => Rg ?_
  refine AU ?_
  refine HS rfl rfl fun K' hK' => T5 ?_
  refine eA (args := [_]) (lU ls a 1 hl (by omega)) rfl (by simp) ⟨rfl, rfl, rfl, rfl⟩ ?_
  rintro u x' v' ⟨rfl, rfl, rfl⟩
  refine AX (hK' _ _ ?_)
  clear hK' K'
  refine AU ?_
  refine T2 (hK _ _ _ ?_)
  clear hK K
  refine aC fun K hK => ?_
  refine R0 ?_
  refine aG (b := !(bJ (wd ls[a] 1)).isSome) rfl (fun hb => ?_) (fun hb => ?_)
  ·
   have hno : bJ (wd ls[a] 1) = none := by simpa using hb
   rw [hno] at hnum
   refine R0 ?_
   refine aF (RT Tryz.results130 ?_)
   rw [hnum]
   exact eE [] [] (.c (.bool false)) [.box 94 (.c (rdr ls a)), .hrow 176 1 [.ptr 2 0], .box 2 (.c (.int .i64 y))] rfl (by simp [HV.men]) (⟨⟨by simp [HO.men, HV.men], by simp, _, rfl, by simp [HO.close, HV.close, HV.closeL, HO.ren, HV.ren, HV.renL, tau, CV.denil, HV.norm, fY, upd_at, fob_at, HV.toC, HV.toCL, rdr, CV.denilL, aQ]⟩, ⟨by simp [HO.men, HV.men, HV.menL], by simp, _, rfl, by simp [HO.close, HV.close, HV.closeL, HO.ren, HV.ren, HV.renL, tau, CV.denil, HV.norm, fY, upd_at, fob_at, HV.toC, HV.toCL]⟩, ⟨by simp [HO.men, HV.men], by simp, _, rfl, by simp [HO.close, HV.close, HV.closeL, HO.ren, HV.ren, HV.renL, tau, CV.denil, HV.norm, fY, upd_at, fob_at, HV.toC, HV.toCL]⟩, trivial⟩) rfl List.nodup_nil (by simp) (by simp) ⟨rfl, rfl⟩
  obtain ⟨n, hn⟩ : ∃ n, bJ (wd ls[a] 1) = some n := by
   cases h : bJ (wd ls[a] 1) with
   | none => rw [h] at hb; simp at hb
   | some n => exact ⟨n, rfl⟩
  simp only [hn, Option.getD_some, Option.isSome_some, Bool.not_true]
  clear hb
  refine aK ?_
  refine T0 (hK _ _ _ ?_)
  clear hK K
  refine Rg ?_
  refine AU ?_
  refine T2 (hK _ _ _ ?_)
  clear hK K
  refine aM (by kernel_rfl) ?_
  refine TQ (show IntKind.i64.wrap 1 = 1 from rfl) ?_
  refine ⟨⟨(1, n), .inr ⟨rfl, hn⟩⟩, fF, ?_⟩
  show 1 - 1 < 1 - 0
  omega
 refine bA (T3 ?_)
 clear hK K
 refine AX (hK _ _ _ ?_)
 clear hK K
 obtain ⟨rfl, hn⟩ : i = 1 ∧ bJ (wd ls[a] 1) = some y := by
  rcases hiy with h | h
  ·
   rw [h.1] at hb; simp at hb
  exact h
 clear hb
 refine RS ?_
 iterate 8 refine S0 ?_ (e := fun _ h_ => by simp only [sH, ↓sP, sA, tyS, simprocAttr, rdr, hw]; exact AX h_)
 refine AU ?_
 refine aF (RT Tryz.results130 ?_)
 rw [hnum, hn]
 exact eE [] [] (.c (.bool true)) [.box 94 (.c (rdr ls (a + 1))), .hrow 176 1 [.ptr 2 0], .box 2 (.c (.int .i64 y))] rfl (by simp [HV.men]) (⟨⟨by simp [HO.men, HV.men], by simp, _, rfl, by simp [HO.close, HV.close, HV.closeL, HO.ren, HV.ren, HV.renL, tau, CV.denil, HV.norm, fY, upd_at, fob_at, HV.toC, HV.toCL, rdr, CV.denilL, aQ]⟩, ⟨by simp [HO.men, HV.men, HV.menL], by simp, _, rfl, by simp [HO.close, HV.close, HV.closeL, HO.ren, HV.ren, HV.renL, tau, CV.denil, HV.norm, fY, upd_at, fob_at, HV.toC, HV.toCL]⟩, ⟨by simp [HO.men, HV.men], by simp, _, rfl, by simp [HO.close, HV.close, HV.closeL, HO.ren, HV.ren, HV.renL, tau, CV.denil, HV.norm, fY, upd_at, fob_at, HV.toC, HV.toCL]⟩, trivial⟩) rfl List.nodup_nil (by simp) (by simp) ⟨rfl, rfl⟩


theorem cM2 (ls : List (List aJ)) (a : Nat) (x y : Int) : lst [.box 94 (.c (rdr ls a)), .hrow 176 1 [.ptr 2 0, .ptr 3 0], .box 2 (.c (.int .i64 x)), .box 2 (.c (.int .i64 y))] = fob [(0, .box 94 (.c (rdr ls a))), (1, .hrow 176 1 [.ptr 2 0, .ptr 3 0]), (2, .box 2 (.c (.int .i64 x))), (3, .box 2 (.c (.int .i64 y)))] := by
 funext i
 match i with
 | 0 => rfl
 | 1 => rfl
 | 2 => rfl
 | 3 => rfl
 | i + 4 => simp [lst, fob, upd]

theorem bU4 (ls : List (List aJ)) (a : Nat) (w : aJ) (x y : Int) (ha : ls.length < 2 ^ 40) :
  HGe Tryz.prog 130 [.ptr 0 0, .c (.str w), .own 1 2] [.box 94 (.c (rdr ls a)), .hrow 176 1 [.ptr 2 0, .ptr 3 0], .box 2 (.c (.int .i64 x)), .box 2 (.c (.int .i64 y))]
   (fun r os' => r = .c (.bool (mR ls a w).isSome) ∧ ∃ x' y', os' = [.box 94 (.c (rdr ls (if (mR ls a w).isSome then a + 1 else a))), .hrow 176 1 [.ptr 2 0, .ptr 3 0], .box 2 (.c (.int .i64 x')), .box 2 (.c (.int .i64 y'))] ∧ ∀ n m, mR ls a w = some (n, m) → x' = n ∧ y' = m) := by
 refine bR (args := [.ptr 0 0, .c (.str w), .own 1 2]) Tryz.func130 rfl (by kernel_rfl) (fX rfl (by simp [eO, HO.men, HV.men, HV.menL]) (by simp [HV.menL, HV.men])) (Nat.le_of_ble_eq_true rfl) ?_
 show Hw _ _ 4 _ _ _ (lst _) 4
 rw [cM2]
 refine R0 ?_
 refine aC fun K hK => ?_
 refine aC fun K hK => bB (by kernel_rfl) ?_
 simp only [sR, simprocAttr]
 iterate 3 refine SG0 ?_
 refine bY (g := none) rfl rfl fun K' hK' => ?_
 simp only [sN, ↓hopH.eq_def, sH, ↓sP, sA, tyS, simprocAttr]
 refine AX (hK' _ _ ?_)
 clear hK' K'
 refine SG0 ?_
 refine bI (g := none) rfl rfl fun K' hK' => T5 ?_
 refine bS (args := [_, _]) (aC1 ls a 3 w (by omega)) rfl (by simp) ⟨rfl, rfl, rfl, rfl⟩ ?_
 rintro u v' ⟨rfl, rfl⟩
 refine AX (hK' _ _ ?_)
 clear hK' K'
 refine SG0 ?_
 refine T2 (hK _ _ _ ?_)
 clear hK K
 refine aG (b := !isV ls a w 3) rfl (fun hb => ?_) (fun hb => ?_)
 ·
  refine R0 ?_
  refine aF (RT Tryz.results130 ?_)
  have hv : isV ls a w 3 = false := by simpa using hb
  rw [cA4 hv]
  exact eE [] [] (.c (.bool false)) [.box 94 (.c (rdr ls a)), .hrow 176 1 [.ptr 2 0, .ptr 3 0], .box 2 (.c (.int .i64 x)), .box 2 (.c (.int .i64 y))] rfl (by simp [HV.men]) (⟨⟨by simp [HO.men, HV.men], by simp, _, rfl, by simp [HO.close, HV.close, HV.closeL, HO.ren, HV.ren, HV.renL, tau, CV.denil, HV.norm, fY, upd_at, fob_at, HV.toC, HV.toCL, rdr, CV.denilL, aQ]⟩, ⟨by simp [HO.men, HV.men, HV.menL], by simp, _, rfl, by simp [HO.close, HV.close, HV.closeL, HO.ren, HV.ren, HV.renL, tau, CV.denil, HV.norm, fY, upd_at, fob_at, HV.toC, HV.toCL, rdr, CV.denilL, aQ]⟩, ⟨by simp [HO.men, HV.men], by simp, _, rfl, by simp [HO.close, HV.close, HV.closeL, HO.ren, HV.ren, HV.renL, tau, CV.denil, HV.norm, fY, upd_at, fob_at, HV.toC, HV.toCL, rdr, CV.denilL, aQ]⟩, ⟨by simp [HO.men, HV.men], by simp, _, rfl, by simp [HO.close, HV.close, HV.closeL, HO.ren, HV.ren, HV.renL, tau, CV.denil, HV.norm, fY, upd_at, fob_at, HV.toC, HV.toCL, rdr, CV.denilL, aQ]⟩, trivial⟩) rfl List.nodup_nil (by simp) (by simp) ⟨rfl, x, y, rfl, fun n m h => by cases h⟩
 refine aK ?_
 refine T0 (hK _ _ _ ?_)
 clear hK K
 refine aC fun K hK => ?_
 have hv : isV ls a w 3 = true := by simpa using hb
 obtain ⟨hl, hl1, hl2⟩ := gF hv
 have hnum := bA8 hv hl
 have hw : IntKind.i64.wrap ((a : Int) + 1) = ((a + 1 : Nat) : Int) := IntWalk.i64_in _ (by omega)
 clear hb
 refine aC fun K hK => bB (by kernel_rfl) ?_
 simp only [sR, simprocAttr]
 refine SG0 ?_
 refine bY (g := none) rfl rfl fun K' hK' => ?_
 simp only [sN, ↓hopH.eq_def, sH, ↓sP, sA, tyS, simprocAttr]
 refine AX (hK' _ _ ?_)
 clear hK' K'
 refine SG0 ?_
 refine T2 (hK _ _ _ ?_)
 clear hK K
 refine aL ?_
 refine bE (α := {y' : Nat × Int × Int // (y'.1 = 0 ∧ y'.2 = (x, y)) ∨ (y'.1 = 1 ∧ bJ (wd ls[a] 1) = some y'.2.1 ∧ y'.2.2 = y) ∨ (y'.1 = 2 ∧ bJ (wd ls[a] 1) = some y'.2.1 ∧ bJ (wd ls[a] 2) = some y'.2.2)}) (fun y' => (fin [(0, .ptr 0 0), (18, .own 1 2), (19, .c (.int .i64 2)), (20, .c (.int .i64 y'.1.1))], fob [(0, .box 94 (.c (rdr ls a))), (1, .hrow 176 1 [.ptr 2 0, .ptr 3 0]), (2, .box 2 (.c (.int .i64 y'.1.2.1))), (3, .box 2 (.c (.int .i64 y'.1.2.2)))])) 100 (fun y' => 2 - y'.1.1) ⟨(0, x, y), .inl ⟨rfl, rfl⟩⟩ (fF) ?_
 rintro ⟨⟨i, x1, y1⟩, hiy⟩
 simp only [Prod.mk.injEq] at hiy
 refine R0 ?_
 refine aC fun K hK => ?_
 refine aG (b := decide ((i : Int) < 2)) rfl (fun hb => ?_) (fun hb => ?_)
 ·
  have hi2 : i < 2 := by simp at hb; omega
  clear hb
  refine aK ?_
  refine T0 (hK _ _ _ ?_)
  clear hK K
  refine aC fun K hK => ?_
  refine aL ?_
  by_cases hi0 : i = 0
  ·
   subst hi0
   refine aC fun K hK => bB (by kernel_rfl) ?_
   simp only [sR, simprocAttr]
   refine SG0 ?_
   refine bY (g := none) rfl rfl fun K' hK' => ?_
   simp only [sN, ↓hopH.eq_def, sH, ↓sP, sA, tyS, simprocAttr]
   refine AX (hK' _ _ ?_)
   clear hK' K'
   refine bY (g := none) rfl rfl fun K' hK' => ?_
   simp only [sN, ↓hopH.eq_def, sH, ↓sP, sA, tyS, simprocAttr]
   refine AX (hK' _ _ ?_)
   clear hK' K'
   iterate 2 refine SG0 ?_
   refine T2 (hK _ _ _ ?_)
   clear hK K
   refine aC fun K hK => Rg ?_
   refine AU ?_
   refine HS rfl rfl fun K' hK' => T5 ?_
   refine eA (args := [_]) (lU ls a 1 hl (by omega)) rfl (by simp) ⟨rfl, rfl, rfl, rfl⟩ ?_
   rintro u x' v' ⟨rfl, rfl, rfl⟩
   refine AX (hK' _ _ ?_)
   clear hK' K'
   refine AU ?_
   refine T2 (hK _ _ _ ?_)
   clear hK K
   refine aC fun K hK => ?_
   refine R0 ?_
   refine aG (b := !(bJ (wd ls[a] 1)).isSome) rfl (fun hb => ?_) (fun hb => ?_)
   ·
    have hno : bJ (wd ls[a] 1) = none := by simpa using hb
    rw [hno] at hnum
    have hnum : mR ls a w = none := hnum
    refine R0 ?_
    refine aF (RT Tryz.results130 ?_)
    rw [hnum]
    exact eE [] [] (.c (.bool false)) [.box 94 (.c (rdr ls a)), .hrow 176 1 [.ptr 2 0, .ptr 3 0], .box 2 (.c (.int .i64 x1)), .box 2 (.c (.int .i64 y1))] rfl (by simp [HV.men]) (⟨⟨by simp [HO.men, HV.men], by simp, _, rfl, by simp [HO.close, HV.close, HV.closeL, HO.ren, HV.ren, HV.renL, tau, CV.denil, HV.norm, fY, upd_at, fob_at, HV.toC, HV.toCL, rdr, CV.denilL, aQ]⟩, ⟨by simp [HO.men, HV.men, HV.menL], by simp, _, rfl, by simp [HO.close, HV.close, HV.closeL, HO.ren, HV.ren, HV.renL, tau, CV.denil, HV.norm, fY, upd_at, fob_at, HV.toC, HV.toCL, rdr, CV.denilL, aQ]⟩, ⟨by simp [HO.men, HV.men], by simp, _, rfl, by simp [HO.close, HV.close, HV.closeL, HO.ren, HV.ren, HV.renL, tau, CV.denil, HV.norm, fY, upd_at, fob_at, HV.toC, HV.toCL, rdr, CV.denilL, aQ]⟩, ⟨by simp [HO.men, HV.men], by simp, _, rfl, by simp [HO.close, HV.close, HV.closeL, HO.ren, HV.ren, HV.renL, tau, CV.denil, HV.norm, fY, upd_at, fob_at, HV.toC, HV.toCL, rdr, CV.denilL, aQ]⟩, trivial⟩) rfl List.nodup_nil (by simp) (by simp) ⟨rfl, _, _, rfl, fun n m h => by cases h⟩
   obtain ⟨n, hn⟩ : ∃ n, bJ (wd ls[a] 1) = some n := by
    cases h : bJ (wd ls[a] 1) with
    | none => rw [h] at hb; simp at hb
    | some n => exact ⟨n, rfl⟩
   simp only [hn, Option.getD_some, Option.isSome_some, Bool.not_true]
   clear hb
   refine aK ?_
   refine T0 (hK _ _ _ ?_)
   clear hK K
   refine Rg ?_
   refine AU ?_
   refine T2 (hK _ _ _ ?_)
   clear hK K
   refine aM (by kernel_rfl) ?_
   simp only [↓sP, sA, tyS, simprocAttr, (show IntKind.i64.wrap 1 = 1 from rfl), (show IntKind.i64.wrap 2 = 2 from rfl)]
   refine ⟨⟨(1, n, y1), .inr (.inl ⟨rfl, hn, by rcases hiy with h | h | h; exact h.2.2; exact absurd h.1 (by decide); exact absurd h.1 (by decide)⟩)⟩, fF, ?_⟩
   show 2 - 1 < 2 - 0
   omega
  obtain rfl : i = 1 := by omega
  have h1 : bJ (wd ls[a] 1) = some x1 := by
   rcases hiy with h | h | h
   ·
    omega
   ·
    exact h.2.1
   omega
  refine aC fun K hK => bB (by kernel_rfl) ?_
  simp only [sR, simprocAttr]
  refine SG0 ?_
  refine bY (g := none) rfl rfl fun K' hK' => ?_
  simp only [sN, ↓hopH.eq_def, sH, ↓sP, sA, tyS, simprocAttr]
  refine AX (hK' _ _ ?_)
  clear hK' K'
  refine bY (g := none) rfl rfl fun K' hK' => ?_
  simp only [sN, ↓hopH.eq_def, sH, ↓sP, sA, tyS, simprocAttr]
  refine AX (hK' _ _ ?_)
  clear hK' K'
  iterate 2 refine SG0 ?_
  refine T2 (hK _ _ _ ?_)
  clear hK K
  refine aC fun K hK => Rg ?_
  refine AU ?_
  refine HS rfl rfl fun K' hK' => T5 ?_
  refine eA (args := [_]) (lU ls a 2 hl (by omega)) rfl (by simp) ⟨rfl, rfl, rfl, rfl⟩ ?_
  rintro u x' v' ⟨rfl, rfl, rfl⟩
  refine AX (hK' _ _ ?_)
  clear hK' K'
  refine AU ?_
  refine T2 (hK _ _ _ ?_)
  clear hK K
  refine aC fun K hK => ?_
  refine R0 ?_
  refine aG (b := !(bJ (wd ls[a] 2)).isSome) rfl (fun hb => ?_) (fun hb => ?_)
  ·
   have hno : bJ (wd ls[a] 2) = none := by simpa using hb
   rw [hno, h1] at hnum
   have hnum : mR ls a w = none := hnum
   refine R0 ?_
   refine aF (RT Tryz.results130 ?_)
   rw [hnum]
   exact eE [] [] (.c (.bool false)) [.box 94 (.c (rdr ls a)), .hrow 176 1 [.ptr 2 0, .ptr 3 0], .box 2 (.c (.int .i64 x1)), .box 2 (.c (.int .i64 y1))] rfl (by simp [HV.men]) (⟨⟨by simp [HO.men, HV.men], by simp, _, rfl, by simp [HO.close, HV.close, HV.closeL, HO.ren, HV.ren, HV.renL, tau, CV.denil, HV.norm, fY, upd_at, fob_at, HV.toC, HV.toCL, rdr, CV.denilL, aQ]⟩, ⟨by simp [HO.men, HV.men, HV.menL], by simp, _, rfl, by simp [HO.close, HV.close, HV.closeL, HO.ren, HV.ren, HV.renL, tau, CV.denil, HV.norm, fY, upd_at, fob_at, HV.toC, HV.toCL, rdr, CV.denilL, aQ]⟩, ⟨by simp [HO.men, HV.men], by simp, _, rfl, by simp [HO.close, HV.close, HV.closeL, HO.ren, HV.ren, HV.renL, tau, CV.denil, HV.norm, fY, upd_at, fob_at, HV.toC, HV.toCL, rdr, CV.denilL, aQ]⟩, ⟨by simp [HO.men, HV.men], by simp, _, rfl, by simp [HO.close, HV.close, HV.closeL, HO.ren, HV.ren, HV.renL, tau, CV.denil, HV.norm, fY, upd_at, fob_at, HV.toC, HV.toCL, rdr, CV.denilL, aQ]⟩, trivial⟩) rfl List.nodup_nil (by simp) (by simp) ⟨rfl, _, _, rfl, fun n m h => by cases h⟩
  obtain ⟨n, hn⟩ : ∃ n, bJ (wd ls[a] 2) = some n := by
   cases h : bJ (wd ls[a] 2) with
   | none => rw [h] at hb; simp at hb
   | some n => exact ⟨n, rfl⟩
  simp only [hn, Option.getD_some, Option.isSome_some, Bool.not_true]
  clear hb
  refine aK ?_
  refine T0 (hK _ _ _ ?_)
  clear hK K
  refine Rg ?_
  refine AU ?_
  refine T2 (hK _ _ _ ?_)
  clear hK K
  refine aM (by kernel_rfl) ?_
  simp only [↓sP, sA, tyS, simprocAttr, (show IntKind.i64.wrap 1 = 1 from rfl), (show IntKind.i64.wrap 2 = 2 from rfl)]
  refine ⟨⟨(2, x1, n), .inr (.inr ⟨rfl, h1, hn⟩)⟩, fF, ?_⟩
  show 2 - 2 < 2 - 1
  omega
 refine bA (T3 ?_)
 clear hK K
 refine AX (hK _ _ _ ?_)
 clear hK K
 obtain ⟨rfl, h1, h2⟩ : i = 2 ∧ bJ (wd ls[a] 1) = some x1 ∧ bJ (wd ls[a] 2) = some y1 := by
  rcases hiy with h | h | h
  ·
   rw [h.1] at hb; simp at hb
  ·
   rw [h.1] at hb; simp at hb
  exact h
 have hnum : mR ls a w = some (x1, y1) := by rw [hnum, h1, h2]
 clear hb
 refine RS ?_
 iterate 8 refine S0 ?_ (e := fun _ h_ => by simp only [sH, ↓sP, sA, tyS, simprocAttr, rdr, hw]; exact AX h_)
 refine AU ?_
 refine aF (RT Tryz.results130 ?_)
 rw [hnum]
 exact eE [] [] (.c (.bool true)) [.box 94 (.c (rdr ls (a + 1))), .hrow 176 1 [.ptr 2 0, .ptr 3 0], .box 2 (.c (.int .i64 x1)), .box 2 (.c (.int .i64 y1))] rfl (by simp [HV.men]) (⟨⟨by simp [HO.men, HV.men], by simp, _, rfl, by simp [HO.close, HV.close, HV.closeL, HO.ren, HV.ren, HV.renL, tau, CV.denil, HV.norm, fY, upd_at, fob_at, HV.toC, HV.toCL, rdr, CV.denilL, aQ]⟩, ⟨by simp [HO.men, HV.men, HV.menL], by simp, _, rfl, by simp [HO.close, HV.close, HV.closeL, HO.ren, HV.ren, HV.renL, tau, CV.denil, HV.norm, fY, upd_at, fob_at, HV.toC, HV.toCL, rdr, CV.denilL, aQ]⟩, ⟨by simp [HO.men, HV.men], by simp, _, rfl, by simp [HO.close, HV.close, HV.closeL, HO.ren, HV.ren, HV.renL, tau, CV.denil, HV.norm, fY, upd_at, fob_at, HV.toC, HV.toCL, rdr, CV.denilL, aQ]⟩, ⟨by simp [HO.men, HV.men], by simp, _, rfl, by simp [HO.close, HV.close, HV.closeL, HO.ren, HV.ren, HV.renL, tau, CV.denil, HV.norm, fY, upd_at, fob_at, HV.toC, HV.toCL, rdr, CV.denilL, aQ]⟩, trivial⟩) rfl List.nodup_nil (by simp) (by simp) ⟨rfl, _, _, rfl, fun n m h => by cases h; exact ⟨rfl, rfl⟩⟩

end Go.Proofs.YtlldglbooaefhaaGreatDoor
