/- Plain Lean: requirements, nodes and lists of nodes, as the two codes ask for them. By an AI agent. -/
import Derived.Test.YtlldglbooaefhaaGreatDoorHzT7
import Derived.Test.YtlldglbooaefhaaGreatDoorHzU1
import Derived.Test.YtlldglbooaefhaaGreatDoorHzSb
import Derived.Test.YtlldglbooaefhaaGreatDoorPl11v
set_option linter.unusedSimpArgs false
set_option linter.unusedVariables false
set_option linter.defProp false
namespace Go.Pl
open Go Go.Hl
def qO (c : UInt8) (l : aG) : aG := match l.findIdx? (· == c) with | some i => l.take i | none => l
def wE (c : UInt8) (l : aG) : aG := match l.findIdx? (· == c) with | some i => l.drop (i + 1) | none => []
def tP (c : UInt8) (l : aG) : Bool := (l.findIdx? (· == c)).isSome
theorem qP {c : UInt8} {l : aG} {i : Nat} (h : dG l c = (i : Int)) : i < l.length ∧ qO c l = l.take i ∧ wE c l = l.drop (i + 1) ∧ tP c l = true := by
 unfold dG at h
 cases e : l.findIdx? (· == c) with
 | none => grind
 | some j =>
  grind [List.findIdx?_eq_some_iff_getElem, qO, wE, tP]
theorem qQ {c : UInt8} {l : aG} (h : dG l c < 0) : qO c l = l ∧ wE c l = [] ∧ tP c l = false := by grind [dG, qO, wE, tP]
theorem zF (c : UInt8) (l : aG) : aQ c l = if tP c l then qO c l :: aQ c (wE c l) else [qO c l] := by
 by_cases h : dG l c < 0
 all_goals grind [qQ, mS, dS, qP]
theorem aK8 {c : UInt8} {l : aG} (h : tP c l = true) : (wE c l).length < l.length := by
 by_cases h0 : dG l c < 0
 ·
  simp_all [qQ]
 ·
  obtain ⟨i, hi, hil, _⟩ := dS h0
  rw [(qP hi).2.2.1]; grind
def PathSt (p : aG) (m : Bool) (s : aG) : Prop := s.length ≤ 200 ∧ (aQ 47 p).all jU = if m then (aQ 47 s).all jU else true
theorem PathSt.step {p s : aG} (h : PathSt p true s) (hg : jU (qO 47 s) = true) : PathSt p (tP 47 s) (wE 47 s) := by
 refine ⟨?_, ?_⟩
 ·
  cases hf : tP 47 s with
  | true => have := aK8 hf; have := h.1; omega
  | false =>
   by_cases h0 : dG s 47 < 0
   all_goals grind [qQ, dS, qP]
 ·
  rw [h.2, if_pos rfl, zF 47 s]
  grind
theorem PathSt.bad {p s : aG} (h : PathSt p true s) (hg : jU (qO 47 s) = false) : (aQ 47 p).all jU = false := by
 rw [h.2, if_pos rfl, zF 47 s]
 grind
theorem bL5 {p : aG} (h1 : 1 ≤ p.length) (h2 : p.length ≤ 200) (h0 : (0 : UInt8) ∉ p) : jV p = (aQ 47 p).all jU := by grind [jV]
theorem zG {p : aG} (h : p.length < 1 ∨ 200 < p.length) : jV p = false := by grind [jV, decide_eq_false]
theorem aQ9 {p : aG} (h : (0 : UInt8) ∈ p) : jV p = false := by
 unfold jV; grind
theorem wF {w : aG} (h : w = [] ∨ w = [46] ∨ w = [46, 46]) : jU w = false := by
 rcases h with h | h | h <;> subst h <;> rfl
theorem bB8 {w : aG} (h1 : w ≠ []) (h2 : w ≠ [46]) (h3 : w ≠ [46, 46]) : jU w = true := by grind [jU]
end Go.Pl

namespace Go.Proofs.YtlldglbooaefhaaGreatDoor
open Go Go.Hl Go.Pl
set_option maxRecDepth 10000
set_option maxHeartbeats 16000000

theorem bL6 (l : aG) (c : UInt8) (hl : l.length < 2 ^ 40) : aB7 Tryz.prog 135 [.str l, .str [c]] (fun u v x => u = .str (qO c l) ∧ v = .str (wE c l) ∧ x = .bool (tP c l)) := by
 refine FW Tryz.func135 ?_
 refine R0 ?_
 refine aB fun K hK => ?_
 refine aB fun K hK => Rg ?_
 iterate 2 refine S0 ?_
 refine HS rfl rfl fun K' hK' => T5 ?_
 refine C2 (aQ0 l c) ?_
 rintro u rfl
 refine AX (hK' _ _ ?_)
 clear hK' K'
 refine S0 ?_
 refine T2 (hK _ _ _ ?_)
 clear hK K
 refine R0 ?_
 refine aH (b := decide ((0 : Int) ≤ dG l c)) rfl (fun hb => ?_) (fun hb => ?_)
 ·
  have hn : ¬ dG l c < 0 := by simp at hb; omega
  obtain ⟨i, hi, hil, hsp⟩ := dS hn
  obtain ⟨_, c1, c2, c3⟩ := qP hi
  have htd : List.take (l.length - (i + 1)) (List.drop (i + 1) l) = List.drop (i + 1) l := List.take_of_length_le (by simp)
  have hil1 : i + 1 ≤ l.length := hil
  have hil0 : i ≤ l.length := by omega
  rw [hi]
  refine aB fun K hK => QR ?_
  have F := aI @Int.natCast_nonneg (aI @Int.ofNat_le (aI @Int.sub_zero (aI @Nat.sub_zero (aI @List.drop_zero.{0} (aI hil0 (aI hil1 (aI htd (show IntKind.i64.wrap ((i : Int) + 1) = ((i + 1 : Nat) : Int) from by rw [IntWalk.i64_in _ (by omega)]; rfl))))))))
  iterate 12 refine SF ?_
  refine T2 (hK _ _ _ ?_)
  clear hK K
  refine aE (RT Tryz.results135 ?_)
  exact jC [] (.str (l.take i)) (.str (l.drop (i + 1))) (.bool true) rfl ⟨by rw [c1], by rw [c2], by rw [c3]⟩
 have hn : dG l c < 0 := by simp at hb; omega
 obtain ⟨c1, c2, c3⟩ := qQ hn
 refine aJ ?_
 refine T0 (hK _ _ _ ?_)
 clear hK K
 refine aB fun K hK => Rg ?_
 iterate 4 refine S0 ?_
 refine T2 (hK _ _ _ ?_)
 clear hK K
 refine aE (RT Tryz.results135 ?_)
 exact jC [] (.str l) (.str []) (.bool false) rfl ⟨by rw [c1], by rw [c2], by rw [c3]⟩


theorem bT2 (l : aG) (c : UInt8) (hl : l.length < 2 ^ 40) : aB7 Tryz.prog 113 [.str l, .str [c]] (fun u v x => u = .str (qO c l) ∧ v = .str (wE c l) ∧ x = .bool (tP c l)) := by
 refine FW Tryz.func113 ?_
 refine R0 ?_
 refine aB fun K hK => Rg ?_
 iterate 2 refine S0 ?_
 refine HS rfl rfl fun K' hK' => T5 ?_
 refine oX (args := [_, _]) (bL6 l c hl) ⟨rfl, rfl, rfl, rfl⟩ ?_
 rintro u v x ⟨rfl, rfl, rfl⟩
 refine AX (hK' _ _ ?_)
 clear hK' K'
 iterate 6 refine S0 ?_
 refine T2 (hK _ _ _ ?_)
 clear hK K
 refine aE (RT Tryz.results113 ?_)
 exact jC [] _ _ _ rfl ⟨rfl, rfl, rfl⟩


theorem aW0 (p : aG) : bT Tryz.prog 58 [.str p] (fun v => v = .bool (eC p).isSome) := by
 refine FW Tryz.func58 ?_
 refine R0 ?_
 refine aB fun K hK => Rg ?_
 refine S0 ?_
 refine HS rfl rfl fun K' hK' => T5 ?_
 refine D1 (aK7 p) ?_
 rintro u v ⟨rfl, rfl⟩
 refine AX (hK' _ _ ?_)
 clear hK' K'
 iterate 5 refine S0 ?_
 refine T2 (hK _ _ _ ?_)
 clear hK K
 refine R0 ?_
 refine aE (RT Tryz.results58 ?_)
 exact aF [] _ rfl rfl


theorem aK9 (p : aG) : bT Tryz.prog 60 [.str p] (fun v => v = .bool (eC p).isSome) := by
 refine FW Tryz.func60 ?_
 refine R0 ?_
 refine aB fun K hK => Rg ?_
 refine S0 ?_
 refine HS rfl rfl fun K' hK' => T5 ?_
 refine D1 (bT1 p) ?_
 rintro u v ⟨rfl, rfl⟩
 refine AX (hK' _ _ ?_)
 clear hK' K'
 iterate 5 refine S0 ?_
 refine T2 (hK _ _ _ ?_)
 clear hK K
 refine R0 ?_
 refine aE (RT Tryz.results60 ?_)
 exact aF [] _ rfl rfl


theorem aW1 (p : aG) : bT Tryz.prog 96 [.str p] (fun v => v = .bool (jV p)) := by
 refine FW Tryz.func96 ?_
 refine R0 ?_
 refine aB fun K hK => ?_
 refine aB fun K hK => Rg ?_
 iterate 4 refine S0 ?_
 refine aD 7 rfl (fun h1_7 => ?_) (fun h1_7 => ?_)
 ·
  have F := h1_7
  iterate 9 refine SF ?_
  refine T2 (hK _ _ _ ?_)
  clear hK K
  refine CT rfl ?_
  refine R0 ?_
  refine aE (RT Tryz.results96 ?_)
  exact aF [] (.bool false) rfl (by rw [zG (by simp at h1_7; omega)])
 have F := h1_7
 iterate 5 refine SF ?_
 refine aD 11 rfl (fun h1_11 => ?_) (fun h1_11 => ?_)
 ·
  clear F
  have F := aI h1_7 h1_11
  iterate 4 refine SF ?_
  refine T2 (hK _ _ _ ?_)
  clear hK K
  refine CT rfl ?_
  refine R0 ?_
  refine aE (RT Tryz.results96 ?_)
  exact aF [] (.bool false) rfl (by rw [zG (by simp at h1_11; omega)])
 clear F
 have F := aI h1_7 h1_11
 refine SF ?_
 refine aZ (g := some (13, false)) rfl rfl fun K' hK' => T6 ?_
 refine C2 (qF p 0) ?_
 rintro u rfl
 refine AX (hK' _ _ ?_)
 clear hK' K'
 iterate 2 refine SF ?_
 refine aD 16 rfl (fun h1_16 => ?_) (fun h1_16 => ?_)
 ·
  simp only [h1_16]
  refine T2 (hK _ _ _ ?_)
  clear hK K
  refine CT rfl ?_
  refine R0 ?_
  refine aE (RT Tryz.results96 ?_)
  exact aF [] (.bool false) rfl (by rw [aQ9 (aK6 (by simpa using h1_16))])
 simp only [h1_16]
 refine T2 (hK _ _ _ ?_)
 clear hK K
 refine CF rfl ?_
 refine aJ ?_
 refine T0 (hK _ _ _ ?_)
 clear hK K
 refine aB fun K hK => ?_
 have hl : p.length ≤ 200 := by simp at h1_11; omega
 have hpv := bL5 (p := p) (by simp at h1_7; omega) hl (tF (by simpa using h1_16))
 clear h1_7 h1_11 h1_16
 refine R0 ?_
 refine aK ?_
 refine bE (α := {y : Bool × aG // PathSt p y.1 y.2}) (fun y => (fin [(0, .c (.str y.1.2)), (3, .c (.bool y.1.1))], fob [])) 100 (fun y => if y.1.1 then y.1.2.length + 1 else 0) ⟨(true, p), hl, by simp⟩ (fF) ?_
 rintro ⟨⟨m, s⟩, hst⟩
 simp only at hst
 have hs := hst.1
 refine aB fun K hK => ?_
 refine R0 ?_
 refine aH (b := m) rfl (fun hb => ?_) (fun hb => ?_)
 ·
  subst hb
  refine aJ ?_
  refine T0 (hK _ _ _ ?_)
  clear hK K
  refine aK ?_
  refine R0 ?_
  refine aB fun K hK => Rg ?_
  refine S0 ?_
  refine HS rfl rfl fun K' hK' => T5 ?_
  refine oX (args := [_, _]) (bT2 s 47 (by omega)) ⟨rfl, rfl, rfl, rfl⟩ ?_
  rintro u v x ⟨rfl, rfl, rfl⟩
  refine AX (hK' _ _ ?_)
  clear hK' K'
  iterate 7 refine S0 ?_
  refine T2 (hK _ _ _ ?_)
  clear hK K
  refine aB fun K hK => Rg ?_
  iterate 3 refine S0 ?_
  refine aD 26 rfl (fun h7_26 => ?_) (fun h7_26 => ?_)
  ·
   clear F
   have F := h7_26
   iterate 7 refine SF ?_
   refine T2 (hK _ _ _ ?_)
   clear hK K
   refine CT rfl ?_
   refine R0 ?_
   refine aE (RT Tryz.results96 ?_)
   have hg : jU (qO 47 s) = false := wF (.inl (eq_of_beq h7_26))
   exact aF [] (.bool false) rfl (by rw [hpv, hst.bad hg])
  clear F
  have F := h7_26
  iterate 4 refine SF ?_
  refine aD 29 rfl (fun h7_29 => ?_) (fun h7_29 => ?_)
  ·
   clear F
   have F := aI h7_26 h7_29
   iterate 3 refine SF ?_
   refine T2 (hK _ _ _ ?_)
   clear hK K
   refine CT rfl ?_
   refine R0 ?_
   refine aE (RT Tryz.results96 ?_)
   have hg : jU (qO 47 s) = false := wF (.inr (.inl (eq_of_beq h7_29)))
   exact aF [] (.bool false) rfl (by rw [hpv, hst.bad hg])
  clear F
  have F := aI h7_26 h7_29
  iterate 3 refine SF ?_
  refine aD 33 rfl (fun h7_33 => ?_) (fun h7_33 => ?_)
  ·
   simp only [h7_33]
   refine T2 (hK _ _ _ ?_)
   clear hK K
   refine CT rfl ?_
   refine R0 ?_
   refine aE (RT Tryz.results96 ?_)
   have hg : jU (qO 47 s) = false := wF (.inr (.inr (eq_of_beq h7_33)))
   exact aF [] (.bool false) rfl (by rw [hpv, hst.bad hg])
  simp only [h7_33]
  refine T2 (hK _ _ _ ?_)
  clear hK K
  refine CF rfl ?_
  refine aJ (T3 ?_)
  have hg : jU (qO 47 s) = true := bB8 (by simpa using h7_26) (by simpa using h7_29) (by simpa using h7_33)
  refine ⟨⟨(tP 47 s, wE 47 s), hst.step hg⟩, fF, ?_⟩
  show (if tP 47 s = true then (wE 47 s).length + 1 else 0) < if true = true then s.length + 1 else 0
  rw [if_pos rfl]
  split
  ·
   rename_i h
   have := aK8 h
   omega
  omega
 subst hb
 refine aX (T3 ?_)
 clear hK K
 refine AX (hK _ _ _ ?_)
 clear hK K
 refine R0 ?_
 refine aE (RT Tryz.results96 ?_)
 exact aF [] (.bool true) rfl (by rw [hpv, hst.2]; rfl)


end Go.Proofs.YtlldglbooaefhaaGreatDoor

namespace Go.Proofs.YtlldglbooaefhaaGreatDoor
open Go Go.Hl Go.Pl
set_option maxRecDepth 10000
set_option maxHeartbeats 16000000

theorem cH3 : lst [] = cI := by funext j; simp [lst, cI]

theorem bT3 (x : Pt) (c : UInt8) : cC3 Tryz.prog 114 140 x.cv [u8 c] (fun v => v = .bool (c == x.c)) := by
 show HFn _ _ [.c (u8 c), .ptr 0 0] 1 _ _
 refine bY (args := [.c (u8 c), .ptr 0 0]) Tryz.func114 rfl (by kernel_rfl) (yB _ _ [u8 c]) (Nat.le_of_ble_eq_true rfl) ?_
 refine R0 ?_
 refine aB fun K hK => Rg ?_
 have F := aI @Pt.get_c @bA7
 iterate 5 refine SF ?_
 refine T2 (hK _ _ _ ?_)
 clear hK K
 refine aE (RT Tryz.results114 ?_)
 refine aO6 [] (.bool (c == x.c)) x.cv rfl rfl (by simp [HV.close, HV.norm, HV.toC, Pt.denil]) (by simp) rfl rfl


theorem bB9 (x : Pt) (hk : x.k = 0) : HGe Tryz.prog 97 [.c x.cv] [] (fun r os => r = .clo 114 [.ptr 0 0] ∧ os = [.box 140 (.c x.cv)]) := by
 show HFn _ _ [.c x.cv] 0 (lst []) _
 rw [cH3]
 refine bY (args := [.c x.cv]) Tryz.func97 rfl (by kernel_rfl) (iU [x.cv]) (Nat.le_of_ble_eq_true rfl) ?_
 have hd0 : ((x.k : Int) == 0) = true := by rw [hk]; rfl
 have F := aI @Pt.cells (aI @Pt.isAgg @Pt.getAll)
 refine RF ?_
 refine aB fun K hK => ?_
 have F := @Pt.get_k
 refine RF ?_
 refine aK ?_
 have F := hd0
 refine RF ?_
 refine CT rfl ?_
 refine R0 ?_
 refine aE (RT Tryz.results97 ?_)
 refine fA [] [0] (.clo 114 [.ptr 0 0]) [.box 140 (.c x.cv)] rfl ?_ ?_ rfl (by simp) (by simp) (by simp) ⟨rfl, rfl⟩
 ·
  simp [HV.men, HV.menL]
 refine ⟨⟨by simp [HO.men, HV.men], by simp, .box 140 (.c x.cv), rfl, ?_⟩, trivial⟩
 simp [gE, HV.close, HV.norm, HV.toC, Pt.denil, HO.ren, HV.ren]


theorem bC0 (x : Pt) (hk : x.k = 3) : bT Tryz.prog 97 [x.cv] (fun v => v = .fn 115) := by
 refine FW Tryz.func97 ?_
 have hd0 : ((x.k : Int) == 0) = false := by rw [hk]; rfl
 have hd3 : ((x.k : Int) == 3) = true := by rw [hk]; rfl
 have F := aI @Pt.cells (aI @Pt.isAgg @Pt.getAll)
 refine RF ?_
 refine aB fun K hK => ?_
 have F := @Pt.get_k
 refine RF ?_
 refine aK ?_
 have F := hd0
 refine RF ?_
 refine CF rfl ?_
 have F := hd3
 refine RF ?_
 refine CT rfl ?_
 refine R0 ?_
 refine aE (RT Tryz.results97 ?_)
 exact aF [] (.fn 115) rfl rfl


theorem zH (x : Pt) (hk : x.k = 1 ∨ x.k = 2) : bT Tryz.prog 97 [x.cv] (fun v => v = .fn 116) := by
 refine FW Tryz.func97 ?_
 have hd0 : ((x.k : Int) == 0) = false := by rcases hk with h | h <;> rw [h] <;> rfl
 have hd3 : ((x.k : Int) == 3) = false := by rcases hk with h | h <;> rw [h] <;> rfl
 have F := aI @Pt.cells (aI @Pt.isAgg @Pt.getAll)
 refine RF ?_
 refine aB fun K hK => ?_
 have F := @Pt.get_k
 refine RF ?_
 refine aK ?_
 have F := hd0
 refine RF ?_
 refine CF rfl ?_
 have F := hd3
 refine RF ?_
 refine CF rfl ?_
 refine aJ ?_
 refine T0 (hK _ _ _ ?_)
 clear hK K
 refine R0 ?_
 refine aE (RT Tryz.results97 ?_)
 exact aF [] (.fn 116) rfl rfl


end Go.Proofs.YtlldglbooaefhaaGreatDoor

namespace Go.Pl
open Go Go.Hl
theorem bC2 {p : aG} {ps : List Pt} (h : eC p = some ps) : ps.length ≤ 200 ∧ ∀ x ∈ ps, x.k ≤ 3 := by
 unfold eC at h
 split at h
 ·
  cases h
 ·
  rename_i hl
  obtain ⟨h1, h2⟩ := aU2 p.length p ps (Nat.le_refl _) h
  grind
theorem aL0 {p s : aG} (h : eC p = none) : lK p s = false := by unfold lK; rw [h]
theorem aL1 {p s : aG} (h : jV s = false) : lK p s = false := by grind [lK]
theorem aL2 {p s : aG} {ps : List Pt} (h : eC p = some ps) (hs : jV s = true) : lK p s = mD ps s ps.length s.length := by grind [lK]
theorem bC3 {s : aG} (h : jV s = true) : s.length ≤ 200 := by simp_all [jV, Bool.and_eq_true, decide_eq_true_eq]
def bS (n : Nat) (f : Nat → Bool) : List CV := (tab n f).map bC1
theorem aS (n : Nat) (f : Nat → Bool) : (bS n f).length = n := by simp [bS, lO]
theorem aU {n : Nat} {f : Nat → Bool} {i : Nat} (h : i < n) : nth (bS n f) i = .bool (f i) := bR6 h
theorem bC4 (n : Nat) : List.replicate n (CV.bool false) = bS n (fun _ => false) := by
 unfold bS; rw [← bA6]; simp [bC1]
theorem wG (n : Nat) (f : Nat → Bool) (i : Nat) (b : Bool) : (bS n f).set i (.bool b) = bS n (fun j => if j = i then b else f j) := by
 unfold bS
 rw [← bR5, List.map_set]; rfl
theorem gZ (n : Nat) (f : Nat → Bool) : CV.denilL (bS n f) = bS n f := cA (fun x => by simp [bC1, CV.denil]) _
theorem bC5 {n : Nat} {ps : List Pt} {s : aG} : (bS n (fun _ => false)).set 0 (.bool true) = bS n (fun j => if j = 0 then true else false) := wG _ _ _ _
theorem iA {n : Nat} {ps : List Pt} {s : aG} {k : Nat} {b : Bool} (hb : b = (mD ps s k 0 && (prt ps k).long)) : (bS n (fun _ => false)).set 0 (.bool b) = bS n (nxt ps s k 0) := by
 rw [wG, hb]
 congr 1
 grind [bI5]
theorem fK {n : Nat} {ps : List Pt} {s : aG} {k i : Nat} {b : Bool} (hb : b = mD ps s (k + 1) (i + 1)) : (bS n (nxt ps s k i)).set (i + 1) (.bool b) = bS n (nxt ps s k (i + 1)) := by simp_all [wG, bI6]
theorem tZ {ps : List Pt} {s : aG} {k : Nat} : bS (s.length + 1) (nxt ps s k s.length) = bS (s.length + 1) (mD ps s (k + 1)) := by
 unfold bS; rw [bR7]
theorem bL7 {ps : List Pt} {s : aG} : bS (s.length + 1) (fun j => if j = 0 then true else false) = bS (s.length + 1) (mD ps s 0) := by
 unfold bS; rw [bI7]
theorem bT4 {ps : List Pt} {k : Nat} (h : k < ps.length) : prt ps k = ps[k] := by simp [prt, h]
end Go.Pl

namespace Go.Proofs.YtlldglbooaefhaaGreatDoor
open Go Go.Hl Go.Pl
set_option maxRecDepth 10000
set_option maxHeartbeats 16000000

theorem cS (ps : List Pt) (s : aG) (k i : Nat) : nxt ps s k i i = mD ps s (k + 1) i := by simp [nxt]

theorem aL3 (p s : aG) : bT Tryz.prog 72 [.str p, .str s] (fun v => v = .bool (lK p s)) := by
 refine FW Tryz.func72 ?_
 refine R0 ?_
 refine aB fun K hK => Rg ?_
 refine S0 ?_
 refine HS rfl rfl fun K' hK' => T5 ?_
 refine D1 (aK7 p) ?_
 rintro u v ⟨rfl, rfl⟩
 refine AX (hK' _ _ ?_)
 clear hK' K'
 iterate 5 refine S0 ?_
 refine T2 (hK _ _ _ ?_)
 clear hK K
 refine aB fun K hK => ?_
 cases hpv : eC p
 ·
  refine aB fun K hK => Rg ?_
  iterate 7 refine S0 ?_ (e := fun _ h_ => by simp only [sH, ↓sP, sA, tyS, simprocAttr, Option.isSome_none, Bool.not_false]; exact AX h_)
  refine T2 (hK _ _ _ ?_)
  clear hK K
  refine CT rfl ?_
  refine R0 ?_
  refine aE (RT Tryz.results72 ?_)
  exact aF [] (.bool false) rfl (by rw [aL0 hpv])
 by_cases hs : jV s = true
 ·
  rename_i ps
  have hs200 := bC3 hs
  obtain ⟨hpl, hpk⟩ := bC2 hpv
  have hmv := aL2 hpv hs
  clear hpv
  refine aB fun K hK => Rg ?_
  iterate 4 refine S0 ?_ (e := fun _ h_ => by simp only [sH, ↓sP, sA, tyS, simprocAttr, Option.isSome_some, Bool.not_true, hs, Option.getD_some]; exact AX h_)
  refine aZ (g := some (20, false)) rfl rfl fun K' hK' => ?_
  simp only [sH, ↓sP, sA, tyS, simprocAttr, Option.isSome_some, Bool.not_true, hs, Option.getD_some]
  refine C1 (aW1 s) ?_
  rintro u rfl
  refine AX (hK' _ _ ?_)
  clear hK' K'
  iterate 2 refine S0 ?_ (e := fun _ h_ => by simp only [sH, ↓sP, sA, tyS, simprocAttr, Option.isSome_some, Bool.not_true, hs, Option.getD_some]; exact AX h_)
  refine T2 (hK _ _ _ ?_)
  clear hK K
  refine CF rfl ?_
  refine aJ ?_
  refine T0 (hK _ _ _ ?_)
  clear hK K
  have hwn : IntKind.i64.wrap ((s.length : Int) + 1) = (((s.length + 1 : Nat)) : Int) := by rw [IntWalk.i64_in _ (by omega)]; rfl
  have hn0 : (((s.length + 1 : Nat) : Int) = 0) = False := by simp; omega
  have hzn : (0 : Int) < ((s.length + 1 : Nat) : Int) := by omega
  have hrep := bC4 (s.length + 1)
  refine aB fun K hK => Rg ?_
  have F := aI hwn (aI hn0 (aI hrep @Int.toNat_natCast))
  iterate 5 refine SF ?_
  refine T2 (hK _ _ _ ?_)
  clear hK K
  refine R0 ?_ (e := fun _ h_ => by simp only [↓sP, sA, tyS, simprocAttr, hzn, aS, aU (Nat.succ_pos s.length), Int.toNat_zero]; exact AX h_)
  refine aB fun K hK => ?_
  refine R0 ?_
  refine aK ?_
  have hr0 : (bS (s.length + 1) (fun _ => false)).set 0 (.bool true) = bS (s.length + 1) (mD ps s 0) := (bC5 (ps := ps) (s := s)).trans bL7
  refine eB [72] (bM (fr2 := fin [(1, .c (.str s)), (7, .c (.slc (bS (s.length + 1) (mD ps s 0)))), (31, .c (.slc (ps.map Pt.cv))), (32, .c (.int .i64 ps.length)), (33, .c (.int .i64 0))]) (ob2 := fob []) (nx2 := 90) (aM (by omega) (by simp [aY, iE, fin_at, finA_at, upd_at, fob_at, HV.close, HV.closeL, CV.denil, CV.denilL, gZ, denilL_Pt, hr0, HV.men, HV.menL, HV.norm, HV.toC, HV.toCL, aS]) (by simp [bB, iF, fob_at, upd_at, none0_at, bZ, HO.close, HV.close, HV.closeL, HO.men, HV.men, HV.menL, HV.norm, HV.toC, HV.toCL])) ?_)
  refine bE (α := {k : Nat // k ≤ ps.length}) (fun k => (fin [(1, .c (.str s)), (7, .c (.slc (bS (s.length + 1) (mD ps s k.1)))), (31, .c (.slc (ps.map Pt.cv))), (32, .c (.int .i64 ps.length)), (33, .c (.int .i64 k.1))], fob [])) 100 (fun k => ps.length - k.1) ⟨0, by omega⟩ (fF) ?_
  rintro ⟨k, hk⟩
  refine R0 ?_
  refine aB fun K hK => ?_
  refine aH (b := decide ((k : Int) < ps.length)) rfl (fun hb => ?_) (fun hb => ?_)
  ·
   have hlt : k < ps.length := by simpa using hb
   clear hb
   have hk3 := hpk _ (List.getElem_mem hlt)
   have hprt := bT4 hlt
   refine aJ ?_
   refine T0 (hK _ _ _ ?_)
   clear hK K
   refine aB fun K hK => ?_
   refine aK ?_
   refine aB fun K hK => Rg ?_
   clear F
   have F := aI @Int.natCast_nonneg (aI @Int.ofNat_lt (aI hlt (aI @List.length_map.{0,0} (aI (nM hlt) (aI @Pt.cells (aI @Pt.isAgg (aI @Pt.getAll @Pt.setAll)))))))
   iterate 4 refine SF ?_
   refine T2 (hK _ _ _ ?_)
   clear hK K
   by_cases h0 : ps[k].k = 0
   ·
    have hlong : ps[k].long = false := by simp [Pt.long, h0]
    refine aB fun K hK => Rg ?_
    clear F
    have F := aI @Pt.cells (aI @Pt.isAgg @Pt.getAll)
    refine SF ?_
    refine HS rfl rfl fun K' hK' => T6 ?_
    refine lL (largs := [.c ps[k].cv]) [] (bB9 ps[k] h0) rfl trivial (by simp) (by simp) ⟨rfl, rfl, rfl, rfl⟩ trivial (by simp [HV.menL, HV.men]) ?_
    rintro r os ⟨rfl, rfl⟩
    simp only [HV.ren, HV.renL, mU, HO.ren, sub, List.length_nil, Nat.not_lt_zero, if_false, Nat.sub_zero, Nat.add_zero]
    refine AX (hK' _ _ ?_)
    clear hK' K'
    refine SF ?_
    refine T2 (hK _ _ _ ?_)
    clear hK K
    refine aB fun K hK => Rg ?_
    clear F
    have F := aI hwn (aI hn0 (aI hrep @Int.toNat_natCast))
    iterate 5 refine SF ?_
    refine T2 (hK _ _ _ ?_)
    clear hK K
    refine aB fun K hK => ?_
    have key : ∀ fr ob nx, Fits 0 fr ob (fin [(1, .c (.str s)), (7, .c (.slc (bS (s.length + 1) (mD ps s k)))), (9, .ptr 112 0), (10, .clo 114 [.ptr 124 0]), (11, .own 144 (s.length + 1)), (31, .c (.slc (ps.map Pt.cv))), (32, .c (.int .i64 ps.length)), (33, .c (.int .i64 k))]) (fob [(112, .box 140 (.c ps[k].cv)), (124, .box 140 (.c ps[k].cv)), (144, .row 4 1 (bS (s.length + 1) (nxt ps s k 0)))]) 250 → K fr ob nx := by
     rintro fr ob nx hf
     refine hK _ _ _ (bM hf ?_)
     clear hf hK K
     refine aB fun K hK => ?_
     refine R0 ?_
     refine aK ?_
     refine bE (α := {i : Nat // i ≤ s.length}) (fun i => (fin [(1, .c (.str s)), (7, .c (.slc (bS (s.length + 1) (mD ps s k)))), (9, .ptr 112 0), (10, .clo 114 [.ptr 124 0]), (11, .own 144 (s.length + 1)), (31, .c (.slc (ps.map Pt.cv))), (32, .c (.int .i64 ps.length)), (33, .c (.int .i64 k)), (53, .c (.int .i64 s.length)), (54, .c (.int .i64 i.1))], fob [(112, .box 140 (.c ps[k].cv)), (124, .box 140 (.c ps[k].cv)), (144, .row 4 1 (bS (s.length + 1) (nxt ps s k i.1)))])) 300 (fun i => s.length - i.1) ⟨0, by omega⟩ (fF) ?_
     rintro ⟨i, hi⟩
     refine R0 ?_
     refine aB fun K hK => ?_
     refine aH (b := decide ((i : Int) < s.length)) rfl (fun hb => ?_) (fun hb => ?_)
     ·
      have hil : i < s.length := by simpa using hb
      clear hb
      have hgd : s.getD i 0 = s[i] := by simp [hil]
      have hiN : i + 1 < s.length + 1 := by omega
      have hiN0 : i < s.length + 1 := by omega
      have hw1 : IntKind.i64.wrap ((i : Int) + 1) = ((i + 1 : Nat) : Int) := by rw [IntWalk.i64_in _ (by omega)]; rfl
      refine aJ ?_
      refine T0 (hK _ _ _ ?_)
      clear hK K
      refine aB fun K hK => ?_
      refine aK ?_
      refine R0 ?_
      refine aK ?_
      refine aB fun K hK => Rg ?_
      clear F
      have F := aI @Pt.cells (aI @Pt.isAgg (aI @Pt.getAll hlong))
      refine SF ?_
      refine HS rfl rfl fun K' hK' => T6 ?_
      refine C1 (eU ps[k] hk3) ?_
      rintro u rfl
      refine AX (hK' _ _ ?_)
      clear hK' K'
      refine SF ?_
      refine T2 (hK _ _ _ ?_)
      clear hK K
      refine CF rfl ?_
      by_cases ha : mD ps s k i = true
      ·
       have htk : ps[k].takes s[i] = (s[i] == ps[k].c) := by simp [Pt.takes, h0]
       have hs1 : (bS (s.length + 1) (nxt ps s k i)).set (i + 1) (.bool (s[i] == ps[k].c)) = bS (s.length + 1) (nxt ps s k (i + 1)) := fK (by rw [oO, hprt, hlong, hgd]; simp [ha, htk])
       refine Rg ?_
       iterate 12 refine S0 ?_ (e := fun _ h_ => by simp only [sH, ↓sP, sA, tyS, simprocAttr, Int.natCast_nonneg, Int.ofNat_lt, hiN, hiN0, hil, hgd, hw1, aS, aU hiN, aU hiN0, cS, Int.toNat_natCast, ha]; exact AX h_)
       refine aZ (g := some (64, true)) rfl rfl fun K' hK' => ?_
       simp only [sH, ↓sP, sA, tyS, simprocAttr, Int.natCast_nonneg, Int.ofNat_lt, hiN, hiN0, hil, hgd, hw1, aS, aU hiN, aU hiN0, cS, Int.toNat_natCast, ha]
       refine bF9 (args := [_]) (bT3 ps[k] s[i]) rfl (by simp) ⟨rfl, rfl, rfl, rfl⟩ ?_
       rintro u rfl
       refine AX (hK' _ _ ?_)
       clear hK' K'
       iterate 3 refine S0 ?_ (e := fun _ h_ => by simp only [sH, ↓sP, sA, tyS, simprocAttr, Int.natCast_nonneg, Int.ofNat_lt, hiN, hiN0, hil, hgd, hw1, aS, aU hiN, aU hiN0, cS, Int.toNat_natCast, ha]; exact AX h_)
       refine T2 (hK _ _ _ ?_)
       clear hK K
       refine aL (by kernel_rfl) ?_
       refine TQ hw1 ?_
       refine ⟨⟨i + 1, hil⟩, aM (by omega) (by simp [aY, fin_at, finA_at, upd_at, HV.men, HV.menL, HV.norm, HV.toC, HV.toCL, aS]) (by simp [bB, fob_at, upd_at, none0_at, bZ, HO.men, HV.men, HV.menL, HV.norm, HV.toC, HV.toCL, hs1]), ?_⟩
       show s.length - (i + 1) < s.length - i
       omega
      have ha : mD ps s k i = false := by simpa using ha
      have htk : ps[k].takes s[i] = (s[i] == ps[k].c) := by simp [Pt.takes, h0]
      have hs1 : (bS (s.length + 1) (nxt ps s k i)).set (i + 1) (.bool false) = bS (s.length + 1) (nxt ps s k (i + 1)) := fK (by rw [oO, hprt, hlong, hgd]; simp [ha, htk])
      refine Rg ?_
      iterate 16 refine S0 ?_ (e := fun _ h_ => by simp only [sH, ↓sP, sA, tyS, simprocAttr, Int.natCast_nonneg, Int.ofNat_lt, hiN, hiN0, hil, hgd, hw1, aS, aU hiN, aU hiN0, cS, Int.toNat_natCast, ha]; exact AX h_)
      refine T2 (hK _ _ _ ?_)
      clear hK K
      refine aL (by kernel_rfl) ?_
      refine TQ hw1 ?_
      refine ⟨⟨i + 1, hil⟩, aM (by omega) (by simp [aY, fin_at, finA_at, upd_at, HV.men, HV.menL, HV.norm, HV.toC, HV.toCL, aS]) (by simp [bB, fob_at, upd_at, none0_at, bZ, HO.men, HV.men, HV.menL, HV.norm, HV.toC, HV.toCL, hs1]), ?_⟩
      show s.length - (i + 1) < s.length - i
      omega
     refine aX (T3 ?_)
     clear hK K
     refine AX (hK _ _ _ ?_)
     clear hK K
     refine aL (by kernel_rfl) ?_
     refine T0 (hK _ _ _ ?_)
     clear hK K
     have hei : i = s.length := by simp at hb; omega
     subst hei
     have hra := tZ (ps := ps) (s := s) (k := k)
     refine eB [144] (bM (fr2 := fin [(1, .c (.str s)), (7, .c (.slc (bS (s.length + 1) (mD ps s (k + 1))))), (31, .c (.slc (ps.map Pt.cv))), (32, .c (.int .i64 ps.length)), (33, .c (.int .i64 k))]) (ob2 := fob []) (nx2 := 900) (aM (by omega) (by simp [aY, iE, fin_at, finA_at, upd_at, fob_at, HV.close, HV.closeL, CV.denil, CV.denilL, gZ, denilL_Pt, hra, HV.men, HV.menL, HV.norm, HV.toC, HV.toCL, aS]) (by simp [bB, iF, fob_at, upd_at, none0_at, bZ, HO.close, HV.close, HV.closeL, HO.men, HV.men, HV.menL, HV.norm, HV.toC, HV.toCL])) ?_)
     refine aL (by kernel_rfl) ?_
     refine TQ (iQ k) ?_
     refine ⟨⟨k + 1, hlt⟩, fF, ?_⟩
     show ps.length - (k + 1) < ps.length - k
     omega
    by_cases hm : mD ps s k 0 = true
    ·
     have hz : (bS (s.length + 1) (fun _ => false)).set 0 (.bool false) = bS (s.length + 1) (nxt ps s k 0) := iA (by rw [hm, hprt, hlong]; rfl)
     refine Rg ?_
     iterate 6 refine S0 ?_ (e := fun _ h_ => by simp only [sH, ↓sP, sA, tyS, simprocAttr, hzn, aS, aU (Nat.succ_pos s.length), Int.toNat_zero, hm, hlong, Pt.cells, Pt.isAgg, Pt.getAll]; exact AX h_)
     refine aZ (g := some (47, true)) rfl rfl fun K' hK' => ?_
     simp only [sH, ↓sP, sA, tyS, simprocAttr, hzn, aS, aU (Nat.succ_pos s.length), Int.toNat_zero, hm, hlong, Pt.cells, Pt.isAgg, Pt.getAll]
     refine C1 (eU ps[k] hk3) ?_
     rintro u rfl
     refine AX (hK' _ _ ?_)
     clear hK' K'
     iterate 3 refine S0 ?_ (e := fun _ h_ => by simp only [sH, ↓sP, sA, tyS, simprocAttr, hzn, aS, aU (Nat.succ_pos s.length), Int.toNat_zero, hm, hlong, Pt.cells, Pt.isAgg, Pt.getAll]; exact AX h_)
     refine T4 ?_
     exact key _ _ _ (aM (by omega) (by simp [aY, fin_at, finA_at, upd_at, HV.men, HV.menL, HV.norm, HV.toC, HV.toCL, aS]) (by simp [bB, fob_at, upd_at, none0_at, bZ, HO.men, HV.men, HV.menL, HV.norm, HV.toC, HV.toCL, hz]))
    have hm0 : mD ps s k 0 = false := by simpa using hm
    have hz : (bS (s.length + 1) (fun _ => false)).set 0 (.bool false) = bS (s.length + 1) (nxt ps s k 0) := iA (by rw [hm0]; rfl)
    refine Rg ?_
    iterate 10 refine S0 ?_ (e := fun _ h_ => by simp only [sH, ↓sP, sA, tyS, simprocAttr, hzn, aS, aU (Nat.succ_pos s.length), Int.toNat_zero, hm0, Pt.cells, Pt.isAgg, Pt.getAll]; exact AX h_)
    refine T4 ?_
    exact key _ _ _ (aM (by omega) (by simp [aY, fin_at, finA_at, upd_at, HV.men, HV.menL, HV.norm, HV.toC, HV.toCL, aS]) (by simp [bB, fob_at, upd_at, none0_at, bZ, HO.men, HV.men, HV.menL, HV.norm, HV.toC, HV.toCL, hz]))
   by_cases h3 : ps[k].k = 3
   ·
    have hlong : ps[k].long = true := by simp [Pt.long, h3]
    refine aB fun K hK => Rg ?_
    clear F
    have F := aI @Pt.cells (aI @Pt.isAgg @Pt.getAll)
    refine SF ?_
    refine HS rfl rfl fun K' hK' => T6 ?_
    refine C1 (bC0 ps[k] h3) ?_
    rintro u rfl
    refine AX (hK' _ _ ?_)
    clear hK' K'
    refine SF ?_
    refine T2 (hK _ _ _ ?_)
    clear hK K
    refine aB fun K hK => Rg ?_
    clear F
    have F := aI hwn (aI hn0 (aI hrep @Int.toNat_natCast))
    iterate 5 refine SF ?_
    refine T2 (hK _ _ _ ?_)
    clear hK K
    refine aB fun K hK => ?_
    have key : ∀ fr ob nx, Fits 0 fr ob (fin [(1, .c (.str s)), (7, .c (.slc (bS (s.length + 1) (mD ps s k)))), (9, .ptr 112 0), (10, .c (.fn 115)), (11, .own 144 (s.length + 1)), (31, .c (.slc (ps.map Pt.cv))), (32, .c (.int .i64 ps.length)), (33, .c (.int .i64 k))]) (fob [(112, .box 140 (.c ps[k].cv)), (144, .row 4 1 (bS (s.length + 1) (nxt ps s k 0)))]) 250 → K fr ob nx := by
     rintro fr ob nx hf
     refine hK _ _ _ (bM hf ?_)
     clear hf hK K
     refine aB fun K hK => ?_
     refine R0 ?_
     refine aK ?_
     refine bE (α := {i : Nat // i ≤ s.length}) (fun i => (fin [(1, .c (.str s)), (7, .c (.slc (bS (s.length + 1) (mD ps s k)))), (9, .ptr 112 0), (10, .c (.fn 115)), (11, .own 144 (s.length + 1)), (31, .c (.slc (ps.map Pt.cv))), (32, .c (.int .i64 ps.length)), (33, .c (.int .i64 k)), (53, .c (.int .i64 s.length)), (54, .c (.int .i64 i.1))], fob [(112, .box 140 (.c ps[k].cv)), (144, .row 4 1 (bS (s.length + 1) (nxt ps s k i.1)))])) 300 (fun i => s.length - i.1) ⟨0, by omega⟩ (fF) ?_
     rintro ⟨i, hi⟩
     refine R0 ?_
     refine aB fun K hK => ?_
     refine aH (b := decide ((i : Int) < s.length)) rfl (fun hb => ?_) (fun hb => ?_)
     ·
      have hil : i < s.length := by simpa using hb
      clear hb
      have hgd : s.getD i 0 = s[i] := by simp [hil]
      have hiN : i + 1 < s.length + 1 := by omega
      have hiN0 : i < s.length + 1 := by omega
      have hw1 : IntKind.i64.wrap ((i : Int) + 1) = ((i + 1 : Nat) : Int) := by rw [IntWalk.i64_in _ (by omega)]; rfl
      refine aJ ?_
      refine T0 (hK _ _ _ ?_)
      clear hK K
      refine aB fun K hK => ?_
      refine aK ?_
      refine R0 ?_
      refine aK ?_
      refine aB fun K hK => Rg ?_
      clear F
      have F := aI @Pt.cells (aI @Pt.isAgg (aI @Pt.getAll hlong))
      refine SF ?_
      refine HS rfl rfl fun K' hK' => T6 ?_
      refine C1 (eU ps[k] hk3) ?_
      rintro u rfl
      refine AX (hK' _ _ ?_)
      clear hK' K'
      refine SF ?_
      refine T2 (hK _ _ _ ?_)
      clear hK K
      refine CT rfl ?_
      by_cases ha : mD ps s k (i + 1) = true
      ·
       have htk : ps[k].takes s[i] = true := by simp [Pt.takes, h3]
       have hs1 : (bS (s.length + 1) (nxt ps s k i)).set (i + 1) (.bool true) = bS (s.length + 1) (nxt ps s k (i + 1)) := fK (by rw [oO, hprt, hlong, hgd]; simp [ha, htk])
       refine Rg ?_
       iterate 23 refine S0 ?_ (e := fun _ h_ => by simp only [sH, ↓sP, sA, tyS, simprocAttr, Int.natCast_nonneg, Int.ofNat_lt, hiN, hiN0, hil, hgd, hw1, aS, aU hiN, aU hiN0, cS, Int.toNat_natCast, ha]; exact AX h_)
       refine T2 (hK _ _ _ ?_)
       clear hK K
       refine aL (by kernel_rfl) ?_
       refine TQ hw1 ?_
       refine ⟨⟨i + 1, hil⟩, aM (by omega) (by simp [aY, fin_at, finA_at, upd_at, HV.men, HV.menL, HV.norm, HV.toC, HV.toCL, aS]) (by simp [bB, fob_at, upd_at, none0_at, bZ, HO.men, HV.men, HV.menL, HV.norm, HV.toC, HV.toCL, hs1]), ?_⟩
       show s.length - (i + 1) < s.length - i
       omega
      by_cases hn : mD ps s (k + 1) i = true
      ·
       have ha : mD ps s k (i + 1) = false := by simpa using ha
       have htk : ps[k].takes s[i] = true := by simp [Pt.takes, h3]
       have hs1 : (bS (s.length + 1) (nxt ps s k i)).set (i + 1) (.bool true) = bS (s.length + 1) (nxt ps s k (i + 1)) := fK (by rw [oO, hprt, hlong, hgd]; simp [ha, hn, htk])
       refine Rg ?_
       iterate 18 refine S0 ?_ (e := fun _ h_ => by simp only [sH, ↓sP, sA, tyS, simprocAttr, Int.natCast_nonneg, Int.ofNat_lt, hiN, hiN0, hil, hgd, hw1, aS, aU hiN, aU hiN0, cS, Int.toNat_natCast, ha, hn]; exact AX h_)
       refine aZ (g := some (88, true)) rfl rfl fun K' hK' => ?_
       simp only [sH, ↓sP, sA, tyS, simprocAttr, Int.natCast_nonneg, Int.ofNat_lt, hiN, hiN0, hil, hgd, hw1, aS, aU hiN, aU hiN0, cS, Int.toNat_natCast, ha, hn]
       refine C1 (bR8 s[i]) ?_
       rintro u rfl
       refine AX (hK' _ _ ?_)
       clear hK' K'
       iterate 4 refine S0 ?_ (e := fun _ h_ => by simp only [sH, ↓sP, sA, tyS, simprocAttr, Int.natCast_nonneg, Int.ofNat_lt, hiN, hiN0, hil, hgd, hw1, aS, aU hiN, aU hiN0, cS, Int.toNat_natCast, ha, hn]; exact AX h_)
       refine T2 (hK _ _ _ ?_)
       clear hK K
       refine aL (by kernel_rfl) ?_
       refine TQ hw1 ?_
       refine ⟨⟨i + 1, hil⟩, aM (by omega) (by simp [aY, fin_at, finA_at, upd_at, HV.men, HV.menL, HV.norm, HV.toC, HV.toCL, aS]) (by simp [bB, fob_at, upd_at, none0_at, bZ, HO.men, HV.men, HV.menL, HV.norm, HV.toC, HV.toCL, hs1]), ?_⟩
       show s.length - (i + 1) < s.length - i
       omega
      have ha : mD ps s k (i + 1) = false := by simpa using ha
      have hn : mD ps s (k + 1) i = false := by simpa using hn
      have htk : ps[k].takes s[i] = true := by simp [Pt.takes, h3]
      have hs1 : (bS (s.length + 1) (nxt ps s k i)).set (i + 1) (.bool false) = bS (s.length + 1) (nxt ps s k (i + 1)) := fK (by rw [oO, hprt, hlong, hgd]; simp [ha, hn, htk])
      refine Rg ?_
      iterate 23 refine S0 ?_ (e := fun _ h_ => by simp only [sH, ↓sP, sA, tyS, simprocAttr, Int.natCast_nonneg, Int.ofNat_lt, hiN, hiN0, hil, hgd, hw1, aS, aU hiN, aU hiN0, cS, Int.toNat_natCast, ha, hn]; exact AX h_)
      refine T2 (hK _ _ _ ?_)
      clear hK K
      refine aL (by kernel_rfl) ?_
      refine TQ hw1 ?_
      refine ⟨⟨i + 1, hil⟩, aM (by omega) (by simp [aY, fin_at, finA_at, upd_at, HV.men, HV.menL, HV.norm, HV.toC, HV.toCL, aS]) (by simp [bB, fob_at, upd_at, none0_at, bZ, HO.men, HV.men, HV.menL, HV.norm, HV.toC, HV.toCL, hs1]), ?_⟩
      show s.length - (i + 1) < s.length - i
      omega
     refine aX (T3 ?_)
     clear hK K
     refine AX (hK _ _ _ ?_)
     clear hK K
     refine aL (by kernel_rfl) ?_
     refine T0 (hK _ _ _ ?_)
     clear hK K
     have hei : i = s.length := by simp at hb; omega
     subst hei
     have hra := tZ (ps := ps) (s := s) (k := k)
     refine eB [144] (bM (fr2 := fin [(1, .c (.str s)), (7, .c (.slc (bS (s.length + 1) (mD ps s (k + 1))))), (31, .c (.slc (ps.map Pt.cv))), (32, .c (.int .i64 ps.length)), (33, .c (.int .i64 k))]) (ob2 := fob []) (nx2 := 900) (aM (by omega) (by simp [aY, iE, fin_at, finA_at, upd_at, fob_at, HV.close, HV.closeL, CV.denil, CV.denilL, gZ, denilL_Pt, hra, HV.men, HV.menL, HV.norm, HV.toC, HV.toCL, aS]) (by simp [bB, iF, fob_at, upd_at, none0_at, bZ, HO.close, HV.close, HV.closeL, HO.men, HV.men, HV.menL, HV.norm, HV.toC, HV.toCL])) ?_)
     refine aL (by kernel_rfl) ?_
     refine TQ (iQ k) ?_
     refine ⟨⟨k + 1, hlt⟩, fF, ?_⟩
     show ps.length - (k + 1) < ps.length - k
     omega
    by_cases hm : mD ps s k 0 = true
    ·
     have hz : (bS (s.length + 1) (fun _ => false)).set 0 (.bool true) = bS (s.length + 1) (nxt ps s k 0) := iA (by rw [hm, hprt, hlong]; rfl)
     refine Rg ?_
     iterate 6 refine S0 ?_ (e := fun _ h_ => by simp only [sH, ↓sP, sA, tyS, simprocAttr, hzn, aS, aU (Nat.succ_pos s.length), Int.toNat_zero, hm, hlong, Pt.cells, Pt.isAgg, Pt.getAll]; exact AX h_)
     refine aZ (g := some (47, true)) rfl rfl fun K' hK' => ?_
     simp only [sH, ↓sP, sA, tyS, simprocAttr, hzn, aS, aU (Nat.succ_pos s.length), Int.toNat_zero, hm, hlong, Pt.cells, Pt.isAgg, Pt.getAll]
     refine C1 (eU ps[k] hk3) ?_
     rintro u rfl
     refine AX (hK' _ _ ?_)
     clear hK' K'
     iterate 3 refine S0 ?_ (e := fun _ h_ => by simp only [sH, ↓sP, sA, tyS, simprocAttr, hzn, aS, aU (Nat.succ_pos s.length), Int.toNat_zero, hm, hlong, Pt.cells, Pt.isAgg, Pt.getAll]; exact AX h_)
     refine T4 ?_
     exact key _ _ _ (aM (by omega) (by simp [aY, fin_at, finA_at, upd_at, HV.men, HV.menL, HV.norm, HV.toC, HV.toCL, aS]) (by simp [bB, fob_at, upd_at, none0_at, bZ, HO.men, HV.men, HV.menL, HV.norm, HV.toC, HV.toCL, hz]))
    have hm0 : mD ps s k 0 = false := by simpa using hm
    have hz : (bS (s.length + 1) (fun _ => false)).set 0 (.bool false) = bS (s.length + 1) (nxt ps s k 0) := iA (by rw [hm0]; rfl)
    refine Rg ?_
    iterate 10 refine S0 ?_ (e := fun _ h_ => by simp only [sH, ↓sP, sA, tyS, simprocAttr, hzn, aS, aU (Nat.succ_pos s.length), Int.toNat_zero, hm0, Pt.cells, Pt.isAgg, Pt.getAll]; exact AX h_)
    refine T4 ?_
    exact key _ _ _ (aM (by omega) (by simp [aY, fin_at, finA_at, upd_at, HV.men, HV.menL, HV.norm, HV.toC, HV.toCL, aS]) (by simp [bB, fob_at, upd_at, none0_at, bZ, HO.men, HV.men, HV.menL, HV.norm, HV.toC, HV.toCL, hz]))
   by_cases h1 : ps[k].k = 1
   ·
    have hlong : ps[k].long = false := by simp [Pt.long, h1]
    refine aB fun K hK => Rg ?_
    clear F
    have F := aI @Pt.cells (aI @Pt.isAgg @Pt.getAll)
    refine SF ?_
    refine HS rfl rfl fun K' hK' => T6 ?_
    refine C1 (zH ps[k] (.inl h1)) ?_
    rintro u rfl
    refine AX (hK' _ _ ?_)
    clear hK' K'
    refine SF ?_
    refine T2 (hK _ _ _ ?_)
    clear hK K
    refine aB fun K hK => Rg ?_
    clear F
    have F := aI hwn (aI hn0 (aI hrep @Int.toNat_natCast))
    iterate 5 refine SF ?_
    refine T2 (hK _ _ _ ?_)
    clear hK K
    refine aB fun K hK => ?_
    have key : ∀ fr ob nx, Fits 0 fr ob (fin [(1, .c (.str s)), (7, .c (.slc (bS (s.length + 1) (mD ps s k)))), (9, .ptr 112 0), (10, .c (.fn 116)), (11, .own 144 (s.length + 1)), (31, .c (.slc (ps.map Pt.cv))), (32, .c (.int .i64 ps.length)), (33, .c (.int .i64 k))]) (fob [(112, .box 140 (.c ps[k].cv)), (144, .row 4 1 (bS (s.length + 1) (nxt ps s k 0)))]) 250 → K fr ob nx := by
     rintro fr ob nx hf
     refine hK _ _ _ (bM hf ?_)
     clear hf hK K
     refine aB fun K hK => ?_
     refine R0 ?_
     refine aK ?_
     refine bE (α := {i : Nat // i ≤ s.length}) (fun i => (fin [(1, .c (.str s)), (7, .c (.slc (bS (s.length + 1) (mD ps s k)))), (9, .ptr 112 0), (10, .c (.fn 116)), (11, .own 144 (s.length + 1)), (31, .c (.slc (ps.map Pt.cv))), (32, .c (.int .i64 ps.length)), (33, .c (.int .i64 k)), (53, .c (.int .i64 s.length)), (54, .c (.int .i64 i.1))], fob [(112, .box 140 (.c ps[k].cv)), (144, .row 4 1 (bS (s.length + 1) (nxt ps s k i.1)))])) 300 (fun i => s.length - i.1) ⟨0, by omega⟩ (fF) ?_
     rintro ⟨i, hi⟩
     refine R0 ?_
     refine aB fun K hK => ?_
     refine aH (b := decide ((i : Int) < s.length)) rfl (fun hb => ?_) (fun hb => ?_)
     ·
      have hil : i < s.length := by simpa using hb
      clear hb
      have hgd : s.getD i 0 = s[i] := by simp [hil]
      have hiN : i + 1 < s.length + 1 := by omega
      have hiN0 : i < s.length + 1 := by omega
      have hw1 : IntKind.i64.wrap ((i : Int) + 1) = ((i + 1 : Nat) : Int) := by rw [IntWalk.i64_in _ (by omega)]; rfl
      refine aJ ?_
      refine T0 (hK _ _ _ ?_)
      clear hK K
      refine aB fun K hK => ?_
      refine aK ?_
      refine R0 ?_
      refine aK ?_
      refine aB fun K hK => Rg ?_
      clear F
      have F := aI @Pt.cells (aI @Pt.isAgg (aI @Pt.getAll hlong))
      refine SF ?_
      refine HS rfl rfl fun K' hK' => T6 ?_
      refine C1 (eU ps[k] hk3) ?_
      rintro u rfl
      refine AX (hK' _ _ ?_)
      clear hK' K'
      refine SF ?_
      refine T2 (hK _ _ _ ?_)
      clear hK K
      refine CF rfl ?_
      by_cases ha : mD ps s k i = true
      ·
       have htk : ps[k].takes s[i] = (!(s[i] == 47)) := by simp [Pt.takes, h1]
       have hs1 : (bS (s.length + 1) (nxt ps s k i)).set (i + 1) (.bool (!(s[i] == 47))) = bS (s.length + 1) (nxt ps s k (i + 1)) := fK (by rw [oO, hprt, hlong, hgd]; simp [ha, htk])
       refine Rg ?_
       iterate 12 refine S0 ?_ (e := fun _ h_ => by simp only [sH, ↓sP, sA, tyS, simprocAttr, Int.natCast_nonneg, Int.ofNat_lt, hiN, hiN0, hil, hgd, hw1, aS, aU hiN, aU hiN0, cS, Int.toNat_natCast, ha]; exact AX h_)
       refine aZ (g := some (64, true)) rfl rfl fun K' hK' => ?_
       simp only [sH, ↓sP, sA, tyS, simprocAttr, Int.natCast_nonneg, Int.ofNat_lt, hiN, hiN0, hil, hgd, hw1, aS, aU hiN, aU hiN0, cS, Int.toNat_natCast, ha]
       refine C1 (aV3 s[i]) ?_
       rintro u rfl
       refine AX (hK' _ _ ?_)
       clear hK' K'
       iterate 3 refine S0 ?_ (e := fun _ h_ => by simp only [sH, ↓sP, sA, tyS, simprocAttr, Int.natCast_nonneg, Int.ofNat_lt, hiN, hiN0, hil, hgd, hw1, aS, aU hiN, aU hiN0, cS, Int.toNat_natCast, ha]; exact AX h_)
       refine T2 (hK _ _ _ ?_)
       clear hK K
       refine aL (by kernel_rfl) ?_
       refine TQ hw1 ?_
       refine ⟨⟨i + 1, hil⟩, aM (by omega) (by simp [aY, fin_at, finA_at, upd_at, HV.men, HV.menL, HV.norm, HV.toC, HV.toCL, aS]) (by simp [bB, fob_at, upd_at, none0_at, bZ, HO.men, HV.men, HV.menL, HV.norm, HV.toC, HV.toCL, hs1]), ?_⟩
       show s.length - (i + 1) < s.length - i
       omega
      have ha : mD ps s k i = false := by simpa using ha
      have htk : ps[k].takes s[i] = (!(s[i] == 47)) := by simp [Pt.takes, h1]
      have hs1 : (bS (s.length + 1) (nxt ps s k i)).set (i + 1) (.bool false) = bS (s.length + 1) (nxt ps s k (i + 1)) := fK (by rw [oO, hprt, hlong, hgd]; simp [ha, htk])
      refine Rg ?_
      iterate 16 refine S0 ?_ (e := fun _ h_ => by simp only [sH, ↓sP, sA, tyS, simprocAttr, Int.natCast_nonneg, Int.ofNat_lt, hiN, hiN0, hil, hgd, hw1, aS, aU hiN, aU hiN0, cS, Int.toNat_natCast, ha]; exact AX h_)
      refine T2 (hK _ _ _ ?_)
      clear hK K
      refine aL (by kernel_rfl) ?_
      refine TQ hw1 ?_
      refine ⟨⟨i + 1, hil⟩, aM (by omega) (by simp [aY, fin_at, finA_at, upd_at, HV.men, HV.menL, HV.norm, HV.toC, HV.toCL, aS]) (by simp [bB, fob_at, upd_at, none0_at, bZ, HO.men, HV.men, HV.menL, HV.norm, HV.toC, HV.toCL, hs1]), ?_⟩
      show s.length - (i + 1) < s.length - i
      omega
     refine aX (T3 ?_)
     clear hK K
     refine AX (hK _ _ _ ?_)
     clear hK K
     refine aL (by kernel_rfl) ?_
     refine T0 (hK _ _ _ ?_)
     clear hK K
     have hei : i = s.length := by simp at hb; omega
     subst hei
     have hra := tZ (ps := ps) (s := s) (k := k)
     refine eB [144] (bM (fr2 := fin [(1, .c (.str s)), (7, .c (.slc (bS (s.length + 1) (mD ps s (k + 1))))), (31, .c (.slc (ps.map Pt.cv))), (32, .c (.int .i64 ps.length)), (33, .c (.int .i64 k))]) (ob2 := fob []) (nx2 := 900) (aM (by omega) (by simp [aY, iE, fin_at, finA_at, upd_at, fob_at, HV.close, HV.closeL, CV.denil, CV.denilL, gZ, denilL_Pt, hra, HV.men, HV.menL, HV.norm, HV.toC, HV.toCL, aS]) (by simp [bB, iF, fob_at, upd_at, none0_at, bZ, HO.close, HV.close, HV.closeL, HO.men, HV.men, HV.menL, HV.norm, HV.toC, HV.toCL])) ?_)
     refine aL (by kernel_rfl) ?_
     refine TQ (iQ k) ?_
     refine ⟨⟨k + 1, hlt⟩, fF, ?_⟩
     show ps.length - (k + 1) < ps.length - k
     omega
    by_cases hm : mD ps s k 0 = true
    ·
     have hz : (bS (s.length + 1) (fun _ => false)).set 0 (.bool false) = bS (s.length + 1) (nxt ps s k 0) := iA (by rw [hm, hprt, hlong]; rfl)
     refine Rg ?_
     iterate 6 refine S0 ?_ (e := fun _ h_ => by simp only [sH, ↓sP, sA, tyS, simprocAttr, hzn, aS, aU (Nat.succ_pos s.length), Int.toNat_zero, hm, hlong, Pt.cells, Pt.isAgg, Pt.getAll]; exact AX h_)
     refine aZ (g := some (47, true)) rfl rfl fun K' hK' => ?_
     simp only [sH, ↓sP, sA, tyS, simprocAttr, hzn, aS, aU (Nat.succ_pos s.length), Int.toNat_zero, hm, hlong, Pt.cells, Pt.isAgg, Pt.getAll]
     refine C1 (eU ps[k] hk3) ?_
     rintro u rfl
     refine AX (hK' _ _ ?_)
     clear hK' K'
     iterate 3 refine S0 ?_ (e := fun _ h_ => by simp only [sH, ↓sP, sA, tyS, simprocAttr, hzn, aS, aU (Nat.succ_pos s.length), Int.toNat_zero, hm, hlong, Pt.cells, Pt.isAgg, Pt.getAll]; exact AX h_)
     refine T4 ?_
     exact key _ _ _ (aM (by omega) (by simp [aY, fin_at, finA_at, upd_at, HV.men, HV.menL, HV.norm, HV.toC, HV.toCL, aS]) (by simp [bB, fob_at, upd_at, none0_at, bZ, HO.men, HV.men, HV.menL, HV.norm, HV.toC, HV.toCL, hz]))
    have hm0 : mD ps s k 0 = false := by simpa using hm
    have hz : (bS (s.length + 1) (fun _ => false)).set 0 (.bool false) = bS (s.length + 1) (nxt ps s k 0) := iA (by rw [hm0]; rfl)
    refine Rg ?_
    iterate 10 refine S0 ?_ (e := fun _ h_ => by simp only [sH, ↓sP, sA, tyS, simprocAttr, hzn, aS, aU (Nat.succ_pos s.length), Int.toNat_zero, hm0, Pt.cells, Pt.isAgg, Pt.getAll]; exact AX h_)
    refine T4 ?_
    exact key _ _ _ (aM (by omega) (by simp [aY, fin_at, finA_at, upd_at, HV.men, HV.menL, HV.norm, HV.toC, HV.toCL, aS]) (by simp [bB, fob_at, upd_at, none0_at, bZ, HO.men, HV.men, HV.menL, HV.norm, HV.toC, HV.toCL, hz]))
   have h2 : ps[k].k = 2 := by omega
   have hlong : ps[k].long = true := by simp [Pt.long, h2]
   refine aB fun K hK => Rg ?_
   clear F
   have F := aI @Pt.cells (aI @Pt.isAgg @Pt.getAll)
   refine SF ?_
   refine HS rfl rfl fun K' hK' => T6 ?_
   refine C1 (zH ps[k] (.inr h2)) ?_
   rintro u rfl
   refine AX (hK' _ _ ?_)
   clear hK' K'
   refine SF ?_
   refine T2 (hK _ _ _ ?_)
   clear hK K
   refine aB fun K hK => Rg ?_
   clear F
   have F := aI hwn (aI hn0 (aI hrep @Int.toNat_natCast))
   iterate 5 refine SF ?_
   refine T2 (hK _ _ _ ?_)
   clear hK K
   refine aB fun K hK => ?_
   have key : ∀ fr ob nx, Fits 0 fr ob (fin [(1, .c (.str s)), (7, .c (.slc (bS (s.length + 1) (mD ps s k)))), (9, .ptr 112 0), (10, .c (.fn 116)), (11, .own 144 (s.length + 1)), (31, .c (.slc (ps.map Pt.cv))), (32, .c (.int .i64 ps.length)), (33, .c (.int .i64 k))]) (fob [(112, .box 140 (.c ps[k].cv)), (144, .row 4 1 (bS (s.length + 1) (nxt ps s k 0)))]) 250 → K fr ob nx := by
    rintro fr ob nx hf
    refine hK _ _ _ (bM hf ?_)
    clear hf hK K
    refine aB fun K hK => ?_
    refine R0 ?_
    refine aK ?_
    refine bE (α := {i : Nat // i ≤ s.length}) (fun i => (fin [(1, .c (.str s)), (7, .c (.slc (bS (s.length + 1) (mD ps s k)))), (9, .ptr 112 0), (10, .c (.fn 116)), (11, .own 144 (s.length + 1)), (31, .c (.slc (ps.map Pt.cv))), (32, .c (.int .i64 ps.length)), (33, .c (.int .i64 k)), (53, .c (.int .i64 s.length)), (54, .c (.int .i64 i.1))], fob [(112, .box 140 (.c ps[k].cv)), (144, .row 4 1 (bS (s.length + 1) (nxt ps s k i.1)))])) 300 (fun i => s.length - i.1) ⟨0, by omega⟩ (fF) ?_
    rintro ⟨i, hi⟩
    refine R0 ?_
    refine aB fun K hK => ?_
    refine aH (b := decide ((i : Int) < s.length)) rfl (fun hb => ?_) (fun hb => ?_)
    ·
     have hil : i < s.length := by simpa using hb
     clear hb
     have hgd : s.getD i 0 = s[i] := by simp [hil]
     have hiN : i + 1 < s.length + 1 := by omega
     have hiN0 : i < s.length + 1 := by omega
     have hw1 : IntKind.i64.wrap ((i : Int) + 1) = ((i + 1 : Nat) : Int) := by rw [IntWalk.i64_in _ (by omega)]; rfl
     refine aJ ?_
     refine T0 (hK _ _ _ ?_)
     clear hK K
     refine aB fun K hK => ?_
     refine aK ?_
     refine R0 ?_
     refine aK ?_
     refine aB fun K hK => Rg ?_
     clear F
     have F := aI @Pt.cells (aI @Pt.isAgg (aI @Pt.getAll hlong))
     refine SF ?_
     refine HS rfl rfl fun K' hK' => T6 ?_
     refine C1 (eU ps[k] hk3) ?_
     rintro u rfl
     refine AX (hK' _ _ ?_)
     clear hK' K'
     refine SF ?_
     refine T2 (hK _ _ _ ?_)
     clear hK K
     refine CT rfl ?_
     by_cases ha : mD ps s k (i + 1) = true
     ·
      have htk : ps[k].takes s[i] = (!(s[i] == 47)) := by simp [Pt.takes, h2]
      have hs1 : (bS (s.length + 1) (nxt ps s k i)).set (i + 1) (.bool true) = bS (s.length + 1) (nxt ps s k (i + 1)) := fK (by rw [oO, hprt, hlong, hgd]; simp [ha, htk])
      refine Rg ?_
      iterate 23 refine S0 ?_ (e := fun _ h_ => by simp only [sH, ↓sP, sA, tyS, simprocAttr, Int.natCast_nonneg, Int.ofNat_lt, hiN, hiN0, hil, hgd, hw1, aS, aU hiN, aU hiN0, cS, Int.toNat_natCast, ha]; exact AX h_)
      refine T2 (hK _ _ _ ?_)
      clear hK K
      refine aL (by kernel_rfl) ?_
      refine TQ hw1 ?_
      refine ⟨⟨i + 1, hil⟩, aM (by omega) (by simp [aY, fin_at, finA_at, upd_at, HV.men, HV.menL, HV.norm, HV.toC, HV.toCL, aS]) (by simp [bB, fob_at, upd_at, none0_at, bZ, HO.men, HV.men, HV.menL, HV.norm, HV.toC, HV.toCL, hs1]), ?_⟩
      show s.length - (i + 1) < s.length - i
      omega
     by_cases hn : mD ps s (k + 1) i = true
     ·
      have ha : mD ps s k (i + 1) = false := by simpa using ha
      have htk : ps[k].takes s[i] = (!(s[i] == 47)) := by simp [Pt.takes, h2]
      have hs1 : (bS (s.length + 1) (nxt ps s k i)).set (i + 1) (.bool (!(s[i] == 47))) = bS (s.length + 1) (nxt ps s k (i + 1)) := fK (by rw [oO, hprt, hlong, hgd]; simp [ha, hn, htk])
      refine Rg ?_
      iterate 18 refine S0 ?_ (e := fun _ h_ => by simp only [sH, ↓sP, sA, tyS, simprocAttr, Int.natCast_nonneg, Int.ofNat_lt, hiN, hiN0, hil, hgd, hw1, aS, aU hiN, aU hiN0, cS, Int.toNat_natCast, ha, hn]; exact AX h_)
      refine aZ (g := some (88, true)) rfl rfl fun K' hK' => ?_
      simp only [sH, ↓sP, sA, tyS, simprocAttr, Int.natCast_nonneg, Int.ofNat_lt, hiN, hiN0, hil, hgd, hw1, aS, aU hiN, aU hiN0, cS, Int.toNat_natCast, ha, hn]
      refine C1 (aV3 s[i]) ?_
      rintro u rfl
      refine AX (hK' _ _ ?_)
      clear hK' K'
      iterate 4 refine S0 ?_ (e := fun _ h_ => by simp only [sH, ↓sP, sA, tyS, simprocAttr, Int.natCast_nonneg, Int.ofNat_lt, hiN, hiN0, hil, hgd, hw1, aS, aU hiN, aU hiN0, cS, Int.toNat_natCast, ha, hn]; exact AX h_)
      refine T2 (hK _ _ _ ?_)
      clear hK K
      refine aL (by kernel_rfl) ?_
      refine TQ hw1 ?_
      refine ⟨⟨i + 1, hil⟩, aM (by omega) (by simp [aY, fin_at, finA_at, upd_at, HV.men, HV.menL, HV.norm, HV.toC, HV.toCL, aS]) (by simp [bB, fob_at, upd_at, none0_at, bZ, HO.men, HV.men, HV.menL, HV.norm, HV.toC, HV.toCL, hs1]), ?_⟩
      show s.length - (i + 1) < s.length - i
      omega
     have ha : mD ps s k (i + 1) = false := by simpa using ha
     have hn : mD ps s (k + 1) i = false := by simpa using hn
     have htk : ps[k].takes s[i] = (!(s[i] == 47)) := by simp [Pt.takes, h2]
     have hs1 : (bS (s.length + 1) (nxt ps s k i)).set (i + 1) (.bool false) = bS (s.length + 1) (nxt ps s k (i + 1)) := fK (by rw [oO, hprt, hlong, hgd]; simp [ha, hn, htk])
     refine Rg ?_
     iterate 23 refine S0 ?_ (e := fun _ h_ => by simp only [sH, ↓sP, sA, tyS, simprocAttr, Int.natCast_nonneg, Int.ofNat_lt, hiN, hiN0, hil, hgd, hw1, aS, aU hiN, aU hiN0, cS, Int.toNat_natCast, ha, hn]; exact AX h_)
     refine T2 (hK _ _ _ ?_)
     clear hK K
     refine aL (by kernel_rfl) ?_
     refine TQ hw1 ?_
     refine ⟨⟨i + 1, hil⟩, aM (by omega) (by simp [aY, fin_at, finA_at, upd_at, HV.men, HV.menL, HV.norm, HV.toC, HV.toCL, aS]) (by simp [bB, fob_at, upd_at, none0_at, bZ, HO.men, HV.men, HV.menL, HV.norm, HV.toC, HV.toCL, hs1]), ?_⟩
     show s.length - (i + 1) < s.length - i
     omega
    refine aX (T3 ?_)
    clear hK K
    refine AX (hK _ _ _ ?_)
    clear hK K
    refine aL (by kernel_rfl) ?_
    refine T0 (hK _ _ _ ?_)
    clear hK K
    have hei : i = s.length := by simp at hb; omega
    subst hei
    have hra := tZ (ps := ps) (s := s) (k := k)
    refine eB [144] (bM (fr2 := fin [(1, .c (.str s)), (7, .c (.slc (bS (s.length + 1) (mD ps s (k + 1))))), (31, .c (.slc (ps.map Pt.cv))), (32, .c (.int .i64 ps.length)), (33, .c (.int .i64 k))]) (ob2 := fob []) (nx2 := 900) (aM (by omega) (by simp [aY, iE, fin_at, finA_at, upd_at, fob_at, HV.close, HV.closeL, CV.denil, CV.denilL, gZ, denilL_Pt, hra, HV.men, HV.menL, HV.norm, HV.toC, HV.toCL, aS]) (by simp [bB, iF, fob_at, upd_at, none0_at, bZ, HO.close, HV.close, HV.closeL, HO.men, HV.men, HV.menL, HV.norm, HV.toC, HV.toCL])) ?_)
    refine aL (by kernel_rfl) ?_
    refine TQ (iQ k) ?_
    refine ⟨⟨k + 1, hlt⟩, fF, ?_⟩
    show ps.length - (k + 1) < ps.length - k
    omega
   by_cases hm : mD ps s k 0 = true
   ·
    have hz : (bS (s.length + 1) (fun _ => false)).set 0 (.bool true) = bS (s.length + 1) (nxt ps s k 0) := iA (by rw [hm, hprt, hlong]; rfl)
    refine Rg ?_
    iterate 6 refine S0 ?_ (e := fun _ h_ => by simp only [sH, ↓sP, sA, tyS, simprocAttr, hzn, aS, aU (Nat.succ_pos s.length), Int.toNat_zero, hm, hlong, Pt.cells, Pt.isAgg, Pt.getAll]; exact AX h_)
    refine aZ (g := some (47, true)) rfl rfl fun K' hK' => ?_
    simp only [sH, ↓sP, sA, tyS, simprocAttr, hzn, aS, aU (Nat.succ_pos s.length), Int.toNat_zero, hm, hlong, Pt.cells, Pt.isAgg, Pt.getAll]
    refine C1 (eU ps[k] hk3) ?_
    rintro u rfl
    refine AX (hK' _ _ ?_)
    clear hK' K'
    iterate 3 refine S0 ?_ (e := fun _ h_ => by simp only [sH, ↓sP, sA, tyS, simprocAttr, hzn, aS, aU (Nat.succ_pos s.length), Int.toNat_zero, hm, hlong, Pt.cells, Pt.isAgg, Pt.getAll]; exact AX h_)
    refine T4 ?_
    exact key _ _ _ (aM (by omega) (by simp [aY, fin_at, finA_at, upd_at, HV.men, HV.menL, HV.norm, HV.toC, HV.toCL, aS]) (by simp [bB, fob_at, upd_at, none0_at, bZ, HO.men, HV.men, HV.menL, HV.norm, HV.toC, HV.toCL, hz]))
   have hm0 : mD ps s k 0 = false := by simpa using hm
   have hz : (bS (s.length + 1) (fun _ => false)).set 0 (.bool false) = bS (s.length + 1) (nxt ps s k 0) := iA (by rw [hm0]; rfl)
   refine Rg ?_
   iterate 10 refine S0 ?_ (e := fun _ h_ => by simp only [sH, ↓sP, sA, tyS, simprocAttr, hzn, aS, aU (Nat.succ_pos s.length), Int.toNat_zero, hm0, Pt.cells, Pt.isAgg, Pt.getAll]; exact AX h_)
   refine T4 ?_
   exact key _ _ _ (aM (by omega) (by simp [aY, fin_at, finA_at, upd_at, HV.men, HV.menL, HV.norm, HV.toC, HV.toCL, aS]) (by simp [bB, fob_at, upd_at, none0_at, bZ, HO.men, HV.men, HV.menL, HV.norm, HV.toC, HV.toCL, hz]))
  refine aX (T3 ?_)
  clear hK K
  refine AX (hK _ _ _ ?_)
  clear hK K
  have hek : k = ps.length := by simp at hb; omega
  subst hek
  refine aB fun K hK => Rg ?_
  iterate 6 refine S0 ?_ (e := fun _ h_ => by simp only [sH, ↓sP, sA, tyS, simprocAttr, Int.natCast_nonneg, Int.ofNat_lt, Nat.lt_succ_self, aS, aU (Nat.lt_succ_self s.length), Int.toNat_natCast]; exact AX h_)
  refine T2 (hK _ _ _ ?_)
  clear hK K
  refine aE (RT Tryz.results72 ?_)
  exact aF [] (.bool (mD ps s ps.length s.length)) rfl (by rw [hmv])
 rename_i ps
 have hs0 : jV s = false := by simpa using hs
 refine aB fun K hK => Rg ?_
 iterate 4 refine S0 ?_ (e := fun _ h_ => by simp only [sH, ↓sP, sA, tyS, simprocAttr, Option.isSome_some, Bool.not_true, hs0, Bool.not_false, Option.getD_some]; exact AX h_)
 refine aZ (g := some (20, false)) rfl rfl fun K' hK' => ?_
 simp only [sH, ↓sP, sA, tyS, simprocAttr, Option.isSome_some, Bool.not_true, hs0, Bool.not_false, Option.getD_some]
 refine C1 (aW1 s) ?_
 rintro u rfl
 refine AX (hK' _ _ ?_)
 clear hK' K'
 iterate 2 refine S0 ?_ (e := fun _ h_ => by simp only [sH, ↓sP, sA, tyS, simprocAttr, Option.isSome_some, Bool.not_true, hs0, Bool.not_false, Option.getD_some]; exact AX h_)
 refine T2 (hK _ _ _ ?_)
 clear hK K
 refine CT rfl ?_
 refine R0 ?_
 refine aE (RT Tryz.results72 ?_)
 exact aF [] (.bool false) rfl (by rw [aL1 hs0])

end Go.Proofs.YtlldglbooaefhaaGreatDoor

namespace Go.Pl
open Go Go.Hl
section
variable {ps : List Pt} {s : aG}
end
end Go.Pl

namespace Go.Proofs.YtlldglbooaefhaaGreatDoor
open Go Go.Hl Go.Pl
set_option maxRecDepth 10000
set_option maxHeartbeats 16000000

end Go.Proofs.YtlldglbooaefhaaGreatDoor

namespace Go.Pl
open Go Go.Hl

theorem bL8 {q : Rq} (h : (q.k == 1 || (q.k == 3 || q.k == 5)) = true) : dZ q = (inB q.n 1 32 && fR q ⟨q.k, q.n, 0, []⟩) := by grind [dZ, fR]
theorem aL4 {q : Rq} (h : q.k = 4) : dZ q = ((inB q.n 1 32 && inB q.m 0 32) && fR q ⟨q.k, q.n, q.m, []⟩) := by simp [dZ, h, fR, Bool.and_assoc]
theorem bL9 {q : Rq} (h : q.k = 2) : dZ q = (dO q.t && fR q ⟨q.k, 0, 0, q.t⟩) := by simp [dZ, h, fR]
theorem bM0 {q : Rq} (h : q.k = 6) : dZ q = (inB q.n 1 10 && fR q ⟨q.k, q.n, 0, []⟩) := by simp [dZ, h, fR]
theorem bM1 {q : Rq} (h : q.k = 7) : dZ q = (inB q.n 0 vC && fR q ⟨q.k, q.n, 0, []⟩) := by simp [dZ, h, fR]
theorem bM2 {q : Rq} (h : q.k = 8) : dZ q = (true && fR q ⟨q.k, 0, 0, []⟩) := by simp [dZ, h, fR]
theorem aW2 {q : Rq} (h : (q.k == 1 || (q.k == 3 || q.k == 5)) = false) (h4 : q.k ≠ 4) (h2 : q.k ≠ 2) (h6 : q.k ≠ 6) (h7 : q.k ≠ 7) (h8 : q.k ≠ 8) : dZ q = false := by simp_all [dZ, if_neg]
theorem wH {q : Rq} (h : (q.k == 1 || (q.k == 3 || q.k == 5)) = true) : dZ q = (inB q.n 1 32 && (q.m == 0 && q.t == [])) := by simp_all [dZ, if_pos]
theorem qR {q : Rq} (h : (q.k == 4) = true) : dZ q = (inB q.n 1 32 && (decide (0 ≤ q.m) && (decide (q.m ≤ 32) && q.t == []))) := by grind [dZ, inB, Bool.and_assoc]
theorem wI {q : Rq} (h : (q.k == 2) = true) : dZ q = (q.n == 0 && (q.m == 0 && dO q.t)) := by grind [dZ, dO]
theorem qS {q : Rq} (h : (q.k == 6) = true) : dZ q = (decide (1 ≤ q.n) && (decide (q.n ≤ 10) && (q.m == 0 && q.t == []))) := by grind [dZ, inB, Bool.and_assoc]
theorem wJ {q : Rq} (h : (q.k == 7) = true) : dZ q = (inN q.n && (q.m == 0 && q.t == [])) := by
 have h' : q.k = 7 := by simpa using h
 have e : inB q.n 0 vC = inN q.n := rfl
 simp [dZ, h', e]
theorem wK {q : Rq} (h : (q.k == 8) = true) : dZ q = (q.n == 0 && (q.m == 0 && q.t == [])) := by grind [dZ]
def nI (n : Nd) : Bool :=
 if n.k = 1 then n.c == 0 && (n.n == 0 && dZ n.q)
 else if n.k = 2 ∨ n.k = 3 then decide (1 ≤ n.c) && (n.n == 0 && fR n.q rq0)
 else if n.k = 4 then decide (1 ≤ n.c) && (decide (1 ≤ n.n) && (decide (n.n ≤ n.c) && fR n.q rq0))
 else false
theorem aC9 (n : Nd) : bR n = (nI n && !decide (60 < n.c)) := by
 unfold bR nI inB
 have e : (!decide (60 < n.c)) = decide (n.c ≤ 60) := by
  by_cases h : n.c ≤ 60
  ·
   rw [decide_eq_true h, decide_eq_false (by omega)]; rfl
  ·
   rw [decide_eq_false h, decide_eq_true (by omega)]; rfl
 rw [e]
 split
 ·
  by_cases h : n.c = 0
  ·
   simp [h]
  ·
   simp [h]
 ·
  split
  ·
   generalize decide (1 ≤ n.c) = A
   generalize decide (n.c ≤ 60) = B
   generalize fR n.q rq0 = C
   generalize (n.n == 0) = D
   cases A <;> cases B <;> cases C <;> cases D <;> rfl
  ·
   split
   ·
    generalize decide (1 ≤ n.c) = A
    generalize decide (n.c ≤ 60) = B
    generalize fR n.q rq0 = C
    generalize decide (1 ≤ n.n) = D
    generalize decide (n.n ≤ n.c) = E
    cases A <;> cases B <;> cases C <;> cases D <;> cases E <;> rfl
   ·
    rfl
theorem pA {n : Nd} (h : n.k = 1) : bR n = (n.c == 0 && (n.n == 0 && dZ n.q)) := by simp only [bR, if_pos h]
theorem zI {n : Nd} (h : (n.k == 2 || n.k == 3) = true) : bR n = ((inB n.c 1 60 && fR n.q rq0) && n.n == 0) := by
 have h' : n.k = 2 ∨ n.k = 3 := by simpa using h
 have h1 : n.k ≠ 1 := by omega
 simp_all [bR, if_neg, if_pos, Bool.and_assoc]
theorem pB {n : Nd} (h : n.k = 4) : bR n = ((inB n.c 1 60 && fR n.q rq0) && inB n.n 1 n.c) := by simp_all [bR, if_neg, if_pos, Bool.and_assoc]
theorem bM3 {n : Nd} (h1 : n.k ≠ 1) (h : (n.k == 2 || n.k == 3) = false) (h4 : n.k ≠ 4) : bR n = false := by simp_all [bR, if_neg]
theorem pC {n : Nd} (h : n.k = 1) : nI n = (n.c == 0 && (n.n == 0 && dZ n.q)) := by simp only [nI, if_pos h]
theorem sB {n : Nd} (h : (n.k == 2 || n.k == 3) = true) : nI n = (decide (1 ≤ n.c) && (n.n == 0 && fR n.q rq0)) := by
 have h' : n.k = 2 ∨ n.k = 3 := by simpa using h
 have h1 : n.k ≠ 1 := by omega
 simp_all [nI, if_neg, if_pos]
theorem lR {n : Nd} (h : n.k = 4) : nI n = (decide (1 ≤ n.c) && (decide (1 ≤ n.n) && (decide (n.n ≤ n.c) && fR n.q rq0))) := by simp_all [nI, if_neg, if_pos]
theorem bM4 {n : Nd} (h1 : n.k ≠ 1) (h : (n.k == 2 || n.k == 3) = false) (h4 : n.k ≠ 4) : nI n = false := by simp_all [nI, if_neg]

structure ScSt (l : List Nd) (i : Nat) (m v : Int) : Prop where
 le : i ≤ l.length
 eq : pS l 1 0 = pS (l.drop i) m v
 m0 : 0 ≤ m
 m1 : m ≤ 1 + 60 * i
 v0 : 0 ≤ v
 v1 : v ≤ i
theorem ScSt.init (l : List Nd) : ScSt l 0 1 0 := ⟨by omega, rfl, by omega, by omega, by omega, by omega⟩
theorem ScSt.stop {l : List Nd} {i : Nat} {m v : Int} (h : ScSt l i m v) (hi : i < l.length) (hb : m = 0 ∨ bR l[i] = false) : cZ l = false := by
 have : pS l 1 0 = none := by
  rw [h.eq, List.drop_eq_getElem_cons hi, pS]
  rcases hb with hb | hb
  ·
   rw [if_pos hb]
  ·
   grind
 simp [cZ, this]
theorem ScSt.next {l : List Nd} {i : Nat} {m v : Int} (h : ScSt l i m v) (hi : i < l.length) (hm : m ≠ 0) (hb : bR l[i] = true) : ScSt l (i + 1) (m + (l[i].c - 1)) (if l[i].k = 1 then v + 1 else v) := by
 obtain ⟨c1, c2, _, _⟩ := dF hb
 have h0 := h.m0
 have h1 := h.m1
 have h2 := h.v0
 have h3 := h.v1
 refine ⟨hi, ?_, by omega, by omega, ?_, ?_⟩
 ·
  rw [h.eq, List.drop_eq_getElem_cons hi, pS, if_neg hm, if_pos hb]
 all_goals grind
theorem ScSt.fin {l : List Nd} {m v : Int} (h : ScSt l l.length m v) (h1 : 1 ≤ l.length) (h2 : l.length ≤ 60) : cZ l = (m == 0 && decide (v ≤ 16)) := by
 have : pS l 1 0 = some (m, v) := by rw [h.eq, List.drop_length]; rfl
 grind [cZ]
theorem jZ {l : List Nd} (h : l.length < 1 ∨ 60 < l.length) : cZ l = false := by grind [cZ]
theorem pD {l : List Nd} {i : Int} (h : cZ l = false ∨ i < 0 ∨ (l.length : Int) ≤ i) : rV l i = [] := by
 unfold rV
 grind
theorem bC6 {l : List Nd} (h : cZ l = true) {i : Nat} (hi : i < l.length) : rV l i = jW l l[i].c.toNat (i + 1) := by simp_all [rV, if_pos, bI8]
theorem tG {l : List Nd} (h : cZ l = false) : iR l = [] := by simp [iR, h]
theorem pE {l : List Nd} (h : cZ l = true) : iR l = fX 0 l := by simp [iR, h]
theorem oQ : ∀ {l : List Bool} {k : Nat}, k < l.length → cnt (l.take (k + 1)) = cnt (l.take k) + (if l.getD k false = true then 1 else 0)
 | x :: l, 0, _ => by cases x <;> simp [cnt]
 | x :: l, k + 1, h => by
  have h' : k < l.length := by simpa using h
  have e : ∀ m, cnt ((x :: l).take (m + 1)) = (if x = true then 1 else 0) + cnt (l.take m) := fun m => by grind [cnt]
  rw [e, e, oQ h']
  grind
theorem aW3 {l : List Nd} {i : Nat} (h : i < l.length) : lv (l.take (i + 1)) = lv (l.take i) + (if l[i].k = 1 then 1 else 0) := by grind [List.take_succ_eq_append_getElem, rN, lv]
theorem aR0 (l : List Nd) (i : Nat) : lv (l.take i) ≤ i := by grind [bV9]
def bwL (l : List Nd) : List (List CV) := (List.range l.length).map fun j => [.int .i64 (l.length - 1 - j : Nat), (l.getD (l.length - 1 - j) nd0).cv]
theorem qT (l : List Nd) : (bwL l).length = l.length := by simp [bwL]
theorem bM5 {l : List Nd} {j : Nat} (h : j < (bwL l).length) (h2 : l.length - 1 - j < l.length) : (bwL l)[j] = [.int .i64 (l.length - 1 - j : Nat), (l[l.length - 1 - j]).cv] := by simp [bwL, h2]
end Go.Pl
