/- Plain Lean: requirements, nodes and lists of nodes, as the two codes ask for them. By an AI agent. -/
import Derived.Test.YtlldglbooaefhaaGreatDoorHzT7
import Derived.Test.YtlldglbooaefhaaGreatDoorHzU1
import Derived.Test.YtlldglbooaefhaaGreatDoorHzSb
import Derived.Test.YtlldglbooaefhaaGreatDoorPl11q
set_option linter.unusedSimpArgs false
set_option linter.unusedVariables false
set_option linter.defProp false
namespace Go.Pl
open Go Go.Hl
def qM (c : UInt8) (l : aE) : aE := match l.findIdx? (· == c) with | some i => l.take i | none => l
def wF (c : UInt8) (l : aE) : aE := match l.findIdx? (· == c) with | some i => l.drop (i + 1) | none => []
def qN (c : UInt8) (l : aE) : Bool := (l.findIdx? (· == c)).isSome
theorem qO {c : UInt8} {l : aE} {i : Nat} (h : dE l c = (i : Int)) : i < l.length ∧ qM c l = l.take i ∧ wF c l = l.drop (i + 1) ∧ qN c l = true := by
 unfold dE at h
 cases e : l.findIdx? (· == c) with
 | none => rw [e] at h; simp only at h; omega
 | some j =>
  rw [e] at h
  simp only at h
  have hj : j = i := by omega
  subst hj
  obtain ⟨hi, _⟩ := List.findIdx?_eq_some_iff_getElem.1 e
  exact ⟨hi, by unfold qM; rw [e], by unfold wF; rw [e], by unfold qN; rw [e]; rfl⟩
theorem qP {c : UInt8} {l : aE} (h : dE l c < 0) : qM c l = l ∧ wF c l = [] ∧ qN c l = false := by
 unfold dE at h
 cases e : l.findIdx? (· == c) with
 | none => exact ⟨by unfold qM; rw [e], by unfold wF; rw [e], by unfold qN; rw [e]; rfl⟩
 | some j => rw [e] at h; simp only at h; omega
theorem zB (c : UInt8) (l : aE) : aQ c l = if qN c l then qM c l :: aQ c (wF c l) else [qM c l] := by
 by_cases h : dE l c < 0
 ·
  obtain ⟨h1, h2, h3⟩ := qP h
  rw [h3, h1, mS h]; rfl
 ·
  obtain ⟨i, hi, hil, hs⟩ := dU h
  obtain ⟨_, h1, h2, h3⟩ := qO hi
  rw [h3, h1, h2, hs]; rfl
theorem aJ8 {c : UInt8} {l : aE} (h : qN c l = true) : (wF c l).length < l.length := by
 by_cases h0 : dE l c < 0
 ·
  rw [(qP h0).2.2] at h; cases h
 ·
  obtain ⟨i, hi, hil, _⟩ := dU h0
  rw [(qO hi).2.2.1]; simp; omega
def PathSt (p : aE) (m : Bool) (s : aE) : Prop := s.length ≤ 200 ∧ (aQ 47 p).all jY = if m then (aQ 47 s).all jY else true
theorem PathSt.step {p s : aE} (h : PathSt p true s) (hg : jY (qM 47 s) = true) : PathSt p (qN 47 s) (wF 47 s) := by
 refine ⟨?_, ?_⟩
 ·
  cases hf : qN 47 s with
  | true => have := aJ8 hf; have := h.1; omega
  | false =>
   by_cases h0 : dE s 47 < 0
   ·
    rw [(qP h0).2.1]; simp
   ·
    obtain ⟨i, hi, _⟩ := dU h0
    rw [(qO hi).2.2.2] at hf; cases hf
 ·
  rw [h.2, if_pos rfl, zB 47 s]
  cases hf : qN 47 s with
  | true => simp [hg]
  | false => simp [hg]
theorem PathSt.bad {p s : aE} (h : PathSt p true s) (hg : jY (qM 47 s) = false) : (aQ 47 p).all jY = false := by
 rw [h.2, if_pos rfl, zB 47 s]
 cases hf : qN 47 s with
 | true => simp [hg]
 | false => simp [hg]
theorem bK4 {p : aE} (h1 : 1 ≤ p.length) (h2 : p.length ≤ 200) (h0 : (0 : UInt8) ∉ p) : jZ p = (aQ 47 p).all jY := by
 unfold jZ
 simp [h1, h2, h0]
theorem zC {p : aE} (h : p.length < 1 ∨ 200 < p.length) : jZ p = false := by
 unfold jZ
 rcases h with h | h
 ·
  rw [decide_eq_false (by omega)]; rfl
 ·
  rw [decide_eq_false (p := p.length ≤ 200) (by omega)]; simp
theorem aQ2 {p : aE} (h : (0 : UInt8) ∈ p) : jZ p = false := by
 unfold jZ; simp [h]
theorem wG {w : aE} (h : w = [] ∨ w = [46] ∨ w = [46, 46]) : jY w = false := by
 rcases h with h | h | h <;> subst h <;> rfl
theorem bA7 {w : aE} (h1 : w ≠ []) (h2 : w ≠ [46]) (h3 : w ≠ [46, 46]) : jY w = true := by
 unfold jY; simp [h1, h2, h3]
end Go.Pl

namespace Go.Proofs.YtlldglbooaefhaaGreatDoor
open Go Go.Hl Go.Pl
set_option maxRecDepth 10000
set_option maxHeartbeats 16000000

theorem bK5 (l : aE) (c : UInt8) (hl : l.length < 2 ^ 40) : aB0 Tryz.prog 135 [.str l, .str [c]] (fun u v x => u = .str (qM c l) ∧ v = .str (wF c l) ∧ x = .bool (qN c l)) := by
 refine FW Tryz.func135 ?_
 refine R0 ?_
 refine aB fun K hK => ?_
 refine aB fun K hK => Rg ?_
 iterate 2 refine S0 ?_
 refine HS rfl rfl fun K' hK' => T5 ?_
 refine C2 (aP4 l c) ?_
 rintro u rfl
 refine AX (hK' _ _ ?_)
 clear hK' K'
 refine S0 ?_
 refine T2 (hK _ _ _ ?_)
 clear hK K
 refine R0 ?_
 refine aH (b := decide ((0 : Int) ≤ dE l c)) rfl (fun hb => ?_) (fun hb => ?_)
 ·
  have hn : ¬ dE l c < 0 := by simp at hb; omega
  obtain ⟨i, hi, hil, hsp⟩ := dU hn
  obtain ⟨_, c1, c2, c3⟩ := qO hi
  have htd : List.take (l.length - (i + 1)) (List.drop (i + 1) l) = List.drop (i + 1) l := List.take_of_length_le (by simp)
  have hil1 : i + 1 ≤ l.length := hil
  have hil0 : i ≤ l.length := by omega
  rw [hi]
  refine aB fun K hK => QR ?_
  have F := aI @Int.natCast_nonneg (aI @Int.ofNat_le (aI @Int.sub_zero (aI @Nat.sub_zero (aI @List.drop_zero.{0} (aI hil0 (aI hil1 (aI htd (show IntKind.i64.wrap ((i : Int) + 1) = ((i + 1 : Nat) : Int) from by rw [IntWalk.i64_in _ (by omega)]; rfl))))))))
  iterate 12 refine SF ?_
  refine T2 (hK _ _ _ ?_)
  clear hK K
  refine aF (RT Tryz.results135 ?_)
  exact jG [] (.str (l.take i)) (.str (l.drop (i + 1))) (.bool true) rfl ⟨by rw [c1], by rw [c2], by rw [c3]⟩
 have hn : dE l c < 0 := by simp at hb; omega
 obtain ⟨c1, c2, c3⟩ := qP hn
 refine aJ ?_
 refine T0 (hK _ _ _ ?_)
 clear hK K
 refine aB fun K hK => Rg ?_
 iterate 4 refine S0 ?_
 refine T2 (hK _ _ _ ?_)
 clear hK K
 refine aF (RT Tryz.results135 ?_)
 exact jG [] (.str l) (.str []) (.bool false) rfl ⟨by rw [c1], by rw [c2], by rw [c3]⟩


theorem bT1 (l : aE) (c : UInt8) (hl : l.length < 2 ^ 40) : aB0 Tryz.prog 113 [.str l, .str [c]] (fun u v x => u = .str (qM c l) ∧ v = .str (wF c l) ∧ x = .bool (qN c l)) := by
 refine FW Tryz.func113 ?_
 refine R0 ?_
 refine aB fun K hK => Rg ?_
 iterate 2 refine S0 ?_
 refine HS rfl rfl fun K' hK' => T5 ?_
 refine pB (args := [_, _]) (bK5 l c hl) ⟨rfl, rfl, rfl, rfl⟩ ?_
 rintro u v x ⟨rfl, rfl, rfl⟩
 refine AX (hK' _ _ ?_)
 clear hK' K'
 iterate 6 refine S0 ?_
 refine T2 (hK _ _ _ ?_)
 clear hK K
 refine aF (RT Tryz.results113 ?_)
 exact jG [] _ _ _ rfl ⟨rfl, rfl, rfl⟩


theorem aV1 (p : aE) : bQ Tryz.prog 58 [.str p] (fun v => v = .bool (gL p).isSome) := by
 refine FW Tryz.func58 ?_
 refine R0 ?_
 refine aB fun K hK => Rg ?_
 refine S0 ?_
 refine HS rfl rfl fun K' hK' => T5 ?_
 refine D1 (aJ7 p) ?_
 rintro u v ⟨rfl, rfl⟩
 refine AX (hK' _ _ ?_)
 clear hK' K'
 iterate 5 refine S0 ?_
 refine T2 (hK _ _ _ ?_)
 clear hK K
 refine R0 ?_
 refine aF (RT Tryz.results58 ?_)
 exact aG [] _ rfl rfl


theorem aV2 (p : aE) : bQ Tryz.prog 96 [.str p] (fun v => v = .bool (jZ p)) := by
 refine FW Tryz.func96 ?_
 refine R0 ?_
 refine aB fun K hK => ?_
 refine aB fun K hK => Rg ?_
 iterate 4 refine S0 ?_
 refine aD 7 rfl (fun h1_7 => ?_) (fun h1_7 => ?_)
 ·
  have F := h1_7
  iterate 9 refine SF ?_
  refine T2 (hK _ _ _ ?_)
  clear hK K
  refine CT rfl ?_
  refine R0 ?_
  refine aF (RT Tryz.results96 ?_)
  exact aG [] (.bool false) rfl (by rw [zC (by simp at h1_7; omega)])
 have F := h1_7
 iterate 5 refine SF ?_
 refine aD 11 rfl (fun h1_11 => ?_) (fun h1_11 => ?_)
 ·
  clear F
  have F := aI h1_7 h1_11
  iterate 4 refine SF ?_
  refine T2 (hK _ _ _ ?_)
  clear hK K
  refine CT rfl ?_
  refine R0 ?_
  refine aF (RT Tryz.results96 ?_)
  exact aG [] (.bool false) rfl (by rw [zC (by simp at h1_11; omega)])
 clear F
 have F := aI h1_7 h1_11
 refine SF ?_
 refine aU (g := some (13, false)) rfl rfl fun K' hK' => T6 ?_
 refine C2 (qF p 0) ?_
 rintro u rfl
 refine AX (hK' _ _ ?_)
 clear hK' K'
 iterate 2 refine SF ?_
 refine aD 16 rfl (fun h1_16 => ?_) (fun h1_16 => ?_)
 ·
  simp only [h1_16]
  refine T2 (hK _ _ _ ?_)
  clear hK K
  refine CT rfl ?_
  refine R0 ?_
  refine aF (RT Tryz.results96 ?_)
  exact aG [] (.bool false) rfl (by rw [aQ2 (aJ5 (by simpa using h1_16))])
 simp only [h1_16]
 refine T2 (hK _ _ _ ?_)
 clear hK K
 refine CF rfl ?_
 refine aJ ?_
 refine T0 (hK _ _ _ ?_)
 clear hK K
 refine aB fun K hK => ?_
 have hl : p.length ≤ 200 := by simp at h1_11; omega
 have hpv := bK4 (p := p) (by simp at h1_7; omega) hl (tJ (by simpa using h1_16))
 clear h1_7 h1_11 h1_16
 refine R0 ?_
 refine aK ?_
 refine bE (α := {y : Bool × aE // PathSt p y.1 y.2}) (fun y => (fin [(0, .c (.str y.1.2)), (3, .c (.bool y.1.1))], fob [])) 100 (fun y => if y.1.1 then y.1.2.length + 1 else 0) ⟨(true, p), hl, by simp⟩ (fF) ?_
 rintro ⟨⟨m, s⟩, hst⟩
 simp only at hst
 have hs := hst.1
 refine aB fun K hK => ?_
 refine R0 ?_
 refine aH (b := m) rfl (fun hb => ?_) (fun hb => ?_)
 ·
  subst hb
  refine aJ ?_
  refine T0 (hK _ _ _ ?_)
  clear hK K
  refine aK ?_
  refine R0 ?_
  refine aB fun K hK => Rg ?_
  refine S0 ?_
  refine HS rfl rfl fun K' hK' => T5 ?_
  refine pB (args := [_, _]) (bT1 s 47 (by omega)) ⟨rfl, rfl, rfl, rfl⟩ ?_
  rintro u v x ⟨rfl, rfl, rfl⟩
  refine AX (hK' _ _ ?_)
  clear hK' K'
  iterate 7 refine S0 ?_
  refine T2 (hK _ _ _ ?_)
  clear hK K
  refine aB fun K hK => Rg ?_
  iterate 3 refine S0 ?_
  refine aD 26 rfl (fun h7_26 => ?_) (fun h7_26 => ?_)
  ·
   clear F
   have F := h7_26
   iterate 7 refine SF ?_
   refine T2 (hK _ _ _ ?_)
   clear hK K
   refine CT rfl ?_
   refine R0 ?_
   refine aF (RT Tryz.results96 ?_)
   have hg : jY (qM 47 s) = false := wG (.inl (eq_of_beq h7_26))
   exact aG [] (.bool false) rfl (by rw [hpv, hst.bad hg])
  clear F
  have F := h7_26
  iterate 4 refine SF ?_
  refine aD 29 rfl (fun h7_29 => ?_) (fun h7_29 => ?_)
  ·
   clear F
   have F := aI h7_26 h7_29
   iterate 3 refine SF ?_
   refine T2 (hK _ _ _ ?_)
   clear hK K
   refine CT rfl ?_
   refine R0 ?_
   refine aF (RT Tryz.results96 ?_)
   have hg : jY (qM 47 s) = false := wG (.inr (.inl (eq_of_beq h7_29)))
   exact aG [] (.bool false) rfl (by rw [hpv, hst.bad hg])
  clear F
  have F := aI h7_26 h7_29
  iterate 3 refine SF ?_
  refine aD 33 rfl (fun h7_33 => ?_) (fun h7_33 => ?_)
  ·
   simp only [h7_33]
   refine T2 (hK _ _ _ ?_)
   clear hK K
   refine CT rfl ?_
   refine R0 ?_
   refine aF (RT Tryz.results96 ?_)
   have hg : jY (qM 47 s) = false := wG (.inr (.inr (eq_of_beq h7_33)))
   exact aG [] (.bool false) rfl (by rw [hpv, hst.bad hg])
  simp only [h7_33]
  refine T2 (hK _ _ _ ?_)
  clear hK K
  refine CF rfl ?_
  refine aJ (T3 ?_)
  have hg : jY (qM 47 s) = true := bA7 (by simpa using h7_26) (by simpa using h7_29) (by simpa using h7_33)
  refine ⟨⟨(qN 47 s, wF 47 s), hst.step hg⟩, fF, ?_⟩
  show (if qN 47 s = true then (wF 47 s).length + 1 else 0) < if true = true then s.length + 1 else 0
  rw [if_pos rfl]
  split
  ·
   rename_i h
   have := aJ8 h
   omega
  omega
 subst hb
 refine aZ (T3 ?_)
 clear hK K
 refine AX (hK _ _ _ ?_)
 clear hK K
 refine R0 ?_
 refine aF (RT Tryz.results96 ?_)
 exact aG [] (.bool true) rfl (by rw [hpv, hst.2]; rfl)


end Go.Proofs.YtlldglbooaefhaaGreatDoor

namespace Go.Proofs.YtlldglbooaefhaaGreatDoor
open Go Go.Hl Go.Pl
set_option maxRecDepth 10000
set_option maxHeartbeats 16000000

theorem cH6 : lst [] = cH := by funext j; simp [lst, cH]

theorem bT2 (x : Pt) (c : UInt8) : cC7 Tryz.prog 114 140 x.cv [u8 c] (fun v => v = .bool (c == x.c)) := by
 show HFn _ _ [.c (u8 c), .ptr 0 0] 1 _ _
 refine bU (args := [.c (u8 c), .ptr 0 0]) Tryz.func114 rfl (by kernel_rfl) (yE _ _ [u8 c]) (Nat.le_of_ble_eq_true rfl) ?_
 refine R0 ?_
 refine aB fun K hK => Rg ?_
 have F := aI @Pt.get_c @bR8
 iterate 5 refine SF ?_
 refine T2 (hK _ _ _ ?_)
 clear hK K
 refine aF (RT Tryz.results114 ?_)
 refine aN8 [] (.bool (c == x.c)) x.cv rfl rfl (by simp [HV.close, HV.norm, HV.toC, Pt.denil]) (by simp) rfl rfl


theorem bA8 (x : Pt) (hk : x.k = 0) : HGe Tryz.prog 97 [.c x.cv] [] (fun r os => r = .clo 114 [.ptr 0 0] ∧ os = [.box 140 (.c x.cv)]) := by
 show HFn _ _ [.c x.cv] 0 (lst []) _
 rw [cH6]
 refine bU (args := [.c x.cv]) Tryz.func97 rfl (by kernel_rfl) (iW [x.cv]) (Nat.le_of_ble_eq_true rfl) ?_
 have hd0 : ((x.k : Int) == 0) = true := by rw [hk]; rfl
 have F := aI @Pt.cells (aI @Pt.isAgg @Pt.getAll)
 refine RF ?_
 refine aB fun K hK => ?_
 have F := @Pt.get_k
 refine RF ?_
 refine aK ?_
 have F := hd0
 refine RF ?_
 refine CT rfl ?_
 refine R0 ?_
 refine aF (RT Tryz.results97 ?_)
 refine eI [] [0] (.clo 114 [.ptr 0 0]) [.box 140 (.c x.cv)] rfl ?_ ?_ rfl (by simp) (by simp) (by simp) ⟨rfl, rfl⟩
 ·
  simp [HV.men, HV.menL]
 refine ⟨⟨by simp [HO.men, HV.men], by simp, .box 140 (.c x.cv), rfl, ?_⟩, trivial⟩
 simp [gC, HV.close, HV.norm, HV.toC, Pt.denil, HO.ren, HV.ren]


theorem bA9 (x : Pt) (hk : x.k = 3) : bQ Tryz.prog 97 [x.cv] (fun v => v = .fn 115) := by
 refine FW Tryz.func97 ?_
 have hd0 : ((x.k : Int) == 0) = false := by rw [hk]; rfl
 have hd3 : ((x.k : Int) == 3) = true := by rw [hk]; rfl
 have F := aI @Pt.cells (aI @Pt.isAgg @Pt.getAll)
 refine RF ?_
 refine aB fun K hK => ?_
 have F := @Pt.get_k
 refine RF ?_
 refine aK ?_
 have F := hd0
 refine RF ?_
 refine CF rfl ?_
 have F := hd3
 refine RF ?_
 refine CT rfl ?_
 refine R0 ?_
 refine aF (RT Tryz.results97 ?_)
 exact aG [] (.fn 115) rfl rfl


theorem zD (x : Pt) (hk : x.k = 1 ∨ x.k = 2) : bQ Tryz.prog 97 [x.cv] (fun v => v = .fn 116) := by
 refine FW Tryz.func97 ?_
 have hd0 : ((x.k : Int) == 0) = false := by rcases hk with h | h <;> rw [h] <;> rfl
 have hd3 : ((x.k : Int) == 3) = false := by rcases hk with h | h <;> rw [h] <;> rfl
 have F := aI @Pt.cells (aI @Pt.isAgg @Pt.getAll)
 refine RF ?_
 refine aB fun K hK => ?_
 have F := @Pt.get_k
 refine RF ?_
 refine aK ?_
 have F := hd0
 refine RF ?_
 refine CF rfl ?_
 have F := hd3
 refine RF ?_
 refine CF rfl ?_
 refine aJ ?_
 refine T0 (hK _ _ _ ?_)
 clear hK K
 refine R0 ?_
 refine aF (RT Tryz.results97 ?_)
 exact aG [] (.fn 116) rfl rfl


end Go.Proofs.YtlldglbooaefhaaGreatDoor

namespace Go.Pl
open Go Go.Hl
theorem bB0 {p : aE} {ps : List Pt} (h : gL p = some ps) : ps.length ≤ 200 ∧ ∀ x ∈ ps, x.k ≤ 3 := by
 unfold gL at h
 split at h
 ·
  cases h
 ·
  rename_i hl
  obtain ⟨h1, h2⟩ := aT3 p.length p ps (Nat.le_refl _) h
  exact ⟨by omega, h2⟩
theorem aJ9 {p s : aE} (h : gL p = none) : lN p s = false := by unfold lN; rw [h]
theorem aK0 {p s : aE} (h : jZ s = false) : lN p s = false := by
 unfold lN; split <;> simp [h]
theorem aK1 {p s : aE} {ps : List Pt} (h : gL p = some ps) (hs : jZ s = true) : lN p s = mD ps s ps.length s.length := by
 unfold lN; rw [h]; simp [hs]
theorem bB1 {s : aE} (h : jZ s = true) : s.length ≤ 200 := by
 unfold jZ at h
 simp only [Bool.and_eq_true, decide_eq_true_eq] at h
 exact h.2.1
def bW (n : Nat) (f : Nat → Bool) : List CV := (tab n f).map bC1
theorem aS (n : Nat) (f : Nat → Bool) : (bW n f).length = n := by simp [bW, kD]
theorem aT {n : Nat} {f : Nat → Bool} {i : Nat} (h : i < n) : nth (bW n f) i = .bool (f i) := bR6 h
theorem bB2 (n : Nat) : List.replicate n (CV.bool false) = bW n (fun _ => false) := by
 unfold bW; rw [← aZ5]; simp [bC1]
theorem wH (n : Nat) (f : Nat → Bool) (i : Nat) (b : Bool) : (bW n f).set i (.bool b) = bW n (fun j => if j = i then b else f j) := by
 unfold bW
 rw [← bR5, List.map_set]; rfl
theorem iH (n : Nat) (f : Nat → Bool) : CV.denilL (bW n f) = bW n f := bV (fun x => by simp [bC1, CV.denil]) _
theorem bB3 {n : Nat} {ps : List Pt} {s : aE} : (bW n (fun _ => false)).set 0 (.bool true) = bW n (fun j => if j = 0 then true else false) := wH _ _ _ _
theorem iJ {n : Nat} {ps : List Pt} {s : aE} {k : Nat} {b : Bool} (hb : b = (mD ps s k 0 && (prt ps k).long)) : (bW n (fun _ => false)).set 0 (.bool b) = bW n (nxt ps s k 0) := by
 rw [wH, hb]
 congr 1
 funext j
 rw [← bH5]
theorem fK {n : Nat} {ps : List Pt} {s : aE} {k i : Nat} {b : Bool} (hb : b = mD ps s (k + 1) (i + 1)) : (bW n (nxt ps s k i)).set (i + 1) (.bool b) = bW n (nxt ps s k (i + 1)) := by
 rw [wH, hb]
 congr 1
 funext j
 rw [← bH6]
theorem tY {ps : List Pt} {s : aE} {k : Nat} : bW (s.length + 1) (nxt ps s k s.length) = bW (s.length + 1) (mD ps s (k + 1)) := by
 unfold bW; rw [bR7]
theorem bK6 {ps : List Pt} {s : aE} : bW (s.length + 1) (fun j => if j = 0 then true else false) = bW (s.length + 1) (mD ps s 0) := by
 unfold bW; rw [bH7]
theorem bT3 {ps : List Pt} {k : Nat} (h : k < ps.length) : prt ps k = ps[k] := by simp [prt, h]
end Go.Pl

namespace Go.Proofs.YtlldglbooaefhaaGreatDoor
open Go Go.Hl Go.Pl
set_option maxRecDepth 10000
set_option maxHeartbeats 16000000

theorem cQ (ps : List Pt) (s : aE) (k i : Nat) : nxt ps s k i i = mD ps s (k + 1) i := by simp [nxt]

theorem aK2 (p s : aE) : bQ Tryz.prog 72 [.str p, .str s] (fun v => v = .bool (lN p s)) := by
 refine FW Tryz.func72 ?_
 refine R0 ?_
 refine aB fun K hK => Rg ?_
 refine S0 ?_
 refine HS rfl rfl fun K' hK' => T5 ?_
 refine D1 (aJ7 p) ?_
 rintro u v ⟨rfl, rfl⟩
 refine AX (hK' _ _ ?_)
 clear hK' K'
 iterate 5 refine S0 ?_
 refine T2 (hK _ _ _ ?_)
 clear hK K
 refine aB fun K hK => ?_
 cases hpv : gL p
 ·
  refine aB fun K hK => Rg ?_
  iterate 7 refine S0 ?_ (e := fun _ h_ => by simp only [sH, ↓sP, sA, tyS, simprocAttr, Option.isSome_none, Bool.not_false]; exact AX h_)
  refine T2 (hK _ _ _ ?_)
  clear hK K
  refine CT rfl ?_
  refine R0 ?_
  refine aF (RT Tryz.results72 ?_)
  exact aG [] (.bool false) rfl (by rw [aJ9 hpv])
 by_cases hs : jZ s = true
 ·
  rename_i ps
  have hs200 := bB1 hs
  obtain ⟨hpl, hpk⟩ := bB0 hpv
  have hmv := aK1 hpv hs
  clear hpv
  refine aB fun K hK => Rg ?_
  iterate 4 refine S0 ?_ (e := fun _ h_ => by simp only [sH, ↓sP, sA, tyS, simprocAttr, Option.isSome_some, Bool.not_true, hs, Option.getD_some]; exact AX h_)
  refine aU (g := some (20, false)) rfl rfl fun K' hK' => ?_
  simp only [sH, ↓sP, sA, tyS, simprocAttr, Option.isSome_some, Bool.not_true, hs, Option.getD_some]
  refine C1 (aV2 s) ?_
  rintro u rfl
  refine AX (hK' _ _ ?_)
  clear hK' K'
  iterate 2 refine S0 ?_ (e := fun _ h_ => by simp only [sH, ↓sP, sA, tyS, simprocAttr, Option.isSome_some, Bool.not_true, hs, Option.getD_some]; exact AX h_)
  refine T2 (hK _ _ _ ?_)
  clear hK K
  refine CF rfl ?_
  refine aJ ?_
  refine T0 (hK _ _ _ ?_)
  clear hK K
  have hwn : IntKind.i64.wrap ((s.length : Int) + 1) = (((s.length + 1 : Nat)) : Int) := by rw [IntWalk.i64_in _ (by omega)]; rfl
  have hn0 : (((s.length + 1 : Nat) : Int) = 0) = False := by simp; omega
  have hzn : (0 : Int) < ((s.length + 1 : Nat) : Int) := by omega
  have hrep := bB2 (s.length + 1)
  refine aB fun K hK => Rg ?_
  have F := aI hwn (aI hn0 (aI hrep @Int.toNat_natCast))
  iterate 5 refine SF ?_
  refine T2 (hK _ _ _ ?_)
  clear hK K
  refine R0 ?_ (e := fun _ h_ => by simp only [↓sP, sA, tyS, simprocAttr, hzn, aS, aT (Nat.succ_pos s.length), Int.toNat_zero]; exact AX h_)
  refine aB fun K hK => ?_
  refine R0 ?_
  refine aK ?_
  have hr0 : (bW (s.length + 1) (fun _ => false)).set 0 (.bool true) = bW (s.length + 1) (mD ps s 0) := (bB3 (ps := ps) (s := s)).trans bK6
  refine fE [72] (bS (fr2 := fin [(1, .c (.str s)), (7, .c (.slc (bW (s.length + 1) (mD ps s 0)))), (31, .c (.slc (ps.map Pt.cv))), (32, .c (.int .i64 ps.length)), (33, .c (.int .i64 0))]) (ob2 := fob []) (nx2 := 90) (aN (by omega) (by simp [bA, kN, fin_at, finA_at, upd_at, fob_at, HV.close, HV.closeL, CV.denil, CV.denilL, iH, denilL_Pt, hr0, HV.men, HV.menL, HV.norm, HV.toC, HV.toCL, aS]) (by simp [aX, kO, fob_at, upd_at, none0_at, bY, HO.close, HV.close, HV.closeL, HO.men, HV.men, HV.menL, HV.norm, HV.toC, HV.toCL])) ?_)
  refine bE (α := {k : Nat // k ≤ ps.length}) (fun k => (fin [(1, .c (.str s)), (7, .c (.slc (bW (s.length + 1) (mD ps s k.1)))), (31, .c (.slc (ps.map Pt.cv))), (32, .c (.int .i64 ps.length)), (33, .c (.int .i64 k.1))], fob [])) 100 (fun k => ps.length - k.1) ⟨0, by omega⟩ (fF) ?_
  rintro ⟨k, hk⟩
  refine R0 ?_
  refine aB fun K hK => ?_
  refine aH (b := decide ((k : Int) < ps.length)) rfl (fun hb => ?_) (fun hb => ?_)
  ·
   have hlt : k < ps.length := by simpa using hb
   clear hb
   have hk3 := hpk _ (List.getElem_mem hlt)
   have hprt := bT3 hlt
   refine aJ ?_
   refine T0 (hK _ _ _ ?_)
   clear hK K
   refine aB fun K hK => ?_
   refine aK ?_
   refine aB fun K hK => Rg ?_
   clear F
   have F := aI @Int.natCast_nonneg (aI @Int.ofNat_lt (aI hlt (aI @List.length_map.{0,0} (aI (nM hlt) (aI @Pt.cells (aI @Pt.isAgg (aI @Pt.getAll @Pt.setAll)))))))
   iterate 4 refine SF ?_
   refine T2 (hK _ _ _ ?_)
   clear hK K
   by_cases h0 : ps[k].k = 0
   ·
    have hlong : ps[k].long = false := by simp [Pt.long, h0]
    refine aB fun K hK => Rg ?_
    clear F
    have F := aI @Pt.cells (aI @Pt.isAgg @Pt.getAll)
    refine SF ?_
    refine HS rfl rfl fun K' hK' => T6 ?_
    refine kC (largs := [.c ps[k].cv]) [] (bA8 ps[k] h0) rfl trivial (by simp) (by simp) ⟨rfl, rfl, rfl, rfl⟩ trivial (by simp [HV.menL, HV.men]) ?_
    rintro r os ⟨rfl, rfl⟩
    simp only [HV.ren, HV.renL, lO, HO.ren, sub, List.length_nil, Nat.not_lt_zero, if_false, Nat.sub_zero, Nat.add_zero]
    refine AX (hK' _ _ ?_)
    clear hK' K'
    refine SF ?_
    refine T2 (hK _ _ _ ?_)
    clear hK K
    refine aB fun K hK => Rg ?_
    clear F
    have F := aI hwn (aI hn0 (aI hrep @Int.toNat_natCast))
    iterate 5 refine SF ?_
    refine T2 (hK _ _ _ ?_)
    clear hK K
    refine aB fun K hK => ?_
    have key : ∀ fr ob nx, Fits 0 fr ob (fin [(1, .c (.str s)), (7, .c (.slc (bW (s.length + 1) (mD ps s k)))), (9, .ptr 112 0), (10, .clo 114 [.ptr 124 0]), (11, .own 144 (s.length + 1)), (31, .c (.slc (ps.map Pt.cv))), (32, .c (.int .i64 ps.length)), (33, .c (.int .i64 k))]) (fob [(112, .box 140 (.c ps[k].cv)), (124, .box 140 (.c ps[k].cv)), (144, .row 4 1 (bW (s.length + 1) (nxt ps s k 0)))]) 250 → K fr ob nx := by
     rintro fr ob nx hf
     refine hK _ _ _ (bS hf ?_)
     clear hf hK K
     refine aB fun K hK => ?_
     refine R0 ?_
     refine aK ?_
     refine bE (α := {i : Nat // i ≤ s.length}) (fun i => (fin [(1, .c (.str s)), (7, .c (.slc (bW (s.length + 1) (mD ps s k)))), (9, .ptr 112 0), (10, .clo 114 [.ptr 124 0]), (11, .own 144 (s.length + 1)), (31, .c (.slc (ps.map Pt.cv))), (32, .c (.int .i64 ps.length)), (33, .c (.int .i64 k)), (53, .c (.int .i64 s.length)), (54, .c (.int .i64 i.1))], fob [(112, .box 140 (.c ps[k].cv)), (124, .box 140 (.c ps[k].cv)), (144, .row 4 1 (bW (s.length + 1) (nxt ps s k i.1)))])) 300 (fun i => s.length - i.1) ⟨0, by omega⟩ (fF) ?_
     rintro ⟨i, hi⟩
     refine R0 ?_
     refine aB fun K hK => ?_
     refine aH (b := decide ((i : Int) < s.length)) rfl (fun hb => ?_) (fun hb => ?_)
     ·
      have hil : i < s.length := by simpa using hb
      clear hb
      have hgd : s.getD i 0 = s[i] := by simp [hil]
      have hiN : i + 1 < s.length + 1 := by omega
      have hiN0 : i < s.length + 1 := by omega
      have hw1 : IntKind.i64.wrap ((i : Int) + 1) = ((i + 1 : Nat) : Int) := by rw [IntWalk.i64_in _ (by omega)]; rfl
      refine aJ ?_
      refine T0 (hK _ _ _ ?_)
      clear hK K
      refine aB fun K hK => ?_
      refine aK ?_
      refine R0 ?_
      refine aK ?_
      refine aB fun K hK => Rg ?_
      clear F
      have F := aI @Pt.cells (aI @Pt.isAgg (aI @Pt.getAll hlong))
      refine SF ?_
      refine HS rfl rfl fun K' hK' => T6 ?_
      refine C1 (eQ ps[k] hk3) ?_
      rintro u rfl
      refine AX (hK' _ _ ?_)
      clear hK' K'
      refine SF ?_
      refine T2 (hK _ _ _ ?_)
      clear hK K
      refine CF rfl ?_
      by_cases ha : mD ps s k i = true
      ·
       have htk : ps[k].takes s[i] = (s[i] == ps[k].c) := by simp [Pt.takes, h0]
       have hs1 : (bW (s.length + 1) (nxt ps s k i)).set (i + 1) (.bool (s[i] == ps[k].c)) = bW (s.length + 1) (nxt ps s k (i + 1)) := fK (by rw [oS, hprt, hlong, hgd]; simp [ha, htk])
       refine Rg ?_
       iterate 12 refine S0 ?_ (e := fun _ h_ => by simp only [sH, ↓sP, sA, tyS, simprocAttr, Int.natCast_nonneg, Int.ofNat_lt, hiN, hiN0, hil, hgd, hw1, aS, aT hiN, aT hiN0, cQ, Int.toNat_natCast, ha]; exact AX h_)
       refine aU (g := some (64, true)) rfl rfl fun K' hK' => ?_
       simp only [sH, ↓sP, sA, tyS, simprocAttr, Int.natCast_nonneg, Int.ofNat_lt, hiN, hiN0, hil, hgd, hw1, aS, aT hiN, aT hiN0, cQ, Int.toNat_natCast, ha]
       refine bE8 (args := [_]) (bT2 ps[k] s[i]) rfl (by simp) ⟨rfl, rfl, rfl, rfl⟩ ?_
       rintro u rfl
       refine AX (hK' _ _ ?_)
       clear hK' K'
       iterate 3 refine S0 ?_ (e := fun _ h_ => by simp only [sH, ↓sP, sA, tyS, simprocAttr, Int.natCast_nonneg, Int.ofNat_lt, hiN, hiN0, hil, hgd, hw1, aS, aT hiN, aT hiN0, cQ, Int.toNat_natCast, ha]; exact AX h_)
       refine T2 (hK _ _ _ ?_)
       clear hK K
       refine aL (by kernel_rfl) ?_
       refine TQ hw1 ?_
       refine ⟨⟨i + 1, hil⟩, aN (by omega) (by simp [bA, fin_at, finA_at, upd_at, HV.men, HV.menL, HV.norm, HV.toC, HV.toCL, aS]) (by simp [aX, fob_at, upd_at, none0_at, bY, HO.men, HV.men, HV.menL, HV.norm, HV.toC, HV.toCL, hs1]), ?_⟩
       show s.length - (i + 1) < s.length - i
       omega
      have ha : mD ps s k i = false := by simpa using ha
      have htk : ps[k].takes s[i] = (s[i] == ps[k].c) := by simp [Pt.takes, h0]
      have hs1 : (bW (s.length + 1) (nxt ps s k i)).set (i + 1) (.bool false) = bW (s.length + 1) (nxt ps s k (i + 1)) := fK (by rw [oS, hprt, hlong, hgd]; simp [ha, htk])
      refine Rg ?_
      iterate 16 refine S0 ?_ (e := fun _ h_ => by simp only [sH, ↓sP, sA, tyS, simprocAttr, Int.natCast_nonneg, Int.ofNat_lt, hiN, hiN0, hil, hgd, hw1, aS, aT hiN, aT hiN0, cQ, Int.toNat_natCast, ha]; exact AX h_)
      refine T2 (hK _ _ _ ?_)
      clear hK K
      refine aL (by kernel_rfl) ?_
      refine TQ hw1 ?_
      refine ⟨⟨i + 1, hil⟩, aN (by omega) (by simp [bA, fin_at, finA_at, upd_at, HV.men, HV.menL, HV.norm, HV.toC, HV.toCL, aS]) (by simp [aX, fob_at, upd_at, none0_at, bY, HO.men, HV.men, HV.menL, HV.norm, HV.toC, HV.toCL, hs1]), ?_⟩
      show s.length - (i + 1) < s.length - i
      omega
     refine aZ (T3 ?_)
     clear hK K
     refine AX (hK _ _ _ ?_)
     clear hK K
     refine aL (by kernel_rfl) ?_
     refine T0 (hK _ _ _ ?_)
     clear hK K
     have hei : i = s.length := by simp at hb; omega
     subst hei
     have hra := tY (ps := ps) (s := s) (k := k)
     refine fE [144] (bS (fr2 := fin [(1, .c (.str s)), (7, .c (.slc (bW (s.length + 1) (mD ps s (k + 1))))), (31, .c (.slc (ps.map Pt.cv))), (32, .c (.int .i64 ps.length)), (33, .c (.int .i64 k))]) (ob2 := fob []) (nx2 := 900) (aN (by omega) (by simp [bA, kN, fin_at, finA_at, upd_at, fob_at, HV.close, HV.closeL, CV.denil, CV.denilL, iH, denilL_Pt, hra, HV.men, HV.menL, HV.norm, HV.toC, HV.toCL, aS]) (by simp [aX, kO, fob_at, upd_at, none0_at, bY, HO.close, HV.close, HV.closeL, HO.men, HV.men, HV.menL, HV.norm, HV.toC, HV.toCL])) ?_)
     refine aL (by kernel_rfl) ?_
     refine TQ (lQ k) ?_
     refine ⟨⟨k + 1, hlt⟩, fF, ?_⟩
     show ps.length - (k + 1) < ps.length - k
     omega
    by_cases hm : mD ps s k 0 = true
    ·
     have hz : (bW (s.length + 1) (fun _ => false)).set 0 (.bool false) = bW (s.length + 1) (nxt ps s k 0) := iJ (by rw [hm, hprt, hlong]; rfl)
     refine Rg ?_
     iterate 6 refine S0 ?_ (e := fun _ h_ => by simp only [sH, ↓sP, sA, tyS, simprocAttr, hzn, aS, aT (Nat.succ_pos s.length), Int.toNat_zero, hm, hlong, Pt.cells, Pt.isAgg, Pt.getAll]; exact AX h_)
     refine aU (g := some (47, true)) rfl rfl fun K' hK' => ?_
     simp only [sH, ↓sP, sA, tyS, simprocAttr, hzn, aS, aT (Nat.succ_pos s.length), Int.toNat_zero, hm, hlong, Pt.cells, Pt.isAgg, Pt.getAll]
     refine C1 (eQ ps[k] hk3) ?_
     rintro u rfl
     refine AX (hK' _ _ ?_)
     clear hK' K'
     iterate 3 refine S0 ?_ (e := fun _ h_ => by simp only [sH, ↓sP, sA, tyS, simprocAttr, hzn, aS, aT (Nat.succ_pos s.length), Int.toNat_zero, hm, hlong, Pt.cells, Pt.isAgg, Pt.getAll]; exact AX h_)
     refine T4 ?_
     exact key _ _ _ (aN (by omega) (by simp [bA, fin_at, finA_at, upd_at, HV.men, HV.menL, HV.norm, HV.toC, HV.toCL, aS]) (by simp [aX, fob_at, upd_at, none0_at, bY, HO.men, HV.men, HV.menL, HV.norm, HV.toC, HV.toCL, hz]))
    have hm0 : mD ps s k 0 = false := by simpa using hm
    have hz : (bW (s.length + 1) (fun _ => false)).set 0 (.bool false) = bW (s.length + 1) (nxt ps s k 0) := iJ (by rw [hm0]; rfl)
    refine Rg ?_
    iterate 10 refine S0 ?_ (e := fun _ h_ => by simp only [sH, ↓sP, sA, tyS, simprocAttr, hzn, aS, aT (Nat.succ_pos s.length), Int.toNat_zero, hm0, Pt.cells, Pt.isAgg, Pt.getAll]; exact AX h_)
    refine T4 ?_
    exact key _ _ _ (aN (by omega) (by simp [bA, fin_at, finA_at, upd_at, HV.men, HV.menL, HV.norm, HV.toC, HV.toCL, aS]) (by simp [aX, fob_at, upd_at, none0_at, bY, HO.men, HV.men, HV.menL, HV.norm, HV.toC, HV.toCL, hz]))
   by_cases h3 : ps[k].k = 3
   ·
    have hlong : ps[k].long = true := by simp [Pt.long, h3]
    refine aB fun K hK => Rg ?_
    clear F
    have F := aI @Pt.cells (aI @Pt.isAgg @Pt.getAll)
    refine SF ?_
    refine HS rfl rfl fun K' hK' => T6 ?_
    refine C1 (bA9 ps[k] h3) ?_
    rintro u rfl
    refine AX (hK' _ _ ?_)
    clear hK' K'
    refine SF ?_
    refine T2 (hK _ _ _ ?_)
    clear hK K
    refine aB fun K hK => Rg ?_
    clear F
    have F := aI hwn (aI hn0 (aI hrep @Int.toNat_natCast))
    iterate 5 refine SF ?_
    refine T2 (hK _ _ _ ?_)
    clear hK K
    refine aB fun K hK => ?_
    have key : ∀ fr ob nx, Fits 0 fr ob (fin [(1, .c (.str s)), (7, .c (.slc (bW (s.length + 1) (mD ps s k)))), (9, .ptr 112 0), (10, .c (.fn 115)), (11, .own 144 (s.length + 1)), (31, .c (.slc (ps.map Pt.cv))), (32, .c (.int .i64 ps.length)), (33, .c (.int .i64 k))]) (fob [(112, .box 140 (.c ps[k].cv)), (144, .row 4 1 (bW (s.length + 1) (nxt ps s k 0)))]) 250 → K fr ob nx := by
     rintro fr ob nx hf
     refine hK _ _ _ (bS hf ?_)
     clear hf hK K
     refine aB fun K hK => ?_
     refine R0 ?_
     refine aK ?_
     refine bE (α := {i : Nat // i ≤ s.length}) (fun i => (fin [(1, .c (.str s)), (7, .c (.slc (bW (s.length + 1) (mD ps s k)))), (9, .ptr 112 0), (10, .c (.fn 115)), (11, .own 144 (s.length + 1)), (31, .c (.slc (ps.map Pt.cv))), (32, .c (.int .i64 ps.length)), (33, .c (.int .i64 k)), (53, .c (.int .i64 s.length)), (54, .c (.int .i64 i.1))], fob [(112, .box 140 (.c ps[k].cv)), (144, .row 4 1 (bW (s.length + 1) (nxt ps s k i.1)))])) 300 (fun i => s.length - i.1) ⟨0, by omega⟩ (fF) ?_
     rintro ⟨i, hi⟩
     refine R0 ?_
     refine aB fun K hK => ?_
     refine aH (b := decide ((i : Int) < s.length)) rfl (fun hb => ?_) (fun hb => ?_)
     ·
      have hil : i < s.length := by simpa using hb
      clear hb
      have hgd : s.getD i 0 = s[i] := by simp [hil]
      have hiN : i + 1 < s.length + 1 := by omega
      have hiN0 : i < s.length + 1 := by omega
      have hw1 : IntKind.i64.wrap ((i : Int) + 1) = ((i + 1 : Nat) : Int) := by rw [IntWalk.i64_in _ (by omega)]; rfl
      refine aJ ?_
      refine T0 (hK _ _ _ ?_)
      clear hK K
      refine aB fun K hK => ?_
      refine aK ?_
      refine R0 ?_
      refine aK ?_
      refine aB fun K hK => Rg ?_
      clear F
      have F := aI @Pt.cells (aI @Pt.isAgg (aI @Pt.getAll hlong))
      refine SF ?_
      refine HS rfl rfl fun K' hK' => T6 ?_
      refine C1 (eQ ps[k] hk3) ?_
      rintro u rfl
      refine AX (hK' _ _ ?_)
      clear hK' K'
      refine SF ?_
      refine T2 (hK _ _ _ ?_)
      clear hK K
      refine CT rfl ?_
      by_cases ha : mD ps s k (i + 1) = true
      ·
       have htk : ps[k].takes s[i] = true := by simp [Pt.takes, h3]
       have hs1 : (bW (s.length + 1) (nxt ps s k i)).set (i + 1) (.bool true) = bW (s.length + 1) (nxt ps s k (i + 1)) := fK (by rw [oS, hprt, hlong, hgd]; simp [ha, htk])
       refine Rg ?_
       iterate 23 refine S0 ?_ (e := fun _ h_ => by simp only [sH, ↓sP, sA, tyS, simprocAttr, Int.natCast_nonneg, Int.ofNat_lt, hiN, hiN0, hil, hgd, hw1, aS, aT hiN, aT hiN0, cQ, Int.toNat_natCast, ha]; exact AX h_)
       refine T2 (hK _ _ _ ?_)
       clear hK K
       refine aL (by kernel_rfl) ?_
       refine TQ hw1 ?_
       refine ⟨⟨i + 1, hil⟩, aN (by omega) (by simp [bA, fin_at, finA_at, upd_at, HV.men, HV.menL, HV.norm, HV.toC, HV.toCL, aS]) (by simp [aX, fob_at, upd_at, none0_at, bY, HO.men, HV.men, HV.menL, HV.norm, HV.toC, HV.toCL, hs1]), ?_⟩
       show s.length - (i + 1) < s.length - i
       omega
      by_cases hn : mD ps s (k + 1) i = true
      ·
       have ha : mD ps s k (i + 1) = false := by simpa using ha
       have htk : ps[k].takes s[i] = true := by simp [Pt.takes, h3]
       have hs1 : (bW (s.length + 1) (nxt ps s k i)).set (i + 1) (.bool true) = bW (s.length + 1) (nxt ps s k (i + 1)) := fK (by rw [oS, hprt, hlong, hgd]; simp [ha, hn, htk])
       refine Rg ?_
       iterate 18 refine S0 ?_ (e := fun _ h_ => by simp only [sH, ↓sP, sA, tyS, simprocAttr, Int.natCast_nonneg, Int.ofNat_lt, hiN, hiN0, hil, hgd, hw1, aS, aT hiN, aT hiN0, cQ, Int.toNat_natCast, ha, hn]; exact AX h_)
       refine aU (g := some (88, true)) rfl rfl fun K' hK' => ?_
       simp only [sH, ↓sP, sA, tyS, simprocAttr, Int.natCast_nonneg, Int.ofNat_lt, hiN, hiN0, hil, hgd, hw1, aS, aT hiN, aT hiN0, cQ, Int.toNat_natCast, ha, hn]
       refine C1 (bR9 s[i]) ?_
       rintro u rfl
       refine AX (hK' _ _ ?_)
       clear hK' K'
       iterate 4 refine S0 ?_ (e := fun _ h_ => by simp only [sH, ↓sP, sA, tyS, simprocAttr, Int.natCast_nonneg, Int.ofNat_lt, hiN, hiN0, hil, hgd, hw1, aS, aT hiN, aT hiN0, cQ, Int.toNat_natCast, ha, hn]; exact AX h_)
       refine T2 (hK _ _ _ ?_)
       clear hK K
       refine aL (by kernel_rfl) ?_
       refine TQ hw1 ?_
       refine ⟨⟨i + 1, hil⟩, aN (by omega) (by simp [bA, fin_at, finA_at, upd_at, HV.men, HV.menL, HV.norm, HV.toC, HV.toCL, aS]) (by simp [aX, fob_at, upd_at, none0_at, bY, HO.men, HV.men, HV.menL, HV.norm, HV.toC, HV.toCL, hs1]), ?_⟩
       show s.length - (i + 1) < s.length - i
       omega
      have ha : mD ps s k (i + 1) = false := by simpa using ha
      have hn : mD ps s (k + 1) i = false := by simpa using hn
      have htk : ps[k].takes s[i] = true := by simp [Pt.takes, h3]
      have hs1 : (bW (s.length + 1) (nxt ps s k i)).set (i + 1) (.bool false) = bW (s.length + 1) (nxt ps s k (i + 1)) := fK (by rw [oS, hprt, hlong, hgd]; simp [ha, hn, htk])
      refine Rg ?_
      iterate 23 refine S0 ?_ (e := fun _ h_ => by simp only [sH, ↓sP, sA, tyS, simprocAttr, Int.natCast_nonneg, Int.ofNat_lt, hiN, hiN0, hil, hgd, hw1, aS, aT hiN, aT hiN0, cQ, Int.toNat_natCast, ha, hn]; exact AX h_)
      refine T2 (hK _ _ _ ?_)
      clear hK K
      refine aL (by kernel_rfl) ?_
      refine TQ hw1 ?_
      refine ⟨⟨i + 1, hil⟩, aN (by omega) (by simp [bA, fin_at, finA_at, upd_at, HV.men, HV.menL, HV.norm, HV.toC, HV.toCL, aS]) (by simp [aX, fob_at, upd_at, none0_at, bY, HO.men, HV.men, HV.menL, HV.norm, HV.toC, HV.toCL, hs1]), ?_⟩
      show s.length - (i + 1) < s.length - i
      omega
     refine aZ (T3 ?_)
     clear hK K
     refine AX (hK _ _ _ ?_)
     clear hK K
     refine aL (by kernel_rfl) ?_
     refine T0 (hK _ _ _ ?_)
     clear hK K
     have hei : i = s.length := by simp at hb; omega
     subst hei
     have hra := tY (ps := ps) (s := s) (k := k)
     refine fE [144] (bS (fr2 := fin [(1, .c (.str s)), (7, .c (.slc (bW (s.length + 1) (mD ps s (k + 1))))), (31, .c (.slc (ps.map Pt.cv))), (32, .c (.int .i64 ps.length)), (33, .c (.int .i64 k))]) (ob2 := fob []) (nx2 := 900) (aN (by omega) (by simp [bA, kN, fin_at, finA_at, upd_at, fob_at, HV.close, HV.closeL, CV.denil, CV.denilL, iH, denilL_Pt, hra, HV.men, HV.menL, HV.norm, HV.toC, HV.toCL, aS]) (by simp [aX, kO, fob_at, upd_at, none0_at, bY, HO.close, HV.close, HV.closeL, HO.men, HV.men, HV.menL, HV.norm, HV.toC, HV.toCL])) ?_)
     refine aL (by kernel_rfl) ?_
     refine TQ (lQ k) ?_
     refine ⟨⟨k + 1, hlt⟩, fF, ?_⟩
     show ps.length - (k + 1) < ps.length - k
     omega
    by_cases hm : mD ps s k 0 = true
    ·
     have hz : (bW (s.length + 1) (fun _ => false)).set 0 (.bool true) = bW (s.length + 1) (nxt ps s k 0) := iJ (by rw [hm, hprt, hlong]; rfl)
     refine Rg ?_
     iterate 6 refine S0 ?_ (e := fun _ h_ => by simp only [sH, ↓sP, sA, tyS, simprocAttr, hzn, aS, aT (Nat.succ_pos s.length), Int.toNat_zero, hm, hlong, Pt.cells, Pt.isAgg, Pt.getAll]; exact AX h_)
     refine aU (g := some (47, true)) rfl rfl fun K' hK' => ?_
     simp only [sH, ↓sP, sA, tyS, simprocAttr, hzn, aS, aT (Nat.succ_pos s.length), Int.toNat_zero, hm, hlong, Pt.cells, Pt.isAgg, Pt.getAll]
     refine C1 (eQ ps[k] hk3) ?_
     rintro u rfl
     refine AX (hK' _ _ ?_)
     clear hK' K'
     iterate 3 refine S0 ?_ (e := fun _ h_ => by simp only [sH, ↓sP, sA, tyS, simprocAttr, hzn, aS, aT (Nat.succ_pos s.length), Int.toNat_zero, hm, hlong, Pt.cells, Pt.isAgg, Pt.getAll]; exact AX h_)
     refine T4 ?_
     exact key _ _ _ (aN (by omega) (by simp [bA, fin_at, finA_at, upd_at, HV.men, HV.menL, HV.norm, HV.toC, HV.toCL, aS]) (by simp [aX, fob_at, upd_at, none0_at, bY, HO.men, HV.men, HV.menL, HV.norm, HV.toC, HV.toCL, hz]))
    have hm0 : mD ps s k 0 = false := by simpa using hm
    have hz : (bW (s.length + 1) (fun _ => false)).set 0 (.bool false) = bW (s.length + 1) (nxt ps s k 0) := iJ (by rw [hm0]; rfl)
    refine Rg ?_
    iterate 10 refine S0 ?_ (e := fun _ h_ => by simp only [sH, ↓sP, sA, tyS, simprocAttr, hzn, aS, aT (Nat.succ_pos s.length), Int.toNat_zero, hm0, Pt.cells, Pt.isAgg, Pt.getAll]; exact AX h_)
    refine T4 ?_
    exact key _ _ _ (aN (by omega) (by simp [bA, fin_at, finA_at, upd_at, HV.men, HV.menL, HV.norm, HV.toC, HV.toCL, aS]) (by simp [aX, fob_at, upd_at, none0_at, bY, HO.men, HV.men, HV.menL, HV.norm, HV.toC, HV.toCL, hz]))
   by_cases h1 : ps[k].k = 1
   ·
    have hlong : ps[k].long = false := by simp [Pt.long, h1]
    refine aB fun K hK => Rg ?_
    clear F
    have F := aI @Pt.cells (aI @Pt.isAgg @Pt.getAll)
    refine SF ?_
    refine HS rfl rfl fun K' hK' => T6 ?_
    refine C1 (zD ps[k] (.inl h1)) ?_
    rintro u rfl
    refine AX (hK' _ _ ?_)
    clear hK' K'
    refine SF ?_
    refine T2 (hK _ _ _ ?_)
    clear hK K
    refine aB fun K hK => Rg ?_
    clear F
    have F := aI hwn (aI hn0 (aI hrep @Int.toNat_natCast))
    iterate 5 refine SF ?_
    refine T2 (hK _ _ _ ?_)
    clear hK K
    refine aB fun K hK => ?_
    have key : ∀ fr ob nx, Fits 0 fr ob (fin [(1, .c (.str s)), (7, .c (.slc (bW (s.length + 1) (mD ps s k)))), (9, .ptr 112 0), (10, .c (.fn 116)), (11, .own 144 (s.length + 1)), (31, .c (.slc (ps.map Pt.cv))), (32, .c (.int .i64 ps.length)), (33, .c (.int .i64 k))]) (fob [(112, .box 140 (.c ps[k].cv)), (144, .row 4 1 (bW (s.length + 1) (nxt ps s k 0)))]) 250 → K fr ob nx := by
     rintro fr ob nx hf
     refine hK _ _ _ (bS hf ?_)
     clear hf hK K
     refine aB fun K hK => ?_
     refine R0 ?_
     refine aK ?_
     refine bE (α := {i : Nat // i ≤ s.length}) (fun i => (fin [(1, .c (.str s)), (7, .c (.slc (bW (s.length + 1) (mD ps s k)))), (9, .ptr 112 0), (10, .c (.fn 116)), (11, .own 144 (s.length + 1)), (31, .c (.slc (ps.map Pt.cv))), (32, .c (.int .i64 ps.length)), (33, .c (.int .i64 k)), (53, .c (.int .i64 s.length)), (54, .c (.int .i64 i.1))], fob [(112, .box 140 (.c ps[k].cv)), (144, .row 4 1 (bW (s.length + 1) (nxt ps s k i.1)))])) 300 (fun i => s.length - i.1) ⟨0, by omega⟩ (fF) ?_
     rintro ⟨i, hi⟩
     refine R0 ?_
     refine aB fun K hK => ?_
     refine aH (b := decide ((i : Int) < s.length)) rfl (fun hb => ?_) (fun hb => ?_)
     ·
      have hil : i < s.length := by simpa using hb
      clear hb
      have hgd : s.getD i 0 = s[i] := by simp [hil]
      have hiN : i + 1 < s.length + 1 := by omega
      have hiN0 : i < s.length + 1 := by omega
      have hw1 : IntKind.i64.wrap ((i : Int) + 1) = ((i + 1 : Nat) : Int) := by rw [IntWalk.i64_in _ (by omega)]; rfl
      refine aJ ?_
      refine T0 (hK _ _ _ ?_)
      clear hK K
      refine aB fun K hK => ?_
      refine aK ?_
      refine R0 ?_
      refine aK ?_
      refine aB fun K hK => Rg ?_
      clear F
      have F := aI @Pt.cells (aI @Pt.isAgg (aI @Pt.getAll hlong))
      refine SF ?_
      refine HS rfl rfl fun K' hK' => T6 ?_
      refine C1 (eQ ps[k] hk3) ?_
      rintro u rfl
      refine AX (hK' _ _ ?_)
      clear hK' K'
      refine SF ?_
      refine T2 (hK _ _ _ ?_)
      clear hK K
      refine CF rfl ?_
      by_cases ha : mD ps s k i = true
      ·
       have htk : ps[k].takes s[i] = (!(s[i] == 47)) := by simp [Pt.takes, h1]
       have hs1 : (bW (s.length + 1) (nxt ps s k i)).set (i + 1) (.bool (!(s[i] == 47))) = bW (s.length + 1) (nxt ps s k (i + 1)) := fK (by rw [oS, hprt, hlong, hgd]; simp [ha, htk])
       refine Rg ?_
       iterate 12 refine S0 ?_ (e := fun _ h_ => by simp only [sH, ↓sP, sA, tyS, simprocAttr, Int.natCast_nonneg, Int.ofNat_lt, hiN, hiN0, hil, hgd, hw1, aS, aT hiN, aT hiN0, cQ, Int.toNat_natCast, ha]; exact AX h_)
       refine aU (g := some (64, true)) rfl rfl fun K' hK' => ?_
       simp only [sH, ↓sP, sA, tyS, simprocAttr, Int.natCast_nonneg, Int.ofNat_lt, hiN, hiN0, hil, hgd, hw1, aS, aT hiN, aT hiN0, cQ, Int.toNat_natCast, ha]
       refine C1 (aU3 s[i]) ?_
       rintro u rfl
       refine AX (hK' _ _ ?_)
       clear hK' K'
       iterate 3 refine S0 ?_ (e := fun _ h_ => by simp only [sH, ↓sP, sA, tyS, simprocAttr, Int.natCast_nonneg, Int.ofNat_lt, hiN, hiN0, hil, hgd, hw1, aS, aT hiN, aT hiN0, cQ, Int.toNat_natCast, ha]; exact AX h_)
       refine T2 (hK _ _ _ ?_)
       clear hK K
       refine aL (by kernel_rfl) ?_
       refine TQ hw1 ?_
       refine ⟨⟨i + 1, hil⟩, aN (by omega) (by simp [bA, fin_at, finA_at, upd_at, HV.men, HV.menL, HV.norm, HV.toC, HV.toCL, aS]) (by simp [aX, fob_at, upd_at, none0_at, bY, HO.men, HV.men, HV.menL, HV.norm, HV.toC, HV.toCL, hs1]), ?_⟩
       show s.length - (i + 1) < s.length - i
       omega
      have ha : mD ps s k i = false := by simpa using ha
      have htk : ps[k].takes s[i] = (!(s[i] == 47)) := by simp [Pt.takes, h1]
      have hs1 : (bW (s.length + 1) (nxt ps s k i)).set (i + 1) (.bool false) = bW (s.length + 1) (nxt ps s k (i + 1)) := fK (by rw [oS, hprt, hlong, hgd]; simp [ha, htk])
      refine Rg ?_
      iterate 16 refine S0 ?_ (e := fun _ h_ => by simp only [sH, ↓sP, sA, tyS, simprocAttr, Int.natCast_nonneg, Int.ofNat_lt, hiN, hiN0, hil, hgd, hw1, aS, aT hiN, aT hiN0, cQ, Int.toNat_natCast, ha]; exact AX h_)
      refine T2 (hK _ _ _ ?_)
      clear hK K
      refine aL (by kernel_rfl) ?_
      refine TQ hw1 ?_
      refine ⟨⟨i + 1, hil⟩, aN (by omega) (by simp [bA, fin_at, finA_at, upd_at, HV.men, HV.menL, HV.norm, HV.toC, HV.toCL, aS]) (by simp [aX, fob_at, upd_at, none0_at, bY, HO.men, HV.men, HV.menL, HV.norm, HV.toC, HV.toCL, hs1]), ?_⟩
      show s.length - (i + 1) < s.length - i
      omega
     refine aZ (T3 ?_)
     clear hK K
     refine AX (hK _ _ _ ?_)
     clear hK K
     refine aL (by kernel_rfl) ?_
     refine T0 (hK _ _ _ ?_)
     clear hK K
     have hei : i = s.length := by simp at hb; omega
     subst hei
     have hra := tY (ps := ps) (s := s) (k := k)
     refine fE [144] (bS (fr2 := fin [(1, .c (.str s)), (7, .c (.slc (bW (s.length + 1) (mD ps s (k + 1))))), (31, .c (.slc (ps.map Pt.cv))), (32, .c (.int .i64 ps.length)), (33, .c (.int .i64 k))]) (ob2 := fob []) (nx2 := 900) (aN (by omega) (by simp [bA, kN, fin_at, finA_at, upd_at, fob_at, HV.close, HV.closeL, CV.denil, CV.denilL, iH, denilL_Pt, hra, HV.men, HV.menL, HV.norm, HV.toC, HV.toCL, aS]) (by simp [aX, kO, fob_at, upd_at, none0_at, bY, HO.close, HV.close, HV.closeL, HO.men, HV.men, HV.menL, HV.norm, HV.toC, HV.toCL])) ?_)
     refine aL (by kernel_rfl) ?_
     refine TQ (lQ k) ?_
     refine ⟨⟨k + 1, hlt⟩, fF, ?_⟩
     show ps.length - (k + 1) < ps.length - k
     omega
    by_cases hm : mD ps s k 0 = true
    ·
     have hz : (bW (s.length + 1) (fun _ => false)).set 0 (.bool false) = bW (s.length + 1) (nxt ps s k 0) := iJ (by rw [hm, hprt, hlong]; rfl)
     refine Rg ?_
     iterate 6 refine S0 ?_ (e := fun _ h_ => by simp only [sH, ↓sP, sA, tyS, simprocAttr, hzn, aS, aT (Nat.succ_pos s.length), Int.toNat_zero, hm, hlong, Pt.cells, Pt.isAgg, Pt.getAll]; exact AX h_)
     refine aU (g := some (47, true)) rfl rfl fun K' hK' => ?_
     simp only [sH, ↓sP, sA, tyS, simprocAttr, hzn, aS, aT (Nat.succ_pos s.length), Int.toNat_zero, hm, hlong, Pt.cells, Pt.isAgg, Pt.getAll]
     refine C1 (eQ ps[k] hk3) ?_
     rintro u rfl
     refine AX (hK' _ _ ?_)
     clear hK' K'
     iterate 3 refine S0 ?_ (e := fun _ h_ => by simp only [sH, ↓sP, sA, tyS, simprocAttr, hzn, aS, aT (Nat.succ_pos s.length), Int.toNat_zero, hm, hlong, Pt.cells, Pt.isAgg, Pt.getAll]; exact AX h_)
     refine T4 ?_
     exact key _ _ _ (aN (by omega) (by simp [bA, fin_at, finA_at, upd_at, HV.men, HV.menL, HV.norm, HV.toC, HV.toCL, aS]) (by simp [aX, fob_at, upd_at, none0_at, bY, HO.men, HV.men, HV.menL, HV.norm, HV.toC, HV.toCL, hz]))
    have hm0 : mD ps s k 0 = false := by simpa using hm
    have hz : (bW (s.length + 1) (fun _ => false)).set 0 (.bool false) = bW (s.length + 1) (nxt ps s k 0) := iJ (by rw [hm0]; rfl)
    refine Rg ?_
    iterate 10 refine S0 ?_ (e := fun _ h_ => by simp only [sH, ↓sP, sA, tyS, simprocAttr, hzn, aS, aT (Nat.succ_pos s.length), Int.toNat_zero, hm0, Pt.cells, Pt.isAgg, Pt.getAll]; exact AX h_)
    refine T4 ?_
    exact key _ _ _ (aN (by omega) (by simp [bA, fin_at, finA_at, upd_at, HV.men, HV.menL, HV.norm, HV.toC, HV.toCL, aS]) (by simp [aX, fob_at, upd_at, none0_at, bY, HO.men, HV.men, HV.menL, HV.norm, HV.toC, HV.toCL, hz]))
   have h2 : ps[k].k = 2 := by omega
   have hlong : ps[k].long = true := by simp [Pt.long, h2]
   refine aB fun K hK => Rg ?_
   clear F
   have F := aI @Pt.cells (aI @Pt.isAgg @Pt.getAll)
   refine SF ?_
   refine HS rfl rfl fun K' hK' => T6 ?_
   refine C1 (zD ps[k] (.inr h2)) ?_
   rintro u rfl
   refine AX (hK' _ _ ?_)
   clear hK' K'
   refine SF ?_
   refine T2 (hK _ _ _ ?_)
   clear hK K
   refine aB fun K hK => Rg ?_
   clear F
   have F := aI hwn (aI hn0 (aI hrep @Int.toNat_natCast))
   iterate 5 refine SF ?_
   refine T2 (hK _ _ _ ?_)
   clear hK K
   refine aB fun K hK => ?_
   have key : ∀ fr ob nx, Fits 0 fr ob (fin [(1, .c (.str s)), (7, .c (.slc (bW (s.length + 1) (mD ps s k)))), (9, .ptr 112 0), (10, .c (.fn 116)), (11, .own 144 (s.length + 1)), (31, .c (.slc (ps.map Pt.cv))), (32, .c (.int .i64 ps.length)), (33, .c (.int .i64 k))]) (fob [(112, .box 140 (.c ps[k].cv)), (144, .row 4 1 (bW (s.length + 1) (nxt ps s k 0)))]) 250 → K fr ob nx := by
    rintro fr ob nx hf
    refine hK _ _ _ (bS hf ?_)
    clear hf hK K
    refine aB fun K hK => ?_
    refine R0 ?_
    refine aK ?_
    refine bE (α := {i : Nat // i ≤ s.length}) (fun i => (fin [(1, .c (.str s)), (7, .c (.slc (bW (s.length + 1) (mD ps s k)))), (9, .ptr 112 0), (10, .c (.fn 116)), (11, .own 144 (s.length + 1)), (31, .c (.slc (ps.map Pt.cv))), (32, .c (.int .i64 ps.length)), (33, .c (.int .i64 k)), (53, .c (.int .i64 s.length)), (54, .c (.int .i64 i.1))], fob [(112, .box 140 (.c ps[k].cv)), (144, .row 4 1 (bW (s.length + 1) (nxt ps s k i.1)))])) 300 (fun i => s.length - i.1) ⟨0, by omega⟩ (fF) ?_
    rintro ⟨i, hi⟩
    refine R0 ?_
    refine aB fun K hK => ?_
    refine aH (b := decide ((i : Int) < s.length)) rfl (fun hb => ?_) (fun hb => ?_)
    ·
     have hil : i < s.length := by simpa using hb
     clear hb
     have hgd : s.getD i 0 = s[i] := by simp [hil]
     have hiN : i + 1 < s.length + 1 := by omega
     have hiN0 : i < s.length + 1 := by omega
     have hw1 : IntKind.i64.wrap ((i : Int) + 1) = ((i + 1 : Nat) : Int) := by rw [IntWalk.i64_in _ (by omega)]; rfl
     refine aJ ?_
     refine T0 (hK _ _ _ ?_)
     clear hK K
     refine aB fun K hK => ?_
     refine aK ?_
     refine R0 ?_
     refine aK ?_
     refine aB fun K hK => Rg ?_
     clear F
     have F := aI @Pt.cells (aI @Pt.isAgg (aI @Pt.getAll hlong))
     refine SF ?_
     refine HS rfl rfl fun K' hK' => T6 ?_
     refine C1 (eQ ps[k] hk3) ?_
     rintro u rfl
     refine AX (hK' _ _ ?_)
     clear hK' K'
     refine SF ?_
     refine T2 (hK _ _ _ ?_)
     clear hK K
     refine CT rfl ?_
     by_cases ha : mD ps s k (i + 1) = true
     ·
      have htk : ps[k].takes s[i] = (!(s[i] == 47)) := by simp [Pt.takes, h2]
      have hs1 : (bW (s.length + 1) (nxt ps s k i)).set (i + 1) (.bool true) = bW (s.length + 1) (nxt ps s k (i + 1)) := fK (by rw [oS, hprt, hlong, hgd]; simp [ha, htk])
      refine Rg ?_
      iterate 23 refine S0 ?_ (e := fun _ h_ => by simp only [sH, ↓sP, sA, tyS, simprocAttr, Int.natCast_nonneg, Int.ofNat_lt, hiN, hiN0, hil, hgd, hw1, aS, aT hiN, aT hiN0, cQ, Int.toNat_natCast, ha]; exact AX h_)
      refine T2 (hK _ _ _ ?_)
      clear hK K
      refine aL (by kernel_rfl) ?_
      refine TQ hw1 ?_
      refine ⟨⟨i + 1, hil⟩, aN (by omega) (by simp [bA, fin_at, finA_at, upd_at, HV.men, HV.menL, HV.norm, HV.toC, HV.toCL, aS]) (by simp [aX, fob_at, upd_at, none0_at, bY, HO.men, HV.men, HV.menL, HV.norm, HV.toC, HV.toCL, hs1]), ?_⟩
      show s.length - (i + 1) < s.length - i
      omega
     by_cases hn : mD ps s (k + 1) i = true
     ·
      have ha : mD ps s k (i + 1) = false := by simpa using ha
      have htk : ps[k].takes s[i] = (!(s[i] == 47)) := by simp [Pt.takes, h2]
      have hs1 : (bW (s.length + 1) (nxt ps s k i)).set (i + 1) (.bool (!(s[i] == 47))) = bW (s.length + 1) (nxt ps s k (i + 1)) := fK (by rw [oS, hprt, hlong, hgd]; simp [ha, hn, htk])
      refine Rg ?_
      iterate 18 refine S0 ?_ (e := fun _ h_ => by simp only [sH, ↓sP, sA, tyS, simprocAttr, Int.natCast_nonneg, Int.ofNat_lt, hiN, hiN0, hil, hgd, hw1, aS, aT hiN, aT hiN0, cQ, Int.toNat_natCast, ha, hn]; exact AX h_)
      refine aU (g := some (88, true)) rfl rfl fun K' hK' => ?_
      simp only [sH, ↓sP, sA, tyS, simprocAttr, Int.natCast_nonneg, Int.ofNat_lt, hiN, hiN0, hil, hgd, hw1, aS, aT hiN, aT hiN0, cQ, Int.toNat_natCast, ha, hn]
      refine C1 (aU3 s[i]) ?_
      rintro u rfl
      refine AX (hK' _ _ ?_)
      clear hK' K'
      iterate 4 refine S0 ?_ (e := fun _ h_ => by simp only [sH, ↓sP, sA, tyS, simprocAttr, Int.natCast_nonneg, Int.ofNat_lt, hiN, hiN0, hil, hgd, hw1, aS, aT hiN, aT hiN0, cQ, Int.toNat_natCast, ha, hn]; exact AX h_)
      refine T2 (hK _ _ _ ?_)
      clear hK K
      refine aL (by kernel_rfl) ?_
      refine TQ hw1 ?_
      refine ⟨⟨i + 1, hil⟩, aN (by omega) (by simp [bA, fin_at, finA_at, upd_at, HV.men, HV.menL, HV.norm, HV.toC, HV.toCL, aS]) (by simp [aX, fob_at, upd_at, none0_at, bY, HO.men, HV.men, HV.menL, HV.norm, HV.toC, HV.toCL, hs1]), ?_⟩
      show s.length - (i + 1) < s.length - i
      omega
     have ha : mD ps s k (i + 1) = false := by simpa using ha
     have hn : mD ps s (k + 1) i = false := by simpa using hn
     have htk : ps[k].takes s[i] = (!(s[i] == 47)) := by simp [Pt.takes, h2]
     have hs1 : (bW (s.length + 1) (nxt ps s k i)).set (i + 1) (.bool false) = bW (s.length + 1) (nxt ps s k (i + 1)) := fK (by rw [oS, hprt, hlong, hgd]; simp [ha, hn, htk])
     refine Rg ?_
     iterate 23 refine S0 ?_ (e := fun _ h_ => by simp only [sH, ↓sP, sA, tyS, simprocAttr, Int.natCast_nonneg, Int.ofNat_lt, hiN, hiN0, hil, hgd, hw1, aS, aT hiN, aT hiN0, cQ, Int.toNat_natCast, ha, hn]; exact AX h_)
     refine T2 (hK _ _ _ ?_)
     clear hK K
     refine aL (by kernel_rfl) ?_
     refine TQ hw1 ?_
     refine ⟨⟨i + 1, hil⟩, aN (by omega) (by simp [bA, fin_at, finA_at, upd_at, HV.men, HV.menL, HV.norm, HV.toC, HV.toCL, aS]) (by simp [aX, fob_at, upd_at, none0_at, bY, HO.men, HV.men, HV.menL, HV.norm, HV.toC, HV.toCL, hs1]), ?_⟩
     show s.length - (i + 1) < s.length - i
     omega
    refine aZ (T3 ?_)
    clear hK K
    refine AX (hK _ _ _ ?_)
    clear hK K
    refine aL (by kernel_rfl) ?_
    refine T0 (hK _ _ _ ?_)
    clear hK K
    have hei : i = s.length := by simp at hb; omega
    subst hei
    have hra := tY (ps := ps) (s := s) (k := k)
    refine fE [144] (bS (fr2 := fin [(1, .c (.str s)), (7, .c (.slc (bW (s.length + 1) (mD ps s (k + 1))))), (31, .c (.slc (ps.map Pt.cv))), (32, .c (.int .i64 ps.length)), (33, .c (.int .i64 k))]) (ob2 := fob []) (nx2 := 900) (aN (by omega) (by simp [bA, kN, fin_at, finA_at, upd_at, fob_at, HV.close, HV.closeL, CV.denil, CV.denilL, iH, denilL_Pt, hra, HV.men, HV.menL, HV.norm, HV.toC, HV.toCL, aS]) (by simp [aX, kO, fob_at, upd_at, none0_at, bY, HO.close, HV.close, HV.closeL, HO.men, HV.men, HV.menL, HV.norm, HV.toC, HV.toCL])) ?_)
    refine aL (by kernel_rfl) ?_
    refine TQ (lQ k) ?_
    refine ⟨⟨k + 1, hlt⟩, fF, ?_⟩
    show ps.length - (k + 1) < ps.length - k
    omega
   by_cases hm : mD ps s k 0 = true
   ·
    have hz : (bW (s.length + 1) (fun _ => false)).set 0 (.bool true) = bW (s.length + 1) (nxt ps s k 0) := iJ (by rw [hm, hprt, hlong]; rfl)
    refine Rg ?_
    iterate 6 refine S0 ?_ (e := fun _ h_ => by simp only [sH, ↓sP, sA, tyS, simprocAttr, hzn, aS, aT (Nat.succ_pos s.length), Int.toNat_zero, hm, hlong, Pt.cells, Pt.isAgg, Pt.getAll]; exact AX h_)
    refine aU (g := some (47, true)) rfl rfl fun K' hK' => ?_
    simp only [sH, ↓sP, sA, tyS, simprocAttr, hzn, aS, aT (Nat.succ_pos s.length), Int.toNat_zero, hm, hlong, Pt.cells, Pt.isAgg, Pt.getAll]
    refine C1 (eQ ps[k] hk3) ?_
    rintro u rfl
    refine AX (hK' _ _ ?_)
    clear hK' K'
    iterate 3 refine S0 ?_ (e := fun _ h_ => by simp only [sH, ↓sP, sA, tyS, simprocAttr, hzn, aS, aT (Nat.succ_pos s.length), Int.toNat_zero, hm, hlong, Pt.cells, Pt.isAgg, Pt.getAll]; exact AX h_)
    refine T4 ?_
    exact key _ _ _ (aN (by omega) (by simp [bA, fin_at, finA_at, upd_at, HV.men, HV.menL, HV.norm, HV.toC, HV.toCL, aS]) (by simp [aX, fob_at, upd_at, none0_at, bY, HO.men, HV.men, HV.menL, HV.norm, HV.toC, HV.toCL, hz]))
   have hm0 : mD ps s k 0 = false := by simpa using hm
   have hz : (bW (s.length + 1) (fun _ => false)).set 0 (.bool false) = bW (s.length + 1) (nxt ps s k 0) := iJ (by rw [hm0]; rfl)
   refine Rg ?_
   iterate 10 refine S0 ?_ (e := fun _ h_ => by simp only [sH, ↓sP, sA, tyS, simprocAttr, hzn, aS, aT (Nat.succ_pos s.length), Int.toNat_zero, hm0, Pt.cells, Pt.isAgg, Pt.getAll]; exact AX h_)
   refine T4 ?_
   exact key _ _ _ (aN (by omega) (by simp [bA, fin_at, finA_at, upd_at, HV.men, HV.menL, HV.norm, HV.toC, HV.toCL, aS]) (by simp [aX, fob_at, upd_at, none0_at, bY, HO.men, HV.men, HV.menL, HV.norm, HV.toC, HV.toCL, hz]))
  refine aZ (T3 ?_)
  clear hK K
  refine AX (hK _ _ _ ?_)
  clear hK K
  have hek : k = ps.length := by simp at hb; omega
  subst hek
  refine aB fun K hK => Rg ?_
  iterate 6 refine S0 ?_ (e := fun _ h_ => by simp only [sH, ↓sP, sA, tyS, simprocAttr, Int.natCast_nonneg, Int.ofNat_lt, Nat.lt_succ_self, aS, aT (Nat.lt_succ_self s.length), Int.toNat_natCast]; exact AX h_)
  refine T2 (hK _ _ _ ?_)
  clear hK K
  refine aF (RT Tryz.results72 ?_)
  exact aG [] (.bool (mD ps s ps.length s.length)) rfl (by rw [hmv])
 rename_i ps
 have hs0 : jZ s = false := by simpa using hs
 refine aB fun K hK => Rg ?_
 iterate 4 refine S0 ?_ (e := fun _ h_ => by simp only [sH, ↓sP, sA, tyS, simprocAttr, Option.isSome_some, Bool.not_true, hs0, Bool.not_false, Option.getD_some]; exact AX h_)
 refine aU (g := some (20, false)) rfl rfl fun K' hK' => ?_
 simp only [sH, ↓sP, sA, tyS, simprocAttr, Option.isSome_some, Bool.not_true, hs0, Bool.not_false, Option.getD_some]
 refine C1 (aV2 s) ?_
 rintro u rfl
 refine AX (hK' _ _ ?_)
 clear hK' K'
 iterate 2 refine S0 ?_ (e := fun _ h_ => by simp only [sH, ↓sP, sA, tyS, simprocAttr, Option.isSome_some, Bool.not_true, hs0, Bool.not_false, Option.getD_some]; exact AX h_)
 refine T2 (hK _ _ _ ?_)
 clear hK K
 refine CT rfl ?_
 refine R0 ?_
 refine aF (RT Tryz.results72 ?_)
 exact aG [] (.bool false) rfl (by rw [aK0 hs0])

end Go.Proofs.YtlldglbooaefhaaGreatDoor

namespace Go.Pl
open Go Go.Hl
section
variable {ps : List Pt} {s : aE}
end
end Go.Pl

namespace Go.Proofs.YtlldglbooaefhaaGreatDoor
open Go Go.Hl Go.Pl
set_option maxRecDepth 10000
set_option maxHeartbeats 16000000

end Go.Proofs.YtlldglbooaefhaaGreatDoor

namespace Go.Pl
open Go Go.Hl

theorem bK7 {q : Rq} (h : (q.k == 1 || (q.k == 3 || q.k == 5)) = true) : dB q = (inB q.n 1 32 && fR q ⟨q.k, q.n, 0, []⟩) := by
 have h' : q.k = 1 ∨ q.k = 3 ∨ q.k = 5 := by simpa using h
 simp [dB, h', fR]
theorem aK3 {q : Rq} (h : q.k = 4) : dB q = ((inB q.n 1 32 && inB q.m 0 32) && fR q ⟨q.k, q.n, q.m, []⟩) := by
 simp [dB, h, fR, Bool.and_assoc]
theorem bK8 {q : Rq} (h : q.k = 2) : dB q = (dN q.t && fR q ⟨q.k, 0, 0, q.t⟩) := by simp [dB, h, fR]
theorem bK9 {q : Rq} (h : q.k = 6) : dB q = (inB q.n 1 10 && fR q ⟨q.k, q.n, 0, []⟩) := by simp [dB, h, fR]
theorem bL0 {q : Rq} (h : q.k = 7) : dB q = (inB q.n 0 vA && fR q ⟨q.k, q.n, 0, []⟩) := by simp [dB, h, fR]
theorem bL1 {q : Rq} (h : q.k = 8) : dB q = (true && fR q ⟨q.k, 0, 0, []⟩) := by simp [dB, h, fR]
theorem aV3 {q : Rq} (h : (q.k == 1 || (q.k == 3 || q.k == 5)) = false) (h4 : q.k ≠ 4) (h2 : q.k ≠ 2) (h6 : q.k ≠ 6) (h7 : q.k ≠ 7) (h8 : q.k ≠ 8) : dB q = false := by
 have h' : ¬ (q.k = 1 ∨ q.k = 3 ∨ q.k = 5) := by simpa using h
 simp only [dB, if_neg h', if_neg h4, if_neg h2, if_neg h6, if_neg h7, if_neg h8]
theorem wI {q : Rq} (h : (q.k == 1 || (q.k == 3 || q.k == 5)) = true) : dB q = (inB q.n 1 32 && (q.m == 0 && q.t == [])) := by
 have h' : q.k = 1 ∨ q.k = 3 ∨ q.k = 5 := by simpa using h
 simp only [dB, if_pos h']
theorem qQ {q : Rq} (h : (q.k == 4) = true) : dB q = (inB q.n 1 32 && (decide (0 ≤ q.m) && (decide (q.m ≤ 32) && q.t == []))) := by
 have h' : q.k = 4 := by simpa using h
 simp [dB, h', inB, Bool.and_assoc]
theorem wJ {q : Rq} (h : (q.k == 2) = true) : dB q = (q.n == 0 && (q.m == 0 && dN q.t)) := by
 have h' : q.k = 2 := by simpa using h
 have : dB q = (dN q.t && (q.n == 0 && q.m == 0)) := by simp [dB, h']
 rw [this]
 generalize dN q.t = A
 generalize (q.n == 0) = B
 generalize (q.m == 0) = C
 cases A <;> cases B <;> cases C <;> rfl
theorem qR {q : Rq} (h : (q.k == 6) = true) : dB q = (decide (1 ≤ q.n) && (decide (q.n ≤ 10) && (q.m == 0 && q.t == []))) := by
 have h' : q.k = 6 := by simpa using h
 simp [dB, h', inB, Bool.and_assoc]
theorem wK {q : Rq} (h : (q.k == 7) = true) : dB q = (inN q.n && (q.m == 0 && q.t == [])) := by
 have h' : q.k = 7 := by simpa using h
 have e : inB q.n 0 vA = inN q.n := rfl
 simp [dB, h', e]
theorem wL {q : Rq} (h : (q.k == 8) = true) : dB q = (q.n == 0 && (q.m == 0 && q.t == [])) := by
 have h' : q.k = 8 := by simpa using h
 simp [dB, h']
def nH (n : Nd) : Bool :=
 if n.k = 1 then n.c == 0 && (n.n == 0 && dB n.q)
 else if n.k = 2 ∨ n.k = 3 then decide (1 ≤ n.c) && (n.n == 0 && fR n.q rq0)
 else if n.k = 4 then decide (1 ≤ n.c) && (decide (1 ≤ n.n) && (decide (n.n ≤ n.c) && fR n.q rq0))
 else false
theorem aB8 (n : Nd) : bT n = (nH n && !decide (60 < n.c)) := by
 unfold bT nH inB
 have e : (!decide (60 < n.c)) = decide (n.c ≤ 60) := by
  by_cases h : n.c ≤ 60
  ·
   rw [decide_eq_true h, decide_eq_false (by omega)]; rfl
  ·
   rw [decide_eq_false h, decide_eq_true (by omega)]; rfl
 rw [e]
 split
 ·
  by_cases h : n.c = 0
  ·
   simp [h]
  ·
   simp [h]
 ·
  split
  ·
   generalize decide (1 ≤ n.c) = A
   generalize decide (n.c ≤ 60) = B
   generalize fR n.q rq0 = C
   generalize (n.n == 0) = D
   cases A <;> cases B <;> cases C <;> cases D <;> rfl
  ·
   split
   ·
    generalize decide (1 ≤ n.c) = A
    generalize decide (n.c ≤ 60) = B
    generalize fR n.q rq0 = C
    generalize decide (1 ≤ n.n) = D
    generalize decide (n.n ≤ n.c) = E
    cases A <;> cases B <;> cases C <;> cases D <;> cases E <;> rfl
   ·
    rfl
theorem pG {n : Nd} (h : n.k = 1) : bT n = (n.c == 0 && (n.n == 0 && dB n.q)) := by simp only [bT, if_pos h]
theorem zE {n : Nd} (h : (n.k == 2 || n.k == 3) = true) : bT n = ((inB n.c 1 60 && fR n.q rq0) && n.n == 0) := by
 have h' : n.k = 2 ∨ n.k = 3 := by simpa using h
 have h1 : n.k ≠ 1 := by omega
 simp only [bT, if_neg h1, if_pos h', Bool.and_assoc]
theorem pH {n : Nd} (h : n.k = 4) : bT n = ((inB n.c 1 60 && fR n.q rq0) && inB n.n 1 n.c) := by
 have h1 : n.k ≠ 1 := by omega
 have h2 : ¬ (n.k = 2 ∨ n.k = 3) := by omega
 simp only [bT, if_neg h1, if_neg h2, if_pos h, Bool.and_assoc]
theorem bL2 {n : Nd} (h1 : n.k ≠ 1) (h : (n.k == 2 || n.k == 3) = false) (h4 : n.k ≠ 4) : bT n = false := by
 have h' : ¬ (n.k = 2 ∨ n.k = 3) := by simpa using h
 simp only [bT, if_neg h1, if_neg h', if_neg h4]
theorem pI {n : Nd} (h : n.k = 1) : nH n = (n.c == 0 && (n.n == 0 && dB n.q)) := by simp only [nH, if_pos h]
theorem sB {n : Nd} (h : (n.k == 2 || n.k == 3) = true) : nH n = (decide (1 ≤ n.c) && (n.n == 0 && fR n.q rq0)) := by
 have h' : n.k = 2 ∨ n.k = 3 := by simpa using h
 have h1 : n.k ≠ 1 := by omega
 simp only [nH, if_neg h1, if_pos h']
theorem lU {n : Nd} (h : n.k = 4) : nH n = (decide (1 ≤ n.c) && (decide (1 ≤ n.n) && (decide (n.n ≤ n.c) && fR n.q rq0))) := by
 have h1 : n.k ≠ 1 := by omega
 have h2 : ¬ (n.k = 2 ∨ n.k = 3) := by omega
 simp only [nH, if_neg h1, if_neg h2, if_pos h]
theorem bL3 {n : Nd} (h1 : n.k ≠ 1) (h : (n.k == 2 || n.k == 3) = false) (h4 : n.k ≠ 4) : nH n = false := by
 have h' : ¬ (n.k = 2 ∨ n.k = 3) := by simpa using h
 simp only [nH, if_neg h1, if_neg h', if_neg h4]

structure ScSt (l : List Nd) (i : Nat) (m v : Int) : Prop where
 le : i ≤ l.length
 eq : pV l 1 0 = pV (l.drop i) m v
 m0 : 0 ≤ m
 m1 : m ≤ 1 + 60 * i
 v0 : 0 ≤ v
 v1 : v ≤ i
theorem ScSt.init (l : List Nd) : ScSt l 0 1 0 := ⟨by omega, rfl, by omega, by omega, by omega, by omega⟩
theorem ScSt.stop {l : List Nd} {i : Nat} {m v : Int} (h : ScSt l i m v) (hi : i < l.length) (hb : m = 0 ∨ bT l[i] = false) : cP l = false := by
 have : pV l 1 0 = none := by
  rw [h.eq, List.drop_eq_getElem_cons hi, pV]
  rcases hb with hb | hb
  ·
   rw [if_pos hb]
  ·
   rw [hb]; simp
 simp [cP, this]
theorem ScSt.next {l : List Nd} {i : Nat} {m v : Int} (h : ScSt l i m v) (hi : i < l.length) (hm : m ≠ 0) (hb : bT l[i] = true) : ScSt l (i + 1) (m + (l[i].c - 1)) (if l[i].k = 1 then v + 1 else v) := by
 obtain ⟨c1, c2, _, _⟩ := cI hb
 have h0 := h.m0
 have h1 := h.m1
 have h2 := h.v0
 have h3 := h.v1
 refine ⟨hi, ?_, by omega, by omega, ?_, ?_⟩
 ·
  rw [h.eq, List.drop_eq_getElem_cons hi, pV, if_neg hm, if_pos hb]
 ·
  split <;> omega
 ·
  split <;> omega
theorem ScSt.fin {l : List Nd} {m v : Int} (h : ScSt l l.length m v) (h1 : 1 ≤ l.length) (h2 : l.length ≤ 60) : cP l = (m == 0 && decide (v ≤ 16)) := by
 have : pV l 1 0 = some (m, v) := by rw [h.eq, List.drop_length]; rfl
 simp [cP, this, h1, h2]
theorem kG {l : List Nd} (h : l.length < 1 ∨ 60 < l.length) : cP l = false := by
 rcases h with h | h
 ·
  simp [cP, show ¬ 1 ≤ l.length by omega]
 ·
  simp [cP, show ¬ l.length ≤ 60 by omega]
theorem gS {l : List Nd} {i : Int} (h : cP l = false ∨ i < 0 ∨ (l.length : Int) ≤ i) : lS l i = [] := by
 unfold lS
 rw [if_neg]
 rintro ⟨h1, h2, h3⟩
 rcases h with h | h | h
 ·
  rw [h] at h1; cases h1
 ·
  omega
 ·
  omega
theorem sC {l : List Nd} (h : cP l = true) {i : Nat} (hi : i < l.length) : lS l i = fZ l l[i].c.toNat (i + 1) := by
 unfold lS
 rw [if_pos ⟨h, by omega, by omega⟩]
 simp [bH8, hi]
theorem kH {l : List Nd} (h : cP l = false) : gJ l = [] := by simp [gJ, h]
theorem jM {l : List Nd} (h : cP l = true) : gJ l = eA 0 l := by simp [gJ, h]
theorem kR : ∀ {l : List Bool} {k : Nat}, k < l.length → cnt (l.take (k + 1)) = cnt (l.take k) + (if l.getD k false = true then 1 else 0)
 | x :: l, 0, _ => by cases x <;> simp [cnt]
 | x :: l, k + 1, h => by
  have h' : k < l.length := by simpa using h
  have e : ∀ m, cnt ((x :: l).take (m + 1)) = (if x = true then 1 else 0) + cnt (l.take m) := fun m => by cases x <;> simp [cnt]; omega
  rw [e, e, kR h']
  simp only [List.getD_cons_succ]
  omega
theorem aB9 {l : List Nd} {i : Nat} (h : i < l.length) : lv (l.take (i + 1)) = lv (l.take i) + (if l[i].k = 1 then 1 else 0) := by
 rw [List.take_succ_eq_append_getElem h, rM]
 simp [lv]
theorem wM (l : List Nd) (i : Nat) : lv (l.take i) ≤ i := by have := bF1 (l.take i); simp at this; omega
def bwL (l : List Nd) : List (List CV) := (List.range l.length).map fun j => [.int .i64 (l.length - 1 - j : Nat), (l.getD (l.length - 1 - j) nd0).cv]
theorem qS (l : List Nd) : (bwL l).length = l.length := by simp [bwL]
theorem bL4 {l : List Nd} {j : Nat} (h : j < (bwL l).length) (h2 : l.length - 1 - j < l.length) : (bwL l)[j] = [.int .i64 (l.length - 1 - j : Nat), (l[l.length - 1 - j]).cv] := by simp [bwL, h2]
end Go.Pl
