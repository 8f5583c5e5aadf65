/- Part of a proof: walks of functions of the program, by contracts, and the rules they use. By an AI agent. -/
import Derived.Test.YtlldglbooaefhaaDoorHvV1
import Derived.Test.YtlldglbooaefhaaDoorHvTd
import Derived.Test.YtlldglbooaefhaaDoorHlCl
import Derived.Test.YtlldglbooaefhaaDoorHlExt
import Derived.Test.YtlldglbooaefhaaDoorHlTlaw
import Derived.Test.YtlldglbooaefhaaDoorRows
import Derived.Test.YtlldglbooaefhaaDoorPl03e
set_option linter.unusedSimpArgs false
set_option linter.unusedVariables false
set_option linter.defProp false
namespace Go.Proofs.YtlldglbooaefhaaDoor
open Go Go.Hl Go.Pl
set_option maxRecDepth 10000
set_option maxHeartbeats 16000000

def iC (n : Nat) : CV := .int .i64 n
theorem yZ (l : List Nat) : CV.denilL (l.map iC) = l.map iC := cA (fun _ => rfl) l
theorem bL1 (l : List Nd) (ht : IsTree l) (i : Nat) (hi : i < l.length) : cE Tryd.prog 32 [.slc (l.map Nd.cv), .int .i64 i] (fun v => v = .int .i64 (aft l i : Nat)) := by
 have hl := ht.len
 refine FW Tryd.func32 ?_
 refine R0 ?_
 refine aC fun K hK => ?_
 refine R0 ?_
 refine aK ?_
 refine bM (α := {y : Nat × Nat // AftSt l i y.1 y.2 ∧ y.1 ≤ 1 + 60 * y.2}) (fun y => (fin [(0, .c (.slc (l.map Nd.cv))), (1, .c (.int .i64 y.1.2)), (5, .c (.int .i64 y.1.1))], fob [])) 100 (fun y => l.length - y.1.2) ⟨(1, i), ⟨Nat.le_of_lt hi, rfl⟩, by omega⟩ (fF) ?_
 rintro ⟨⟨m, p⟩, hst, hm⟩
 simp only at hst hm
 have hp := hst.1
 refine aC fun K hK => ?_
 refine R0 ?_
 refine aG (b := decide ((0 : Int) < (m : Int))) rfl (fun hb => ?_) (fun hb => ?_)
 ·
  have hm1 : 0 < m := by simpa using hb
  have hpl := hst.lt ht hi hm1
  obtain ⟨c1, c2, _, _⟩ := dL (ht.node _ (List.getElem_mem hpl))
  obtain ⟨m', rfl⟩ : ∃ m', m = m' + 1 := ⟨m - 1, by omega⟩
  have hnx := hst.next hpl
  have hw1 : IntKind.i64.wrap (((m' + 1 : Nat) : Int) + (l[p].c - 1)) = ((m' + l[p].c.toNat : Nat) : Int) := by rw [cY _ (by omega)]; omega
  have hw2 : IntKind.i64.wrap ((p : Int) + 1) = ((p + 1 : Nat) : Int) := by rw [cY _ (by omega)]; rfl
  clear hb
  refine aJ ?_
  refine T0 (hK _ _ _ ?_)
  clear hK K
  refine aC fun K hK => ?_
  refine aK ?_
  refine Rg ?_
  iterate 9 refine S0 ?_ (e := fun _ h_ => by simp only [sH, ↓sP, sA, tyS, simprocAttr, Int.natCast_nonneg, Int.ofNat_lt, hpl, bY hpl, cY (l[p].c - 1) (by omega), hw1]; exact AX h_)
  refine T2 (hK _ _ _ ?_)
  clear hK K
  refine aM (by kernel_rfl) ?_
  refine TQ hw2 ?_
  refine ⟨⟨(m' + l[p].c.toNat, p + 1), hnx, by simp only; omega⟩, fF, ?_⟩
  show l.length - (p + 1) < l.length - p
  omega
 refine bA (T3 ?_)
 clear hK K
 refine AX (hK _ _ _ ?_)
 clear hK K
 refine R0 ?_
 refine aF (RT Tryd.results32 ?_)
 have hm0 : m = 0 := by simpa using hb
 subst hm0
 exact aL [] (.int .i64 p) rfl (by rw [hst.fin])


theorem aJ6 (l : List Nd) (hn : ∀ n ∈ l, n.q.t.length < 2 ^ 63) (i : Int) : cE Tryd.prog 15 [.slc (l.map Nd.cv), .int .i64 i] (fun v => v = .slc ((rD l i).map iC)) := by
 refine FW Tryd.func15 ?_
 refine R0 ?_
 refine aC fun K hK => ?_
 refine aC fun K hK => Rg ?_
 refine S0 ?_
 refine HS rfl rfl fun K' hK' => T5 ?_
 refine C1 (tQ l hn) ?_
 rintro u rfl
 refine AX (hK' _ _ ?_)
 clear hK' K'
 iterate 2 refine S0 ?_
 refine aH 8 rfl (fun h1_8 => ?_) (fun h1_8 => ?_)
 ·
  have F := h1_8
  iterate 4 refine SF ?_
  refine aH 12 rfl (fun h1_12 => ?_) (fun h1_12 => ?_)
  ·
   have F := aI h1_8 h1_12
   iterate 5 refine SF ?_
   refine T2 (hK _ _ _ ?_)
   clear hK K
   refine CT rfl ?_
   refine R0 ?_
   refine aF (RT Tryd.results15 ?_)
   exact aL [] (.slc []) rfl (by rw [oV (.inr (.inl (by simpa using h1_12)))]; rfl)
  have F := aI h1_8 h1_12
  iterate 5 refine SF ?_
  refine aH 18 rfl (fun h1_18 => ?_) (fun h1_18 => ?_)
  ·
   simp only [h1_18]
   refine T2 (hK _ _ _ ?_)
   clear hK K
   refine CT rfl ?_
   refine R0 ?_
   refine aF (RT Tryd.results15 ?_)
   exact aL [] (.slc []) rfl (by rw [oV (.inr (.inr (by simpa using h1_18)))]; rfl)
  simp only [h1_18]
  refine T2 (hK _ _ _ ?_)
  clear hK K
  refine CF rfl ?_
  refine aJ ?_
  refine T0 (hK _ _ _ ?_)
  clear hK K
  obtain ⟨j, rfl⟩ : ∃ j : Nat, i = j := ⟨i.toNat, by simp at h1_12; omega⟩
  have hj : j < l.length := by simp at h1_18; omega
  have ht := kL h1_8
  have hcv := bA7 h1_8 hj
  have hl := ht.len
  obtain ⟨c1, c2, _, _⟩ := dL (ht.node _ (List.getElem_mem hj))
  have hw2 : IntKind.i64.wrap ((j : Int) + 1) = ((j + 1 : Nat) : Int) := by rw [cY _ (by omega)]; rfl
  clear h1_8 h1_12 h1_18
  refine R0 ?_
  refine aC fun K hK => ?_
  have F := hw2
  refine RF ?_
  refine aK ?_
  refine uQ 5 0 3 1 rfl rfl rfl rfl ?_
  refine bM (α := {k : Nat // k ≤ l[j].c.toNat}) (fun k => (fin [(0, .c (.slc (l.map Nd.cv))), (1, .c (.int .i64 j)), (5, .own 72 k.1), (6, .c (.int .i64 (dT l k.1 (j + 1) : Nat)))], fob [(72, .row 3 1 ((jT l k.1 (j + 1)).map iC))])) 200 (fun k => l[j].c.toNat - k.1) ⟨0, by omega⟩ (aO (by omega) (by simp [bB, fin_at, finA_at, upd_at, HV.men, HV.menL, HV.norm, HV.toC, HV.toCL, jT, dT]) (by simp [aZ, fob_at, upd_at, none0_at, bZ, HO.men, HV.men, HV.menL, HV.norm, HV.toC, HV.toCL, jT, dT])) ?_
  rintro ⟨k, hk⟩
  have hkl := yI l k (j + 1)
  refine aC fun K hK => ?_
  refine aC fun K hK => Rg ?_
  have F := aI @Int.natCast_nonneg (aI @Int.ofNat_lt (aI hj (aI (nM hj) hkl)))
  iterate 8 refine SF ?_
  refine T2 (hK _ _ _ ?_)
  clear hK K
  refine aG (b := decide ((k : Int) < l[j].c)) rfl (fun hb => ?_) (fun hb => ?_)
  ·
   have hkc : k < l[j].c.toNat := by simp only [decide_eq_true_eq] at hb; omega
   have hkp := mW ht hj hkc
   have e : (jT l (k + 1) (j + 1)).map iC = (jT l k (j + 1)).map iC ++ [CV.int .i64 (dT l k (j + 1) : Nat)] := by rw [vM, List.map_append]; rfl
   refine aJ ?_
   refine T0 (hK _ _ _ ?_)
   clear hK K
   refine aC fun K hK => ?_
   refine aK ?_
   refine Rg ?_
   have F := hkl
   iterate 5 refine SF ?_
   refine T2 (hK _ _ _ ?_)
   clear hK K
   refine Rg ?_
   iterate 2 refine S0 ?_
   refine HS rfl rfl fun K' hK' => T5 ?_
   refine C2 (bL1 l ht _ hkp) ?_
   rintro u rfl
   refine AX (hK' _ _ ?_)
   clear hK' K'
   refine S0 ?_
   refine T4 ?_
   refine ⟨⟨k + 1, hkc⟩, aO (by omega) (by simp [bB, fin_at, finA_at, upd_at, HV.men, HV.menL, HV.norm, HV.toC, HV.toCL, e, hkl, fV]) (by simp [aZ, fob_at, upd_at, none0_at, bZ, HO.men, HV.men, HV.menL, HV.norm, HV.toC, HV.toCL, e, hkl, fV]), ?_⟩
   show l[j].c.toNat - (k + 1) < l[j].c.toNat - k
   omega
  refine bA (T3 ?_)
  clear hK K
  refine AX (hK _ _ _ ?_)
  clear hK K
  refine R0 ?_
  refine aF (RT Tryd.results15 ?_)
  have hkc : k = l[j].c.toNat := by simp only [decide_eq_false_iff_not] at hb; omega
  subst hkc
  exact aL [72] (.slc ((jT l l[j].c.toNat (j + 1)).map iC)) (by simp [HV.close, fob_at, hkl, HV.norm, HV.toC, yZ, CV.denil]) (by rw [hcv])
 have F := h1_8
 iterate 9 refine SF ?_
 refine T2 (hK _ _ _ ?_)
 clear hK K
 refine CT rfl ?_
 refine R0 ?_
 refine aF (RT Tryd.results15 ?_)
 exact aL [] (.slc []) rfl (by rw [oV (.inl h1_8)]; rfl)


theorem zA (l : List Nd) (hn : ∀ n ∈ l, n.q.t.length < 2 ^ 63) : cE Tryd.prog 13 [.slc (l.map Nd.cv)] (fun v => v = .slc ((iR l).map iC)) := by
 refine FW Tryd.func13 ?_
 refine R0 ?_
 refine aC fun K hK => ?_
 refine aC fun K hK => Rg ?_
 refine S0 ?_
 refine HS rfl rfl fun K' hK' => T5 ?_
 refine C1 (tQ l hn) ?_
 rintro u rfl
 refine AX (hK' _ _ ?_)
 clear hK' K'
 refine S0 ?_
 refine T2 (hK _ _ _ ?_)
 clear hK K
 refine aG (b := !dB l) rfl (fun hb => ?_) (fun hb => ?_)
 ·
  refine R0 ?_
  refine aF (RT Tryd.results13 ?_)
  exact aL [] (.slc []) rfl (by rw [sS (by simpa using hb)]; rfl)
 have h8 : dB l = true := by simpa using hb
 have ht := kL h8
 have hlv := oW h8
 have hl := ht.len
 clear hb
 refine aJ ?_
 refine T0 (hK _ _ _ ?_)
 clear hK K
 refine R0 ?_
 refine aC fun K hK => ?_
 refine R0 ?_
 refine aK ?_
 refine uQ 3 0 3 1 rfl rfl rfl rfl ?_
 refine bM (α := {i : Nat // i ≤ l.length}) (fun i => (fin [(3, .own 32 (fZ 0 (l.take i.1)).length), (9, .c (.slc (l.map Nd.cv))), (10, .c (.int .i64 l.length)), (11, .c (.int .i64 i.1))], fob [(32, .row 3 1 ((fZ 0 (l.take i.1)).map iC))])) 200 (fun i => l.length - i.1) ⟨0, by omega⟩ (aO (by omega) (by simp [bB, fin_at, finA_at, upd_at, HV.men, HV.menL, HV.norm, HV.toC, HV.toCL, fZ]) (by simp [aZ, fob_at, upd_at, none0_at, bZ, HO.men, HV.men, HV.menL, HV.norm, HV.toC, HV.toCL, fZ])) ?_
 rintro ⟨i, hi⟩
 have hfl : (fZ 0 (l.take i)).length ≤ i := by rw [kO]; have := bW1 (l.take i); simp at this; omega
 refine R0 ?_
 refine aC fun K hK => ?_
 refine aG (b := decide ((i : Int) < l.length)) rfl (fun hb => ?_) (fun hb => ?_)
 ·
  have hlt : i < l.length := by simpa using hb
  have e := aO6 hlt
  clear hb
  refine aJ ?_
  refine T0 (hK _ _ _ ?_)
  clear hK K
  refine aC fun K hK => ?_
  refine aK ?_
  refine aC fun K hK => Rg ?_
  have F := aI @Int.natCast_nonneg (aI @Int.ofNat_lt (aI hlt (nM hlt)))
  iterate 6 refine SF ?_
  refine T2 (hK _ _ _ ?_)
  clear hK K
  refine R0 ?_
  refine aG (b := _) rfl (fun hb => ?_) (fun hb => ?_)
  ·
   rw [if_pos (by simpa using hb)] at e
   refine Rg ?_
   iterate 5 refine S0 ?_
   refine T2 (hK _ _ _ ?_)
   clear hK K
   refine aM (by kernel_rfl) ?_
   simp only [↓sP, sA, tyS, simprocAttr, cY ((i : Int) + 1) (by omega)]
   refine ⟨⟨i + 1, hlt⟩, aO (by omega) (by simp [bB, fin_at, finA_at, upd_at, HV.men, HV.menL, HV.norm, HV.toC, HV.toCL, e, iC]) (by simp [aZ, fob_at, upd_at, none0_at, bZ, HO.men, HV.men, HV.menL, HV.norm, HV.toC, HV.toCL, e, iC]), ?_⟩
   show l.length - (i + 1) < l.length - i
   omega
  rw [if_neg (by simpa using hb)] at e
  refine aJ ?_
  refine T0 (hK _ _ _ ?_)
  clear hK K
  refine aM (by kernel_rfl) ?_
  simp only [↓sP, sA, tyS, simprocAttr, cY ((i : Int) + 1) (by omega)]
  refine ⟨⟨i + 1, hlt⟩, aO (by omega) (by simp [bB, fin_at, finA_at, upd_at, HV.men, HV.menL, HV.norm, HV.toC, HV.toCL, e]) (by simp [aZ, fob_at, upd_at, none0_at, bZ, HO.men, HV.men, HV.menL, HV.norm, HV.toC, HV.toCL, e]), ?_⟩
  show l.length - (i + 1) < l.length - i
  omega
 refine bA (T3 ?_)
 clear hK K
 refine AX (hK _ _ _ ?_)
 clear hK K
 refine R0 ?_
 refine aF (RT Tryd.results13 ?_)
 have hei : i = l.length := by simp only [decide_eq_false_iff_not] at hb; omega
 subst hei
 rw [List.take_length]
 exact aL [32] (.slc ((fZ 0 l).map iC)) (by simp [HV.close, fob_at, HV.norm, HV.toC, yZ, CV.denil]) (by rw [hlv])


end Go.Proofs.YtlldglbooaefhaaDoor



namespace Go.Proofs.YtlldglbooaefhaaDoor
open Go Go.Hl Go.Pl
def bC (b : Bool) : CV := .bool b
end Go.Proofs.YtlldglbooaefhaaDoor

namespace Go.Proofs.YtlldglbooaefhaaDoor
open Go Go.Hl Go.Pl

theorem sT {α : Type} {f : α → CV} {Q : α → Prop} : ∀ (l : List CV), (∀ x ∈ l, ∃ y, x = f y ∧ Q y) → ∃ m : List α, l = m.map f ∧ ∀ y ∈ m, Q y
 | [], _ => ⟨[], rfl, by simp⟩
 | x :: l, h => by
  obtain ⟨y, rfl, hy⟩ := h x (by simp)
  obtain ⟨m, rfl, hm⟩ := sT l (fun x hx => h x (by simp [hx]))
  exact ⟨y :: m, rfl, fun z hz => by rcases List.mem_cons.1 hz with rfl | hz; exact hy; exact hm z hz⟩
theorem bS9 {c : CV} (h : HasTy Tryd.prog 22 c) : ∃ L : List Int, c = .slc (L.map (.int .i64)) ∧ (∀ n ∈ L, (Lit.int .i64 n).wf = true) ∧ L.length ≤ maxLen := by
 obtain ⟨l, rfl, hl, hn⟩ := h.of_slc Tryd.underlying22
 obtain ⟨m, rfl, hm⟩ := sT (f := CV.int .i64) (Q := fun n => (Lit.int .i64 n).wf = true) l (fun x hx => (hl x hx).of_int Tryd.underlying3)
 exact ⟨m, rfl, hm, by simpa using hn⟩
theorem own : ownKnob Tryd.prog.godebug = none := by kernel_rfl
theorem kids : Kids Tryd.prog (· < Tryd.prog.types.size) := kids_rows (by kernel_rfl) (by kernel_rfl)
theorem aP4 : ∀ t e, t < Tryd.prog.types.size → Tryd.prog.underlying t = some (.slice e) → 0 < Tryd.prog.cellsOf e := slices_full_of Tryd.prog (by kernel_rfl)
end Go.Proofs.YtlldglbooaefhaaDoor

namespace Go.Proofs.YtlldglbooaefhaaDoor
open Go Go.Hl Go.Pl
set_option maxRecDepth 10000
set_option maxHeartbeats 16000000
set_option linter.unusedSimpArgs false
set_option linter.unusedVariables false


end Go.Proofs.YtlldglbooaefhaaDoor

namespace Go.Proofs.YtlldglbooaefhaaDoor
open Go Go.Hl Go.Pl
set_option maxRecDepth 10000
set_option maxHeartbeats 16000000
set_option linter.unusedSimpArgs false
set_option linter.unusedVariables false

end Go.Proofs.YtlldglbooaefhaaDoor

namespace Go.Pl
open Go Go.Hl

def isV (ls : List (List aE)) (a : Nat) (w : aE) (k : Nat) : Bool := decide (a < ls.length) && ((ls.getD a []).length == k && wd (ls.getD a []) 0 == w)
theorem aB3 {ls : List (List aE)} {a : Nat} (h : ¬ a < ls.length) (w : aE) (k : Nat) : isV ls a w k = false := by simp [isV, h]
theorem iK {ls : List (List aE)} {a : Nat} (h : a < ls.length) (w : aE) (k : Nat) : isV ls a w k = (ls[a].length == k && wd ls[a] 0 == w) := by simp [isV, h]
theorem fQ {ls : List (List aE)} {a : Nat} {w : aE} {k : Nat} (h : isV ls a w k = true) : ∃ hl : a < ls.length, ls[a].length = k ∧ wd ls[a] 0 = w := by
 by_cases hl : a < ls.length
 all_goals simp_all [iK, Bool.and_eq_true, beq_iff_eq, aB3]
def fO (ls : List (List aE)) (a : Nat) (w : aE) : Option Int := if isV ls a w 2 then bH (wd (ls.getD a []) 1) else none
def lR (ls : List (List aE)) (a : Nat) (w : aE) : Option (Int × Int) := if isV ls a w 3 then match bH (wd (ls.getD a []) 1), bH (wd (ls.getD a []) 2) with | some n, some m => some (n, m) | _, _ => none else none
theorem aB4 {ls : List (List aE)} {a : Nat} {w : aE} (h : isV ls a w 2 = true) (hl : a < ls.length) : fO ls a w = bH (wd ls[a] 1) := by simp [fO, h, hl]
theorem bT0 {ls : List (List aE)} {a : Nat} {w : aE} (h : isV ls a w 2 = false) : fO ls a w = none := by simp [fO, h]
theorem bT1 {ls : List (List aE)} {a : Nat} {w : aE} (h : isV ls a w 3 = false) : lR ls a w = none := by simp [lR, h]
theorem aU4 {ls : List (List aE)} {a : Nat} {w : aE} (h : isV ls a w 3 = true) (hl : a < ls.length) : lR ls a w = match bH (wd ls[a] 1), bH (wd ls[a] 2) with | some n, some m => some (n, m) | _, _ => none := by simp [lR, h, hl]
theorem iW {ls : List (List aE)} {a : Nat} {w : aE} {n : Int} (h : fO ls a w = some n) : ∃ hl : a < ls.length, ls[a].length = 2 ∧ wd ls[a] 0 = w ∧ bH (wd ls[a] 1) = some n := by grind [fO, fQ]
theorem bA8 {ls : List (List aE)} {a : Nat} {w : aE} {n m : Int} (h : lR ls a w = some (n, m)) : ∃ hl : a < ls.length, ls[a].length = 3 ∧ wd ls[a] 0 = w ∧ bH (wd ls[a] 1) = some n ∧ bH (wd ls[a] 2) = some m := by
 unfold lR at h
 grind [fQ]
theorem wW {w : List aE} (h : w.length = 2) (h0 : wd w 0 = dI) : fB w = (bH (wd w 1)).map (⟨1, ·, 0, []⟩) := by simp [fB, h, h0]
theorem aB5 {w : List aE} (h : w.length = 2) (h0 : wd w 0 = dU) : fB w = some ⟨2, 0, 0, wd w 1⟩ := by grind [fB, dU, dI]
theorem wX {w : List aE} (h : w.length = 2) (h0 : wd w 0 = dP) : fB w = (bH (wd w 1)).map (⟨3, ·, 0, []⟩) := by grind [fB, dP, dI, dU]
theorem aB6 {w : List aE} (h : w.length = 3) (h0 : wd w 0 = fA) : fB w = match bH (wd w 1), bH (wd w 2) with | some n, some m => some ⟨4, n, m, []⟩ | _, _ => none := by
 simp only [fB, h, h0]
 grind
theorem aJ7 {w : List aE} (h : w.length = 2) (h0 : wd w 0 = gK) : fB w = (bH (wd w 1)).map (⟨5, ·, 0, []⟩) := by grind [fB, gK, dI, dU, dP]
theorem aP5 {w : List aE} (h : w.length = 2) (h0 : wd w 0 = kE) : fB w = (bH (wd w 1)).map (⟨6, ·, 0, []⟩) := by grind [fB, kE, dI, dU, dP, gK]
theorem aP6 {w : List aE} (h : w.length = 2) (h0 : wd w 0 = lJ) : fB w = (bH (wd w 1)).map (⟨7, ·, 0, []⟩) := by grind [fB, lJ, dI, dU, dP, gK, kE]
theorem aB7 {w : List aE} (h : w.length = 1) (h0 : wd w 0 = iD) : fB w = some ⟨8, 0, 0, []⟩ := by simp [fB, h, h0]
def jM (ls : List (List aE)) (a : Nat) : Option Rq := if h : a < ls.length then fB ls[a] else none
theorem fR {ls : List (List aE)} {a : Nat} (h : a < ls.length) : jM ls a = fB ls[a] := by simp [jM, h]
theorem bA9 {ls : List (List aE)} {a : Nat} (h1 : fO ls a dI = none) (h2 : isV ls a dU 2 = false) (h3 : fO ls a dP = none) (h4 : lR ls a fA = none) (h5 : fO ls a gK = none) (h6 : fO ls a kE = none)
  (h7 : fO ls a lJ = none) (h8 : isV ls a iD 1 = false) : jM ls a = none := by
 unfold jM
 split
 ·
  rename_i hl
  have n1 : ∀ w, fO ls a w = none → ls[a].length = 2 ∧ wd ls[a] 0 = w → bH (wd ls[a] 1) = none := fun w h hc => by grind [isV, iK, aB4]
  unfold fB
  split
  ·
   grind
  ·
   split
   ·
    grind [iK]
   ·
    split
    ·
     grind
    ·
     split
     ·
      rename_i hc
      have : isV ls a fA 3 = true := by rw [iK hl]; simp [hc]
      grind [aU4, absurd]
     ·
      split
      ·
       grind
      grind [iK]
 ·
  rfl
def jH (ls : List (List aE)) (a : Nat) : Option Nd := if h : a < ls.length then jF ls[a] else none
theorem bL2 {ls : List (List aE)} {a : Nat} (h : isV ls a oQ 1 = true) : jH ls a = some ⟨2, 0, 0, rq0⟩ := by grind [fQ, jH, jF]
theorem bL3 {ls : List (List aE)} {a : Nat} (h : isV ls a oR 1 = true) : jH ls a = some ⟨3, 0, 0, rq0⟩ := by grind [fQ, jH, jF, oR, oQ]
theorem bT2 {ls : List (List aE)} {a : Nat} {n : Int} (h : fO ls a cU = some n) : jH ls a = some ⟨4, n, 0, rq0⟩ := by grind [iW, jH, jF]
theorem bB0 {ls : List (List aE)} {a : Nat} (h1 : isV ls a oQ 1 = false) (h2 : isV ls a oR 1 = false) (h3 : fO ls a cU = none) : jH ls a = none := by
 unfold jH
 split
 ·
  rename_i hl
  unfold jF
  split
  ·
   grind [iK]
  grind [iK, isV, cU, aB4]
 ·
  rfl
end Go.Pl

namespace Go.Pl
open Go Go.Hl

abbrev Kds := Option (List Nd × Int) × List (List aE)
def oX (ts : List Nd) (k : Int) (x : Kds) : Kds := (x.1.map fun p => (ts ++ p.1, k + p.2), x.2)
def wY (n : Nd) (x : Kds) : Option (List Nd) × List (List aE) := (x.1.map fun p => { n with c := p.2 } :: p.1, x.2)
theorem bL4 (ts us : List Nd) (k j : Int) (x : Kds) : oX ts k (oX us j x) = oX (ts ++ us) (k + j) x := by
 obtain ⟨o, r⟩ := x
 cases o <;> simp [oX, List.append_assoc, Int.add_assoc]
theorem bL5 (x : Kds) : oX [] 0 x = x := by simp_all [oX]
theorem nE {f : Nat} {w : List aE} {r : List (List aE)} {q : Rq} (h : fB w = some q) : rdN (f + 1) (w :: r) = (some [⟨1, 0, 0, q⟩], r) := by simp only [rdN, h]
theorem nF {f : Nat} {w : List aE} {r : List (List aE)} (h : fB w = none) (h2 : jF w = none) : rdN (f + 1) (w :: r) = (none, w :: r) := by simp only [rdN, h, h2]
theorem nY {f : Nat} {w : List aE} {r : List (List aE)} {n : Nd} (h : fB w = none) (h2 : jF w = some n) : rdN (f + 1) (w :: r) = wY n (rdK f r) := by
 simp only [rdN, h, h2]
 match rdK f r with
 | (none, r') => rfl
 | (some (ts, c), r') => rfl
theorem aB8 {f : Nat} {l : List (List aE)} (h : iE (l.headD []) = true) : rdK (f + 1) l = (some ([], 0), l.tail) := by simp only [rdK, h, if_true]
theorem aP7 {f : Nat} {l r : List (List aE)} (h : iE (l.headD []) = false) (h2 : rdN f l = (none, r)) : rdK (f + 1) l = (none, r) := by simp_all [rdK, Bool.false_eq_true, if_false]
theorem wC {f : Nat} {l r : List (List aE)} {t : List Nd} (h : iE (l.headD []) = false) (h2 : rdN f l = (some t, r)) : rdK (f + 1) l = oX t 1 (rdK f r) := by
 simp only [rdK, h, h2, Bool.false_eq_true, if_false]
 grind [rdK, oX, Int.add_comm]
theorem aB9 : ∀ f, (∀ l, ∃ j, (rdN f l).2 = l.drop j ∧ ∀ t, (rdN f l).1 = some t → t.length + (rdN f l).2.length ≤ l.length) ∧ (∀ l, ∃ j, (rdK f l).2 = l.drop j ∧ ∀ p, (rdK f l).1 = some p → p.1.length + (rdK f l).2.length ≤ l.length)
 | 0 => ⟨fun l => ⟨0, by simp [rdN], fun t h => by simp [rdN] at h⟩, fun l => ⟨0, by simp [rdK], fun t h => by simp [rdK] at h⟩⟩
 | f + 1 => by
  obtain ⟨ihN, ihK⟩ := aB9 f
  refine ⟨fun l => ?_, fun l => ?_⟩
  ·
   match l with
   | [] => simp_all [rdN]
   | w :: r =>
    cases h1 : fB w with
    | some q => rw [nE h1]; exact ⟨1, rfl, fun t h => by grind⟩
    | none =>
     cases h2 : jF w with
     | none => rw [nF h1 h2]; exact ⟨0, rfl, fun t h => by cases h⟩
     | some n =>
      rw [nY h1 h2]
      obtain ⟨j, hj, hl⟩ := ihK r
      refine ⟨j + 1, hj, fun t h => ?_⟩
      cases hk : (rdK f r).1 with
      | none => simp [wY, hk] at h
      | some p =>
       grind [wY, rdK]
  ·
   cases he : iE (l.headD []) with
   | true =>
    rw [aB8 he]
    exact ⟨1, by simp, fun p h => by grind⟩
   | false =>
    obtain ⟨j, hj, hl⟩ := ihN l
    match h2 : rdN f l with
    | (none, r) =>
     rw [aP7 he h2]
     grind
    | (some t, r) =>
     rw [wC he h2]
     rw [h2] at hj hl
     obtain ⟨i, hi, hl2⟩ := ihK r
     have hj' : r = l.drop j := hj
     have hl' := hl t rfl
     simp only at hl'
     refine ⟨j + i, ?_, fun p h => ?_⟩
     ·
      show (rdK f r).2 = _
      simp_all
     ·
      cases hk : (rdK f r).1 with
      | none => simp [oX, hk] at h
      | some q =>
       grind [oX, rdK]
theorem aU5 (f : Nat) (l : List (List aE)) : ∃ j, j ≤ l.length ∧ (rdN f l).2 = l.drop j := by
 obtain ⟨j, hj, _⟩ := (aB9 f).1 l
 rcases Nat.lt_or_ge l.length j with h | h
 ·
  exact ⟨l.length, Nat.le_refl _, by rw [hj, List.drop_eq_nil_of_le (by omega), List.drop_eq_nil_of_le (Nat.le_refl _)]⟩
 grind
theorem rJ {ls : List (List aE)} {a : Nat} (ha : a ≤ ls.length) : iE ((ls.drop a).headD []) = isV ls a wEnd 1 := by
 rcases Nat.lt_or_ge a ls.length with h | h
 ·
  rw [iK h, List.drop_eq_getElem_cons h]; rfl
 ·
  rw [aB3 (by omega), List.drop_eq_nil_of_le h]; rfl
structure KdSt (f : Nat) (ls : List (List aE)) (a : Nat) (nd : Nd) (g : Nat) (ts : List Nd) (k p : Nat) : Prop where
 eq : rdN f (ls.drop a) = wY nd (oX ts k (rdK g (ls.drop p)))
 le : p ≤ ls.length
 fuel : 2 * (ls.length - p) + 2 ≤ g
 lt : g < f
 len : ts.length + (ls.length - p) + 1 ≤ ls.length - a
 kids : k ≤ ts.length
theorem KdSt.init {f : Nat} {ls : List (List aE)} {a : Nat} {nd : Nd} (ha : a < ls.length) (hf : 2 * (ls.length - a) + 1 ≤ f) (h1 : fB ls[a] = none) (h2 : jF ls[a] = some nd) : KdSt f ls a nd (f - 1) [] 0 (a + 1) := by
 obtain ⟨g, rfl⟩ : ∃ g, f = g + 1 := ⟨f - 1, by omega⟩
 refine ⟨?_, by omega, ?_, by omega, by grind, by simp⟩
 all_goals grind [List.drop_eq_getElem_cons, nY, wY, oX, bL5, Nat.add_sub_cancel]
theorem KdSt.end_ {f : Nat} {ls : List (List aE)} {a : Nat} {nd : Nd} {g : Nat} {ts : List Nd} {k p : Nat} (h : KdSt f ls a nd g ts k p) (he : isV ls p wEnd 1 = true) : p < ls.length ∧ rdN f (ls.drop a) = (some ({ nd with c := (k : Int) } :: ts), ls.drop (p + 1)) := by
 obtain ⟨hp, _, _⟩ := fQ he
 obtain ⟨q, rfl⟩ : ∃ q, g = q + 1 := ⟨g - 1, by have := h.fuel; omega⟩
 refine ⟨hp, ?_⟩
 rw [h.eq, aB8 (by rw [rJ h.le, he])]
 simp [oX, wY]
theorem KdSt.no {f : Nat} {ls : List (List aE)} {a : Nat} {nd : Nd} {g : Nat} {ts : List Nd} {k p : Nat} (h : KdSt f ls a nd g ts k p) (he : isV ls p wEnd 1 = false) (hn : (rdN (g - 1) (ls.drop p)).1 = none) : rdN f (ls.drop a) = (none, (rdN (g - 1) (ls.drop p)).2) := by
 obtain ⟨q, rfl⟩ : ∃ q, g = q + 1 := ⟨g - 1, by have := h.fuel; omega⟩
 simp only [Nat.add_sub_cancel] at hn ⊢
 rw [h.eq, aP7 (by rw [rJ h.le, he]) (r := (rdN q (ls.drop p)).2) (Prod.ext hn rfl)]
 rfl
theorem KdSt.some_ {f : Nat} {ls : List (List aE)} {a : Nat} {nd : Nd} {g : Nat} {ts : List Nd} {k p : Nat} (h : KdSt f ls a nd g ts k p) (he : isV ls p wEnd 1 = false) {t : List Nd} (hs : (rdN (g - 1) (ls.drop p)).1 = some t) :
  KdSt f ls a nd (g - 1) (ts ++ t) (k + 1) (ls.length - (rdN (g - 1) (ls.drop p)).2.length) := by
 obtain ⟨q, rfl⟩ : ∃ q, g = q + 1 := ⟨g - 1, by have := h.fuel; omega⟩
 simp only [Nat.add_sub_cancel] at hs ⊢
 obtain ⟨j, hj, hr⟩ := aU5 q (ls.drop p)
 have hlt : (rdN q (ls.drop p)).snd.length < (ls.drop p).length := (bJ3 q).1 (ls.drop p) t (rdN q (ls.drop p)).snd (Prod.ext hs rfl)
 obtain ⟨_, _, hlen⟩ := (aB9 q).1 (ls.drop p)
 have hlen' := hlen t hs
 have hle := h.le
 rw [hr] at hlt hlen'
 simp only [List.length_drop] at hj hlt hlen'
 have hpos : ls.length - (rdN q (ls.drop p)).2.length = p + j := by rw [hr]; simp only [List.length_drop]; omega
 have hfu := h.fuel
 have hfl := h.lt
 have hll := h.len
 have hkk := h.kids
 have ht0 : 1 ≤ t.length ∨ t = [] := by cases t <;> simp
 rw [hpos]
 refine ⟨?_, by omega, by omega, by omega, by grind, ?_⟩
 ·
  rw [h.eq, wC (by rw [rJ h.le, he]) (r := (rdN q (ls.drop p)).2) (Prod.ext hs rfl), bL4, hr, List.drop_drop]
  rfl
 ·
  simp only [List.length_append]
  rcases ht0 with h0 | h0
  ·
   omega
  ·
   exfalso
   subst h0
   revert hs
   match q, ls.drop p with
   | 0, l => intro hs; cases hs
   | q + 1, [] => intro hs; cases hs
   | q + 1, w :: r =>
    intro hs
    cases h1 : fB w with
    | some x => rw [nE h1] at hs; cases hs
    | none =>
     cases h2 : jF w with
     | none => rw [nF h1 h2] at hs; cases hs
     | some x =>
      rw [nY h1 h2] at hs
      cases hk : (rdK q r).1 with
      | none => simp [wY, hk] at hs
      | some y => simp [wY, hk] at hs
end Go.Pl

namespace Go.Pl
open Go Go.Hl

theorem bZ8 {ls : List (List aE)} {a : Nat} (ha : a ≤ ls.length) (h : isV ls a wRule 5 = false) : rdR (ls.drop a) = (none, ls.drop a) := by
 rcases Nat.lt_or_ge a ls.length with hl | hl
 ·
  rw [iK hl] at h
  rw [List.drop_eq_getElem_cons hl]
  simp_all [rdR, if_neg]
 ·
  rw [List.drop_eq_nil_of_le hl]; rfl
theorem bT3 {ls : List (List aE)} {a : Nat} (hl : a < ls.length) (h1 : ls[a].length = 5) (h2 : wd ls[a] 0 = wRule) (hn : bH (wd ls[a] 4) = none) : rdR (ls.drop a) = (none, ls.drop a) := by
 rw [List.drop_eq_getElem_cons hl]
 simp_all [rdR, if_pos]
theorem bL6 {ls : List (List aE)} {a : Nat} (hl : a < ls.length) (h1 : ls[a].length = 5) (h2 : wd ls[a] 0 = wRule) {g : Int} (hn : bH (wd ls[a] 4) = some g) :
  rdR (ls.drop a) = ((rdT (ls.drop (a + 1))).1.map fun t => ⟨wd ls[a] 1, wd ls[a] 2, wd ls[a] 3, g, t⟩, (rdT (ls.drop (a + 1))).2) := by
 rw [List.drop_eq_getElem_cons hl]
 simp only [rdR]
 grind
theorem aC0 (ls : List (List aE)) : ∃ j, j ≤ ls.length ∧ (rdR ls).2 = ls.drop j ∧ ∀ p, (rdR ls).1 = some p → 1 ≤ j := by
 match ls with
 | [] => exact ⟨0, by simp, rfl, fun p h => by cases h⟩
 | w :: r =>
  simp only [rdR]
  split
  ·
   cases bH (wd w 4) with
   | none => exact ⟨0, by simp, rfl, fun p h => by cases h⟩
   | some g =>
    obtain ⟨j, hj, h2⟩ := aU5 (2 * r.length + 2) r
    simp only [rdT]
    match hm : rdN (2 * r.length + 2) r with
    | (none, r') => rw [hm] at h2; exact ⟨j + 1, by grind, h2, fun p h => by cases h⟩
    | (some t, r') => rw [hm] at h2; exact ⟨j + 1, by grind, h2, fun p h => by omega⟩
  ·
   exact ⟨0, by simp, rfl, fun p h => by cases h⟩
abbrev Rls := Option (List Pr) × List (List aE)
structure RsSt (ls : List (List aE)) (X : Rls) (acc : List Pr) (p : Nat) : Prop where
 eq : X = kF (ls.length - p + 1) (ls.drop p) acc
 le : p ≤ ls.length
 len : acc.length ≤ p
theorem zB : ∀ (f g : Nat) (ls : List (List aE)) (acc : List Pr), ls.length < f → f ≤ g → kF g ls acc = kF f ls acc
 | 0, _, _, _, h, _ => by omega
 | f + 1, g, ls, acc, h, hg => by
  obtain ⟨q, rfl⟩ : ∃ q, g = q + 1 := ⟨g - 1, by omega⟩
  simp only [kF]
  split
  ·
   rfl
  ·
   obtain ⟨j, hj, h2, h3⟩ := aC0 ls
   match hm : rdR ls with
   | (none, r) => rfl
   | (some x, r) =>
    rw [hm] at h2 h3
    have h4 := h3 x rfl
    simp only at h2
    exact zB f q r _ (by rw [h2, List.length_drop]; omega) (by omega)
theorem RsSt.done {ls : List (List aE)} {X : Rls} {acc : List Pr} {p : Nat} (h : RsSt ls X acc p) (hp : ¬ p < ls.length) : p = ls.length ∧ X = (some acc, []) := by
 have h1 := h.le
 refine ⟨by omega, ?_⟩
 rw [h.eq, List.drop_eq_nil_of_le (by omega), kF, if_pos rfl]
theorem RsSt.no {ls : List (List aE)} {X : Rls} {acc : List Pr} {p : Nat} (h : RsSt ls X acc p) (hp : p < ls.length) (hn : (rdR (ls.drop p)).1 = none) : X = (none, (rdR (ls.drop p)).2) := by
 rw [h.eq, kF, if_neg (by simp_all)]
 grind
theorem RsSt.some_ {ls : List (List aE)} {X : Rls} {acc : List Pr} {p : Nat} (h : RsSt ls X acc p) (hp : p < ls.length) {x : Pr} (hs : (rdR (ls.drop p)).1 = some x) :
  RsSt ls X (acc ++ [x]) (ls.length - (rdR (ls.drop p)).2.length) ∧ p < ls.length - (rdR (ls.drop p)).2.length := by
 obtain ⟨j, hj, h2, h3⟩ := aC0 (ls.drop p)
 have h4 := h3 x hs
 rw [List.length_drop] at hj
 have hlen := h.len
 have hpos : ls.length - (rdR (ls.drop p)).2.length = p + j := by rw [h2]; simp only [List.length_drop]; omega
 rw [hpos]
 refine ⟨⟨?_, by omega, by grind⟩, by omega⟩
 rw [h.eq, kF, if_neg (by grind)]
 grind [rdR, List.drop_drop, zB, List.length_drop]
theorem bZ9 {ls : List (List aE)} (h : isV ls 0 wPolicy 3 = false) : rdP ls = (none, ls) := by
 match ls with
 | [] => rfl
 | w :: r =>
  simp_all [iK, rdP, if_neg]
theorem bT4 {ls : List (List aE)} (hl : 0 < ls.length) (h1 : ls[0].length = 3) (h2 : wd ls[0] 0 = wPolicy) (hn : bH (wd ls[0] 2) = none) : rdP ls = (none, ls) := by
 match ls, hl with
 | w :: r, _ =>
  simp_all [List.getElem_cons_zero, rdP, if_pos]
theorem bL7 {ls : List (List aE)} (hl : 0 < ls.length) (h1 : ls[0].length = 3) (h2 : wd ls[0] 0 = wPolicy) {v : Int} (hn : bH (wd ls[0] 2) = some v) :
  ∃ X : Rls, rdP ls = (X.1.map fun l => ⟨wd ls[0] 1, v, l⟩, X.2) ∧ RsSt ls X [] 1 := by
 match ls, hl with
 | w :: r, _ =>
  simp only [List.getElem_cons_zero] at h1 h2 hn ⊢
  refine ⟨kF (r.length + 1) r [], ?_, ⟨by simp, by simp, by simp⟩⟩
  simp only [rdP]
  grind
end Go.Pl

namespace Go.Pl
open Go Go.Hl

theorem bT5 {n : Nd} (h : bJ n = true) (h1 : n.k ≠ 1) (h2 : n.k ≠ 2) (h3 : n.k ≠ 3) : n.k = 4 := by simp_all [bJ, if_neg]
theorem bL8 {q : Rq} (h : eF q = true) : (0 ≤ q.n ∧ q.n ≤ 1099511627776) ∧ (0 ≤ q.m ∧ q.m ≤ 1099511627776) := by
 unfold eF inB at h
 repeat' split at h
 all_goals first
  | cases h; done
  | (simp only [Bool.and_eq_true, decide_eq_true_eq, beq_iff_eq] at h; (try rw [eZ] at h); omega)
theorem bT6 {n : Nd} (h : bJ n = true) (h1 : n.k = 1) : eF n.q = true := by simp_all [bJ, if_pos, Bool.and_eq_true]
theorem bT7 {n : Nd} (h : bJ n = true) (h1 : n.k = 4) : 1 ≤ n.n ∧ n.n ≤ 60 := by
 unfold bJ inB at h
 grind
theorem aJ8 {l : List Nd} (ht : IsTree l) {i : Nat} (hi : i < l.length) (hk : l[i].k = 1) : aft l i = i + 1 := by
 obtain ⟨_, _, c3, _⟩ := dL (ht.node _ (List.getElem_mem hi))
 refine aO5 hi ?_
 rw [List.drop_eq_getElem_cons hi]
 simp_all [skip, cG]
theorem wD {l : List Nd} (ht : IsTree l) {i : Nat} (hi : i < l.length) : dT l l[i].c.toNat (i + 1) = aft l i := by
 obtain ⟨h1, h2, h3⟩ := gR ht hi l[i].c.toNat (Nat.le_refl _)
 simp_all [kD, Nat.sub_self, cG, congrArg, List.length, Option.some.inj, List.length_drop]
theorem rK {l : List Nd} (ht : IsTree l) : ∀ (m : Nat) (i : Nat) (hi : i < l.length), l.length - i ≤ m → (jE l i).length ≤ 2 * (aft l i - i) ∧ ∀ k, k ≤ l[i].c.toNat → l[i].k ≠ 1 → (dV l i k).length ≤ 2 * (dT l k (i + 1) - (i + 1))
 | 0, i, hi, hm => by omega
 | m + 1, i, hi, hm => by
  have hkids : ∀ k, k ≤ l[i].c.toNat → l[i].k ≠ 1 → (dV l i k).length ≤ 2 * (dT l k (i + 1) - (i + 1)) := by
   intro k
   induction k with
   | zero => grind [lK]
   | succ k ih =>
    intro hk hn
    have h1 := ih (by omega) hn
    have hlt := mW ht hi (k := k) (by omega)
    obtain ⟨_, _, h3⟩ := gR ht hi k (by omega)
    have h4 := (rK ht m (dT l k (i + 1)) hlt (by omega)).1
    grind [kD, pZ, List.length_append, fV]
  refine ⟨?_, hkids⟩
  by_cases hk : l[i].k = 1
  ·
   grind [vS, aJ8]
  ·
   have h1 := hkids _ (Nat.le_refl _) hk
   obtain ⟨_, _, h3⟩ := gR ht hi _ (Nat.le_refl l[i].c.toNat)
   grind [wD, sL, List.length_cons, List.length_append, List.length_nil]
theorem aJ9 {l : List Nd} (ht : IsTree l) {i k : Nat} (hi : i < l.length) (hk : k ≤ l[i].c.toNat) (hn : l[i].k ≠ 1) : (dV l i k).length ≤ 2 * (dT l k (i + 1) - (i + 1)) := (rK ht _ i hi (Nat.le_refl _)).2 k hk hn
theorem bL9 {l : List Nd} (ht : IsTree l) {i : Nat} (hi : i < l.length) : (jE l i).length ≤ 2 * (aft l i - i) := (rK ht _ i hi (Nat.le_refl _)).1
end Go.Pl

namespace Go.Pl
open Go Go.Hl

theorem zC : ∀ (l : List Pr) (i : Nat), fW l = true → fW (l.take i) = true
 | [], i, h => by grind
 | r :: l, 0, h => rfl
 | r :: l, i + 1, h => by
  simp only [fW, Bool.and_eq_true, Bool.not_eq_true'] at h
  simp only [List.take_succ_cons, fW, Bool.and_eq_true, Bool.not_eq_true']
  refine ⟨?_, zC l i h.2⟩
  grind
def bB1 (l : List Pr) (r : Pr) : Bool := (l.map Pr.a).contains r.a || (!eB r.a || (!(gH r.b).isSome || (!(gH r.c).isSome || (!inB r.g 0 aA0 || !dB r.t))))
structure RlSt (l : List Pr) (i : Nat) : Prop where
 le : i ≤ l.length
 all : (l.take i).all iB = true
 apart : fW (l.take i) = true
theorem RlSt.zero (l : List Pr) : RlSt l 0 := ⟨by omega, by simp, by simp [fW]⟩
theorem aU6 (l : List Pr) (r : Pr) : bB1 l r = !(!(l.map Pr.a).contains r.a && iB r) := by simp_all [bB1, iB, Pr.a, eB, gH, inB, aA0, dB]
theorem RlSt.succ {l : List Pr} {i : Nat} (h : RlSt l i) (hi : i < l.length) (hb : bB1 (l.take i) l[i] = false) : RlSt l (i + 1) := by
 rw [aU6] at hb
 simp only [Bool.not_eq_false', Bool.and_eq_true] at hb
 refine ⟨hi, ?_, ?_⟩
 ·
  rw [List.take_succ_eq_append_getElem hi, List.all_append, h.all, List.all_cons, hb.2]; rfl
 ·
  rw [List.take_succ_eq_append_getElem hi, nB, h.apart, hb.1]; rfl
theorem bT8 {l : List Pr} {i : Nat} (hi : i < l.length) (hb : bB1 (l.take i) l[i] = true) : (l.all iB && fW l) = false := by
 rw [Bool.eq_false_iff]
 intro h
 simp only [Bool.and_eq_true] at h
 have h1 := zC l (i + 1) h.2
 rw [List.take_succ_eq_append_getElem hi, nB] at h1
 simp_all [Bool.and_eq_true, List.all_eq_true, List.getElem_mem, aU6]
theorem bT9 {p : Po} (h : (p.r.all iB && fW p.r) = false) : fE p = false := by
 simp only [fE, h, Bool.and_false]
def nmD (l : List Pr) : MD := l.foldl (fun D r => jI D r.a (.val (.bool true))) []
theorem bM0 (l : List Pr) (r : Pr) : nmD (l ++ [r]) = jI (nmD l) r.a (.val (.bool true)) := by simp [nmD, List.foldl_append]
theorem cE5 (D : MD) (k j : aE) (h : k ≠ j) (m : MV) : cC (jI D k m) j = cC D j := by
 induction D with
 | nil => simp [jI, cC, h]
 | cons x D ih =>
  grind [jI, cC]
theorem bM1 (s : aE) : ∀ (l : List Pr) (D : MD), cC (l.foldl (fun D r => jI D r.a (.val (.bool true))) D) s = if (l.map Pr.a).contains s then some (.val (.bool true)) else cC D s
 | [], D => rfl
 | r :: l, D => by
  rw [List.foldl_cons, bM1 s l, List.map_cons, List.contains_cons]
  by_cases h : r.a = s
  all_goals simp_all [cB, cE5, Ne.symm, Bool.false_or]
theorem aU7 (s : aE) (l : List Pr) : cC (nmD l) s = if (l.map Pr.a).contains s then some (.val (.bool true)) else none := bM1 s l []
def wZ (p : Po) : Bool := !eB p.n || (!inB p.v 1 1099511627776 || decide ((16 : Int) < p.r.length))
def nG (c : Bool) (r : Pr) : Bool := c || (!eB r.a || (!(gH r.b).isSome || (!(gH r.c).isSome || (!inB r.g 0 1099511627776 || !dB r.t))))
theorem aK0 (l : List Pr) (r : Pr) : nG ((l.map Pr.a).contains r.a) r = bB1 l r := by simp only [nG, bB1, eZ]
theorem bB2 {p : Po} (h : wZ p = true) : fE p = false := by grind [wZ, fE, eZ, eB, inB, decide]
theorem bM2 {p : Po} (h : wZ p = false) (h2 : RlSt p.r p.r.length) : fE p = true := by
 unfold wZ at h
 rw [fE, eZ]
 have h3 := h2.all
 have h4 := h2.apart
 grind
structure PoSz (p : Po) : Prop where
 n : p.n.length < 2 ^ 63
 r : p.r.length < 2 ^ 40
 a : ∀ r ∈ p.r, r.a.length < 2 ^ 63
 t : ∀ r ∈ p.r, ∀ n ∈ r.t, n.q.t.length < 2 ^ 63
end Go.Pl

namespace Go.Proofs.YtlldglbooaefhaaDoor
open Go Go.Hl Go.Pl
set_option maxRecDepth 10000
set_option maxHeartbeats 16000000
set_option linter.unusedSimpArgs false
set_option linter.unusedVariables false

structure Few (p : Po) : Prop where
 r : p.r.length ≤ 20
 n : p.n.length ≤ 100
 t : ∀ r ∈ p.r, r.t.length ≤ 70

end Go.Proofs.YtlldglbooaefhaaDoor

namespace Go.Proofs.YtlldglbooaefhaaDoor
open Go Go.Hl Go.Pl
set_option maxRecDepth 10000
set_option maxHeartbeats 16000000

theorem rL (p : Po) (hp : PoSz p) : cE Tryd.prog 18 [p.cv] (fun v => v = .bool (fE p)) := by
 have hpn := hp.n
 have hpr := hp.r
 refine FW Tryd.func18 ?_
 refine R0 ?_
 refine aC fun K hK => ?_
 refine aC fun K hK => ?_
 have key : ∀ (b : Bool) fr ob nx, b = wZ p → Fits 0 fr ob (fin [(1, .ptr 0 0), (21, .c (.bool b))]) (fob [(0, .box 25 (.c p.cv))]) 600 → K fr ob nx := by
  rintro b fr ob nx rfl hf
  refine hK _ _ _ (bS hf ?_)
  clear hf hK K
  refine aG (b := wZ p) rfl (fun hb => ?_) (fun hb => ?_)
  ·
   refine R0 ?_
   refine aF (RT Tryd.results18 ?_)
   exact aL [] (.bool false) rfl (by rw [bB2 hb])
  refine aJ ?_
  refine T0 (hK _ _ _ ?_)
  clear hK K
  refine R0 ?_
  refine aC fun K hK => ?_
  refine aC fun K hK => Rg ?_
  iterate 4 refine S0 ?_
  refine T2 (hK _ _ _ ?_)
  clear hK K
  refine aK ?_
  have hhead := hb
  clear hb
  refine bM (α := {i : Nat // RlSt p.r i}) (fun i => (fin [(3, .mapr 600), (24, .c (.slc (p.r.map Pr.cv))), (25, .c (.int .i64 p.r.length)), (26, .c (.int .i64 i.1))], fob [(600, .mp 0 0 (nmD (p.r.take i.1)))])) 2000 (fun i => p.r.length - i.1) ⟨0, RlSt.zero p.r⟩ (aO (by omega) (by simp [bB, fin_at, finA_at, upd_at, HV.men, HV.menL, HV.norm, HV.toC, HV.toCL, nmD]) (by simp [aZ, fob_at, upd_at, none0_at, bZ, HO.men, HV.men, HV.menL, HV.norm, HV.toC, HV.toCL, nmD])) ?_
  rintro ⟨i, hΦ⟩
  refine R0 ?_
  refine aC fun K hK => ?_
  refine aG (b := decide ((i : Int) < p.r.length)) rfl (fun hb => ?_) (fun hb => ?_)
  ·
   have hlt : i < p.r.length := by simpa using hb
   clear hb
   obtain ⟨r, hr⟩ : ∃ r, r = p.r[i] := ⟨_, rfl⟩
   have hmem : r ∈ p.r := by rw [hr]; exact List.getElem_mem hlt
   have hra := hp.a r hmem
   have hrt := hp.t r hmem
   have hra2 : r.a.length ≤ maxLen := by simp [maxLen]; omega
   have hiv : lY (cC (nmD (p.r.take i)) r.a) = true := by rw [aU7]; split <;> rfl
   have hva : Go.Hl.xH (CV.bool false) (cC (nmD (p.r.take i)) r.a) = CV.bool (((p.r.take i).map Pr.a).contains r.a) := by rw [aU7]; split <;> simp_all [Go.Hl.xH]
   refine aJ ?_
   refine T0 (hK _ _ _ ?_)
   clear hK K
   refine aC fun K hK => ?_
   refine aK ?_
   refine aC fun K hK => Rg ?_
   iterate 4 refine S0 ?_ (e := fun _ h_ => by simp only [sH, ↓sP, sA, tyS, simprocAttr, Int.natCast_nonneg, Int.ofNat_lt, hlt, bY hlt, ← hr]; exact AX h_)
   refine T2 (hK _ _ _ ?_)
   clear hK K
   refine aC fun K hK => ?_
   refine aC fun K hK => ?_
   have key : ∀ (b : Bool) fr ob nx, b = nG (((p.r.take i).map Pr.a).contains r.a) r → Fits 0 fr ob (fin [(3, .mapr 600), (24, .c (.slc (p.r.map Pr.cv))), (25, .c (.int .i64 p.r.length)), (26, .c (.int .i64 i)), (5, .ptr 2012 0), (63, .c (.bool b))]) (fob [(600, .mp 0 0 (nmD (p.r.take i))), (2012, .box 54 (.c r.cv))]) 3000 → K fr ob nx := by
    rintro b fr ob nx rfl hf
    refine hK _ _ _ (bS hf ?_)
    clear hf hK K
    refine aG (b := nG (((p.r.take i).map Pr.a).contains r.a) r) rfl (fun hb => ?_) (fun hb => ?_)
    ·
     refine R0 ?_
     refine aF (RT Tryd.results18 ?_)
     exact aL [] (.bool false) rfl (by rw [bT9 (bT8 hlt (by rw [← aK0, ← hr]; exact hb))])
    have hΦ2 := hΦ.succ hlt (by rw [← aK0, ← hr]; exact hb)
    have hnm : jI (nmD (p.r.take i)) r.a (.val (.bool true)) = nmD (p.r.take (i + 1)) := by rw [List.take_succ_eq_append_getElem hlt, bM0, hr]
    clear hb
    refine aJ ?_
    refine T0 (hK _ _ _ ?_)
    clear hK K
    refine Rg ?_
    have F := aI hra2 (aI hiv hnm)
    iterate 4 refine SF ?_
    refine T2 (hK _ _ _ ?_)
    clear hK K
    refine aM (by kernel_rfl) ?_
    refine TQ (IntWalk.i64_in ((i : Int) + 1) (by omega)) ?_
    refine ⟨⟨i + 1, hΦ2⟩, fF, ?_⟩
    show p.r.length - (i + 1) < p.r.length - i
    omega
   refine Rg ?_
   have F := aI hra2 (aI hiv hva)
   iterate 5 refine SF ?_
   refine aH 33 rfl (fun h7_33 => ?_) (fun h7_33 => ?_)
   ·
    have F := aI hra2 (aI hiv (aI hva h7_33))
    iterate 29 refine SF ?_
    refine T4 ?_
    exact key true _ _ _ (by simp only [nG, h7_33, Bool.not_true, Bool.not_false, Bool.true_or, Bool.false_or]) (fF)
   have F := aI hra2 (aI hiv (aI hva h7_33))
   iterate 2 refine SF ?_
   refine aY (g := some (34, false)) rfl rfl fun K' hK' => T6 ?_
   refine C1 (aA9 r.a (by omega)) ?_
   rintro u rfl
   refine AX (hK' _ _ ?_)
   clear hK' K'
   iterate 3 refine SF ?_
   refine aH 37 rfl (fun h7_37 => ?_) (fun h7_37 => ?_)
   ·
    have F := aI hra2 (aI hiv (aI hva (aI h7_33 h7_37)))
    iterate 2 refine SF ?_
    refine aY (g := some (40, false)) rfl rfl fun K' hK' => T6 ?_
    refine C1 (aU1 r.b) ?_
    rintro u rfl
    refine AX (hK' _ _ ?_)
    clear hK' K'
    iterate 3 refine SF ?_
    refine aH 43 rfl (fun h7_43 => ?_) (fun h7_43 => ?_)
    ·
     have F := aI hra2 (aI hiv (aI hva (aI h7_33 (aI h7_37 h7_43))))
     iterate 2 refine SF ?_
     refine aY (g := some (46, false)) rfl rfl fun K' hK' => T6 ?_
     refine C1 (aU1 r.c) ?_
     rintro u rfl
     refine AX (hK' _ _ ?_)
     clear hK' K'
     iterate 3 refine SF ?_
     refine aH 49 rfl (fun h7_49 => ?_) (fun h7_49 => ?_)
     ·
      have F := aI hra2 (aI hiv (aI hva (aI h7_33 (aI h7_37 (aI h7_43 h7_49)))))
      iterate 2 refine SF ?_
      refine aY (g := some (52, false)) rfl rfl fun K' hK' => T6 ?_
      refine C3 (gT _ _ _) ?_
      rintro u rfl
      refine AX (hK' _ _ ?_)
      clear hK' K'
      iterate 3 refine SF ?_
      refine aH 55 rfl (fun h7_55 => ?_) (fun h7_55 => ?_)
      ·
       have F := aI hra2 (aI hiv (aI hva (aI h7_33 (aI h7_37 (aI h7_43 (aI h7_49 h7_55))))))
       iterate 2 refine SF ?_
       refine aY (g := some (58, false)) rfl rfl fun K' hK' => T6 ?_
       refine C1 (tQ r.t hrt) ?_
       rintro u rfl
       refine AX (hK' _ _ ?_)
       clear hK' K'
       iterate 2 refine SF ?_
       refine aH 61 rfl (fun h7_61 => ?_) (fun h7_61 => ?_)
       ·
        simp only [h7_61]
        refine T4 ?_
        exact key false _ _ _ (by simp only [nG, h7_33, h7_37, h7_43, h7_49, h7_55, h7_61, Bool.not_true, Bool.not_false, Bool.true_or, Bool.false_or]) (fF)
       simp only [h7_61]
       refine T4 ?_
       exact key true _ _ _ (by simp only [nG, h7_33, h7_37, h7_43, h7_49, h7_55, h7_61, Bool.not_true, Bool.not_false, Bool.true_or, Bool.false_or]) (fF)
      have F := aI hra2 (aI hiv (aI hva (aI h7_33 (aI h7_37 (aI h7_43 (aI h7_49 h7_55))))))
      iterate 5 refine SF ?_
      refine T4 ?_
      exact key true _ _ _ (by simp only [nG, h7_33, h7_37, h7_43, h7_49, h7_55, Bool.not_true, Bool.not_false, Bool.true_or, Bool.false_or]) (fF)
     have F := aI hra2 (aI hiv (aI hva (aI h7_33 (aI h7_37 (aI h7_43 h7_49)))))
     iterate 11 refine SF ?_
     refine T4 ?_
     exact key true _ _ _ (by simp only [nG, h7_33, h7_37, h7_43, h7_49, Bool.not_true, Bool.not_false, Bool.true_or, Bool.false_or]) (fF)
    have F := aI hra2 (aI hiv (aI hva (aI h7_33 (aI h7_37 h7_43))))
    iterate 17 refine SF ?_
    refine T4 ?_
    exact key true _ _ _ (by simp only [nG, h7_33, h7_37, h7_43, Bool.not_true, Bool.not_false, Bool.true_or, Bool.false_or]) (fF)
   have F := aI hra2 (aI hiv (aI hva (aI h7_33 h7_37)))
   iterate 23 refine SF ?_
   refine T4 ?_
   exact key true _ _ _ (by simp only [nG, h7_33, h7_37, Bool.not_true, Bool.not_false, Bool.true_or, Bool.false_or]) (fF)
  refine bA (T3 ?_)
  clear hK K
  refine AX (hK _ _ _ ?_)
  clear hK K
  refine R0 ?_
  refine aF (RT Tryd.results18 ?_)
  have hie : i = p.r.length := by have := hΦ.le; simp at hb; omega
  subst hie
  exact aL [] (.bool true) rfl (by rw [bM2 hhead hΦ])
 refine Rg ?_
 iterate 2 refine S0 ?_
 refine HS rfl rfl fun K' hK' => T5 ?_
 refine C1 (aA9 p.n (by omega)) ?_
 rintro u rfl
 refine AX (hK' _ _ ?_)
 clear hK' K'
 iterate 2 refine S0 ?_
 refine aH 8 rfl (fun h1_8 => ?_) (fun h1_8 => ?_)
 ·
  have F := h1_8
  iterate 2 refine SF ?_
  refine aY (g := some (10, false)) rfl rfl fun K' hK' => T6 ?_
  refine C3 (gT _ _ _) ?_
  rintro u rfl
  refine AX (hK' _ _ ?_)
  clear hK' K'
  iterate 3 refine SF ?_
  refine aH 13 rfl (fun h1_13 => ?_) (fun h1_13 => ?_)
  ·
   have F := aI h1_8 h1_13
   iterate 5 refine SF ?_
   refine aH 20 rfl (fun h1_20 => ?_) (fun h1_20 => ?_)
   ·
    simp only [h1_20]
    refine T4 ?_
    exact key true _ _ _ (by simp only [wZ, h1_8, h1_13, h1_20, Bool.not_true, Bool.not_false, Bool.true_or, Bool.false_or]) (fF)
   simp only [h1_20]
   refine T4 ?_
   exact key false _ _ _ (by simp only [wZ, h1_8, h1_13, h1_20, Bool.not_true, Bool.not_false, Bool.true_or, Bool.false_or]) (fF)
  have F := aI h1_8 h1_13
  iterate 5 refine SF ?_
  refine T4 ?_
  exact key true _ _ _ (by simp only [wZ, h1_8, h1_13, Bool.not_true, Bool.not_false, Bool.true_or, Bool.false_or]) (fF)
 have F := h1_8
 iterate 11 refine SF ?_
 refine T4 ?_
 exact key true _ _ _ (by simp only [wZ, h1_8, Bool.not_true, Bool.not_false, Bool.true_or, Bool.false_or]) (fF)

end Go.Proofs.YtlldglbooaefhaaDoor

namespace Go.Proofs.YtlldglbooaefhaaDoor
open Go Go.Hl Go.Pl
set_option maxRecDepth 10000
set_option maxHeartbeats 16000000

theorem bU0 (ns im : aE) (r : Pr) : cE Tryd.prog 49 [r.cv, .rp (.str ns), .rp (.str im)] (fun v => v = .bool (yU ns im r)) := by
 refine FW Tryd.func49 ?_
 refine R0 ?_
 refine aC fun K hK => Rg ?_
 iterate 3 refine S0 ?_
 refine HS rfl rfl fun K' hK' => T5 ?_
 refine C2 (aJ2 r.b ns) ?_
 rintro u rfl
 refine AX (hK' _ _ ?_)
 clear hK' K'
 refine S0 ?_
 refine aH 8 rfl (fun h1_8 => ?_) (fun h1_8 => ?_)
 ·
  have F := h1_8
  iterate 3 refine SF ?_
  refine aY (g := some (9, true)) rfl rfl fun K' hK' => T6 ?_
  refine C2 (aJ2 r.c im) ?_
  rintro u rfl
  refine AX (hK' _ _ ?_)
  clear hK' K'
  iterate 2 refine SF ?_
  refine T2 (hK _ _ _ ?_)
  clear hK K
  refine aF (RT Tryd.results49 ?_)
  exact aL [] (.bool _) rfl (by simp only [yU, h1_8, Bool.and_true, Bool.and_false, Bool.true_and, Bool.false_and])
 have F := h1_8
 iterate 6 refine SF ?_
 refine T2 (hK _ _ _ ?_)
 clear hK K
 refine aF (RT Tryd.results49 ?_)
 exact aL [] (.bool _) rfl (by simp only [yU, h1_8, Bool.and_true, Bool.and_false, Bool.true_and, Bool.false_and])


def bB3 (l : List Pr) (p : Pr → Bool) : Int := match l.findIdx? p with | some i => (i : Int) | none => -1
theorem bM3 {l : List Pr} {p : Pr → Bool} {i : Nat} (hi : i < l.length) (h : p l[i] = true) (h0 : ∀ j (hj : j < i), p (l[j]'(by omega)) = false) : bB3 l p = i := by
 have : l.findIdx? p = some i := by
  rw [List.findIdx?_eq_some_iff_getElem]
  exact ⟨hi, h, fun j hj => by rw [h0 j hj]; simp⟩
 rw [bB3, this]
theorem bB4 {l : List Pr} {p : Pr → Bool} (h0 : ∀ j (hj : j < l.length), p l[j] = false) : bB3 l p = -1 := by
 have : l.findIdx? p = none := by
  rw [List.findIdx?_eq_none_iff]
  intro r hr
  obtain ⟨j, hj, rfl⟩ := List.getElem_of_mem hr
  exact h0 j hj
 rw [bB3, this]

theorem bU1 (l : List Pr) (g : FuncId) (caps : List CV) (p : Pr → Bool) (hl : l.length < 2 ^ 40) (hp : ∀ r ∈ l, cE Tryd.prog g (r.cv :: caps) (fun v => v = .bool (p r))) :
  bE3 Tryd.prog 48 [.c (.slc (l.map Pr.cv)), .clo g (caps.map .c)] (fun v => v = .int .i64 (bB3 l p)) := by
 refine bP Tryd.func48 rfl (by kernel_rfl) (aR5 (by simp [HV.menL, HV.men, HV.menL_c])) (Nat.le_of_ble_eq_true rfl) ?_
 refine R0 ?_
 refine aC fun K hK => ?_
 refine R0 ?_
 refine aK ?_
 refine bM (α := {i : Nat // i ≤ l.length ∧ ∀ j (hj : j < i) (h : j < l.length), p l[j] = false}) (fun i => (fin [(0, .c (.slc (l.map Pr.cv))), (1, .clo g (caps.map .c)), (7, .c (.int .i64 l.length)), (8, .c (.int .i64 i.1))], fob [])) 100 (fun i => l.length - i.1) ⟨0, by omega, fun j hj => by omega⟩ (aO (by omega) (by simp [bB, fin_at, finA_at, upd_at, HV.men, HV.menL, HV.norm, HV.toC, HV.toCL, HV.menL_c]) (by simp [aZ])) ?_
 rintro ⟨i, hi, h0⟩
 refine R0 ?_
 refine aC fun K hK => ?_
 refine aG (b := decide ((i : Int) < l.length)) rfl (fun hb => ?_) (fun hb => ?_)
 ·
  have hlt : i < l.length := by simpa using hb
  clear hb
  refine aJ ?_
  refine T0 (hK _ _ _ ?_)
  clear hK K
  refine aC fun K hK => ?_
  refine aK ?_
  refine R0 ?_
  refine aC fun K hK => Rg ?_
  have F := aI @Int.natCast_nonneg (aI @Int.ofNat_lt (aI hlt (nM hlt)))
  iterate 5 refine SF ?_
  refine HS rfl rfl fun K' hK' => T6 ?_
  refine nS (args := l[i].cv :: caps) (hp _ (List.getElem_mem hlt)) ⟨rfl, rfl, rfl, rfl⟩ ?_
  rintro u rfl
  refine AX (hK' _ _ ?_)
  clear hK' K'
  refine T2 (hK _ _ _ ?_)
  clear hK K
  refine aG (b := p l[i]) rfl (fun hb => ?_) (fun hb => ?_)
  ·
   refine R0 ?_
   refine aF (RT Tryd.results48 ?_)
   exact aL [] (.int .i64 i) rfl (by rw [bM3 hlt hb fun j hj => h0 j hj (by omega)])
  refine aJ ?_
  refine T0 (hK _ _ _ ?_)
  clear hK K
  refine aM (by kernel_rfl) ?_
  refine TQ (IntWalk.i64_in ((i : Int) + 1) (by omega)) ?_
  refine ⟨⟨i + 1, hlt, fun j hj h => ?_⟩, aO (by omega) (by simp [bB, fin_at, finA_at, upd_at, HV.men, HV.menL, HV.norm, HV.toC, HV.toCL, HV.menL_c]) (by simp [aZ]), ?_⟩
  ·
   rcases Nat.lt_or_ge j i with h1 | h1
   ·
    exact h0 j h1 h
   obtain rfl : j = i := by omega
   exact hb
  show l.length - (i + 1) < l.length - i
  omega
 refine bA (T3 ?_)
 clear hK K
 refine AX (hK _ _ _ ?_)
 clear hK K
 refine R0 ?_
 refine aF (RT Tryd.results48 ?_)
 have hei : i = l.length := by simp at hb; omega
 subst hei
 exact aL [] (.int .i64 (-1)) rfl (by rw [bB4 fun j hj => h0 j hj hj])


theorem bU2 (p : Po) (hp : PoSz p) (ns im : aE) : cE Tryd.prog 28 [p.cv, .str ns, .str im] (fun v => v = .int .i64 (bJ4 p ns im)) := by
 refine FW Tryd.func28 ?_
 refine aC fun K hK => Rg ?_
 iterate 4 refine S0 ?_
 refine T2 (hK _ _ _ ?_)
 clear hK K
 refine aC fun K hK => ?_
 refine aC fun K hK => Rg ?_
 refine S0 ?_
 refine HS rfl rfl fun K' hK' => T5 ?_
 refine C1 (rL p hp) ?_
 rintro u rfl
 refine AX (hK' _ _ ?_)
 clear hK' K'
 refine S0 ?_
 refine T2 (hK _ _ _ ?_)
 clear hK K
 refine aG (b := !fE p) rfl (fun hb => ?_) (fun hb => ?_)
 ·
  refine R0 ?_
  refine aF (RT Tryd.results28 ?_)
  exact aL [] (.int .i64 (-1)) rfl (by rw [bJ5 (by simpa using hb)])
 refine aJ ?_
 refine T0 (hK _ _ _ ?_)
 clear hK K
 have hv : fE p = true := by simpa using hb
 clear hb
 refine xS 4 4 rfl rfl ?_
 refine xS 5 8 rfl rfl ?_
 refine aC fun K hK => Rg ?_
 have F := aI @bP3 @upd_at
 iterate 3 refine SF ?_
 refine HS rfl rfl fun K' hK' => T6 ?_
 refine aM6 (bU1 p.r 49 [.rp (.str ns), .rp (.str im)] (yU ns im) hp.r fun r _ => bU0 ns im r) (by simp [HV.menL, HV.men]) (fun m => by simp [HV.renL, HV.ren]) ⟨rfl, rfl, rfl, rfl⟩ ?_
 rintro u rfl
 refine AX (hK' _ _ ?_)
 clear hK' K'
 refine SF ?_
 refine T2 (hK _ _ _ ?_)
 clear hK K
 refine aF (RT Tryd.results28 ?_)
 exact aL [] (.int .i64 (bB3 p.r (yU ns im))) rfl (by rw [bJ4, if_pos hv]; rfl)

end Go.Proofs.YtlldglbooaefhaaDoor

namespace Go.Proofs.YtlldglbooaefhaaDoor
open Go Go.Hl Go.Pl
set_option maxRecDepth 10000
set_option maxHeartbeats 16000000

def tp (L : List Int) (a : Nat) : CV := .agg [.slc (L.map (.int .i64)), .int .i64 a]
attribute [local simp] tp

theorem dM (L : List Int) (a : Nat) (n : Int) (ha : a < 2 ^ 40) (hn : n < 2 ^ 40) : aM7 Tryd.prog 16 56 (tp L a) [.int .i64 n] (fun u v' => ∃ (x : Int) (a' : Nat), u = .int .i64 x ∧ v' = tp L a' ∧ a' ≤ a + 1 ∧ 0 ≤ x ∧ (n < 1 → x = 0) ∧ (1 ≤ n → x < n)) := by
 refine bP Tryd.func16 rfl (by kernel_rfl) (cN _ _ _) (Nat.le_of_ble_eq_true rfl) ?_
 refine R0 ?_
 refine aC fun K hK => ?_
 refine R0 ?_
 refine aG (b := decide (n < 1)) rfl (fun hb => ?_) (fun hb => ?_)
 ·
  refine R0 ?_
  refine aF (RT Tryd.results16 ?_)
  refine eU [] (.int .i64 0) (tp L a) rfl rfl ?_ (by simp) ⟨0, a, rfl, rfl, by omega, by omega, fun _ => rfl, fun h => by omega⟩
  simp [HV.close, tp, CV.denil, CV.denilL, denilL_int, HV.norm, HV.toC]
 refine aJ ?_
 refine T0 (hK _ _ _ ?_)
 clear hK K
 refine aC fun K hK => Rg ?_
 iterate 7 refine S0 ?_ (e := fun _ h_ => by simp only [sH, ↓sP, sA, tyS, simprocAttr, tp]; exact AX h_)
 refine T2 (hK _ _ _ ?_)
 clear hK K
 refine aC fun K hK => ?_
 have key : ∀ (v : Int) fr ob nx, Fits 1 fr ob (fin [(0, .ptr 0 0), (1, .c (.int .i64 n)), (5, .c (.int .i64 v))]) (fob [(0, .box 56 (.c (tp L a)))]) 300 → K fr ob nx := by
  intro v fr ob nx hf
  refine hK _ _ _ (bS hf ?_)
  clear hf hK K
  have hn1 : 1 ≤ n := by simp at hb; omega
  have e0 := Int.tmod_lt_of_pos v (b := n) (by omega)
  have e1 : -n < v.tmod n := Int.lt_tmod_of_pos v (by omega)
  refine aC fun K hK => Rg ?_
  iterate 8 refine S0 ?_ (e := fun _ h_ => by simp only [sH, ↓sP, sA, tyS, simprocAttr, tp]; exact AX h_)
  refine T2 (hK _ _ _ ?_)
  clear hK K
  refine aC fun K hK => Rg ?_
  iterate 8 refine S0 ?_ (e := fun _ h_ => by simp only [sH, ↓sP, sA, tyS, simprocAttr, tp]; exact AX h_)
  refine T2 (hK _ _ _ ?_)
  clear hK K
  refine aF (RT Tryd.results16 ?_)
  have e2 : IntKind.i64.wrap (v.tmod n + n) = v.tmod n + n := IntWalk.i64_in _ (by omega)
  have e3 : IntKind.i64.wrap ((a : Int) + 1) = ((a + 1 : Nat) : Int) := IntWalk.i64_in _ (by omega)
  refine eU [] (.int .i64 ((v.tmod n + n).tmod n)) (tp L (a + 1)) (by rw [e2]; rfl) rfl ?_ (by simp) ⟨_, a + 1, rfl, rfl, by omega, Int.tmod_nonneg _ (by omega), fun h => by omega, fun _ => Int.tmod_lt_of_pos _ (by omega)⟩
  simp [HV.close, HV.closeL, tp, CV.denil, CV.denilL, denilL_int, HV.norm, HV.toC, HV.toCL, e3]
 refine aC fun K hK => QR ?_
 iterate 10 refine S0 ?_ (e := fun _ h_ => by simp only [sH, ↓sP, sA, tyS, simprocAttr, tp]; exact AX h_)
 refine T2 (hK _ _ _ ?_)
 clear hK K
 refine aG (b := decide ((a : Int) < L.length)) rfl (fun hb => ?_) (fun hb => ?_)
 ·
  refine QW ?_
  simp only [sR, simprocAttr]
  iterate 11 refine S0 ?_ (e := fun _ h_ => by simp only [sH, ↓sP, sA, tyS, simprocAttr, tp, Int.natCast_nonneg, (by simpa using hb : (a : Int) < L.length), bY (show a < L.length by simpa using hb)]; exact AX h_)
  refine T4 ?_
  exact key (L[a]'(by simpa using hb)) _ _ _ (fF)
 refine aJ (T3 ?_)
 exact key (IntKind.i64.wrap (IntKind.i64.wrap (↑a * 7) + 3)) _ _ _ (fF)


theorem aC1 (L : List Int) (a : Nat) (l : List aE) (ha : a < 2 ^ 40) (hl : 1 ≤ l.length ∧ l.length < 2 ^ 40) : aM7 Tryd.prog 17 56 (tp L a) [.slc (l.map .str)] (fun u v' => ∃ (w : aE) (a' : Nat), u = .str w ∧ w ∈ l ∧ v' = tp L a' ∧ a' ≤ a + 1) := by
 refine bP Tryd.func17 rfl (by kernel_rfl) (cN _ _ _) (Nat.le_of_ble_eq_true rfl) ?_
 refine R0 ?_
 refine aC fun K hK => aM (by kernel_rfl) ?_
 simp only [↓sP, sA, tyS, simprocAttr]
 refine bG (args := [_]) (dM L a l.length ha (by omega)) rfl (by simp) ⟨rfl, rfl, rfl, rfl⟩ ?_
 rintro u v' ⟨x, a', rfl, rfl, h1, h2, h3, h4⟩
 obtain ⟨i, rfl⟩ : ∃ i : Nat, x = i := ⟨x.toNat, by omega⟩
 have hlt : i < l.length := by omega
 simp only [↓sP, sA, tyS, simprocAttr, Int.natCast_nonneg, Int.ofNat_lt, hlt, bY hlt]
 refine AX (hK _ _ _ ?_)
 clear hK K
 refine aF (RT Tryd.results17 ?_)
 exact eU [] (.str l[i]) (tp L a') rfl rfl (by simp [HV.close, HV.closeL, tp, CV.denil, CV.denilL, denilL_int, HV.norm, HV.toC, HV.toCL]) (by simp) ⟨_, a', rfl, List.getElem_mem _, rfl, h1⟩


end Go.Proofs.YtlldglbooaefhaaDoor

namespace Go.Proofs.YtlldglbooaefhaaDoor
open Go Go.Hl Go.Pl
set_option maxRecDepth 10000
set_option maxHeartbeats 16000000


theorem bU3 (L : List Int) (n : Nat) : HGe Tryd.prog 7 [.c (.slc (L.map (.int .i64))), .c (.int .i64 n)] [] (fun r os' => r = .ptr 0 0 ∧ os' = [.box 56 (.c (tp (L.take n) 0))]) := by
 refine bP (args := [.c (.slc (L.map (.int .i64))), .c (.int .i64 n)]) Tryd.func7 rfl (by kernel_rfl) (eW rfl (by simp [dZ]) (by simp [HV.menL, HV.men])) (Nat.le_of_ble_eq_true rfl) ?_
 show Hw _ _ 0 _ _ _ (lst _) 0
 rw [show lst [] = fob [] from by funext i; simp [lst, fob]]
 refine R0 ?_
 refine aC fun K hK => Rg ?_
 have F := @denilL_int
 iterate 9 refine SF ?_
 refine T2 (hK _ _ _ ?_)
 clear hK K
 refine aF (RT Tryd.results7 ?_)
 refine dY [] [32] (.ptr 0 0) [.box 56 (.c (tp (L.take n) 0))] rfl (by simp [HV.men]) ⟨⟨by simp [HO.men, HV.men], by simp, _, rfl, ?_⟩, trivial⟩ rfl (by simp) (by simp) (by simp) ⟨rfl, rfl⟩
 simp [HO.close, HV.close, HV.closeL, HO.ren, HV.ren, HV.renL, tau, CV.denil, CV.denilL, denilL_int, HV.norm, fL, upd_at, fob_at, HV.toC, HV.toCL, tp]
 have e : (if n < L.length then (n : Int) else (L.length : Int)).toNat = min n L.length := by split <;> omega
 rw [e, ← List.map_take, ← List.map_take, denilL_int, ← List.take_eq_take_min]


theorem aU8 (L : List Int) (a : Nat) (ha : a < 2 ^ 39) : aM7 Tryd.prog 51 56 (tp L a) [] (fun u v' => ∃ (q : Rq) (a' : Nat), u = q.cv ∧ v' = tp L a' ∧ a' ≤ a + 3 ∧ eF q = true) := by
 refine bP Tryd.func51 rfl (by kernel_rfl) (cN _ _ _) (Nat.le_of_ble_eq_true rfl) ?_
 have hw3 : ∀ x : Int, 0 ≤ x → x < 100 → IntKind.i64.wrap (1 + x) = 1 + x := fun x h1 h2 => IntWalk.i64_in _ (by omega)
 refine R0 ?_
 refine aC fun K hK => Rg ?_
 refine S0 ?_
 refine HS rfl rfl fun K' hK' => T5 ?_
 refine bG (args := [_]) (dM L a 8 (by omega) (by omega)) rfl (by simp) ⟨rfl, rfl, rfl, rfl⟩ ?_
 rintro u v' ⟨x, a1, rfl, rfl, h1, h2, h3, h4⟩
 refine AX (hK' _ _ ?_)
 clear hK' K'
 iterate 4 refine S0 ?_
 refine T2 (hK _ _ _ ?_)
 clear hK K
 refine aC fun K hK => ?_
 have key : ∀ (q : Rq) (a' : Nat) fr ob nx, eF q = true → a' ≤ a + 3 → Fits 1 fr ob (fin [(2, .ptr 1 0), (3, .ptr 21 0)]) (fob [(0, .box 56 (.c (tp L a'))), (1, .box 46 (.c rq0.cv)), (21, .box 46 (.c q.cv))]) 600 → K fr ob nx := by
  rintro q a' fr ob nx hq ha' hf
  refine hK _ _ _ (bS hf ?_)
  clear hf hK K
  refine R0 ?_
  refine aF (RT Tryd.results51 ?_)
  exact eU [] q.cv (tp L a') (by simp [HV.close, Rq.denil, HV.norm, HV.toC]) rfl (by simp [HV.close, tp, CV.denil, CV.denilL, denilL_int, HV.norm, HV.toC]) (by simp) ⟨q, a', rfl, rfl, ha', hq⟩
 have hx8 := h4 (by omega)
 obtain ⟨k, hk⟩ : ∃ k, k = IntKind.i64.wrap (1 + x) := ⟨_, rfl⟩
 have hkx : k = 1 + x := by rw [hk, hw3 x h2 (by omega)]
 rw [← hk]
 clear hk h3 h4
 refine R0 ?_
 refine aK ?_
 refine aC fun K hK => ?_
 have key2 : ∀ (b : Bool) fr ob nx, b = (k == 1 || (k == 3 || k == 5)) → Fits 1 fr ob (fin [(0, .ptr 0 0), (2, .ptr 1 0), (3, .ptr 21 0), (9, .c (.int .i64 k)), (10, .c (.bool b))]) (fob [(0, .box 56 (.c (tp L a1))), (1, .box 46 (.c rq0.cv)), (21, .box 46 (.c (Rq.cv ⟨k, 0, 0, []⟩)))]) 200 → K fr ob nx := by
  rintro b fr ob nx rfl hf
  refine hK _ _ _ (bS hf ?_)
  clear hf hK K
  refine aG (b := _) rfl (fun hb => ?_) (fun hb => ?_)
  ·
   refine Rg ?_
   refine S0 ?_
   refine HS rfl rfl fun K' hK' => T5 ?_
   refine bG (args := [_]) (dM L a1 3 (by omega) (by omega)) rfl (by simp) ⟨rfl, rfl, rfl, rfl⟩ ?_
   rintro u v' ⟨y, a2, rfl, rfl, g1, g2, g3, g4⟩
   refine AX (hK' _ _ ?_)
   clear hK' K'
   iterate 3 refine S0 ?_
   refine T4 ?_
   have g5 := g4 (by omega)
   have hk3 : k = 1 ∨ k = 3 ∨ k = 5 := by simpa using hb
   exact key ⟨k, IntKind.i64.wrap (1 + y), 0, []⟩ a2 _ _ _ (by rw [hw3 y g2 (by omega), eF, if_pos hk3]; simp [inB]; omega) (by omega) (fF)
  have h1 := hb
  refine R0 ?_
  refine aG (b := _) rfl (fun hb => ?_) (fun hb => ?_)
  ·
   refine Rg ?_
   refine S0 ?_
   refine HS rfl rfl fun K' hK' => T5 ?_
   refine bG (args := [_]) (dM L a1 2 (by omega) (by omega)) rfl (by simp) ⟨rfl, rfl, rfl, rfl⟩ ?_
   rintro u v' ⟨y, a2, rfl, rfl, g1, g2, g3, g4⟩
   have g5 := g4 (by omega)
   clear g3 g4
   refine AX (hK' _ _ ?_)
   clear hK' K'
   iterate 2 refine S0 ?_
   refine HS rfl rfl fun K' hK' => T5 ?_
   refine bG (args := [_]) (dM L a2 2 (by omega) (by omega)) rfl (by simp) ⟨rfl, rfl, rfl, rfl⟩ ?_
   rintro u v' ⟨z, a3, rfl, rfl, f1, f2, f3, f4⟩
   refine AX (hK' _ _ ?_)
   clear hK' K'
   iterate 4 refine S0 ?_
   refine T4 ?_
   have n1 : ¬ (k = 1 ∨ k = 3 ∨ k = 5) := by simpa using h1
   have f5 := f4 (by omega)
   have hk4 : k = 4 := by simpa using hb
   exact key ⟨k, IntKind.i64.wrap (1 + y), z, []⟩ a3 _ _ _ (by rw [hw3 y g2 (by omega), eF, if_neg n1, if_pos hk4]; simp [inB]; omega) (by omega) (fF)
  have n4 : ¬ k = 4 := by simpa using hb
  refine R0 ?_
  refine aG (b := _) rfl (fun hb => ?_) (fun hb => ?_)
  ·
   refine bD (by kernel_rfl) ?_
   simp only [sR, simprocAttr]
   refine SG0 ?_
   refine cT (g := none) 220 rfl rfl fun K' hK' => ?_
   simp only [fK, iQ, sH, ↓sP, sA, tyS, simprocAttr]
   repeat refine AI ?_
   refine cF (by first | rfl | simp) ?_
   try simp only [sH, ↓sP, sA, tyS, simprocAttr]
   refine AX (hK' _ _ ?_)
   clear hK' K'
   refine bK (g := none) rfl rfl fun K' hK' => T5 ?_
   refine bG (args := [_]) (aC1 L a1 [[115, 104, 111, 112], [119, 101, 98]] (by omega) (by decide)) rfl (by simp) ⟨rfl, rfl, rfl, rfl⟩ ?_
   rintro u v' ⟨w, a2, rfl, hwm, rfl, g1⟩
   refine AX (hK' _ _ ?_)
   clear hK' K'
   iterate 2 refine SG0 ?_
   refine T4 ?_
   have n1 : ¬ (k = 1 ∨ k = 3 ∨ k = 5) := by simpa using h1
   have hk2 : k = 2 := by simpa using hb
   exact key ⟨k, 0, 0, w⟩ a2 _ _ _ (by
    have hnm : eB w = true := by
     simp only [List.mem_cons, List.not_mem_nil, or_false] at hwm
     rcases hwm with rfl | rfl <;> decide
    rw [eF, if_neg n1, if_neg n4, if_pos hk2, hnm]; rfl) (by omega) (fF)
  have n2 : ¬ k = 2 := by simpa using hb
  refine R0 ?_
  refine aG (b := _) rfl (fun hb => ?_) (fun hb => ?_)
  ·
   refine Rg ?_
   refine S0 ?_
   refine HS rfl rfl fun K' hK' => T5 ?_
   refine bG (args := [_]) (dM L a1 10 (by omega) (by omega)) rfl (by simp) ⟨rfl, rfl, rfl, rfl⟩ ?_
   rintro u v' ⟨y, a2, rfl, rfl, g1, g2, g3, g4⟩
   refine AX (hK' _ _ ?_)
   clear hK' K'
   iterate 3 refine S0 ?_
   refine T4 ?_
   have n1 : ¬ (k = 1 ∨ k = 3 ∨ k = 5) := by simpa using h1
   have g5 := g4 (by omega)
   have hk6 : k = 6 := by simpa using hb
   exact key ⟨k, IntKind.i64.wrap (1 + y), 0, []⟩ a2 _ _ _ (by rw [hw3 y g2 (by omega), eF, if_neg n1, if_neg n4, if_neg n2, if_pos hk6]; simp [inB]; omega) (by omega) (fF)
  have n6 : ¬ k = 6 := by simpa using hb
  refine R0 ?_
  refine aG (b := _) rfl (fun hb => ?_) (fun hb => ?_)
  ·
   refine Rg ?_
   refine S0 ?_
   refine HS rfl rfl fun K' hK' => T5 ?_
   refine bG (args := [_]) (dM L a1 30 (by omega) (by omega)) rfl (by simp) ⟨rfl, rfl, rfl, rfl⟩ ?_
   rintro u v' ⟨y, a2, rfl, rfl, g1, g2, g3, g4⟩
   refine AX (hK' _ _ ?_)
   clear hK' K'
   iterate 2 refine S0 ?_
   refine T4 ?_
   have n1 : ¬ (k = 1 ∨ k = 3 ∨ k = 5) := by simpa using h1
   have g5 := g4 (by omega)
   have hk7 : k = 7 := by simpa using hb
   exact key ⟨k, y, 0, []⟩ a2 _ _ _ (by rw [eF, if_neg n1, if_neg n4, if_neg n2, if_neg n6, if_pos hk7, eZ]; simp [inB]; omega) (by omega) (fF)
  refine aJ (T3 ?_)
  have n1 : ¬ (k = 1 ∨ k = 3 ∨ k = 5) := by simpa using h1
  have n7 : ¬ k = 7 := by simpa using hb
  have hk8 : k = 8 := by omega
  exact key ⟨k, 0, 0, []⟩ a1 _ _ _ (by rw [eF, if_neg n1, if_neg n4, if_neg n2, if_neg n6, if_neg n7, if_pos hk8]; rfl) (by omega) (fF)
 refine R0 ?_
 refine aG (b := _) rfl (fun hb => ?_) (fun hb => ?_)
 ·
  refine aJ (T3 ?_)
  exact key2 (k == 1) _ _ _ (by rw [hb]; rfl) (aO (by omega) (by simp [bB, fin_at, finA_at, upd_at, HV.men, HV.menL, HV.norm, HV.toC, HV.toCL, Rq.cv, rq0]) (by simp [aZ, fob_at, upd_at, none0_at, bZ, HO.men, HV.men, HV.menL, HV.norm, HV.toC, HV.toCL, Rq.cv, rq0]))
 have h1 := hb
 refine R0 ?_
 refine aG (b := _) rfl (fun hb => ?_) (fun hb => ?_)
 ·
  refine aJ (T3 ?_)
  exact key2 (k == 3) _ _ _ (by rw [h1, hb]; rfl) (aO (by omega) (by simp [bB, fin_at, finA_at, upd_at, HV.men, HV.menL, HV.norm, HV.toC, HV.toCL, Rq.cv, rq0]) (by simp [aZ, fob_at, upd_at, none0_at, bZ, HO.men, HV.men, HV.menL, HV.norm, HV.toC, HV.toCL, Rq.cv, rq0]))
 have h1' := hb
 refine aM (by kernel_rfl) ?_
 simp only [↓sP, sA, tyS, simprocAttr]
 exact key2 (k == 5) _ _ _ (by rw [h1, h1']; rfl) (aO (by omega) (by simp [bB, fin_at, finA_at, upd_at, HV.men, HV.menL, HV.norm, HV.toC, HV.toCL, Rq.cv, rq0]) (by simp [aZ, fob_at, upd_at, none0_at, bZ, HO.men, HV.men, HV.menL, HV.norm, HV.toC, HV.toCL, Rq.cv, rq0]))

end Go.Proofs.YtlldglbooaefhaaDoor

namespace Go.Proofs.YtlldglbooaefhaaDoor
open Go Go.Hl Go.Pl
set_option maxRecDepth 10000
set_option maxHeartbeats 16000000
set_option linter.unusedSimpArgs false
set_option linter.unusedVariables false

def ShN (T : List Nd) : Prop := ∀ n ∈ T, n.q.t.length < 2 ^ 63
theorem ShN.set {T : List Nd} (h : ShN T) (i : Nat) {x : Nd} (hx : x.q.t.length < 2 ^ 63) : ShN (T.set i x) := fun n hn => by
 rcases List.mem_or_eq_of_mem_set hn with h1 | rfl
 ·
  exact h n h1
 exact hx
theorem bM4 (n : Nat) : HV.ren (sub [] n) (.ptr 0 0) = .ptr n 0 := by simp [HV.ren, sub]
theorem bB5 (n : Nat) (ob : Ob) (t : TypeId) (v : CV) : jK (sub [] n) ob 0 [.box t (.c v)] = upd ob n (some (.box t (.c v))) := by simp [jK, sub, HO.ren, HV.ren]
end Go.Proofs.YtlldglbooaefhaaDoor
