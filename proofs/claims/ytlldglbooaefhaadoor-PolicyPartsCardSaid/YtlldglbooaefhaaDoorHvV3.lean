/- Part of a proof: walks of functions of the program, by contracts, and the rules they use. By an AI agent. -/
import Derived.Test.YtlldglbooaefhaaDoorHvV1
import Derived.Test.YtlldglbooaefhaaDoorHvTd
import Derived.Test.YtlldglbooaefhaaDoorHlCl
import Derived.Test.YtlldglbooaefhaaDoorHlExt
import Derived.Test.YtlldglbooaefhaaDoorHlTlaw
import Derived.Test.YtlldglbooaefhaaDoorRows
import Derived.Test.YtlldglbooaefhaaDoorPl03e
import Derived.Test.YtlldglbooaefhaaDoorHlIt
set_option linter.unusedSimpArgs false
set_option linter.unusedVariables false
set_option linter.defProp false
namespace Go.Proofs.YtlldglbooaefhaaDoor
open Go Go.Hl Go.Pl
set_option maxRecDepth 10000
set_option maxHeartbeats 16000000

def iC (n : Nat) : CV := .int .i64 n
theorem yR (l : List Nat) : CV.denilL (l.map iC) = l.map iC := bV (fun _ => rfl) l
theorem bK7 (l : List Nd) (ht : IsTree l) (i : Nat) (hi : i < l.length) : cH Tryd.prog 32 [.slc (l.map Nd.cv), .int .i64 i] (fun v => v = .int .i64 (aft l i : Nat)) := by
 have hl := ht.len
 refine FW Tryd.func32 ?_
 refine R0 ?_
 refine aC fun K hK => ?_
 refine R0 ?_
 refine aK ?_
 refine bO (α := {y : Nat × Nat // AftSt l i y.1 y.2 ∧ y.1 ≤ 1 + 60 * y.2}) (fun y => (fin [(0, .c (.slc (l.map Nd.cv))), (1, .c (.int .i64 y.1.2)), (5, .c (.int .i64 y.1.1))], fob [])) 100 (fun y => l.length - y.1.2) ⟨(1, i), ⟨Nat.le_of_lt hi, rfl⟩, by omega⟩ (fF) ?_
 rintro ⟨⟨m, p⟩, hst, hm⟩
 simp only at hst hm
 have hp := hst.1
 refine aC fun K hK => ?_
 refine R0 ?_
 refine aG (b := decide ((0 : Int) < (m : Int))) rfl (fun hb => ?_) (fun hb => ?_)
 ·
  have hm1 : 0 < m := by simpa using hb
  have hpl := hst.lt ht hi hm1
  obtain ⟨c1, c2, _, _⟩ := cU (ht.node _ (List.getElem_mem hpl))
  obtain ⟨m', rfl⟩ : ∃ m', m = m' + 1 := ⟨m - 1, by omega⟩
  have hnx := hst.next hpl
  have hw1 : IntKind.i64.wrap (((m' + 1 : Nat) : Int) + (l[p].c - 1)) = ((m' + l[p].c.toNat : Nat) : Int) := by rw [dM _ (by omega)]; omega
  have hw2 : IntKind.i64.wrap ((p : Int) + 1) = ((p + 1 : Nat) : Int) := by rw [dM _ (by omega)]; rfl
  clear hb
  refine aJ ?_
  refine T0 (hK _ _ _ ?_)
  clear hK K
  refine aC fun K hK => ?_
  refine aK ?_
  refine Rg ?_
  iterate 9 refine S0 ?_ (e := fun _ h_ => by simp only [sH, ↓sP, sA, tyS, simprocAttr, Int.natCast_nonneg, Int.ofNat_lt, hpl, aY hpl, dM (l[p].c - 1) (by omega), hw1]; exact AX h_)
  refine T2 (hK _ _ _ ?_)
  clear hK K
  refine aL (by kernel_rfl) ?_
  refine TQ hw2 ?_
  refine ⟨⟨(m' + l[p].c.toNat, p + 1), hnx, by simp only; omega⟩, fF, ?_⟩
  show l.length - (p + 1) < l.length - p
  omega
 refine bD (T3 ?_)
 clear hK K
 refine AX (hK _ _ _ ?_)
 clear hK K
 refine R0 ?_
 refine aF (RT Tryd.results32 ?_)
 have hm0 : m = 0 := by simpa using hb
 subst hm0
 exact aM [] (.int .i64 p) rfl (by rw [hst.fin])


theorem sX (l : List Nd) (hn : ∀ n ∈ l, n.q.t.length < 2 ^ 63) (i : Int) : cH Tryd.prog 15 [.slc (l.map Nd.cv), .int .i64 i] (fun v => v = .slc ((oS l i).map iC)) := by
 refine FW Tryd.func15 ?_
 refine R0 ?_
 refine aC fun K hK => ?_
 refine aC fun K hK => Rg ?_
 refine S0 ?_
 refine HS rfl rfl fun K' hK' => T5 ?_
 refine C1 (tO l hn) ?_
 rintro u rfl
 refine AX (hK' _ _ ?_)
 clear hK' K'
 iterate 2 refine S0 ?_
 refine aH 8 rfl (fun h1_8 => ?_) (fun h1_8 => ?_)
 ·
  have F := h1_8
  iterate 4 refine SF ?_
  refine aH 12 rfl (fun h1_12 => ?_) (fun h1_12 => ?_)
  ·
   have F := aI h1_8 h1_12
   iterate 5 refine SF ?_
   refine T2 (hK _ _ _ ?_)
   clear hK K
   refine CT rfl ?_
   refine R0 ?_
   refine aF (RT Tryd.results15 ?_)
   exact aM [] (.slc []) rfl (by rw [oZ (.inr (.inl (by simpa using h1_12)))]; rfl)
  have F := aI h1_8 h1_12
  iterate 5 refine SF ?_
  refine aH 18 rfl (fun h1_18 => ?_) (fun h1_18 => ?_)
  ·
   simp only [h1_18]
   refine T2 (hK _ _ _ ?_)
   clear hK K
   refine CT rfl ?_
   refine R0 ?_
   refine aF (RT Tryd.results15 ?_)
   exact aM [] (.slc []) rfl (by rw [oZ (.inr (.inr (by simpa using h1_18)))]; rfl)
  simp only [h1_18]
  refine T2 (hK _ _ _ ?_)
  clear hK K
  refine CF rfl ?_
  refine aJ ?_
  refine T0 (hK _ _ _ ?_)
  clear hK K
  obtain ⟨j, rfl⟩ : ∃ j : Nat, i = j := ⟨i.toNat, by simp at h1_12; omega⟩
  have hj : j < l.length := by simp at h1_18; omega
  have ht := kL h1_8
  have hcv := yQ h1_8 hj
  have hl := ht.len
  obtain ⟨c1, c2, _, _⟩ := cU (ht.node _ (List.getElem_mem hj))
  have hw2 : IntKind.i64.wrap ((j : Int) + 1) = ((j + 1 : Nat) : Int) := by rw [dM _ (by omega)]; rfl
  clear h1_8 h1_12 h1_18
  refine R0 ?_
  refine aC fun K hK => ?_
  have F := hw2
  refine RF ?_
  refine aK ?_
  refine uO 5 0 3 1 rfl rfl rfl rfl ?_
  refine bO (α := {k : Nat // k ≤ l[j].c.toNat}) (fun k => (fin [(0, .c (.slc (l.map Nd.cv))), (1, .c (.int .i64 j)), (5, .own 72 k.1), (6, .c (.int .i64 (bW l k.1 (j + 1) : Nat)))], fob [(72, .row 3 1 ((eT l k.1 (j + 1)).map iC))])) 200 (fun k => l[j].c.toNat - k.1) ⟨0, by omega⟩ (aN (by omega) (by simp [bB, fin_at, finA_at, upd_at, HV.men, HV.menL, HV.norm, HV.toC, HV.toCL, eT, bW]) (by simp [bA, fob_at, upd_at, none0_at, cB, HO.men, HV.men, HV.menL, HV.norm, HV.toC, HV.toCL, eT, bW])) ?_
  rintro ⟨k, hk⟩
  have hkl := rH l k (j + 1)
  refine aC fun K hK => ?_
  refine aC fun K hK => Rg ?_
  have F := aI @Int.natCast_nonneg (aI @Int.ofNat_lt (aI hj (aI (nM hj) hkl)))
  iterate 8 refine SF ?_
  refine T2 (hK _ _ _ ?_)
  clear hK K
  refine aG (b := decide ((k : Int) < l[j].c)) rfl (fun hb => ?_) (fun hb => ?_)
  ·
   have hkc : k < l[j].c.toNat := by simp only [decide_eq_true_eq] at hb; omega
   have hkp := gU ht hj hkc
   have e : (eT l (k + 1) (j + 1)).map iC = (eT l k (j + 1)).map iC ++ [CV.int .i64 (bW l k (j + 1) : Nat)] := by rw [vL, List.map_append]; rfl
   refine aJ ?_
   refine T0 (hK _ _ _ ?_)
   clear hK K
   refine aC fun K hK => ?_
   refine aK ?_
   refine Rg ?_
   have F := hkl
   iterate 5 refine SF ?_
   refine T2 (hK _ _ _ ?_)
   clear hK K
   refine Rg ?_
   iterate 2 refine S0 ?_
   refine HS rfl rfl fun K' hK' => T5 ?_
   refine C2 (bK7 l ht _ hkp) ?_
   rintro u rfl
   refine AX (hK' _ _ ?_)
   clear hK' K'
   refine S0 ?_
   refine T4 ?_
   refine ⟨⟨k + 1, hkc⟩, aN (by omega) (by simp [bB, fin_at, finA_at, upd_at, HV.men, HV.menL, HV.norm, HV.toC, HV.toCL, e, hkl, dV]) (by simp [bA, fob_at, upd_at, none0_at, cB, HO.men, HV.men, HV.menL, HV.norm, HV.toC, HV.toCL, e, hkl, dV]), ?_⟩
   show l[j].c.toNat - (k + 1) < l[j].c.toNat - k
   omega
  refine bD (T3 ?_)
  clear hK K
  refine AX (hK _ _ _ ?_)
  clear hK K
  refine R0 ?_
  refine aF (RT Tryd.results15 ?_)
  have hkc : k = l[j].c.toNat := by simp only [decide_eq_false_iff_not] at hb; omega
  subst hkc
  exact aM [72] (.slc ((eT l l[j].c.toNat (j + 1)).map iC)) (by simp [HV.close, fob_at, hkl, HV.norm, HV.toC, yR, CV.denil]) (by rw [hcv])
 have F := h1_8
 iterate 9 refine SF ?_
 refine T2 (hK _ _ _ ?_)
 clear hK K
 refine CT rfl ?_
 refine R0 ?_
 refine aF (RT Tryd.results15 ?_)
 exact aM [] (.slc []) rfl (by rw [oZ (.inl h1_8)]; rfl)


theorem yS (l : List Nd) (hn : ∀ n ∈ l, n.q.t.length < 2 ^ 63) : cH Tryd.prog 13 [.slc (l.map Nd.cv)] (fun v => v = .slc ((iN l).map iC)) := by
 refine FW Tryd.func13 ?_
 refine R0 ?_
 refine aC fun K hK => ?_
 refine aC fun K hK => Rg ?_
 refine S0 ?_
 refine HS rfl rfl fun K' hK' => T5 ?_
 refine C1 (tO l hn) ?_
 rintro u rfl
 refine AX (hK' _ _ ?_)
 clear hK' K'
 refine S0 ?_
 refine T2 (hK _ _ _ ?_)
 clear hK K
 refine aG (b := !dH l) rfl (fun hb => ?_) (fun hb => ?_)
 ·
  refine R0 ?_
  refine aF (RT Tryd.results13 ?_)
  exact aM [] (.slc []) rfl (by rw [sW (by simpa using hb)]; rfl)
 have h8 : dH l = true := by simpa using hb
 have ht := kL h8
 have hlv := pA h8
 have hl := ht.len
 clear hb
 refine aJ ?_
 refine T0 (hK _ _ _ ?_)
 clear hK K
 refine R0 ?_
 refine aC fun K hK => ?_
 refine R0 ?_
 refine aK ?_
 refine uO 3 0 3 1 rfl rfl rfl rfl ?_
 refine bO (α := {i : Nat // i ≤ l.length}) (fun i => (fin [(3, .own 32 (fT 0 (l.take i.1)).length), (9, .c (.slc (l.map Nd.cv))), (10, .c (.int .i64 l.length)), (11, .c (.int .i64 i.1))], fob [(32, .row 3 1 ((fT 0 (l.take i.1)).map iC))])) 200 (fun i => l.length - i.1) ⟨0, by omega⟩ (aN (by omega) (by simp [bB, fin_at, finA_at, upd_at, HV.men, HV.menL, HV.norm, HV.toC, HV.toCL, fT]) (by simp [bA, fob_at, upd_at, none0_at, cB, HO.men, HV.men, HV.menL, HV.norm, HV.toC, HV.toCL, fT])) ?_
 rintro ⟨i, hi⟩
 have hfl : (fT 0 (l.take i)).length ≤ i := by rw [kO]; have := bV9 (l.take i); simp at this; omega
 refine R0 ?_
 refine aC fun K hK => ?_
 refine aG (b := decide ((i : Int) < l.length)) rfl (fun hb => ?_) (fun hb => ?_)
 ·
  have hlt : i < l.length := by simpa using hb
  have e := aO3 hlt
  clear hb
  refine aJ ?_
  refine T0 (hK _ _ _ ?_)
  clear hK K
  refine aC fun K hK => ?_
  refine aK ?_
  refine aC fun K hK => Rg ?_
  have F := aI @Int.natCast_nonneg (aI @Int.ofNat_lt (aI hlt (nM hlt)))
  iterate 6 refine SF ?_
  refine T2 (hK _ _ _ ?_)
  clear hK K
  refine R0 ?_
  refine aG (b := _) rfl (fun hb => ?_) (fun hb => ?_)
  ·
   rw [if_pos (by simpa using hb)] at e
   refine Rg ?_
   iterate 5 refine S0 ?_
   refine T2 (hK _ _ _ ?_)
   clear hK K
   refine aL (by kernel_rfl) ?_
   simp only [↓sP, sA, tyS, simprocAttr, dM ((i : Int) + 1) (by omega)]
   refine ⟨⟨i + 1, hlt⟩, aN (by omega) (by simp [bB, fin_at, finA_at, upd_at, HV.men, HV.menL, HV.norm, HV.toC, HV.toCL, e, iC]) (by simp [bA, fob_at, upd_at, none0_at, cB, HO.men, HV.men, HV.menL, HV.norm, HV.toC, HV.toCL, e, iC]), ?_⟩
   show l.length - (i + 1) < l.length - i
   omega
  rw [if_neg (by simpa using hb)] at e
  refine aJ ?_
  refine T0 (hK _ _ _ ?_)
  clear hK K
  refine aL (by kernel_rfl) ?_
  simp only [↓sP, sA, tyS, simprocAttr, dM ((i : Int) + 1) (by omega)]
  refine ⟨⟨i + 1, hlt⟩, aN (by omega) (by simp [bB, fin_at, finA_at, upd_at, HV.men, HV.menL, HV.norm, HV.toC, HV.toCL, e]) (by simp [bA, fob_at, upd_at, none0_at, cB, HO.men, HV.men, HV.menL, HV.norm, HV.toC, HV.toCL, e]), ?_⟩
  show l.length - (i + 1) < l.length - i
  omega
 refine bD (T3 ?_)
 clear hK K
 refine AX (hK _ _ _ ?_)
 clear hK K
 refine R0 ?_
 refine aF (RT Tryd.results13 ?_)
 have hei : i = l.length := by simp only [decide_eq_false_iff_not] at hb; omega
 subst hei
 rw [List.take_length]
 exact aM [32] (.slc ((fT 0 l).map iC)) (by simp [HV.close, fob_at, HV.norm, HV.toC, yR, CV.denil]) (by rw [hlv])


end Go.Proofs.YtlldglbooaefhaaDoor



namespace Go.Proofs.YtlldglbooaefhaaDoor
open Go Go.Hl Go.Pl
def bC (b : Bool) : CV := .bool b
end Go.Proofs.YtlldglbooaefhaaDoor

namespace Go.Proofs.YtlldglbooaefhaaDoor
open Go Go.Hl Go.Pl

theorem nB {α : Type} {f : α → CV} {Q : α → Prop} : ∀ (l : List CV), (∀ x ∈ l, ∃ y, x = f y ∧ Q y) → ∃ m : List α, l = m.map f ∧ ∀ y ∈ m, Q y
 | [], _ => ⟨[], rfl, by simp⟩
 | x :: l, h => by
  obtain ⟨y, rfl, hy⟩ := h x (by simp)
  obtain ⟨m, rfl, hm⟩ := nB l (fun x hx => h x (by simp [hx]))
  exact ⟨y :: m, rfl, fun z hz => by rcases List.mem_cons.1 hz with rfl | hz; exact hy; exact hm z hz⟩
theorem bS7 {c : CV} (h : HasTy Tryd.prog 22 c) : ∃ L : List Int, c = .slc (L.map (.int .i64)) ∧ (∀ n ∈ L, (Lit.int .i64 n).wf = true) ∧ L.length ≤ maxLen := by
 obtain ⟨l, rfl, hl, hn⟩ := h.of_slc Tryd.underlying22
 obtain ⟨m, rfl, hm⟩ := nB (f := CV.int .i64) (Q := fun n => (Lit.int .i64 n).wf = true) l (fun x hx => (hl x hx).of_int Tryd.underlying3)
 exact ⟨m, rfl, hm, by simpa using hn⟩
theorem bK8 {c : CV} (h : HasTy Tryd.prog 38 c) : ∃ L : List Bool, c = .slc (L.map bC) ∧ L.length ≤ maxLen := by
 obtain ⟨l, rfl, hl, hn⟩ := h.of_slc Tryd.underlying38
 obtain ⟨m, rfl, _⟩ := nB (f := bC) (Q := fun _ => True) l (fun x hx => by obtain ⟨b, rfl⟩ := (hl x hx).of_bool Tryd.underlying4; exact ⟨b, rfl, trivial⟩)
 exact ⟨m, rfl, by simpa using hn⟩
theorem own : ownKnob Tryd.prog.godebug = none := by kernel_rfl
theorem kids : Kids Tryd.prog (· < Tryd.prog.types.size) := kids_rows (by kernel_rfl) (by kernel_rfl)
theorem aP3 : ∀ t e, t < Tryd.prog.types.size → Tryd.prog.underlying t = some (.slice e) → 0 < Tryd.prog.cellsOf e := slices_full_of Tryd.prog (by kernel_rfl)
end Go.Proofs.YtlldglbooaefhaaDoor

namespace Go.Proofs.YtlldglbooaefhaaDoor
open Go Go.Hl Go.Pl
set_option maxRecDepth 10000
set_option maxHeartbeats 16000000

def tp (L : List Int) (a : Nat) : CV := .agg [.slc (L.map (.int .i64)), .int .i64 a]
attribute [local simp] tp

theorem eB (L : List Int) (a : Nat) (n : Int) (ha : a < 2 ^ 40) (hn : n < 2 ^ 40) : aM6 Tryd.prog 16 56 (tp L a) [.int .i64 n] (fun u v' => ∃ (x : Int) (a' : Nat), u = .int .i64 x ∧ v' = tp L a' ∧ a' ≤ a + 1 ∧ 0 ≤ x ∧ (n < 1 → x = 0) ∧ (1 ≤ n → x < n)) := by
 refine bP Tryd.func16 rfl (by kernel_rfl) (cP _ _ _) (Nat.le_of_ble_eq_true rfl) ?_
 refine R0 ?_
 refine aC fun K hK => ?_
 refine R0 ?_
 refine aG (b := decide (n < 1)) rfl (fun hb => ?_) (fun hb => ?_)
 ·
  refine R0 ?_
  refine aF (RT Tryd.results16 ?_)
  refine eR [] (.int .i64 0) (tp L a) rfl rfl ?_ (by simp) ⟨0, a, rfl, rfl, by omega, by omega, fun _ => rfl, fun h => by omega⟩
  simp [HV.close, tp, CV.denil, CV.denilL, denilL_int, HV.norm, HV.toC]
 refine aJ ?_
 refine T0 (hK _ _ _ ?_)
 clear hK K
 refine aC fun K hK => Rg ?_
 iterate 7 refine S0 ?_ (e := fun _ h_ => by simp only [sH, ↓sP, sA, tyS, simprocAttr, tp]; exact AX h_)
 refine T2 (hK _ _ _ ?_)
 clear hK K
 refine aC fun K hK => ?_
 have key : ∀ (v : Int) fr ob nx, Fits 1 fr ob (fin [(0, .ptr 0 0), (1, .c (.int .i64 n)), (5, .c (.int .i64 v))]) (fob [(0, .box 56 (.c (tp L a)))]) 300 → K fr ob nx := by
  intro v fr ob nx hf
  refine hK _ _ _ (bU hf ?_)
  clear hf hK K
  have hn1 : 1 ≤ n := by simp at hb; omega
  have e0 := Int.tmod_lt_of_pos v (b := n) (by omega)
  have e1 : -n < v.tmod n := Int.lt_tmod_of_pos v (by omega)
  refine aC fun K hK => Rg ?_
  iterate 8 refine S0 ?_ (e := fun _ h_ => by simp only [sH, ↓sP, sA, tyS, simprocAttr, tp]; exact AX h_)
  refine T2 (hK _ _ _ ?_)
  clear hK K
  refine aC fun K hK => Rg ?_
  iterate 8 refine S0 ?_ (e := fun _ h_ => by simp only [sH, ↓sP, sA, tyS, simprocAttr, tp]; exact AX h_)
  refine T2 (hK _ _ _ ?_)
  clear hK K
  refine aF (RT Tryd.results16 ?_)
  have e2 : IntKind.i64.wrap (v.tmod n + n) = v.tmod n + n := IntWalk.i64_in _ (by omega)
  have e3 : IntKind.i64.wrap ((a : Int) + 1) = ((a + 1 : Nat) : Int) := IntWalk.i64_in _ (by omega)
  refine eR [] (.int .i64 ((v.tmod n + n).tmod n)) (tp L (a + 1)) (by rw [e2]; rfl) rfl ?_ (by simp) ⟨_, a + 1, rfl, rfl, by omega, Int.tmod_nonneg _ (by omega), fun h => by omega, fun _ => Int.tmod_lt_of_pos _ (by omega)⟩
  simp [HV.close, HV.closeL, tp, CV.denil, CV.denilL, denilL_int, HV.norm, HV.toC, HV.toCL, e3]
 refine aC fun K hK => QR ?_
 iterate 10 refine S0 ?_ (e := fun _ h_ => by simp only [sH, ↓sP, sA, tyS, simprocAttr, tp]; exact AX h_)
 refine T2 (hK _ _ _ ?_)
 clear hK K
 refine aG (b := decide ((a : Int) < L.length)) rfl (fun hb => ?_) (fun hb => ?_)
 ·
  refine QW ?_
  simp only [sR, simprocAttr]
  iterate 11 refine S0 ?_ (e := fun _ h_ => by simp only [sH, ↓sP, sA, tyS, simprocAttr, tp, Int.natCast_nonneg, (by simpa using hb : (a : Int) < L.length), aY (show a < L.length by simpa using hb)]; exact AX h_)
  refine T4 ?_
  exact key (L[a]'(by simpa using hb)) _ _ _ (fF)
 refine aJ (T3 ?_)
 exact key (IntKind.i64.wrap (IntKind.i64.wrap (↑a * 7) + 3)) _ _ _ (fF)


theorem bS8 (L : List Int) (a : Nat) (l : List aE) (ha : a < 2 ^ 40) (hl : 1 ≤ l.length ∧ l.length < 2 ^ 40) : aM6 Tryd.prog 17 56 (tp L a) [.slc (l.map .str)] (fun u v' => ∃ (w : aE) (a' : Nat), u = .str w ∧ w ∈ l ∧ v' = tp L a' ∧ a' ≤ a + 1) := by
 refine bP Tryd.func17 rfl (by kernel_rfl) (cP _ _ _) (Nat.le_of_ble_eq_true rfl) ?_
 refine R0 ?_
 refine aC fun K hK => aL (by kernel_rfl) ?_
 simp only [↓sP, sA, tyS, simprocAttr]
 refine bQ (args := [_]) (eB L a l.length ha (by omega)) rfl (by simp) ⟨rfl, rfl, rfl, rfl⟩ ?_
 rintro u v' ⟨x, a', rfl, rfl, h1, h2, h3, h4⟩
 obtain ⟨i, rfl⟩ : ∃ i : Nat, x = i := ⟨x.toNat, by omega⟩
 have hlt : i < l.length := by omega
 simp only [↓sP, sA, tyS, simprocAttr, Int.natCast_nonneg, Int.ofNat_lt, hlt, aY hlt]
 refine AX (hK _ _ _ ?_)
 clear hK K
 refine aF (RT Tryd.results17 ?_)
 exact eR [] (.str l[i]) (tp L a') rfl rfl (by simp [HV.close, HV.closeL, tp, CV.denil, CV.denilL, denilL_int, HV.norm, HV.toC, HV.toCL]) (by simp) ⟨_, a', rfl, List.getElem_mem _, rfl, h1⟩


end Go.Proofs.YtlldglbooaefhaaDoor

namespace Go.Proofs.YtlldglbooaefhaaDoor
open Go Go.Hl Go.Pl
set_option maxRecDepth 10000
set_option maxHeartbeats 16000000


theorem bS9 (L : List Int) (n : Nat) : HGe Tryd.prog 7 [.c (.slc (L.map (.int .i64))), .c (.int .i64 n)] [] (fun r os' => r = .ptr 0 0 ∧ os' = [.box 56 (.c (tp (L.take n) 0))]) := by
 refine bP (args := [.c (.slc (L.map (.int .i64))), .c (.int .i64 n)]) Tryd.func7 rfl (by kernel_rfl) (fE rfl (by simp [eE]) (by simp [HV.menL, HV.men])) (Nat.le_of_ble_eq_true rfl) ?_
 show Hw _ _ 0 _ _ _ (lst _) 0
 rw [show lst [] = fob [] from by funext i; simp [lst, fob]]
 refine R0 ?_
 refine aC fun K hK => Rg ?_
 have F := @denilL_int
 iterate 9 refine SF ?_
 refine T2 (hK _ _ _ ?_)
 clear hK K
 refine aF (RT Tryd.results7 ?_)
 refine dX [] [32] (.ptr 0 0) [.box 56 (.c (tp (L.take n) 0))] rfl (by simp [HV.men]) ⟨⟨by simp [HO.men, HV.men], by simp, _, rfl, ?_⟩, trivial⟩ rfl (by simp) (by simp) (by simp) ⟨rfl, rfl⟩
 simp [HO.close, HV.close, HV.closeL, HO.ren, HV.ren, HV.renL, tau, CV.denil, CV.denilL, denilL_int, HV.norm, fG, upd_at, fob_at, HV.toC, HV.toCL, tp]
 have e : (if n < L.length then (n : Int) else (L.length : Int)).toNat = min n L.length := by split <;> omega
 rw [e, ← List.map_take, ← List.map_take, denilL_int, ← List.take_eq_take_min]


theorem aU1 (L : List Int) (a : Nat) (ha : a < 2 ^ 39) : aM6 Tryd.prog 51 56 (tp L a) [] (fun u v' => ∃ (q : Rq) (a' : Nat), u = q.cv ∧ v' = tp L a' ∧ a' ≤ a + 3 ∧ eL q = true) := by
 refine bP Tryd.func51 rfl (by kernel_rfl) (cP _ _ _) (Nat.le_of_ble_eq_true rfl) ?_
 have hw3 : ∀ x : Int, 0 ≤ x → x < 100 → IntKind.i64.wrap (1 + x) = 1 + x := fun x h1 h2 => IntWalk.i64_in _ (by omega)
 refine R0 ?_
 refine aC fun K hK => Rg ?_
 refine S0 ?_
 refine HS rfl rfl fun K' hK' => T5 ?_
 refine bQ (args := [_]) (eB L a 8 (by omega) (by omega)) rfl (by simp) ⟨rfl, rfl, rfl, rfl⟩ ?_
 rintro u v' ⟨x, a1, rfl, rfl, h1, h2, h3, h4⟩
 refine AX (hK' _ _ ?_)
 clear hK' K'
 iterate 4 refine S0 ?_
 refine T2 (hK _ _ _ ?_)
 clear hK K
 refine aC fun K hK => ?_
 have key : ∀ (q : Rq) (a' : Nat) fr ob nx, eL q = true → a' ≤ a + 3 → Fits 1 fr ob (fin [(2, .ptr 1 0), (3, .ptr 21 0)]) (fob [(0, .box 56 (.c (tp L a'))), (1, .box 46 (.c rq0.cv)), (21, .box 46 (.c q.cv))]) 600 → K fr ob nx := by
  rintro q a' fr ob nx hq ha' hf
  refine hK _ _ _ (bU hf ?_)
  clear hf hK K
  refine R0 ?_
  refine aF (RT Tryd.results51 ?_)
  exact eR [] q.cv (tp L a') (by simp [HV.close, Rq.denil, HV.norm, HV.toC]) rfl (by simp [HV.close, tp, CV.denil, CV.denilL, denilL_int, HV.norm, HV.toC]) (by simp) ⟨q, a', rfl, rfl, ha', hq⟩
 have hx8 := h4 (by omega)
 obtain ⟨k, hk⟩ : ∃ k, k = IntKind.i64.wrap (1 + x) := ⟨_, rfl⟩
 have hkx : k = 1 + x := by rw [hk, hw3 x h2 (by omega)]
 rw [← hk]
 clear hk h3 h4
 refine R0 ?_
 refine aK ?_
 refine aC fun K hK => ?_
 have key2 : ∀ (b : Bool) fr ob nx, b = (k == 1 || (k == 3 || k == 5)) → Fits 1 fr ob (fin [(0, .ptr 0 0), (2, .ptr 1 0), (3, .ptr 21 0), (9, .c (.int .i64 k)), (10, .c (.bool b))]) (fob [(0, .box 56 (.c (tp L a1))), (1, .box 46 (.c rq0.cv)), (21, .box 46 (.c (Rq.cv ⟨k, 0, 0, []⟩)))]) 200 → K fr ob nx := by
  rintro b fr ob nx rfl hf
  refine hK _ _ _ (bU hf ?_)
  clear hf hK K
  refine aG (b := _) rfl (fun hb => ?_) (fun hb => ?_)
  ·
   refine Rg ?_
   refine S0 ?_
   refine HS rfl rfl fun K' hK' => T5 ?_
   refine bQ (args := [_]) (eB L a1 3 (by omega) (by omega)) rfl (by simp) ⟨rfl, rfl, rfl, rfl⟩ ?_
   rintro u v' ⟨y, a2, rfl, rfl, g1, g2, g3, g4⟩
   refine AX (hK' _ _ ?_)
   clear hK' K'
   iterate 3 refine S0 ?_
   refine T4 ?_
   have g5 := g4 (by omega)
   have hk3 : k = 1 ∨ k = 3 ∨ k = 5 := by simpa using hb
   exact key ⟨k, IntKind.i64.wrap (1 + y), 0, []⟩ a2 _ _ _ (by rw [hw3 y g2 (by omega), eL, if_pos hk3]; simp [inB]; omega) (by omega) (fF)
  have h1 := hb
  refine R0 ?_
  refine aG (b := _) rfl (fun hb => ?_) (fun hb => ?_)
  ·
   refine Rg ?_
   refine S0 ?_
   refine HS rfl rfl fun K' hK' => T5 ?_
   refine bQ (args := [_]) (eB L a1 2 (by omega) (by omega)) rfl (by simp) ⟨rfl, rfl, rfl, rfl⟩ ?_
   rintro u v' ⟨y, a2, rfl, rfl, g1, g2, g3, g4⟩
   have g5 := g4 (by omega)
   clear g3 g4
   refine AX (hK' _ _ ?_)
   clear hK' K'
   iterate 2 refine S0 ?_
   refine HS rfl rfl fun K' hK' => T5 ?_
   refine bQ (args := [_]) (eB L a2 2 (by omega) (by omega)) rfl (by simp) ⟨rfl, rfl, rfl, rfl⟩ ?_
   rintro u v' ⟨z, a3, rfl, rfl, f1, f2, f3, f4⟩
   refine AX (hK' _ _ ?_)
   clear hK' K'
   iterate 4 refine S0 ?_
   refine T4 ?_
   have n1 : ¬ (k = 1 ∨ k = 3 ∨ k = 5) := by simpa using h1
   have f5 := f4 (by omega)
   have hk4 : k = 4 := by simpa using hb
   exact key ⟨k, IntKind.i64.wrap (1 + y), z, []⟩ a3 _ _ _ (by rw [hw3 y g2 (by omega), eL, if_neg n1, if_pos hk4]; simp [inB]; omega) (by omega) (fF)
  have n4 : ¬ k = 4 := by simpa using hb
  refine R0 ?_
  refine aG (b := _) rfl (fun hb => ?_) (fun hb => ?_)
  ·
   refine bE (by kernel_rfl) ?_
   simp only [sR, simprocAttr]
   refine SG0 ?_
   refine cV (g := none) 220 rfl rfl fun K' hK' => ?_
   simp only [gS, kK, sH, ↓sP, sA, tyS, simprocAttr]
   repeat refine AI ?_
   refine dJ (by first | rfl | simp) ?_
   try simp only [sH, ↓sP, sA, tyS, simprocAttr]
   refine AX (hK' _ _ ?_)
   clear hK' K'
   refine bJ (g := none) rfl rfl fun K' hK' => T5 ?_
   refine bQ (args := [_]) (bS8 L a1 [[115, 104, 111, 112], [119, 101, 98]] (by omega) (by decide)) rfl (by simp) ⟨rfl, rfl, rfl, rfl⟩ ?_
   rintro u v' ⟨w, a2, rfl, hwm, rfl, g1⟩
   refine AX (hK' _ _ ?_)
   clear hK' K'
   iterate 2 refine SG0 ?_
   refine T4 ?_
   have n1 : ¬ (k = 1 ∨ k = 3 ∨ k = 5) := by simpa using h1
   have hk2 : k = 2 := by simpa using hb
   exact key ⟨k, 0, 0, w⟩ a2 _ _ _ (by
    have hnm : eC w = true := by
     simp only [List.mem_cons, List.not_mem_nil, or_false] at hwm
     rcases hwm with rfl | rfl <;> decide
    rw [eL, if_neg n1, if_neg n4, if_pos hk2, hnm]; rfl) (by omega) (fF)
  have n2 : ¬ k = 2 := by simpa using hb
  refine R0 ?_
  refine aG (b := _) rfl (fun hb => ?_) (fun hb => ?_)
  ·
   refine Rg ?_
   refine S0 ?_
   refine HS rfl rfl fun K' hK' => T5 ?_
   refine bQ (args := [_]) (eB L a1 10 (by omega) (by omega)) rfl (by simp) ⟨rfl, rfl, rfl, rfl⟩ ?_
   rintro u v' ⟨y, a2, rfl, rfl, g1, g2, g3, g4⟩
   refine AX (hK' _ _ ?_)
   clear hK' K'
   iterate 3 refine S0 ?_
   refine T4 ?_
   have n1 : ¬ (k = 1 ∨ k = 3 ∨ k = 5) := by simpa using h1
   have g5 := g4 (by omega)
   have hk6 : k = 6 := by simpa using hb
   exact key ⟨k, IntKind.i64.wrap (1 + y), 0, []⟩ a2 _ _ _ (by rw [hw3 y g2 (by omega), eL, if_neg n1, if_neg n4, if_neg n2, if_pos hk6]; simp [inB]; omega) (by omega) (fF)
  have n6 : ¬ k = 6 := by simpa using hb
  refine R0 ?_
  refine aG (b := _) rfl (fun hb => ?_) (fun hb => ?_)
  ·
   refine Rg ?_
   refine S0 ?_
   refine HS rfl rfl fun K' hK' => T5 ?_
   refine bQ (args := [_]) (eB L a1 30 (by omega) (by omega)) rfl (by simp) ⟨rfl, rfl, rfl, rfl⟩ ?_
   rintro u v' ⟨y, a2, rfl, rfl, g1, g2, g3, g4⟩
   refine AX (hK' _ _ ?_)
   clear hK' K'
   iterate 2 refine S0 ?_
   refine T4 ?_
   have n1 : ¬ (k = 1 ∨ k = 3 ∨ k = 5) := by simpa using h1
   have g5 := g4 (by omega)
   have hk7 : k = 7 := by simpa using hb
   exact key ⟨k, y, 0, []⟩ a2 _ _ _ (by rw [eL, if_neg n1, if_neg n4, if_neg n2, if_neg n6, if_pos hk7, gD]; simp [inB]; omega) (by omega) (fF)
  refine aJ (T3 ?_)
  have n1 : ¬ (k = 1 ∨ k = 3 ∨ k = 5) := by simpa using h1
  have n7 : ¬ k = 7 := by simpa using hb
  have hk8 : k = 8 := by omega
  exact key ⟨k, 0, 0, []⟩ a1 _ _ _ (by rw [eL, if_neg n1, if_neg n4, if_neg n2, if_neg n6, if_neg n7, if_pos hk8]; rfl) (by omega) (fF)
 refine R0 ?_
 refine aG (b := _) rfl (fun hb => ?_) (fun hb => ?_)
 ·
  refine aJ (T3 ?_)
  exact key2 (k == 1) _ _ _ (by rw [hb]; rfl) (aN (by omega) (by simp [bB, fin_at, finA_at, upd_at, HV.men, HV.menL, HV.norm, HV.toC, HV.toCL, Rq.cv, rq0]) (by simp [bA, fob_at, upd_at, none0_at, cB, HO.men, HV.men, HV.menL, HV.norm, HV.toC, HV.toCL, Rq.cv, rq0]))
 have h1 := hb
 refine R0 ?_
 refine aG (b := _) rfl (fun hb => ?_) (fun hb => ?_)
 ·
  refine aJ (T3 ?_)
  exact key2 (k == 3) _ _ _ (by rw [h1, hb]; rfl) (aN (by omega) (by simp [bB, fin_at, finA_at, upd_at, HV.men, HV.menL, HV.norm, HV.toC, HV.toCL, Rq.cv, rq0]) (by simp [bA, fob_at, upd_at, none0_at, cB, HO.men, HV.men, HV.menL, HV.norm, HV.toC, HV.toCL, Rq.cv, rq0]))
 have h1' := hb
 refine aL (by kernel_rfl) ?_
 simp only [↓sP, sA, tyS, simprocAttr]
 exact key2 (k == 5) _ _ _ (by rw [h1, h1']; rfl) (aN (by omega) (by simp [bB, fin_at, finA_at, upd_at, HV.men, HV.menL, HV.norm, HV.toC, HV.toCL, Rq.cv, rq0]) (by simp [bA, fob_at, upd_at, none0_at, cB, HO.men, HV.men, HV.menL, HV.norm, HV.toC, HV.toCL, Rq.cv, rq0]))

end Go.Proofs.YtlldglbooaefhaaDoor

namespace Go.Proofs.YtlldglbooaefhaaDoor
open Go Go.Hl Go.Pl
set_option maxRecDepth 10000
set_option maxHeartbeats 16000000
set_option linter.unusedSimpArgs false
set_option linter.unusedVariables false

def ShN (T : List Nd) : Prop := ∀ n ∈ T, n.q.t.length < 2 ^ 63
theorem ShN.set {T : List Nd} (h : ShN T) (i : Nat) {x : Nd} (hx : x.q.t.length < 2 ^ 63) : ShN (T.set i x) := fun n hn => by
 rcases List.mem_or_eq_of_mem_set hn with h1 | rfl
 ·
  exact h n h1
 exact hx
theorem bK9 (n : Nat) : HV.ren (sub [] n) (.ptr 0 0) = .ptr n 0 := by simp [HV.ren, sub]
theorem bA3 (n : Nat) (ob : Ob) (t : TypeId) (v : CV) : jJ (sub [] n) ob 0 [.box t (.c v)] = upd ob n (some (.box t (.c v))) := by simp [jJ, sub, HO.ren, HV.ren]
theorem yT (l : List Nd) : (∀ v ∈ l.map Nd.cv, v.cells = 7) = True := by
 simp only [eq_iff_iff, iff_true]
 intro v hv
 obtain ⟨x, _, rfl⟩ := List.mem_map.1 hv
 exact x.cells
end Go.Proofs.YtlldglbooaefhaaDoor

namespace Go.Proofs.YtlldglbooaefhaaDoor
open Go Go.Hl Go.Pl
set_option maxRecDepth 10000
set_option maxHeartbeats 16000000

def aB : Nat → Nat
 | 0 => 4
 | d + 1 => 8 + 3 * aB d
theorem aJ5 : ∀ d, d ≤ 3 → aB d ≤ 400 := by decide
theorem bW4 : ∀ d, d ≤ 3 → 4 ≤ aB d := by decide
theorem bZ2 {d n : Nat} (hd : d ≤ 3) {p : Nat × Nat} (h : p ∈ pos d n) : p.1 ≤ 60 := by
 rcases Nat.lt_or_ge n 9 with hn | hn
 ·
  have key : ∀ d, d < 4 → ∀ n, n < 9 → ∀ p ∈ pos d n, p.1 ≤ 60 := by decide +kernel
  exact key d (by omega) n hn p h
 cases d with
 | zero => simp [pos] at h; subst h; simp
 | succ d =>
  rw [pos, nY, if_neg (by omega)] at h
  simp at h; subst h; simp
theorem aJ6 {d n : Nat} {t : List Nd} (h : Made d n t) (hd : d ≤ 3) : t.length ≤ 60 := bZ2 hd h.pos
theorem aJ7 {ob : Ob} {L : List Int} {a d m a' : Nat} {T t : List Nd} {X : List CV} (h0 : ob 0 = some (.box 56 (.c (tp L a')))) (h1 : ob 1 = some (.row 48 7 X)) (hm : m = (T ++ t).length) (hX : X = (T ++ t).map Nd.cv) (hM : Made d T.length t) (ha : a' ≤ a + aB d) :
  lM 2 (.own 1 m) ob (fun r ob' => ∃ os', ob' = lst os' ∧ (2 ≤ os'.length ∧ os'.length ≤ 2 + 4) ∧ ∃ (t : List Nd) (a' : Nat), r = .own 1 (T ++ t).length ∧ os' = [.box 56 (.c (tp L a')), .row 48 7 ((T ++ t).map Nd.cv)] ∧ Made d T.length t ∧ a' ≤ a + aB d) := by
 subst hm hX
 exact dX [] [] (.own 1 (T ++ t).length) [.box 56 (.c (tp L a')), .row 48 7 ((T ++ t).map Nd.cv)] rfl (by simp [HV.men]) ⟨⟨by simp [HO.men, HV.men], by simp, _, h0, by simp [HO.close, HV.close, HO.ren, HV.ren, HV.norm, fG, HV.toC, tp, CV.denil, CV.denilL, denilL_int]⟩, ⟨by simp [HO.men], by simp, _, h1, rfl⟩, trivial⟩ rfl List.nodup_nil (by simp) (by simp) ⟨t, a', rfl, rfl, hM, ha⟩
theorem bL0 (n : Nat) (ob : Ob) (e : TypeId) (sz : Nat) (v : CV) (L : List CV) (t : TypeId) : jJ (sub [0, 1] n) ob 0 [.box t (.c v), .row e sz L] = upd (upd ob 0 (some (.box t (.c v)))) 1 (some (.row e sz L)) := rfl
theorem bT0 (n m : Nat) : HV.ren (sub [0, 1] n) (.own 1 m) = .own 1 m := rfl
theorem cE0 (L : List Int) (a : Nat) (T : List Nd) : lst [.box 56 (.c (tp L a)), .row 48 7 (T.map Nd.cv)] = fob [(0, .box 56 (.c (tp L a))), (1, .row 48 7 (T.map Nd.cv))] := by
 funext i
 match i with
 | 0 => rfl
 | 1 => rfl
 | i + 2 => simp [lst, fob, upd]
abbrev cH5 (L : List Int) (a d : Nat) (T : List Nd) (r : HV) (os' : List HO) : Prop :=
 ∃ (t : List Nd) (a' : Nat), r = .own 1 (T ++ t).length ∧ os' = [.box 56 (.c (tp L a')), .row 48 7 ((T ++ t).map Nd.cv)] ∧ Made d T.length t ∧ a' ≤ a + aB d

theorem bZ3 (d : Nat) : ∀ (L : List Int) (a : Nat) (T : List Nd), d ≤ 3 → a + aB d < 2 ^ 38 → 0 < T.length → T.length < 2 ^ 38 →
  HGe Tryd.prog 29 [.ptr 0 0, .own 1 T.length, .c (.int .i64 d)] [.box 56 (.c (tp L a)), .row 48 7 (T.map Nd.cv)] (cH5 L a d T) := by
 induction d using Nat.strongRecOn with
 | ind d ih => ?_
 intro L a T hd ha hT0 hTl
 refine bP (args := [.ptr 0 0, .own 1 T.length, .c (.int .i64 d)]) Tryd.func29 rfl (by kernel_rfl) (fE rfl (by simp [eE, HO.men, HV.men, HV.menL]) (by simp [HV.menL, HV.men])) (Nat.le_of_ble_eq_true rfl) ?_
 show Hw _ _ 2 _ _ _ (lst _) 2
 rw [cE0]
 have hab := aJ5 d hd
 have hw1 : ∀ x : Int, 0 ≤ x → x < 100 → IntKind.i64.wrap (1 + x) = 1 + x := fun x h1 h2 => IntWalk.i64_in _ (by omega)
 have hw2 : ∀ x : Int, 0 ≤ x → x < 100 → IntKind.i64.wrap (2 + x) = 2 + x := fun x h1 h2 => IntWalk.i64_in _ (by omega)
 refine R0 ?_
 refine aC fun K hK => ?_
 refine aC fun K hK => ?_
 have key : ∀ (b : Bool) (a1 : Nat) fr ob nx, (b = false → 0 < d ∧ T.length ≤ 8) → a1 ≤ a + 1 → Fits 2 fr ob (fin [(0, .ptr 0 0), (1, .own 1 T.length), (2, .c (.int .i64 d)), (20, .c (.bool b))]) (fob [(0, .box 56 (.c (tp L a1))), (1, .row 48 7 (T.map Nd.cv))]) 200 → K fr ob nx := by
  rintro b a1 fr ob nx hbf ha1 hf
  refine hK _ _ _ (bU hf ?_)
  clear hf hK K
  refine aG (b := b) rfl (fun hb => ?_) (fun hb => ?_)
  ·
   clear hbf
   refine aC fun K hK => Rg ?_
   iterate 2 refine S0 ?_
   refine HS rfl rfl fun K' hK' => T5 ?_
   refine bQ (args := []) (aU1 L a1 (by omega)) rfl (by simp) ⟨rfl, rfl, rfl, rfl⟩ ?_
   rintro u v' ⟨q, a2, rfl, rfl, s1, s2⟩
   refine AX (hK' _ _ ?_)
   clear hK' K'
   iterate 4 refine S0 ?_
   refine T2 (hK _ _ _ ?_)
   clear hK K
   refine aF (RT Tryd.results29 ?_)
   have := bW4 d hd
   exact aJ7 (t := [⟨1, 0, 0, q⟩]) rfl rfl (by simp) (by simp) (yK s2) (by omega)
  obtain ⟨hd0, hT8⟩ := hbf hb
  clear hbf hb
  refine aJ ?_
  refine T0 (hK _ _ _ ?_)
  clear hK K
  refine aC fun K hK => Rg ?_
  refine S0 ?_
  refine HS rfl rfl fun K' hK' => T5 ?_
  refine bQ (args := [_]) (eB L a1 3 (by omega) (by omega)) rfl (by simp) ⟨rfl, rfl, rfl, rfl⟩ ?_
  rintro u v' ⟨x, a2, rfl, rfl, h1, h2, h3, h4⟩
  refine AX (hK' _ _ ?_)
  clear hK' K'
  iterate 2 refine S0 ?_
  refine HS rfl rfl fun K' hK' => T5 ?_
  refine bQ (args := [_]) (eB L a2 3 (by omega) (by omega)) rfl (by simp) ⟨rfl, rfl, rfl, rfl⟩ ?_
  rintro u v' ⟨y, a3, rfl, rfl, g1, g2, g3, g4⟩
  refine AX (hK' _ _ ?_)
  clear hK' K'
  iterate 4 refine S0 ?_
  refine T2 (hK _ _ _ ?_)
  clear hK K
  refine aC fun K hK => ?_
  have key2 : ∀ (k c N : Int) (a4 : Nat) fr ob nx, (1 ≤ c ∧ c ≤ 3) → k ≠ 1 → bK ⟨k, N, c, rq0⟩ = true → a4 ≤ a + 4 → Fits 2 fr ob (fin [(0, .ptr 0 0), (1, .own 1 T.length), (2, .c (.int .i64 d)), (7, .ptr 228 0)]) (fob [(0, .box 56 (.c (tp L a4))), (1, .row 48 7 (T.map Nd.cv)), (228, .box 48 (.c (Nd.cv ⟨k, N, c, rq0⟩)))]) 700 → K fr ob nx := by
   rintro k c N a4 fr ob nx ⟨hc1, hc3⟩ hk1 hnode ha4 hf
   refine hK _ _ _ (bU hf ?_)
   clear hf hK K
   refine aC fun K hK => Rg ?_
   iterate 5 refine S0 ?_
   refine T2 (hK _ _ _ ?_)
   clear hK K
   refine aC fun K hK => ?_
   refine R0 ?_
   refine aK ?_
   refine bO (α := {w : List Nd × Nat × Nat // MadeK (d - 1) T.length w.2.1 w.1 ∧ w.2.2 ≤ a + 4 + w.2.1 * aB (d - 1) ∧ (w.2.1 : Int) ≤ c ∧ w.1.length ≤ 60 * w.2.1}) (fun w => (fin [(0, .ptr 0 0), (1, .own 1 (T.length + 1 + w.1.1.length)), (2, .c (.int .i64 d)), (7, .ptr 228 0), (8, .c (.int .i64 w.1.2.1))], fob [(0, .box 56 (.c (tp L w.1.2.2))), (1, .row 48 7 ((T ++ ⟨k, N, c, rq0⟩ :: w.1.1).map Nd.cv)), (228, .box 48 (.c (Nd.cv ⟨k, N, c, rq0⟩)))])) 2000 (fun w => 10 - w.1.2.1) ⟨([], 0, a4), MadeK.zero _ _, by simp only; omega, by simp only; omega, by simp⟩ (fF) ?_
   rintro ⟨⟨ts, j, a5⟩, i1, i2, i3, i4⟩
   simp only at i1 i2 i3 i4
   refine aC fun K hK => ?_
   refine aC fun K hK => Rg ?_
   iterate 4 refine S0 ?_
   refine T2 (hK _ _ _ ?_)
   clear hK K
   refine aG (b := decide ((j : Int) < c)) rfl (fun hb => ?_) (fun hb => ?_)
   ·
    have hjc : (j : Int) < c := by simpa using hb
    clear hb
    obtain ⟨M, hM⟩ : ∃ M, M = T ++ ⟨k, N, c, rq0⟩ :: ts := ⟨_, rfl⟩
    have hMl : T.length + 1 + ts.length = M.length := by rw [hM]; simp; omega
    rw [← hM, hMl]
    have hwd : IntKind.i64.wrap ((d : Int) - 1) = ((d - 1 : Nat) : Int) := by rw [IntWalk.i64_in _ (by omega)]; omega
    have hab1 := aJ5 (d - 1) (by omega)
    have hj3 : j ≤ 2 := by omega
    have hja : j * aB (d - 1) ≤ 2 * aB (d - 1) := Nat.mul_le_mul_right _ hj3
    have hdd : aB d = 8 + 3 * aB (d - 1) := by
     obtain ⟨e, rfl⟩ : ∃ e, d = e + 1 := ⟨d - 1, by omega⟩
     rfl
    refine aJ ?_
    refine T0 (hK _ _ _ ?_)
    clear hK K
    refine aC fun K hK => ?_
    refine aK ?_
    refine Rg ?_
    have F := hwd
    iterate 4 refine SF ?_
    refine HS rfl rfl fun K' hK' => T6 ?_
    refine fZ [0, 1] (ih (d - 1) (by omega) L a5 M (by omega) (by omega) (by omega) (by omega)) rfl ⟨rfl, rfl, trivial⟩ (by simp) (by simp) ⟨rfl, rfl, rfl, rfl⟩ (by simp [eE, HO.men, HV.men, HV.menL]) (by simp [HV.menL, HV.men]) ?_
    rintro r os' ⟨t, a6, rfl, rfl, ht, ha6⟩
    rw [bL0, bT0]
    refine AX (hK' _ _ ?_)
    clear hK' K'
    refine SF ?_
    refine T2 (hK _ _ _ ?_)
    clear hK K
    refine aL (by kernel_rfl) ?_
    refine TQ (IntWalk.i64_in ((j : Int) + 1) (by omega)) ?_
    have htl := aJ6 ht (by omega)
    have hnx := i1.next (t := t) (by rw [hMl]; exact ht)
    refine ⟨⟨(ts ++ t, j + 1, a6), hnx, by simp only [Nat.add_mul, Nat.one_mul]; omega, by simp only; omega, by simp only [List.length_append]; omega⟩, ?_, ?_⟩
    ·
     have e1 : M ++ t = T ++ ⟨k, N, c, rq0⟩ :: (ts ++ t) := by rw [hM]; simp
     have e2 : (M ++ t).length = T.length + 1 + (ts ++ t).length := by rw [e1]; simp; omega
     simp only []
     rw [← e1, ← e2]
     exact fF
    show 10 - (j + 1) < 10 - j
    omega
   have hjc : (j : Int) = c := by simp at hb; omega
   have hj3 : j ≤ 3 := by omega
   have hja : j * aB (d - 1) ≤ 3 * aB (d - 1) := Nat.mul_le_mul_right _ hj3
   obtain ⟨d', rfl⟩ : ∃ d', d = d' + 1 := ⟨d - 1, by omega⟩
   simp only [Nat.add_sub_cancel] at i1 i2 hja
   have hm := i1.fin (x := ⟨k, N, c, rq0⟩) hT8 hnode hk1 hjc.symm (by omega) (by omega)
   refine bD (T3 ?_)
   clear hK K
   refine AX (hK _ _ _ ?_)
   clear hK K
   refine R0 ?_
   refine aF (RT Tryd.results29 ?_)
   exact aJ7 (t := ⟨k, N, c, rq0⟩ :: ts) rfl rfl (by simp; omega) rfl hm (by simp only [aB]; omega)
  have hx3 := h4 (by omega)
  have hy3 := g4 (by omega)
  obtain ⟨k, hk⟩ : ∃ k, k = IntKind.i64.wrap (2 + x) := ⟨_, rfl⟩
  obtain ⟨c, hc⟩ : ∃ c, c = IntKind.i64.wrap (1 + y) := ⟨_, rfl⟩
  have hkx : k = 2 + x := by rw [hk, hw2 x h2 (by omega)]
  have hcy : c = 1 + y := by rw [hc, hw1 y g2 (by omega)]
  rw [← hk, ← hc]
  clear hk hc h3 h4 g3 g4
  refine R0 ?_
  refine aG (b := _) rfl (fun hb => ?_) (fun hb => ?_)
  ·
   refine Rg ?_
   iterate 3 refine S0 ?_
   refine HS rfl rfl fun K' hK' => T5 ?_
   refine bQ (args := [_]) (eB L a3 c (by omega) (by omega)) rfl (by simp) ⟨rfl, rfl, rfl, rfl⟩ ?_
   rintro u v' ⟨z, a4, rfl, rfl, f1, f2, f3, f4⟩
   refine AX (hK' _ _ ?_)
   clear hK' K'
   iterate 3 refine S0 ?_
   refine T4 ?_
   have f5 := f4 (by omega)
   have hk4 : k = 4 := by simpa using hb
   exact key2 k c (IntKind.i64.wrap (1 + z)) a4 _ _ _ ⟨by omega, by omega⟩ (by omega) (by rw [hw1 z f2 (by omega), bK, if_neg (by simp only; omega), if_neg (by simp only; omega), if_pos hk4]; simp [inB, gF]; omega) (by omega) (aN (by omega) (by simp [bB, fin_at, finA_at, upd_at, HV.men, HV.menL, HV.norm, HV.toC, HV.toCL, Nd.cv, rq0]) (by simp [bA, fob_at, upd_at, none0_at, cB, HO.men, HV.men, HV.menL, HV.norm, HV.toC, HV.toCL, Nd.cv, rq0]))
  refine aJ (T3 ?_)
  have hk4 : ¬ k = 4 := by simpa using hb
  exact key2 k c 0 a3 _ _ _ ⟨by omega, by omega⟩ (by omega) (by rw [bK, if_neg (by simp only; omega), if_pos (by simp only; omega)]; simp [inB, gF]; omega) (by omega) (aN (by omega) (by simp [bB, fin_at, finA_at, upd_at, HV.men, HV.menL, HV.norm, HV.toC, HV.toCL, Nd.cv, rq0]) (by simp [bA, fob_at, upd_at, none0_at, cB, HO.men, HV.men, HV.menL, HV.norm, HV.toC, HV.toCL, Nd.cv, rq0]))
 refine Rg ?_
 iterate 3 refine S0 ?_
 refine aH 10 rfl (fun h1_10 => ?_) (fun h1_10 => ?_)
 ·
  have F := h1_10
  iterate 9 refine SF ?_
  refine T4 ?_
  exact key true a _ _ _ (fun h => by cases h) (by omega) (fF)
 have F := h1_10
 refine SF ?_
 refine aW (g := some (11, false)) rfl rfl fun K' hK' => T6 ?_
 refine bQ (args := [_]) (eB L a 3 (by omega) (by omega)) rfl (by simp) ⟨rfl, rfl, rfl, rfl⟩ ?_
 rintro u v' ⟨x, a1, rfl, rfl, h1, h2, h3, h4⟩
 refine AX (hK' _ _ ?_)
 clear hK' K'
 iterate 3 refine SF ?_
 refine aH 14 rfl (fun h1_14 => ?_) (fun h1_14 => ?_)
 ·
  have F := aI h1_10 h1_14
  iterate 4 refine SF ?_
  refine T4 ?_
  exact key true a1 _ _ _ (fun h => by cases h) h1 (fF)
 have F := aI h1_10 h1_14
 iterate 4 refine SF ?_
 refine aH 19 rfl (fun h1_19 => ?_) (fun h1_19 => ?_)
 ·
  simp only [h1_19]
  refine T4 ?_
  exact key true a1 _ _ _ (fun h => by cases h) h1 (fF)
 simp only [h1_19]
 refine T4 ?_
 exact key false a1 _ _ _ (fun _ => ⟨by simp at h1_10; omega, by simp at h1_19; omega⟩) h1 (fF)

end Go.Proofs.YtlldglbooaefhaaDoor

namespace Go.Proofs.YtlldglbooaefhaaDoor
open Go Go.Hl Go.Pl
set_option maxRecDepth 10000
set_option maxHeartbeats 16000000

theorem bA4 (N n : Nat) (ob : Ob) (e : TypeId) (sz : Nat) (v : CV) (L : List CV) (t : TypeId) : jJ (sub [0, N] n) ob 0 [.box t (.c v), .row e sz L] = upd (upd ob 0 (some (.box t (.c v)))) N (some (.row e sz L)) := rfl
theorem bL1 (N n m : Nat) : HV.ren (sub [0, N] n) (.own 1 m) = .own N m := rfl
theorem cE1 (L : List Int) (a : Nat) : lst [.box 56 (.c (tp L a))] = fob [(0, .box 56 (.c (tp L a)))] := by
 funext i
 match i with
 | 0 => rfl
 | i + 1 => simp [lst, fob, upd]
abbrev MkR (L : List Int) (a d : Nat) (r : HV) (os' : List HO) : Prop :=
 ∃ (t : List Nd) (a' : Nat), r = .own 1 t.length ∧ os' = [.box 56 (.c (tp L a')), .row 48 7 (t.map Nd.cv)] ∧ Made d 0 t ∧ a' ≤ a + aB d
theorem yU {ob : Ob} {L : List Int} {a d m a' : Nat} {t : List Nd} {X : List CV} (N : Nat) (hN : 1 ≤ N) (h0 : ob 0 = some (.box 56 (.c (tp L a')))) (h1 : ob N = some (.row 48 7 X)) (hm : m = t.length) (hX : X = t.map Nd.cv) (hM : Made d 0 t) (ha : a' ≤ a + aB d) :
  lM 1 (.own N m) ob (fun r ob' => ∃ os', ob' = lst os' ∧ (1 ≤ os'.length ∧ os'.length ≤ 1 + 4) ∧ ∃ (t : List Nd) (a' : Nat), r = .own 1 t.length ∧ os' = [.box 56 (.c (tp L a')), .row 48 7 (t.map Nd.cv)] ∧ Made d 0 t ∧ a' ≤ a + aB d) := by
 subst hm hX
 have e1 : tau 1 [N] 1 = N := rfl
 exact dX [] [N] (.own 1 t.length) [.box 56 (.c (tp L a')), .row 48 7 (t.map Nd.cv)] (by simp [HV.close, HV.norm, HV.toC, HV.ren, e1]) (by simp [HV.men]) ⟨⟨by simp [HO.men, HV.men], by simp, _, h0, by simp [HO.close, HV.close, HO.ren, HV.ren, HV.norm, fG, HV.toC, tp, CV.denil, CV.denilL, denilL_int]⟩, ⟨by simp [HO.men], by simp, _, h1, rfl⟩, trivial⟩ rfl (by simp) (by simpa using hN) (by simp) ⟨t, a', rfl, rfl, hM, ha⟩

theorem bT1 (d : Nat) (L : List Int) (a : Nat) (hd : d ≤ 3) (ha : a + aB d < 2 ^ 38) :
  HGe Tryd.prog 29 [.ptr 0 0, .c .nils, .c (.int .i64 d)] [.box 56 (.c (tp L a))] (MkR L a d) := by
 refine bP (args := [.ptr 0 0, .c .nils, .c (.int .i64 d)]) Tryd.func29 rfl (by kernel_rfl) (fE rfl (by simp [eE, HO.men, HV.men, HV.menL]) (by simp [HV.menL, HV.men])) (Nat.le_of_ble_eq_true rfl) ?_
 show Hw _ _ 1 _ _ _ (lst _) 1
 rw [cE1]
 have hab := aJ5 d hd
 have hw1 : ∀ x : Int, 0 ≤ x → x < 100 → IntKind.i64.wrap (1 + x) = 1 + x := fun x h1 h2 => IntWalk.i64_in _ (by omega)
 have hw2 : ∀ x : Int, 0 ≤ x → x < 100 → IntKind.i64.wrap (2 + x) = 2 + x := fun x h1 h2 => IntWalk.i64_in _ (by omega)
 refine R0 ?_
 refine aC fun K hK => ?_
 refine aC fun K hK => ?_
 have key : ∀ (b : Bool) (a1 : Nat) fr ob nx, (b = false → 0 < d) → a1 ≤ a + 1 → Fits 1 fr ob (fin [(0, .ptr 0 0), (1, .c .nils), (2, .c (.int .i64 d)), (20, .c (.bool b))]) (fob [(0, .box 56 (.c (tp L a1)))]) 200 → K fr ob nx := by
  rintro b a1 fr ob nx hbf ha1 hf
  refine hK _ _ _ (bU hf ?_)
  clear hf hK K
  refine aG (b := b) rfl (fun hb => ?_) (fun hb => ?_)
  ·
   clear hbf
   refine aC fun K hK => Rg ?_
   iterate 2 refine S0 ?_
   refine HS rfl rfl fun K' hK' => T5 ?_
   refine bQ (args := []) (aU1 L a1 (by omega)) rfl (by simp) ⟨rfl, rfl, rfl, rfl⟩ ?_
   rintro u v' ⟨q, a2, rfl, rfl, s1, s2⟩
   refine AX (hK' _ _ ?_)
   clear hK' K'
   iterate 4 refine S0 ?_
   refine T2 (hK _ _ _ ?_)
   clear hK K
   refine aF (RT Tryd.results29 ?_)
   have := bW4 d hd
   exact yU 220 (by decide) (t := [⟨1, 0, 0, q⟩]) rfl rfl (by simp) (by simp) (yK s2) (by omega)
  have hd0 := hbf hb
  clear hbf hb
  refine aJ ?_
  refine T0 (hK _ _ _ ?_)
  clear hK K
  refine aC fun K hK => Rg ?_
  refine S0 ?_
  refine HS rfl rfl fun K' hK' => T5 ?_
  refine bQ (args := [_]) (eB L a1 3 (by omega) (by omega)) rfl (by simp) ⟨rfl, rfl, rfl, rfl⟩ ?_
  rintro u v' ⟨x, a2, rfl, rfl, h1, h2, h3, h4⟩
  refine AX (hK' _ _ ?_)
  clear hK' K'
  iterate 2 refine S0 ?_
  refine HS rfl rfl fun K' hK' => T5 ?_
  refine bQ (args := [_]) (eB L a2 3 (by omega) (by omega)) rfl (by simp) ⟨rfl, rfl, rfl, rfl⟩ ?_
  rintro u v' ⟨y, a3, rfl, rfl, g1, g2, g3, g4⟩
  refine AX (hK' _ _ ?_)
  clear hK' K'
  iterate 4 refine S0 ?_
  refine T2 (hK _ _ _ ?_)
  clear hK K
  refine aC fun K hK => ?_
  have key2 : ∀ (k c N : Int) (a4 : Nat) fr ob nx, (1 ≤ c ∧ c ≤ 3) → k ≠ 1 → bK ⟨k, N, c, rq0⟩ = true → a4 ≤ a + 4 → Fits 1 fr ob (fin [(0, .ptr 0 0), (1, .c .nils), (2, .c (.int .i64 d)), (7, .ptr 228 0)]) (fob [(0, .box 56 (.c (tp L a4))), (228, .box 48 (.c (Nd.cv ⟨k, N, c, rq0⟩)))]) 700 → K fr ob nx := by
   rintro k c N a4 fr ob nx ⟨hc1, hc3⟩ hk1 hnode ha4 hf
   refine hK _ _ _ (bU hf ?_)
   clear hf hK K
   refine aC fun K hK => Rg ?_
   iterate 5 refine S0 ?_
   refine T2 (hK _ _ _ ?_)
   clear hK K
   refine aC fun K hK => ?_
   refine R0 ?_
   refine aK ?_
   refine bO (α := {w : List Nd × Nat × Nat // MadeK (d - 1) 0 w.2.1 w.1 ∧ w.2.2 ≤ a + 4 + w.2.1 * aB (d - 1) ∧ (w.2.1 : Int) ≤ c ∧ w.1.length ≤ 60 * w.2.1}) (fun w => (fin [(0, .ptr 0 0), (1, .own 712 (1 + w.1.1.length)), (2, .c (.int .i64 d)), (7, .ptr 228 0), (8, .c (.int .i64 w.1.2.1))], fob [(0, .box 56 (.c (tp L w.1.2.2))), (712, .row 48 7 ((⟨k, N, c, rq0⟩ :: w.1.1 : List Nd).map Nd.cv)), (228, .box 48 (.c (Nd.cv ⟨k, N, c, rq0⟩)))])) 2000 (fun w => 10 - w.1.2.1) ⟨([], 0, a4), MadeK.zero _ _, by simp only; omega, by simp only; omega, by simp⟩ (fF) ?_
   rintro ⟨⟨ts, j, a5⟩, i1, i2, i3, i4⟩
   simp only at i1 i2 i3 i4
   refine aC fun K hK => ?_
   refine aC fun K hK => Rg ?_
   iterate 4 refine S0 ?_
   refine T2 (hK _ _ _ ?_)
   clear hK K
   refine aG (b := decide ((j : Int) < c)) rfl (fun hb => ?_) (fun hb => ?_)
   ·
    have hjc : (j : Int) < c := by simpa using hb
    clear hb
    obtain ⟨M, hM⟩ : ∃ M : List Nd, M = ⟨k, N, c, rq0⟩ :: ts := ⟨_, rfl⟩
    have hMl : 1 + ts.length = M.length := by rw [hM]; simp; omega
    have hMm : Nd.cv ⟨k, N, c, rq0⟩ :: List.map Nd.cv ts = List.map Nd.cv M := by rw [hM]; rfl
    rw [hMm, hMl]
    have hwd : IntKind.i64.wrap ((d : Int) - 1) = ((d - 1 : Nat) : Int) := by rw [IntWalk.i64_in _ (by omega)]; omega
    have hab1 := aJ5 (d - 1) (by omega)
    have hj3 : j ≤ 2 := by omega
    have hja : j * aB (d - 1) ≤ 2 * aB (d - 1) := Nat.mul_le_mul_right _ hj3
    have hdd : aB d = 8 + 3 * aB (d - 1) := by
     obtain ⟨e, rfl⟩ : ∃ e, d = e + 1 := ⟨d - 1, by omega⟩
     rfl
    refine aJ ?_
    refine T0 (hK _ _ _ ?_)
    clear hK K
    refine aC fun K hK => ?_
    refine aK ?_
    refine Rg ?_
    have F := hwd
    iterate 4 refine SF ?_
    refine HS rfl rfl fun K' hK' => T6 ?_
    refine fZ [0, 712] (bZ3 (d - 1) L a5 M (by omega) (by omega) (by omega) (by omega)) rfl ⟨rfl, rfl, trivial⟩ (by simp) (by simp) ⟨rfl, rfl, rfl, rfl⟩ (by simp [eE, HO.men, HV.men, HV.menL]) (by simp [HV.menL, HV.men]) ?_
    rintro r os' ⟨t, a6, rfl, rfl, ht, ha6⟩
    rw [bA4, bL1]
    refine AX (hK' _ _ ?_)
    clear hK' K'
    refine SF ?_
    refine T2 (hK _ _ _ ?_)
    clear hK K
    refine aL (by kernel_rfl) ?_
    refine TQ (IntWalk.i64_in ((j : Int) + 1) (by omega)) ?_
    have htl := aJ6 ht (by omega)
    have hnx := i1.next (t := t) (by rw [Nat.zero_add, hMl]; exact ht)
    refine ⟨⟨(ts ++ t, j + 1, a6), hnx, by simp only [Nat.add_mul, Nat.one_mul]; omega, by simp only; omega, by simp only [List.length_append]; omega⟩, ?_, ?_⟩
    ·
     have e1 : Nd.cv ⟨k, N, c, rq0⟩ :: List.map Nd.cv (ts ++ t) = List.map Nd.cv (M ++ t) := by rw [hM]; simp
     have e2 : (M ++ t).length = 1 + (ts ++ t).length := by rw [hM]; simp; omega
     simp only []
     rw [e1, ← e2]
     exact fF
    show 10 - (j + 1) < 10 - j
    omega
   have hjc : (j : Int) = c := by simp at hb; omega
   have hj3 : j ≤ 3 := by omega
   have hja : j * aB (d - 1) ≤ 3 * aB (d - 1) := Nat.mul_le_mul_right _ hj3
   obtain ⟨d', rfl⟩ : ∃ d', d = d' + 1 := ⟨d - 1, by omega⟩
   simp only [Nat.add_sub_cancel] at i1 i2 hja
   have hm := i1.fin (x := ⟨k, N, c, rq0⟩) (by omega) hnode hk1 hjc.symm (by omega) (by omega)
   refine bD (T3 ?_)
   clear hK K
   refine AX (hK _ _ _ ?_)
   clear hK K
   refine R0 ?_
   refine aF (RT Tryd.results29 ?_)
   exact yU 712 (by decide) (t := ⟨k, N, c, rq0⟩ :: ts) rfl rfl (by simp; omega) rfl hm (by simp only [aB]; omega)
  have hx3 := h4 (by omega)
  have hy3 := g4 (by omega)
  obtain ⟨k, hk⟩ : ∃ k, k = IntKind.i64.wrap (2 + x) := ⟨_, rfl⟩
  obtain ⟨c, hc⟩ : ∃ c, c = IntKind.i64.wrap (1 + y) := ⟨_, rfl⟩
  have hkx : k = 2 + x := by rw [hk, hw2 x h2 (by omega)]
  have hcy : c = 1 + y := by rw [hc, hw1 y g2 (by omega)]
  rw [← hk, ← hc]
  clear hk hc h3 h4 g3 g4
  refine R0 ?_
  refine aG (b := _) rfl (fun hb => ?_) (fun hb => ?_)
  ·
   refine Rg ?_
   iterate 3 refine S0 ?_
   refine HS rfl rfl fun K' hK' => T5 ?_
   refine bQ (args := [_]) (eB L a3 c (by omega) (by omega)) rfl (by simp) ⟨rfl, rfl, rfl, rfl⟩ ?_
   rintro u v' ⟨z, a4, rfl, rfl, f1, f2, f3, f4⟩
   refine AX (hK' _ _ ?_)
   clear hK' K'
   iterate 3 refine S0 ?_
   refine T4 ?_
   have f5 := f4 (by omega)
   have hk4 : k = 4 := by simpa using hb
   exact key2 k c (IntKind.i64.wrap (1 + z)) a4 _ _ _ ⟨by omega, by omega⟩ (by omega) (by rw [hw1 z f2 (by omega), bK, if_neg (by simp only; omega), if_neg (by simp only; omega), if_pos hk4]; simp [inB, gF]; omega) (by omega) (aN (by omega) (by simp [bB, fin_at, finA_at, upd_at, HV.men, HV.menL, HV.norm, HV.toC, HV.toCL, Nd.cv, rq0]) (by simp [bA, fob_at, upd_at, none0_at, cB, HO.men, HV.men, HV.menL, HV.norm, HV.toC, HV.toCL, Nd.cv, rq0]))
  refine aJ (T3 ?_)
  have hk4 : ¬ k = 4 := by simpa using hb
  exact key2 k c 0 a3 _ _ _ ⟨by omega, by omega⟩ (by omega) (by rw [bK, if_neg (by simp only; omega), if_pos (by simp only; omega)]; simp [inB, gF]; omega) (by omega) (aN (by omega) (by simp [bB, fin_at, finA_at, upd_at, HV.men, HV.menL, HV.norm, HV.toC, HV.toCL, Nd.cv, rq0]) (by simp [bA, fob_at, upd_at, none0_at, cB, HO.men, HV.men, HV.menL, HV.norm, HV.toC, HV.toCL, Nd.cv, rq0]))
 refine Rg ?_
 iterate 3 refine S0 ?_
 refine aH 10 rfl (fun h1_10 => ?_) (fun h1_10 => ?_)
 ·
  have F := h1_10
  iterate 9 refine SF ?_
  refine T4 ?_
  exact key true a _ _ _ (fun h => by cases h) (by omega) (fF)
 have F := h1_10
 refine SF ?_
 refine aW (g := some (11, false)) rfl rfl fun K' hK' => T6 ?_
 refine bQ (args := [_]) (eB L a 3 (by omega) (by omega)) rfl (by simp) ⟨rfl, rfl, rfl, rfl⟩ ?_
 rintro u v' ⟨x, a1, rfl, rfl, h1, h2, h3, h4⟩
 refine AX (hK' _ _ ?_)
 clear hK' K'
 iterate 3 refine SF ?_
 refine aH 14 rfl (fun h1_14 => ?_) (fun h1_14 => ?_)
 ·
  have F := aI h1_10 h1_14
  iterate 4 refine SF ?_
  refine T4 ?_
  exact key true a1 _ _ _ (fun h => by cases h) h1 (fF)
 have F := aI h1_10 h1_14
 refine SF ?_
 refine aW (g := some (16, false)) rfl rfl fun K' hK' => T6 ?_
 obtain ⟨z, hz⟩ : ∃ z : Int, z = 0 := ⟨_, rfl⟩
 rw [← hz]
 refine AX (hK' _ _ ?_)
 clear hK' K'
 iterate 2 refine SF ?_
 refine aH 19 rfl (fun h1_19 => ?_) (fun h1_19 => ?_)
 ·
  simp only [h1_19]
  refine T4 ?_
  exact key true a1 _ _ _ (fun h => by cases h) h1 (fF)
 simp only [h1_19]
 refine T4 ?_
 exact key false a1 _ _ _ (fun _ => (by simp at h1_10; omega)) h1 (fF)

end Go.Proofs.YtlldglbooaefhaaDoor

namespace Go.Proofs.YtlldglbooaefhaaDoor
open Go Go.Hl Go.Pl
set_option maxRecDepth 10000
set_option maxHeartbeats 16000000

theorem bT2 (n : Nat) (ob : Ob) (e : TypeId) (sz : Nat) (v : CV) (L : List CV) (t : TypeId) : jJ (sub [0] n) ob 0 [.box t (.c v), .row e sz L] = upd (upd ob 0 (some (.box t (.c v)))) n (some (.row e sz L)) := rfl
theorem bZ4 (n m : Nat) : HV.ren (sub [0] n) (.own 1 m) = .own n m := rfl

theorem bA5 (L : List Int) (a : Nat) (ha : a < 2 ^ 37) : aM6 Tryd.prog 12 56 (tp L a) [] (fun u v' => ∃ (t : List Nd) (a' : Nat), u = .slc (t.map Nd.cv) ∧ v' = tp L a' ∧ Made 3 0 t ∧ a' ≤ a + 400) := by
 refine bP Tryd.func12 rfl (by kernel_rfl) (cP _ _ _) (Nat.le_of_ble_eq_true rfl) ?_
 have hab := aJ5 3 (by decide)
 refine R0 ?_
 refine aC fun K hK => bE (by kernel_rfl) ?_
 simp only [sR, simprocAttr]
 refine SG0 ?_
 refine sG (g := none) rfl rfl fun K' hK' => ?_
 simp only [sN, ↓hopH.eq_def, sH, ↓sP, sA, tyS, simprocAttr]
 refine fZ [0] (bT1 3 L a (by decide) (by omega)) rfl ⟨rfl, trivial⟩ (by simp) (by simp) ⟨rfl, rfl, rfl, rfl⟩ (by simp [eE, HO.men, HV.men, HV.menL]) (by simp [HV.menL, HV.men]) ?_
 rintro r os' ⟨t, a', rfl, rfl, ht, ha'⟩
 rw [bT2, bZ4]
 refine AX (hK' _ _ ?_)
 clear hK' K'
 refine SG0 ?_
 refine T2 (hK _ _ _ ?_)
 clear hK K
 refine aF (RT Tryd.results12 ?_)
 exact eR [9] (.slc (t.map Nd.cv)) (tp L a') (by simp [HV.close, HV.closeL, CV.denil, CV.denilL, denilL_Nd, HV.norm, HV.toC, HV.toCL, fob_at, upd_at]) rfl (by simp [HV.close, HV.closeL, tp, CV.denil, CV.denilL, denilL_int, HV.norm, HV.toC, HV.toCL]) (by simp) ⟨t, a', rfl, rfl, ht, by omega⟩


end Go.Proofs.YtlldglbooaefhaaDoor

namespace Go.Proofs.YtlldglbooaefhaaDoor
open Go Go.Hl Go.Pl
set_option maxRecDepth 10000
set_option maxHeartbeats 16000000

theorem bW5 {α : Type} (l : List (List UInt8)) (j : Nat) (p : List UInt8) (r : List (List UInt8)) (h : l.drop j = p :: r) : ∃ hj : j < (l.map fun p => [CV.slc (p.map u8)]).length, (l.map fun p => [CV.slc (p.map u8)])[j] = [CV.slc (p.map u8)] ∧ l.drop (j + 1) = r := by
 have hj : j < l.length := by
  rcases Nat.lt_or_ge j l.length with h' | h'
  ·
   exact h'
  rw [List.drop_eq_nil_of_le h'] at h; cases h
 have h1 := List.drop_eq_getElem_cons hj
 rw [h1] at h
 cases h
 exact ⟨by simpa using hj, by simp, rfl⟩

theorem aP4 (l : List UInt8) (c : UInt8) (hl : l.length < 2 ^ 40) : aA5 Tryd.prog 73 [(29, .slc [u8 c]), (29, .slc (l.map u8)), (3, .int .i64 0)] ((aR c l).map fun p => [.slc (p.map u8)]) := by
 refine xY Tryd.func73 rfl (by kernel_rfl) (Nat.le_of_ble_eq_true rfl) rfl fun L J hS hY => ?_
 have e0 : jK [(29, CV.slc [u8 c]), (29, .slc (l.map u8)), (3, .int .i64 0)] = fob [(0, .box 29 (.c (.slc [u8 c]))), (1, .box 29 (.c (.slc (l.map u8)))), (2, .box 3 (.c (.int .i64 0)))] := by
  funext i
  match i with
  | 0 => rfl
  | 1 => rfl
  | 2 => rfl
  | i + 3 => simp [jK, fob, upd]
 have e1 : gA (List.range [((29 : Nat), CV.slc [u8 c]), (29, .slc (l.map u8)), (3, .int .i64 0)].length) = [.ptr 0 0, .ptr 1 0, .ptr 2 0] := rfl
 rw [e0, e1]
 refine eK fun K hK => ?_
 refine eK fun K1 hK1 => mQ hS rfl (aL (by kernel_rfl) ?_)
 simp only [sR, simprocAttr]
 have F := rI
 iterate 3 refine SF ?_
 simp only [sE, ↓reduceIte, simprocAttr, rI]
 refine hK1 _ _ _ _ _ ?_
 clear hK1 K1
 refine jA (b := false) rfl (fun hb => by cases hb) (fun _ => ?_)
 refine mR ?_
 simp only [sE, ↓reduceIte, simprocAttr, rI]
 refine hK _ _ _ _ _ ?_
 clear hK K
 refine eK fun K hK => ?_
 refine nW ?_
 refine aG9 (α := {y : Nat × List UInt8 // (aR c l).drop y.1 = aR c y.2 ∧ y.2.length ≤ l.length}) hS (fun y => (fin [(0, .opq (.func (.yield L) #[] #[])), (1, .ptr 0 0), (2, .ptr 1 0), (3, .ptr 2 0)], fob [(0, .box 29 (.c (.slc [u8 c]))), (1, .box 29 (.c (.slc (y.1.2.map u8)))), (2, .box 3 (.c (.int .i64 0)))])) (fun y => y.1.1) 100 (fun y => y.1.2.length) ⟨(0, l), rfl, Nat.le_refl _⟩ rfl (fF) rfl ?_
 rintro ⟨⟨j, rest⟩, hsp, hle⟩
 simp only at hsp hle
 refine nW ?_
 refine eK fun K1 hK1 => mQ hS rfl (aL (by kernel_rfl) ?_)
 simp only [sR, simprocAttr]
 iterate 2 refine SF ?_
 have F := aI rI @denilL_u8
 refine HS rfl rfl fun K' hK' => T6 ?_
 refine C2 (yA rest c) ?_
 rintro u rfl
 refine AX (hK' _ _ ?_)
 clear hK' K'
 have F := rI
 refine SF ?_
 simp only [sE, ↓reduceIte, simprocAttr, rI]
 refine hK1 _ _ _ _ _ ?_
 clear hK1 K1
 refine eK fun K1 hK1 => ?_
 refine eK fun K2 hK2 => mQ hS rfl (aL (by kernel_rfl) ?_)
 simp only [sR, simprocAttr]
 iterate 2 refine SF ?_
 simp only [sE, ↓reduceIte, simprocAttr, rI]
 refine hK2 _ _ _ _ _ ?_
 clear hK2 K2
 refine jA (b := decide (dD rest c < 0)) rfl (fun hb => ?_) (fun hb => ?_)
 ·
  -- the last piece
  have hn : dD rest c < 0 := by simpa using hb
  rw [mJ hn] at hsp
  obtain ⟨hj, hx, hd⟩ := bW5 (α := Nat) _ _ _ _ hsp
  refine aG8 ?_
  simp only [sE, ↓reduceIte, simprocAttr, rI]
  clear hK1 K1
  refine hK _ _ _ _ _ ?_
  clear hK K
  have htk : List.take rest.length (rest.map u8) = rest.map u8 := List.take_of_length_le (by simp)
  refine rD (l := L) 7 hS hY rfl (by kernel_rfl) (by decide) ?_
  simp only [sR, List.range', simprocAttr]
  have F := aI rI @List.length_map.{0,0}
  iterate 6 refine SF ?_
  refine S0 ?_ (e := fun _ h_ => by simp only [sH, ↓sP, sA, tyS, simprocAttr, rI, htk, List.length_map, ↓hslice3.eq_def, Int.natCast_nonneg, mH, List.drop_zero, Nat.sub_zero, Int.le_refl, Int.toNat_zero]; exact AX h_)
  rw [hlex]
  refine ⟨_, _, _, hj, rfl, rfl, rfl, rfl, rfl, ?_, ?_, ?_⟩
  ·
   rw [hx]; rfl
  ·
   simp only [sR, List.range', simprocAttr]
   rw [hlex]
   refine ⟨by simp, fun _ => ?_⟩
   have := List.drop_eq_nil_iff.1 hd
   simp only [List.length_map] at hj ⊢
   omega
  simp only [sR, List.range', simprocAttr]
  rw [hlex]
  exact ⟨by simp, fun h => by cases h⟩
 -- a piece
 have hn : ¬ dD rest c < 0 := by simpa using hb
 obtain ⟨k, hk, hkl, hsp2⟩ := dT hn
 rw [hk]
 rw [hsp2] at hsp
 obtain ⟨hj, hx, hd⟩ := bW5 (α := Nat) _ _ _ _ hsp
 have hkm : min k rest.length = k := by omega
 have ek : List.take k (rest.map u8) = (rest.take k).map u8 := List.map_take.symm
 have htk : List.take k ((rest.take k).map u8) = (rest.take k).map u8 := List.take_of_length_le (by simp; omega)
 have hw1 : IntKind.i64.wrap ((k : Int) + 1) = ((k + 1 : Nat) : Int) := by rw [IntWalk.i64_in _ (by omega)]; rfl
 have hkl1 : k + 1 ≤ rest.length := hkl
 have edr : List.take (rest.length - (k + 1)) (List.drop (k + 1) (rest.map u8)) = (rest.drop (k + 1)).map u8 := by rw [List.map_drop, List.take_of_length_le (by simp)]
 refine mR ?_
 simp only [sE, ↓reduceIte, simprocAttr, rI]
 refine hK1 _ _ _ _ _ ?_
 clear hK1 K1
 refine eK fun K1 hK1 => mQ hS rfl (aL (by kernel_rfl) ?_)
 simp only [sR, simprocAttr]
 iterate 6 refine S0 ?_ (e := fun _ h_ => by simp only [sH, ↓sP, sA, tyS, simprocAttr, rI, ek, List.length_map, Int.natCast_nonneg, mH, Int.add_zero, Int.ofNat_le, Nat.le_of_lt hkl, List.drop_zero, Nat.sub_zero, show IntKind.i64.wrap (k : Int) = (k : Int) from IntWalk.i64_in _ (by omega)]; exact AX h_)
 simp only [sE, ↓reduceIte, simprocAttr, rI]
 refine hK1 _ _ _ _ _ ?_
 clear hK1 K1
 refine eK fun K1 hK1 => ?_
 refine eK fun K2 hK2 => rD (l := L) 7 hS hY rfl (by kernel_rfl) (by decide) ?_
 simp only [sR, List.range', simprocAttr]
 have F := aI rI (aI @List.length_map.{0,0} (aI @List.length_take.{0} hkm))
 iterate 6 refine SF ?_
 refine S0 ?_ (e := fun _ h_ => by simp only [sH, ↓sP, sA, tyS, simprocAttr, rI, htk, List.length_map, List.length_take, hkm, ↓hslice3.eq_def, Int.natCast_nonneg, mH, List.drop_zero, Nat.sub_zero, Int.le_refl, Int.toNat_zero]; exact AX h_)
 rw [hlex]
 refine ⟨_, _, _, hj, rfl, rfl, rfl, rfl, rfl, ?_, ?_, ?_⟩
 ·
  rw [hx]; rfl
 ·
  simp only [sR, List.range', simprocAttr]
  have F := rI
  refine SF ?_
  simp only [sE, ↓reduceIte, simprocAttr, rI]
  refine hK2 _ _ _ _ _ ?_
  clear hK2 K2
  refine jA (b := false) rfl (fun hb => by cases hb) (fun _ => ?_)
  refine mR ?_
  simp only [sE, ↓reduceIte, simprocAttr, rI]
  refine hK1 _ _ _ _ _ ?_
  clear hK1 K1
  refine mQ hS rfl (aL (by kernel_rfl) ?_)
  simp only [sR, simprocAttr]
  have F := aI rI (aI edr (aI hw1 (aI @List.length_map.{0,0} (aI @Int.natCast_nonneg (aI @mH (aI @Int.ofNat_le (aI hkl1 @denilL_u8)))))))
  iterate 7 refine SF ?_
  simp only [sE, ↓reduceIte, simprocAttr, rI]
  refine ⟨⟨(j + 1, rest.drop (k + 1)), hd, by simp; omega⟩, fF, trivial, rfl, ?_⟩
  show (rest.drop (k + 1)).length < rest.length
  simp; omega
 simp only [sR, List.range', simprocAttr]
 have F := rI
 refine SF ?_
 simp only [sE, ↓reduceIte, simprocAttr, rI]
 refine hK2 _ _ _ _ _ ?_
 clear hK2 K2
 refine jA (b := true) rfl (fun _ => ?_) (fun hb => by cases hb)
 refine aS5 ?_
 simp only [sE, ↓reduceIte, simprocAttr, rI]
 exact ⟨by simp, fun h => by cases h⟩

end Go.Proofs.YtlldglbooaefhaaDoor

namespace Go.Proofs.YtlldglbooaefhaaDoor
open Go Go.Hl Go.Pl
set_option maxRecDepth 10000
set_option maxHeartbeats 16000000

theorem bZ5 (s : aE) (hl : s.length < 2 ^ 40) : mL Tryd.prog 43 [.str s] (fun u v => u = .str ((unW s).getD []) ∧ v = .bool (unW s).isSome) := by
 refine FW Tryd.func43 ?_
 refine R0 ?_
 refine aC fun K hK => ?_
 refine R0 ?_
 refine aG (b := s == [126]) rfl (fun hb => ?_) (fun hb => ?_)
 ·
  refine R0 ?_
  refine aF (RT Tryd.results43 ?_)
  have hs : s = [126] := by simpa using hb
  subst hs
  exact bF [] (.str []) (.bool true) rfl ⟨rfl, rfl⟩
 refine aJ ?_
 refine T0 (hK _ _ _ ?_)
 clear hK K
 have hne : s ≠ [126] := by simpa using hb
 clear hb
 refine R0 ?_
 refine aC fun K hK => ?_
 refine R0 ?_
 refine aK ?_
 refine uO 4 0 5 1 rfl rfl rfl rfl ?_
 refine bO (α := {y : Nat × aE // UnSt s y.1 y.2}) (fun y => (fin [(0, .c (.str s)), (4, .own 24 y.1.2.length), (5, .c (.int .i64 y.1.1))], fob [(24, .row 5 1 (y.1.2.map dY))])) 100 (fun y => s.length - y.1.1) ⟨(0, []), UnSt.init s⟩ (fF) ?_
 rintro ⟨⟨i, out⟩, hst⟩
 simp only at hst
 have hi := hst.1
 have ho := hst.2.2.2
 refine aC fun K hK => ?_
 refine aC fun K hK => Rg ?_
 iterate 4 refine S0 ?_
 refine T2 (hK _ _ _ ?_)
 clear hK K
 refine aG (b := decide ((i : Int) < s.length)) rfl (fun hb => ?_) (fun hb => ?_)
 ·
  have hlt : i < s.length := by simpa using hb
  clear hb
  have hgd : s.getD i 0 = s[i] := by simp [hlt]
  refine aJ ?_
  refine T0 (hK _ _ _ ?_)
  clear hK K
  refine aC fun K hK => ?_
  refine aK ?_
  refine aC fun K hK => ?_
  refine aC fun K hK => Rg ?_
  iterate 3 refine S0 ?_ (e := fun _ h_ => by simp only [sH, ↓sP, sA, tyS, simprocAttr, Int.natCast_nonneg, Int.ofNat_lt, hlt, hgd]; exact AX h_)
  refine HS rfl rfl fun K' hK' => ?_
  simp only [sH, ↓sP, sA, tyS, simprocAttr, Int.natCast_nonneg, Int.ofNat_lt, hlt, hgd]
  refine C1 (pX s[i]) ?_
  rintro u rfl
  refine AX (hK' _ _ ?_)
  clear hK' K'
  refine T2 (hK _ _ _ ?_)
  clear hK K
  refine aG (b := cQ s[i]) rfl (fun hb => ?_) (fun hb => ?_)
  ·
   refine aC fun K hK => Rg ?_
   iterate 7 refine S0 ?_ (e := fun _ h_ => by simp only [sH, ↓sP, sA, tyS, simprocAttr, Int.natCast_nonneg, Int.ofNat_lt, hlt, hgd, List.length_append, List.length_map]; exact AX h_)
   refine T2 (hK _ _ _ ?_)
   clear hK K
   refine bD (T3 ?_)
   clear hK K
   refine AX (hK _ _ _ ?_)
   clear hK K
   refine aL (by kernel_rfl) ?_
   refine TQ (lO i) ?_
   refine ⟨⟨(i + 1, out ++ [s[i]]), hst.plain hlt hb⟩, aN (by omega) ?_ ?_, ?_⟩
   ·
    simp [bB, upd_at, fin_at, HV.men]
   ·
    simp only [bA, List.map_append]
    exact ⟨rfl, by omega, trivial, trivial⟩
   show s.length - (i + 1) < s.length - i
   omega
  refine aJ ?_
  refine T0 (hK _ _ _ ?_)
  clear hK K
  refine aC fun K hK => ?_
  have hp : cQ s[i] = false := hb
  clear hb
  have hw1 : IntKind.i64.wrap ((i : Int) + 1) = ((i + 1 : Nat) : Int) := by rw [IntWalk.i64_in _ (by omega)]; rfl
  have hw2 : IntKind.i64.wrap ((i : Int) + 2) = ((i + 2 : Nat) : Int) := by rw [IntWalk.i64_in _ (by omega)]; rfl
  have hw3 : IntKind.i64.wrap (((i + 2 : Nat) : Int) + 1) = ((i + 3 : Nat) : Int) := by rw [IntWalk.i64_in _ (by omega)]; rfl
  refine aC fun K hK => Rg ?_
  iterate 5 refine S0 ?_ (e := fun _ h_ => by simp only [sH, ↓sP, sA, tyS, simprocAttr, Int.natCast_nonneg, Int.ofNat_lt, hlt, hgd, hw2]; exact AX h_)
  refine aH 29 rfl (fun h9_29 => ?_) (fun h9_29 => ?_)
  ·
   iterate 6 refine S0 ?_ (e := fun _ h_ => by simp only [sH, ↓sP, sA, tyS, simprocAttr, Int.natCast_nonneg, Int.ofNat_lt, hlt, hgd, hw2, h9_29]; exact AX h_)
   refine T2 (hK _ _ _ ?_)
   clear hK K
   refine CT rfl ?_
   refine R0 ?_
   refine aF (RT Tryd.results43 ?_)
   have h37 : s[i] ≠ 37 := by rintro h; rw [h] at h9_29; simp at h9_29
   have hn := mK (hst.bad1 hlt hp (.inl h37)) hne
   exact bF [] (.str []) (.bool false) rfl ⟨by rw [hn]; rfl, by rw [hn]; rfl⟩
  iterate 6 refine S0 ?_ (e := fun _ h_ => by simp only [sH, ↓sP, sA, tyS, simprocAttr, Int.natCast_nonneg, Int.ofNat_lt, hlt, hgd, hw2, h9_29]; exact AX h_)
  refine aH 35 rfl (fun h9_35 => ?_) (fun h9_35 => ?_)
  ·
   simp only [h9_35]
   refine T2 (hK _ _ _ ?_)
   clear hK K
   refine CT rfl ?_
   refine R0 ?_
   refine aF (RT Tryd.results43 ?_)
   have hi2 : s.length ≤ i + 2 := by simp at h9_35; omega
   have hn := mK (hst.bad1 hlt hp (.inr hi2)) hne
   exact bF [] (.str []) (.bool false) rfl ⟨by rw [hn]; rfl, by rw [hn]; rfl⟩
  simp only [h9_35]
  refine T2 (hK _ _ _ ?_)
  clear hK K
  refine CF rfl ?_
  refine aJ ?_
  refine T0 (hK _ _ _ ?_)
  clear hK K
  have h37 : s[i] = 37 := by
   simp only [bne_eq_false_iff_eq] at h9_29
   exact UInt8.toNat_inj.1 (by show s[i].toNat = 37; omega)
  have hi2 : i + 2 < s.length := by simp at h9_35; omega
  have hi1 : i + 1 < s.length := by omega
  have hg1 : s.getD (i + 1) 0 = s[i + 1] := by simp [hi1]
  have hg2 : s.getD (i + 2) 0 = s[i + 2] := by simp [hi2]
  refine aC fun K hK => DW [(0, [], []), (1, [], []), (2, [], []), (3, [], []), (5, [], []), (6, [], []), (7, [], []), (8, [], []), (4, [], [5, 6, 7, 8]), (9, [], []), (10, [], []), (11, [], [])] [0, 0, 2, 7, 15, 0, 0, 64, 224, 511, 1023, 2047] ?_
  have F := aI @Int.natCast_nonneg (aI @Int.ofNat_lt (aI hw1 (aI hw2 (aI hg1 (aI hg2 (aI hi1 (aI hi2 (aI h9_29 h9_35))))))))
  iterate 8 refine WF ?_
  refine cM (g := none) rfl rfl fun K' hK' => T6 ?_
  refine C2 (pY bP6 s[i + 1]) ?_
  rintro u rfl
  refine AX (hK' _ _ ?_)
  clear hK' K'
  refine cM (g := none) rfl rfl fun K' hK' => T6 ?_
  refine C2 (pY bP6 s[i + 2]) ?_
  rintro u rfl
  refine AX (hK' _ _ ?_)
  clear hK' K'
  iterate 2 refine WF ?_
  refine T2 (hK _ _ _ ?_)
  clear hK K
  refine aC fun K hK => ?_
  by_cases hx : valH s[i + 1] < 16
  ·
   by_cases hy : valH s[i + 2] < 16
   ·
    rw [pR, pR, if_pos hx, if_pos hy]
    have hx0 : decide (((valH s[i + 1] : Nat) : Int) < 0) = false := by simp
    have hy0 : decide (((valH s[i + 2] : Nat) : Int) < 0) = false := by simp
    have e1 : IntKind.i64.wrap (16 * ((valH s[i + 1] : Nat) : Int)) = ((16 * valH s[i + 1] : Nat) : Int) := by rw [IntWalk.i64_in _ (by omega)]; omega
    have e2 : IntKind.i64.wrap (((16 * valH s[i + 1] : Nat) : Int) + ((valH s[i + 2] : Nat) : Int)) = ((16 * valH s[i + 1] + valH s[i + 2] : Nat) : Int) := by rw [IntWalk.i64_in _ (by omega)]; omega
    have e3 : IntKind.u8.wrap ((16 * valH s[i + 1] + valH s[i + 2] : Nat) : Int) = ((byteH s[i + 1] s[i + 2]).toNat : Int) := by rw [IntWalk.u8_in _ (by omega), xR hx hy]
    refine aC fun K hK => Rg ?_
    have F := aI hx0 (aI hy0 (aI e1 (aI e2 (aI e3 (aI h9_29 h9_35)))))
    iterate 12 refine SF ?_
    refine aW (g := some (53, false)) rfl rfl fun K' hK' => T6 ?_
    refine C1 (pX (byteH s[i + 1] s[i + 2])) ?_
    rintro u rfl
    refine AX (hK' _ _ ?_)
    clear hK' K'
    refine SF ?_
    refine T2 (hK _ _ _ ?_)
    clear hK K
    refine aG (b := cQ (byteH s[i + 1] s[i + 2])) rfl (fun hb => ?_) (fun hb => ?_)
    ·
     refine R0 ?_
     refine aF (RT Tryd.results43 ?_)
     have hn := mK (hst.bad2 hi2 h37 (by simp [okH, hx, hy, hb])) hne
     exact bF [] (.str []) (.bool false) rfl ⟨by rw [hn]; rfl, by rw [hn]; rfl⟩
    refine aJ ?_
    refine T0 (hK _ _ _ ?_)
    clear hK K
    refine aC fun K hK => Rg ?_
    have F := aI @Int.natCast_nonneg (aI @List.length_append.{0} (aI @List.length_map.{0,0} (aI e1 (aI e2 (aI e3 (aI h9_29 h9_35))))))
    iterate 9 refine SF ?_
    refine T2 (hK _ _ _ ?_)
    clear hK K
    refine aL (by kernel_rfl) ?_
    refine TQ hw2 ?_
    refine AX (hK _ _ _ ?_)
    clear hK K
    refine aL (by kernel_rfl) ?_
    refine TQ hw3 ?_
    refine ⟨⟨(i + 3, out ++ [byteH s[i + 1] s[i + 2]]), hst.esc hi2 h37 (by simp [okH, hx, hy, hb])⟩, aN (by omega) ?_ ?_, ?_⟩
    ·
     simp [bB, upd_at, fin_at, HV.men]
    ·
     simp only [bA, List.map_append]
     exact ⟨rfl, by omega, trivial, trivial⟩
    show s.length - (i + 3) < s.length - i
    omega
   rw [pR, pR, if_pos hx, if_neg hy]
   have hx0 : decide (((valH s[i + 1] : Nat) : Int) < 0) = false := by simp
   refine aC fun K hK => Rg ?_
   have F := aI hx0 (aI h9_29 h9_35)
   iterate 14 refine SF ?_
   refine T2 (hK _ _ _ ?_)
   clear hK K
   refine CT rfl ?_
   refine R0 ?_
   refine aF (RT Tryd.results43 ?_)
   have hn := mK (hst.bad2 hi2 h37 (by simp [okH, hx, hy])) hne
   exact bF [] (.str []) (.bool false) rfl ⟨by rw [hn]; rfl, by rw [hn]; rfl⟩
  rw [pR, if_neg hx]
  refine aC fun K hK => Rg ?_
  have F := aI h9_29 h9_35
  iterate 14 refine SF ?_
  refine T2 (hK _ _ _ ?_)
  clear hK K
  refine CT rfl ?_
  refine R0 ?_
  refine aF (RT Tryd.results43 ?_)
  have hn := mK (hst.bad2 hi2 h37 (by simp [okH, hx])) hne
  exact bF [] (.str []) (.bool false) rfl ⟨by rw [hn]; rfl, by rw [hn]; rfl⟩
 refine bD (T3 ?_)
 clear hK K
 refine AX (hK _ _ _ ?_)
 clear hK K
 have hei : i = s.length := by simp at hb; omega
 have hfin := hst.fin hei hne
 refine fD [24] (bU (fr2 := fin [(4, .c (.slc (out.map dY)))]) (ob2 := fob []) (nx2 := 200) (aN (by omega) (by simp [bB, jY, fin_at, finA_at, upd_at, fob_at, HV.close, HV.closeL, CV.denil, CV.denilL, dS, HV.men, HV.menL, HV.norm, HV.toC, HV.toCL]) (by simp [bA, jZ, fob_at, upd_at, none0_at, cB, HO.close, HV.close, HV.closeL, HO.men, HV.men, HV.menL, HV.norm, HV.toC, HV.toCL])) ?_)
 refine aC fun K hK => Rg ?_
 have F := aI @bytesC_map @List.length_map.{0,0}
 iterate 7 refine SF ?_
 refine T2 (hK _ _ _ ?_)
 clear hK K
 refine aF (RT Tryd.results43 ?_)
 refine bF [] (.str out) (.bool (decide (0 < (out.length : Int)))) rfl ?_
 rw [hfin]
 by_cases ho0 : out = []
 ·
  subst ho0; simp
 have : 0 < out.length := List.length_pos_iff.2 ho0
 simp [ho0, this]

end Go.Proofs.YtlldglbooaefhaaDoor
