/- Part of a proof: walks of functions of the program, by contracts, and the rules they use. By an AI agent. -/
import Derived.Test.YtlldglbooaefhaaGreatDoorHzU1
import Derived.Test.YtlldglbooaefhaaGreatDoorHzTh
import Derived.Test.YtlldglbooaefhaaGreatDoorHzSb
import Derived.Test.YtlldglbooaefhaaGreatDoorPl02e
import Derived.Test.YtlldglbooaefhaaGreatDoorHlTlaw
import Derived.Test.YtlldglbooaefhaaGreatDoorRows
import Derived.Test.YtlldglbooaefhaaGreatDoorHzT7
import Derived.Test.YtlldglbooaefhaaGreatDoorPl11q
import Derived.Test.YtlldglbooaefhaaGreatDoorHlIt
set_option linter.unusedSimpArgs false
set_option linter.unusedVariables false
set_option linter.defProp false
namespace Go.Proofs.YtlldglbooaefhaaGreatDoor
open Go Go.Hl Go.Pl
set_option maxRecDepth 10000
set_option maxHeartbeats 16000000

def bC (b : Bool) : CV := .bool b
theorem oF (l : List Bool) : CV.denilL (l.map bC) = l.map bC := bV (fun _ => rfl) l

theorem aK7 (l : List Nd) (ht : IsTree l) (tr : List Bool) (htr : tr.length < 2 ^ 63) (i : Nat) (hi : i < l.length) (ih : ∀ j, i < j → j < l.length → bQ Tryz.prog 48 [.slc (l.map Nd.cv), .int .i64 j, .slc (tr.map bC)] (fun v => v = .bool (nB l tr j))) :
  bQ Tryz.prog 48 [.slc (l.map Nd.cv), .int .i64 i, .slc (tr.map bC)] (fun v => v = .bool (nB l tr i)) := by
 have hl := ht.len
 obtain ⟨c1, c2, _, _⟩ := cI (ht.node _ (List.getElem_mem hi))
 have hw2 : IntKind.i64.wrap ((i : Int) + 1) = ((i + 1 : Nat) : Int) := by rw [bN _ (by omega)]; rfl
 have hc : l[i].c = ((l[i].c.toNat : Nat) : Int) := by omega
 refine FW Tryz.func48 ?_
 refine R0 ?_
 refine aB fun K hK => Rg ?_
 have F := aI @Int.natCast_nonneg (aI @Int.ofNat_lt (aI hi (nM hi)))
 iterate 6 refine SF ?_
 refine T2 (hK _ _ _ ?_)
 clear hK K
 refine aB fun K hK => ?_
 refine R0 ?_
 refine aH (b := (l[i].k == 1)) rfl (fun hb => ?_) (fun hb => ?_)
 ·
  refine R0 ?_
  refine aB fun K hK => ?_
  refine R0 ?_
  refine aK ?_
  have hk1 : l[i].k = 1 := by simpa using hb
  clear hb
  refine bE (α := {j : Nat // j ≤ i}) (fun j => (fin [(0, .c (.slc (l.map Nd.cv))), (1, .c (.int .i64 i)), (2, .c (.slc (tr.map bC))), (8, .c (.int .i64 (lv (l.take j.1) : Nat))), (9, .c (.int .i64 j.1))], fob [])) 100 (fun j => i - j.1) ⟨0, by omega⟩ (aN (by omega) (by simp [bA, fin_at, finA_at, upd_at, HV.men, HV.menL, HV.norm, HV.toC, HV.toCL, lv]) (by simp [aX, fob_at, upd_at, none0_at, bY, HO.men, HV.men, HV.menL, HV.norm, HV.toC, HV.toCL, lv])) ?_
  rintro ⟨j, hj⟩
  have hlv := wM l j
  refine aB fun K hK => ?_
  refine R0 ?_
  refine aH (b := decide ((j : Int) < i)) rfl (fun hb => ?_) (fun hb => ?_)
  ·
   have hji : j < i := by simpa using hb
   have hjl : j < l.length := by omega
   have e := aB9 hjl
   have hw3 : IntKind.i64.wrap ((lv (l.take j) : Int) + 1) = ((lv (l.take j) + 1 : Nat) : Int) := by rw [bN _ (by omega)]; rfl
   clear hb
   refine aJ ?_
   refine T0 (hK _ _ _ ?_)
   clear hK K
   refine aB fun K hK => ?_
   refine aK ?_
   refine aB fun K hK => Rg ?_
   have F := aI @Int.natCast_nonneg (aI @Int.ofNat_lt (aI hjl (nM hjl)))
   iterate 6 refine SF ?_
   refine T2 (hK _ _ _ ?_)
   clear hK K
   refine aH (b := _) rfl (fun hb => ?_) (fun hb => ?_)
   ·
    rw [if_pos (by simpa using hb)] at e
    refine aL (by kernel_rfl) ?_
    refine TQ hw3 ?_
    refine AX (hK _ _ _ ?_)
    clear hK K
    refine aL (by kernel_rfl) ?_
    simp only [↓sP, sA, tyS, simprocAttr, bN ((j : Int) + 1) (by omega)]
    refine ⟨⟨j + 1, hji⟩, aN (by omega) (by simp [bA, fin_at, finA_at, upd_at, HV.men, HV.menL, HV.norm, HV.toC, HV.toCL, e]) (by simp [aX, fob_at, upd_at, none0_at, bY, HO.men, HV.men, HV.menL, HV.norm, HV.toC, HV.toCL, e]), ?_⟩
    show i - (j + 1) < i - j
    omega
   rw [if_neg (by simpa using hb), Nat.add_zero] at e
   refine aJ ?_
   refine T0 (hK _ _ _ ?_)
   clear hK K
   refine aL (by kernel_rfl) ?_
   simp only [↓sP, sA, tyS, simprocAttr, bN ((j : Int) + 1) (by omega)]
   refine ⟨⟨j + 1, hji⟩, aN (by omega) (by simp [bA, fin_at, finA_at, upd_at, HV.men, HV.menL, HV.norm, HV.toC, HV.toCL, e]) (by simp [aX, fob_at, upd_at, none0_at, bY, HO.men, HV.men, HV.menL, HV.norm, HV.toC, HV.toCL, e]), ?_⟩
   show i - (j + 1) < i - j
   omega
  refine aZ (T3 ?_)
  clear hK K
  refine AX (hK _ _ _ ?_)
  clear hK K
  by_cases hlt : lv (l.take j) < tr.length
  ·
   have hji : j = i := by simp only [decide_eq_false_iff_not] at hb; omega
   subst hji
   have hva := vV (tr := tr) hi hk1
   clear hb
   refine aB fun K hK => Rg ?_
   iterate 11 refine S0 ?_ (e := fun _ h_ => by simp only [sH, ↓sP, sA, tyS, simprocAttr, Int.natCast_nonneg, Int.ofNat_lt, hlt, bB hlt, bC]; exact AX h_)
   refine T2 (hK _ _ _ ?_)
   clear hK K
   refine aF (RT Tryz.results48 ?_)
   exact aG [] (.bool tr[lv (l.take j)]) rfl (by rw [hva]; simp [hlt])
  have hji : j = i := by simp only [decide_eq_false_iff_not] at hb; omega
  subst hji
  have hva := vV (tr := tr) hi hk1
  clear hb
  have hlt' : decide ((lv (l.take j) : Int) < tr.length) = false := by simp; omega
  refine aB fun K hK => Rg ?_
  have F := hlt'
  iterate 11 refine SF ?_
  refine T2 (hK _ _ _ ?_)
  clear hK K
  refine aF (RT Tryz.results48 ?_)
  exact aG [] (.bool false) rfl (by rw [hva]; simp [List.getD_eq_getElem?_getD, List.getElem?_eq_none (Nat.le_of_not_lt hlt)])
 refine aJ ?_
 refine T0 (hK _ _ _ ?_)
 clear hK K
 refine aB fun K hK => Rg ?_
 have F := hw2
 iterate 4 refine SF ?_
 refine T2 (hK _ _ _ ?_)
 clear hK K
 refine aB fun K hK => ?_
 refine R0 ?_
 refine aK ?_
 have hk1 : l[i].k ≠ 1 := by simpa using hb
 have hvi := aI7 (tr := tr) hi hk1
 have hkl := aI8 ht (tr := tr) hi
 obtain ⟨V, hV⟩ : ∃ V, V = evS (lv l) tr (l.drop (i + 1)) := ⟨_, rfl⟩
 rw [← hV] at hvi hkl
 clear hb
 refine bE (α := {k : Nat // k ≤ l[i].c.toNat}) (fun k => (fin [(0, .c (.slc (l.map Nd.cv))), (2, .c (.slc (tr.map bC))), (7, .ptr 20 0), (10, .c (.int .i64 (cnt (V.take k.1) : Nat))), (11, .c (.int .i64 (cJ l k.1 (i + 1) : Nat))), (12, .c (.int .i64 k.1))], fob [(20, .box 40 (.c l[i].cv))])) 200 (fun k => l[i].c.toNat - k.1) ⟨0, by omega⟩ (aN (by omega) (by simp [bA, fin_at, finA_at, upd_at, HV.men, HV.menL, HV.norm, HV.toC, HV.toCL, cnt, cJ, hw2]) (by simp [aX, fob_at, upd_at, none0_at, bY, HO.men, HV.men, HV.menL, HV.norm, HV.toC, HV.toCL, cnt, cJ, hw2])) ?_
 rintro ⟨k, hk⟩
 have hcn : cnt (V.take k) ≤ k := by have := bH9 (V.take k); simp at this; omega
 have hcn2 : cnt (V.take k) ≤ 60 := by omega
 refine aB fun K hK => ?_
 refine aB fun K hK => Rg ?_
 iterate 4 refine S0 ?_
 refine T2 (hK _ _ _ ?_)
 clear hK K
 refine aH (b := decide ((k : Int) < l[i].c)) rfl (fun hb => ?_) (fun hb => ?_)
 ·
  have hkc : k < l[i].c.toNat := by simp only [decide_eq_true_eq] at hb; omega
  have hkp := iD ht hi hkc
  have hik := (fT ht hi k hk).2.2
  have hvk := aZ7 ht (tr := tr) hi hkc
  rw [← hV] at hvk
  have hct := kR (l := V) (k := k) (by omega)
  have hw3 : IntKind.i64.wrap ((cnt (V.take k) : Int) + 1) = ((cnt (V.take k) + 1 : Nat) : Int) := by rw [bN _ (by omega)]; rfl
  clear hb
  refine aJ ?_
  refine T0 (hK _ _ _ ?_)
  clear hK K
  refine aB fun K hK => ?_
  refine aK ?_
  refine aB fun K hK => ?_
  refine aB fun K hK => Rg ?_
  have F := @oF
  iterate 3 refine SF ?_
  refine HS rfl rfl fun K' hK' => T6 ?_
  refine C3 (ih _ (by omega) hkp) ?_
  rintro u rfl
  refine AX (hK' _ _ ?_)
  clear hK' K'
  refine T2 (hK _ _ _ ?_)
  clear hK K
  refine aH (b := nB l tr (cJ l k (i + 1))) rfl (fun hb => ?_) (fun hb => ?_)
  ·
   rw [hvk] at hb
   rw [if_pos hb] at hct
   refine aL (by kernel_rfl) ?_
   refine TQ hw3 ?_
   refine AX (hK _ _ _ ?_)
   clear hK K
   refine Rg ?_
   iterate 2 refine S0 ?_
   refine HS rfl rfl fun K' hK' => T5 ?_
   refine C2 (oE l ht _ _ hkp (Nat.le_refl _)) ?_
   rintro u rfl
   refine AX (hK' _ _ ?_)
   clear hK' K'
   refine S0 ?_
   refine T2 (hK _ _ _ ?_)
   clear hK K
   refine aL (by kernel_rfl) ?_
   simp only [↓sP, sA, tyS, simprocAttr, bN ((k : Int) + 1) (by omega)]
   refine ⟨⟨k + 1, hkc⟩, aN (by omega) (by simp [bA, fin_at, finA_at, upd_at, HV.men, HV.menL, HV.norm, HV.toC, HV.toCL, hct, cK]) (by simp [aX, fob_at, upd_at, none0_at, bY, HO.men, HV.men, HV.menL, HV.norm, HV.toC, HV.toCL, hct, cK]), ?_⟩
   show l[i].c.toNat - (k + 1) < l[i].c.toNat - k
   omega
  rw [hvk] at hb
  rw [if_neg (by rw [hb]; simp)] at hct
  refine aJ ?_
  refine T0 (hK _ _ _ ?_)
  clear hK K
  refine Rg ?_
  iterate 2 refine S0 ?_
  refine HS rfl rfl fun K' hK' => T5 ?_
  refine C2 (oE l ht _ _ hkp (Nat.le_refl _)) ?_
  rintro u rfl
  refine AX (hK' _ _ ?_)
  clear hK' K'
  refine S0 ?_
  refine T2 (hK _ _ _ ?_)
  clear hK K
  refine aL (by kernel_rfl) ?_
  simp only [↓sP, sA, tyS, simprocAttr, bN ((k : Int) + 1) (by omega)]
  refine ⟨⟨k + 1, hkc⟩, aN (by omega) (by simp [bA, fin_at, finA_at, upd_at, HV.men, HV.menL, HV.norm, HV.toC, HV.toCL, hct, Nat.add_zero, cK]) (by simp [aX, fob_at, upd_at, none0_at, bY, HO.men, HV.men, HV.menL, HV.norm, HV.toC, HV.toCL, hct, Nat.add_zero, cK]), ?_⟩
  show l[i].c.toNat - (k + 1) < l[i].c.toNat - k
  omega
 refine aZ (T3 ?_)
 clear hK K
 refine AX (hK _ _ _ ?_)
 clear hK K
 refine aB fun K hK => ?_
 have hkc : k = l[i].c.toNat := by simp only [decide_eq_false_iff_not] at hb; omega
 subst hkc
 have hlen : (V.take l[i].c.toNat).length = l[i].c.toNat := by simp; omega
 clear hb
 refine R0 ?_
 refine aK ?_
 refine R0 ?_
 refine aH (b := (l[i].k == 2)) rfl (fun hb => ?_) (fun hb => ?_)
 ·
  refine aB fun K hK => Rg ?_
  iterate 5 refine S0 ?_
  refine T2 (hK _ _ _ ?_)
  clear hK K
  refine aF (RT Tryz.results48 ?_)
  have h2 : l[i].k = 2 := by simpa using hb
  exact aG [] (.bool _) rfl (by rw [hvi, iE, if_pos h2, hlen]; congr 1; rw [Bool.eq_iff_iff]; simp; omega)
 have h2 : l[i].k ≠ 2 := by simpa using hb
 refine R0 ?_
 refine aH (b := (l[i].k == 3)) rfl (fun hb => ?_) (fun hb => ?_)
 ·
  refine R0 ?_
  refine aF (RT Tryz.results48 ?_)
  have h3 : l[i].k = 3 := by simpa using hb
  exact aG [] (.bool _) rfl (by rw [hvi, iE, if_neg h2, if_pos h3]; congr 1; rw [Bool.eq_iff_iff]; simp; omega)
 refine aJ ?_
 refine T0 (hK _ _ _ ?_)
 clear hK K
 refine aB fun K hK => Rg ?_
 iterate 5 refine S0 ?_
 refine T2 (hK _ _ _ ?_)
 clear hK K
 refine aF (RT Tryz.results48 ?_)
 have h3 : l[i].k ≠ 3 := by simpa using hb
 exact aG [] (.bool _) rfl (by rw [hvi, iE, if_neg h2, if_neg h3])

theorem zF (l : List Nd) (ht : IsTree l) (tr : List Bool) (htr : tr.length < 2 ^ 63) : ∀ (f i : Nat), i < l.length → l.length - i ≤ f → bQ Tryz.prog 48 [.slc (l.map Nd.cv), .int .i64 i, .slc (tr.map bC)] (fun v => v = .bool (nB l tr i))
 | 0, i, h1, h2 => by omega
 | f + 1, i, h1, h2 => aK7 l ht tr htr i h1 fun j h3 h4 => zF l ht tr htr f j h4 (by omega)

theorem bL9 (l : List Nd) (ht : IsTree l) (tr : List Bool) (htr : tr.length < 2 ^ 63) : bQ Tryz.prog 48 [.slc (l.map Nd.cv), .int .i64 0, .slc (tr.map bC)] (fun v => v = .bool (nB l tr 0)) := zF l ht tr htr l.length 0 ht.ne (Nat.le_refl _)

theorem bM0 (l : List Nd) (hn : ∀ n ∈ l, n.q.t.length < 2 ^ 63) (tr : List Bool) (htr : tr.length < 2 ^ 63) : bQ Tryz.prog 21 [.slc (l.map Nd.cv), .slc (tr.map bC)] (fun v => v = .bool (oT l tr)) := by
 refine FW Tryz.func21 ?_
 refine R0 ?_
 refine aB fun K hK => Rg ?_
 have F := @oF
 refine SF ?_
 refine HS rfl rfl fun K' hK' => T6 ?_
 refine C1 (qU l hn) ?_
 rintro u rfl
 refine AX (hK' _ _ ?_)
 clear hK' K'
 refine SF ?_
 refine aD 6 rfl (fun h1_6 => ?_) (fun h1_6 => ?_)
 ·
  have F := aI @oF h1_6
  iterate 2 refine SF ?_
  refine aU (g := some (7, true)) rfl rfl fun K' hK' => T6 ?_
  refine C3 (bL9 l (fH h1_6) tr htr) ?_
  rintro u rfl
  refine AX (hK' _ _ ?_)
  clear hK' K'
  iterate 2 refine SF ?_
  refine T2 (hK _ _ _ ?_)
  clear hK K
  refine aF (RT Tryz.results21 ?_)
  exact aG [] (.bool _) rfl (by rw [oT, h1_6]; rfl)
 have F := aI @oF h1_6
 iterate 5 refine SF ?_
 refine T2 (hK _ _ _ ?_)
 clear hK K
 refine aF (RT Tryz.results21 ?_)
 exact aG [] (.bool false) rfl (by rw [oT, h1_6]; rfl)

end Go.Proofs.YtlldglbooaefhaaGreatDoor

namespace Go.Proofs.YtlldglbooaefhaaGreatDoor
open Go Go.Hl Go.Pl

theorem kI {α : Type} {f : α → CV} {Q : α → Prop} : ∀ (l : List CV), (∀ x ∈ l, ∃ y, x = f y ∧ Q y) → ∃ m : List α, l = m.map f ∧ ∀ y ∈ m, Q y
 | [], _ => ⟨[], rfl, by simp⟩
 | x :: l, h => by
  obtain ⟨y, rfl, hy⟩ := h x (by simp)
  obtain ⟨m, rfl, hm⟩ := kI l (fun x hx => h x (by simp [hx]))
  exact ⟨y :: m, rfl, fun z hz => by rcases List.mem_cons.1 hz with rfl | hz; exact hy; exact hm z hz⟩
theorem bT5 {c : CV} (h : HasTy Tryz.prog 23 c) : ∃ L : List Int, c = .slc (L.map (.int .i64)) ∧ (∀ n ∈ L, (Lit.int .i64 n).wf = true) ∧ L.length ≤ maxLen := by
 obtain ⟨l, rfl, hl, hn⟩ := h.of_slc Tryz.underlying23
 obtain ⟨m, rfl, hm⟩ := kI (f := CV.int .i64) (Q := fun n => (Lit.int .i64 n).wf = true) l (fun x hx => (hl x hx).of_int Tryz.underlying3)
 exact ⟨m, rfl, hm, by simpa using hn⟩
theorem bM1 {c : CV} (h : HasTy Tryz.prog 24 c) : ∃ L : List Bool, c = .slc (L.map bC) ∧ L.length ≤ maxLen := by
 obtain ⟨l, rfl, hl, hn⟩ := h.of_slc Tryz.underlying24
 obtain ⟨m, rfl, _⟩ := kI (f := bC) (Q := fun _ => True) l (fun x hx => by obtain ⟨b, rfl⟩ := (hl x hx).of_bool Tryz.underlying4; exact ⟨b, rfl, trivial⟩)
 exact ⟨m, rfl, by simpa using hn⟩
theorem cE3 {c : CV} (h : HasTy Tryz.prog 38 c) : ∃ q : Rq, c = q.cv ∧ q.t.length ≤ maxLen := by
 obtain ⟨l, rfl, hn, hl⟩ := h.of_struct Tryz.underlying38
 match l, hn, hl with
 | [a, b, c, d], _, hl =>
  obtain ⟨k, rfl, _⟩ := (hl 0 _ a rfl rfl).of_int Tryz.underlying3
  obtain ⟨n, rfl, _⟩ := (hl 1 _ b rfl rfl).of_int Tryz.underlying2
  obtain ⟨m, rfl, _⟩ := (hl 2 _ c rfl rfl).of_int Tryz.underlying2
  obtain ⟨w, rfl, hw⟩ := (hl 3 _ d rfl rfl).of_str Tryz.underlying9
  exact ⟨⟨k, n, m, w⟩, rfl, hw⟩
theorem cE4 {c : CV} (h : HasTy Tryz.prog 40 c) : ∃ n : Nd, c = n.cv ∧ n.q.t.length ≤ maxLen := by
 obtain ⟨l, rfl, hn, hl⟩ := h.of_struct Tryz.underlying40
 match l, hn, hl with
 | [a, b, c, d], _, hl =>
  obtain ⟨k, rfl, _⟩ := (hl 0 _ a rfl rfl).of_int Tryz.underlying3
  obtain ⟨n, rfl, _⟩ := (hl 1 _ b rfl rfl).of_int Tryz.underlying3
  obtain ⟨m, rfl, _⟩ := (hl 2 _ c rfl rfl).of_int Tryz.underlying3
  obtain ⟨q, rfl, hw⟩ := cE3 (hl 3 _ d rfl rfl)
  exact ⟨⟨k, n, m, q⟩, rfl, hw⟩
theorem bZ6 {c : CV} (h : HasTy Tryz.prog 22 c) : ∃ l : List Nd, c = .slc (l.map Nd.cv) ∧ (∀ n ∈ l, n.q.t.length ≤ maxLen) ∧ l.length ≤ maxLen := by
 obtain ⟨l, rfl, hl, hn⟩ := h.of_slc Tryz.underlying22
 obtain ⟨m, rfl, hm⟩ := kI (f := Nd.cv) (Q := fun n => n.q.t.length ≤ maxLen) l (fun x hx => cE4 (hl x hx))
 exact ⟨m, rfl, hm, by simpa using hn⟩
theorem own : ownKnob Tryz.prog.godebug = none := by kernel_rfl
theorem kids : Kids Tryz.prog (· < Tryz.prog.types.size) := kids_rows (by kernel_rfl) (by kernel_rfl)
theorem aQ4 : ∀ t e, t < Tryz.prog.types.size → Tryz.prog.underlying t = some (.slice e) → 0 < Tryz.prog.cellsOf e := slices_full_of Tryz.prog (by kernel_rfl)
end Go.Proofs.YtlldglbooaefhaaGreatDoor

namespace Go.Proofs.YtlldglbooaefhaaGreatDoor
open Go Go.Hl Go.Pl
set_option maxRecDepth 10000
set_option maxHeartbeats 16000000

def tp (L : List Int) (a : Nat) : CV := .agg [.slc (L.map (.int .i64)), .int .i64 a]
attribute [local simp] tp

theorem fM (L : List Int) (a : Nat) (n : Int) (ha : a < 2 ^ 40) (hn : n < 2 ^ 40) : aX2 Tryz.prog 36 83 (tp L a) [.int .i64 n] (fun u v' => ∃ (x : Int) (a' : Nat), u = .int .i64 x ∧ v' = tp L a' ∧ a' ≤ a + 1 ∧ 0 ≤ x ∧ (n < 1 → x = 0) ∧ (1 ≤ n → x < n)) := by
 refine bU Tryz.func36 rfl (by kernel_rfl) (cY _ _ _) (Nat.le_of_ble_eq_true rfl) ?_
 refine R0 ?_
 refine aB fun K hK => ?_
 refine R0 ?_
 refine aH (b := decide (n < 1)) rfl (fun hb => ?_) (fun hb => ?_)
 ·
  refine R0 ?_
  refine aF (RT Tryz.results36 ?_)
  refine fG [] (.int .i64 0) (tp L a) rfl rfl ?_ (by simp) ⟨0, a, rfl, rfl, by omega, by omega, fun _ => rfl, fun h => by omega⟩
  simp [HV.close, tp, CV.denil, CV.denilL, denilL_int, HV.norm, HV.toC]
 refine aJ ?_
 refine T0 (hK _ _ _ ?_)
 clear hK K
 refine aB fun K hK => Rg ?_
 iterate 7 refine S0 ?_ (e := fun _ h_ => by simp only [sH, ↓sP, sA, tyS, simprocAttr, tp]; exact AX h_)
 refine T2 (hK _ _ _ ?_)
 clear hK K
 refine aB fun K hK => ?_
 have key : ∀ (v : Int) fr ob nx, Fits 1 fr ob (fin [(0, .ptr 0 0), (1, .c (.int .i64 n)), (5, .c (.int .i64 v))]) (fob [(0, .box 83 (.c (tp L a)))]) 300 → K fr ob nx := by
  intro v fr ob nx hf
  refine hK _ _ _ (bS hf ?_)
  clear hf hK K
  have hn1 : 1 ≤ n := by simp at hb; omega
  have e0 := Int.tmod_lt_of_pos v (b := n) (by omega)
  have e1 : -n < v.tmod n := Int.lt_tmod_of_pos v (by omega)
  refine aB fun K hK => Rg ?_
  iterate 8 refine S0 ?_ (e := fun _ h_ => by simp only [sH, ↓sP, sA, tyS, simprocAttr, tp]; exact AX h_)
  refine T2 (hK _ _ _ ?_)
  clear hK K
  refine aB fun K hK => Rg ?_
  iterate 8 refine S0 ?_ (e := fun _ h_ => by simp only [sH, ↓sP, sA, tyS, simprocAttr, tp]; exact AX h_)
  refine T2 (hK _ _ _ ?_)
  clear hK K
  refine aF (RT Tryz.results36 ?_)
  have e2 : IntKind.i64.wrap (v.tmod n + n) = v.tmod n + n := IntWalk.i64_in _ (by omega)
  have e3 : IntKind.i64.wrap ((a : Int) + 1) = ((a + 1 : Nat) : Int) := IntWalk.i64_in _ (by omega)
  refine fG [] (.int .i64 ((v.tmod n + n).tmod n)) (tp L (a + 1)) (by rw [e2]; rfl) rfl ?_ (by simp) ⟨_, a + 1, rfl, rfl, by omega, Int.tmod_nonneg _ (by omega), fun h => by omega, fun _ => Int.tmod_lt_of_pos _ (by omega)⟩
  simp [HV.close, HV.closeL, tp, CV.denil, CV.denilL, denilL_int, HV.norm, HV.toC, HV.toCL, e3]
 refine aB fun K hK => QR ?_
 iterate 10 refine S0 ?_ (e := fun _ h_ => by simp only [sH, ↓sP, sA, tyS, simprocAttr, tp]; exact AX h_)
 refine T2 (hK _ _ _ ?_)
 clear hK K
 refine aH (b := decide ((a : Int) < L.length)) rfl (fun hb => ?_) (fun hb => ?_)
 ·
  refine QW ?_
  simp only [sR, simprocAttr]
  iterate 11 refine S0 ?_ (e := fun _ h_ => by simp only [sH, ↓sP, sA, tyS, simprocAttr, tp, Int.natCast_nonneg, (by simpa using hb : (a : Int) < L.length), bB (show a < L.length by simpa using hb)]; exact AX h_)
  refine T4 ?_
  exact key (L[a]'(by simpa using hb)) _ _ _ (fF)
 refine aJ (T3 ?_)
 exact key (IntKind.i64.wrap (IntKind.i64.wrap (↑a * 7) + 3)) _ _ _ (fF)


theorem bT6 (L : List Int) (a : Nat) (l : List aE) (ha : a < 2 ^ 40) (hl : 1 ≤ l.length ∧ l.length < 2 ^ 40) : aX2 Tryz.prog 35 83 (tp L a) [.slc (l.map .str)] (fun u v' => ∃ (w : aE) (a' : Nat), u = .str w ∧ w ∈ l ∧ v' = tp L a' ∧ a' ≤ a + 1) := by
 refine bU Tryz.func35 rfl (by kernel_rfl) (cY _ _ _) (Nat.le_of_ble_eq_true rfl) ?_
 refine R0 ?_
 refine aB fun K hK => aL (by kernel_rfl) ?_
 simp only [↓sP, sA, tyS, simprocAttr]
 refine bZ (args := [_]) (fM L a l.length ha (by omega)) rfl (by simp) ⟨rfl, rfl, rfl, rfl⟩ ?_
 rintro u v' ⟨x, a', rfl, rfl, h1, h2, h3, h4⟩
 obtain ⟨i, rfl⟩ : ∃ i : Nat, x = i := ⟨x.toNat, by omega⟩
 have hlt : i < l.length := by omega
 simp only [↓sP, sA, tyS, simprocAttr, Int.natCast_nonneg, Int.ofNat_lt, hlt, bB hlt]
 refine AX (hK _ _ _ ?_)
 clear hK K
 refine aF (RT Tryz.results35 ?_)
 exact fG [] (.str l[i]) (tp L a') rfl rfl (by simp [HV.close, HV.closeL, tp, CV.denil, CV.denilL, denilL_int, HV.norm, HV.toC, HV.toCL]) (by simp) ⟨_, a', rfl, List.getElem_mem _, rfl, h1⟩


end Go.Proofs.YtlldglbooaefhaaGreatDoor

namespace Go.Proofs.YtlldglbooaefhaaGreatDoor
open Go Go.Hl Go.Pl
set_option maxRecDepth 10000
set_option maxHeartbeats 16000000

theorem bT7 (L : List Int) (n : Nat) : HGe Tryz.prog 24 [.c (.slc (L.map (.int .i64))), .c (.int .i64 n)] [] (fun r os' => r = .ptr 0 0 ∧ os' = [.box 83 (.c (tp (L.take n) 0))]) := by
 refine bU (args := [.c (.slc (L.map (.int .i64))), .c (.int .i64 n)]) Tryz.func24 rfl (by kernel_rfl) (iB rfl (by simp [fX]) (by simp [HV.menL, HV.men])) (Nat.le_of_ble_eq_true rfl) ?_
 show Hw _ _ 0 _ _ _ (lst _) 0
 rw [show lst [] = fob [] from by funext i; simp [lst, fob]]
 refine R0 ?_
 refine aB fun K hK => Rg ?_
 have F := @denilL_int
 iterate 9 refine SF ?_
 refine T2 (hK _ _ _ ?_)
 clear hK K
 refine aF (RT Tryz.results24 ?_)
 refine eI [] [32] (.ptr 0 0) [.box 83 (.c (tp (L.take n) 0))] rfl (by simp [HV.men]) ⟨⟨by simp [HO.men, HV.men], by simp, _, rfl, ?_⟩, trivial⟩ rfl (by simp) (by simp) (by simp) ⟨rfl, rfl⟩
 simp [HO.close, HV.close, HV.closeL, HO.ren, HV.ren, HV.renL, tau, CV.denil, CV.denilL, denilL_int, HV.norm, gC, upd_at, fob_at, HV.toC, HV.toCL, tp]
 have e : (if n < L.length then (n : Int) else (L.length : Int)).toNat = min n L.length := by split <;> omega
 rw [e, ← List.map_take, ← List.map_take, denilL_int, ← List.take_eq_take_min]


theorem bT8 (L : List Int) (a : Nat) (ha : a < 2 ^ 39) : aX2 Tryz.prog 41 83 (tp L a) [] (fun u v' => ∃ (q : Rq) (a' : Nat), u = q.cv ∧ v' = tp L a' ∧ a' ≤ a + 3 ∧ dB q = true) := by
 refine bU Tryz.func41 rfl (by kernel_rfl) (cY _ _ _) (Nat.le_of_ble_eq_true rfl) ?_
 have hw3 : ∀ x : Int, 0 ≤ x → x < 100 → IntKind.i64.wrap (1 + x) = 1 + x := fun x h1 h2 => IntWalk.i64_in _ (by omega)
 refine R0 ?_
 refine aB fun K hK => Rg ?_
 refine S0 ?_
 refine HS rfl rfl fun K' hK' => T5 ?_
 refine bZ (args := [_]) (fM L a 8 (by omega) (by omega)) rfl (by simp) ⟨rfl, rfl, rfl, rfl⟩ ?_
 rintro u v' ⟨x, a1, rfl, rfl, h1, h2, h3, h4⟩
 refine AX (hK' _ _ ?_)
 clear hK' K'
 iterate 4 refine S0 ?_
 refine T2 (hK _ _ _ ?_)
 clear hK K
 refine aB fun K hK => ?_
 have key : ∀ (q : Rq) (a' : Nat) fr ob nx, dB q = true → a' ≤ a + 3 → Fits 1 fr ob (fin [(2, .ptr 1 0), (3, .ptr 21 0)]) (fob [(0, .box 83 (.c (tp L a'))), (1, .box 38 (.c rq0.cv)), (21, .box 38 (.c q.cv))]) 600 → K fr ob nx := by
  rintro q a' fr ob nx hq ha' hf
  refine hK _ _ _ (bS hf ?_)
  clear hf hK K
  refine R0 ?_
  refine aF (RT Tryz.results41 ?_)
  exact fG [] q.cv (tp L a') (by simp [HV.close, Rq.denil, HV.norm, HV.toC]) rfl (by simp [HV.close, tp, CV.denil, CV.denilL, denilL_int, HV.norm, HV.toC]) (by simp) ⟨q, a', rfl, rfl, ha', hq⟩
 have hx8 := h4 (by omega)
 obtain ⟨k, hk⟩ : ∃ k, k = IntKind.i64.wrap (1 + x) := ⟨_, rfl⟩
 have hkx : k = 1 + x := by rw [hk, hw3 x h2 (by omega)]
 rw [← hk]
 clear hk h3 h4
 refine R0 ?_
 refine aK ?_
 refine aB fun K hK => ?_
 have key2 : ∀ (b : Bool) fr ob nx, b = (k == 1 || (k == 3 || k == 5)) → Fits 1 fr ob (fin [(0, .ptr 0 0), (2, .ptr 1 0), (3, .ptr 21 0), (9, .c (.int .i64 k)), (10, .c (.bool b))]) (fob [(0, .box 83 (.c (tp L a1))), (1, .box 38 (.c rq0.cv)), (21, .box 38 (.c (Rq.cv ⟨k, 0, 0, []⟩)))]) 200 → K fr ob nx := by
  rintro b fr ob nx rfl hf
  refine hK _ _ _ (bS hf ?_)
  clear hf hK K
  refine aH (b := _) rfl (fun hb => ?_) (fun hb => ?_)
  ·
   refine Rg ?_
   refine S0 ?_
   refine HS rfl rfl fun K' hK' => T5 ?_
   refine bZ (args := [_]) (fM L a1 3 (by omega) (by omega)) rfl (by simp) ⟨rfl, rfl, rfl, rfl⟩ ?_
   rintro u v' ⟨y, a2, rfl, rfl, g1, g2, g3, g4⟩
   refine AX (hK' _ _ ?_)
   clear hK' K'
   iterate 3 refine S0 ?_
   refine T4 ?_
   have g5 := g4 (by omega)
   have hk3 : k = 1 ∨ k = 3 ∨ k = 5 := by simpa using hb
   exact key ⟨k, IntKind.i64.wrap (1 + y), 0, []⟩ a2 _ _ _ (by rw [hw3 y g2 (by omega), dB, if_pos hk3]; simp [inB]; omega) (by omega) (fF)
  have h1 := hb
  refine R0 ?_
  refine aH (b := _) rfl (fun hb => ?_) (fun hb => ?_)
  ·
   refine Rg ?_
   refine S0 ?_
   refine HS rfl rfl fun K' hK' => T5 ?_
   refine bZ (args := [_]) (fM L a1 2 (by omega) (by omega)) rfl (by simp) ⟨rfl, rfl, rfl, rfl⟩ ?_
   rintro u v' ⟨y, a2, rfl, rfl, g1, g2, g3, g4⟩
   have g5 := g4 (by omega)
   clear g3 g4
   refine AX (hK' _ _ ?_)
   clear hK' K'
   iterate 2 refine S0 ?_
   refine HS rfl rfl fun K' hK' => T5 ?_
   refine bZ (args := [_]) (fM L a2 2 (by omega) (by omega)) rfl (by simp) ⟨rfl, rfl, rfl, rfl⟩ ?_
   rintro u v' ⟨z, a3, rfl, rfl, f1, f2, f3, f4⟩
   refine AX (hK' _ _ ?_)
   clear hK' K'
   iterate 4 refine S0 ?_
   refine T4 ?_
   have n1 : ¬ (k = 1 ∨ k = 3 ∨ k = 5) := by simpa using h1
   have f5 := f4 (by omega)
   have hk4 : k = 4 := by simpa using hb
   exact key ⟨k, IntKind.i64.wrap (1 + y), z, []⟩ a3 _ _ _ (by rw [hw3 y g2 (by omega), dB, if_neg n1, if_pos hk4]; simp [inB]; omega) (by omega) (fF)
  have n4 : ¬ k = 4 := by simpa using hb
  refine R0 ?_
  refine aH (b := _) rfl (fun hb => ?_) (fun hb => ?_)
  ·
   refine bG (by kernel_rfl) ?_
   simp only [sR, simprocAttr]
   refine SG0 ?_
   refine cV (g := none) 220 rfl rfl fun K' hK' => ?_
   simp only [gZ, kX, sH, ↓sP, sA, tyS, simprocAttr]
   repeat refine AI ?_
   refine dJ (by first | rfl | simp) ?_
   try simp only [sH, ↓sP, sA, tyS, simprocAttr]
   refine AX (hK' _ _ ?_)
   clear hK' K'
   refine bJ (g := none) rfl rfl fun K' hK' => T5 ?_
   refine bZ (args := [_]) (bT6 L a1 [[115, 104, 111, 112], [119, 101, 98]] (by omega) (by decide)) rfl (by simp) ⟨rfl, rfl, rfl, rfl⟩ ?_
   rintro u v' ⟨w, a2, rfl, hwm, rfl, g1⟩
   refine AX (hK' _ _ ?_)
   clear hK' K'
   iterate 2 refine SG0 ?_
   refine T4 ?_
   have n1 : ¬ (k = 1 ∨ k = 3 ∨ k = 5) := by simpa using h1
   have hk2 : k = 2 := by simpa using hb
   exact key ⟨k, 0, 0, w⟩ a2 _ _ _ (by
    have hnm : dN w = true := by
     simp only [List.mem_cons, List.not_mem_nil, or_false] at hwm
     rcases hwm with rfl | rfl <;> decide
    rw [dB, if_neg n1, if_neg n4, if_pos hk2, hnm]; rfl) (by omega) (fF)
  have n2 : ¬ k = 2 := by simpa using hb
  refine R0 ?_
  refine aH (b := _) rfl (fun hb => ?_) (fun hb => ?_)
  ·
   refine Rg ?_
   refine S0 ?_
   refine HS rfl rfl fun K' hK' => T5 ?_
   refine bZ (args := [_]) (fM L a1 10 (by omega) (by omega)) rfl (by simp) ⟨rfl, rfl, rfl, rfl⟩ ?_
   rintro u v' ⟨y, a2, rfl, rfl, g1, g2, g3, g4⟩
   refine AX (hK' _ _ ?_)
   clear hK' K'
   iterate 3 refine S0 ?_
   refine T4 ?_
   have n1 : ¬ (k = 1 ∨ k = 3 ∨ k = 5) := by simpa using h1
   have g5 := g4 (by omega)
   have hk6 : k = 6 := by simpa using hb
   exact key ⟨k, IntKind.i64.wrap (1 + y), 0, []⟩ a2 _ _ _ (by rw [hw3 y g2 (by omega), dB, if_neg n1, if_neg n4, if_neg n2, if_pos hk6]; simp [inB]; omega) (by omega) (fF)
  have n6 : ¬ k = 6 := by simpa using hb
  refine R0 ?_
  refine aH (b := _) rfl (fun hb => ?_) (fun hb => ?_)
  ·
   refine Rg ?_
   refine S0 ?_
   refine HS rfl rfl fun K' hK' => T5 ?_
   refine bZ (args := [_]) (fM L a1 30 (by omega) (by omega)) rfl (by simp) ⟨rfl, rfl, rfl, rfl⟩ ?_
   rintro u v' ⟨y, a2, rfl, rfl, g1, g2, g3, g4⟩
   refine AX (hK' _ _ ?_)
   clear hK' K'
   iterate 2 refine S0 ?_
   refine T4 ?_
   have n1 : ¬ (k = 1 ∨ k = 3 ∨ k = 5) := by simpa using h1
   have g5 := g4 (by omega)
   have hk7 : k = 7 := by simpa using hb
   exact key ⟨k, y, 0, []⟩ a2 _ _ _ (by rw [dB, if_neg n1, if_neg n4, if_neg n2, if_neg n6, if_pos hk7, iF]; simp [inB]; omega) (by omega) (fF)
  refine aJ (T3 ?_)
  have n1 : ¬ (k = 1 ∨ k = 3 ∨ k = 5) := by simpa using h1
  have n7 : ¬ k = 7 := by simpa using hb
  have hk8 : k = 8 := by omega
  exact key ⟨k, 0, 0, []⟩ a1 _ _ _ (by rw [dB, if_neg n1, if_neg n4, if_neg n2, if_neg n6, if_neg n7, if_pos hk8]; rfl) (by omega) (fF)
 refine R0 ?_
 refine aH (b := _) rfl (fun hb => ?_) (fun hb => ?_)
 ·
  refine aJ (T3 ?_)
  exact key2 (k == 1) _ _ _ (by rw [hb]; rfl) (aN (by omega) (by simp [bA, fin_at, finA_at, upd_at, HV.men, HV.menL, HV.norm, HV.toC, HV.toCL, Rq.cv, rq0]) (by simp [aX, fob_at, upd_at, none0_at, bY, HO.men, HV.men, HV.menL, HV.norm, HV.toC, HV.toCL, Rq.cv, rq0]))
 have h1 := hb
 refine R0 ?_
 refine aH (b := _) rfl (fun hb => ?_) (fun hb => ?_)
 ·
  refine aJ (T3 ?_)
  exact key2 (k == 3) _ _ _ (by rw [h1, hb]; rfl) (aN (by omega) (by simp [bA, fin_at, finA_at, upd_at, HV.men, HV.menL, HV.norm, HV.toC, HV.toCL, Rq.cv, rq0]) (by simp [aX, fob_at, upd_at, none0_at, bY, HO.men, HV.men, HV.menL, HV.norm, HV.toC, HV.toCL, Rq.cv, rq0]))
 have h1' := hb
 refine aL (by kernel_rfl) ?_
 simp only [↓sP, sA, tyS, simprocAttr]
 exact key2 (k == 5) _ _ _ (by rw [h1, h1']; rfl) (aN (by omega) (by simp [bA, fin_at, finA_at, upd_at, HV.men, HV.menL, HV.norm, HV.toC, HV.toCL, Rq.cv, rq0]) (by simp [aX, fob_at, upd_at, none0_at, bY, HO.men, HV.men, HV.menL, HV.norm, HV.toC, HV.toCL, Rq.cv, rq0]))

end Go.Proofs.YtlldglbooaefhaaGreatDoor

namespace Go.Proofs.YtlldglbooaefhaaGreatDoor
open Go Go.Hl Go.Pl
set_option maxRecDepth 10000
set_option maxHeartbeats 16000000

def ShN (T : List Nd) : Prop := ∀ n ∈ T, n.q.t.length < 2 ^ 63
theorem ShN.set {T : List Nd} (h : ShN T) (i : Nat) {x : Nd} (hx : x.q.t.length < 2 ^ 63) : ShN (T.set i x) := fun n hn => by
 rcases List.mem_or_eq_of_mem_set hn with h1 | rfl
 ·
  exact h n h1
 exact hx
theorem bM2 (n : Nat) : HV.ren (sub [] n) (.ptr 0 0) = .ptr n 0 := by simp [HV.ren, sub]
theorem bB4 (n : Nat) (ob : Ob) (t : TypeId) (v : CV) : lO (sub [] n) ob 0 [.box t (.c v)] = upd ob n (some (.box t (.c v))) := by simp [lO, sub, HO.ren, HV.ren]
theorem bM3 {q : Rq} (h : dB q = true) : q.t.length < 2 ^ 63 := by
 unfold dB at h
 repeat' split at h
 all_goals first
  | cases h; done
  | (simp only [Bool.and_eq_true, beq_iff_eq] at h; have := h.2.2; rw [this]; simp; done)
  | (simp only [Bool.and_eq_true] at h; exact Nat.lt_of_le_of_lt (bJ9 h.1).2 (by decide))
theorem bB5 (l : List Nd) : (∀ v ∈ l.map Nd.cv, v.cells = 7) = True := by
 simp only [eq_iff_iff, iff_true]
 intro v hv
 obtain ⟨x, _, rfl⟩ := List.mem_map.1 hv
 exact x.cells
theorem eS (T : List Nd) (i : Nat) (x : Nd) : (List.map Nd.cv T).set i x.cv = List.map Nd.cv (T.set i x) := by rw [List.map_set]
theorem dW (T : List Nd) (i : Nat) (x y : Nd) : (T.set i x).set i y = T.set i y := by rw [List.set_set]
theorem eT {T : List Nd} {i : Nat} (hi : i < T.length) (x : Nd) : nth (List.map Nd.cv (T.set i x)) i = x.cv := by
 rw [bB (by simpa using hi)]; simp
theorem iK {T : List Nd} {i : Nat} (hi : i < T.length) (x : Nd) : (T.set i x = []) = False := by
 simp only [eq_iff_iff, iff_false]
 intro h
 have := congrArg List.length h
 rw [List.length_set, List.length_nil] at this
 omega
theorem eU {T : List Nd} {i : Nat} (hi : i < T.length) : (T = []) = False := by
 simp only [eq_iff_iff, iff_false]
 intro h
 rw [h] at hi; cases hi

theorem bZ7 (l : List Nd) (hl : ShN l) (L : List Int) : bQ Tryz.prog 12 [.slc (l.map Nd.cv), .slc (L.map (.int .i64))] (fun v => ∃ T : List Nd, v = .slc (T.map Nd.cv) ∧ T.length ≤ 70 ∧ ShN T) := by
 refine FW Tryz.func12 ?_
 refine R0 ?_
 refine aB fun K hK => Rg ?_
 have F := @denilL_int
 refine SF ?_
 refine HS rfl rfl fun K' hK' => T6 ?_
 refine kC [] (bT7 L 60) rfl trivial (by simp) (by simp) ⟨rfl, rfl, rfl, rfl⟩ (by simp [fX]) (by simp [HV.menL, HV.men]) ?_
 rintro r os' ⟨rfl, rfl⟩
 rw [bM2, bB4]
 refine AX (hK' _ _ ?_)
 clear hK' K'
 refine SF ?_
 refine T2 (hK _ _ _ ?_)
 clear hK K
 obtain ⟨m, hm⟩ : ∃ m, m = min 70 l.length := ⟨_, rfl⟩
 have hm1 : m ≤ 70 := by omega
 have hm2 : m ≤ l.length := by omega
 have e : (if (70 : Int) < (l.length : Int) then (70 : Int) else (l.length : Int)) = (m : Int) := by split <;> omega
 refine aB fun K hK => Rg ?_
 iterate 7 refine S0 ?_ (e := fun _ h_ => by simp only [sH, ↓sP, sA, tyS, simprocAttr, e, bB5, Int.natCast_nonneg, Int.ofNat_le, hm2, Int.toNat_natCast, Nat.sub_zero, List.drop_zero, denilL_Nd, ← List.map_take, List.length_map]; exact AX h_)
 refine T2 (hK _ _ _ ?_)
 clear hK K
 refine aB fun K hK => ?_
 have hTl : (l.take m).length = m := by simp; omega
 have hT0 : ShN (l.take m) := fun n hn => hl n (List.mem_of_mem_take hn)
 refine R0 ?_
 refine aK ?_
 refine bE (α := {y : List Nd × Nat × Nat // y.1.length = m ∧ y.2.1 ≤ m ∧ y.2.2 ≤ 20 * y.2.1 ∧ ShN y.1}) (fun y => (fin [(5, .ptr 8 0), (6, .own 36 y.1.1.length), (7, .c (.int .i64 y.1.2.1))], fob [(8, .box 83 (.c (tp (L.take 60) y.1.2.2))), (36, .row 40 7 (y.1.1.map Nd.cv))])) 2000 (fun y => m - y.1.2.1) ⟨(l.take m, 0, 0), hTl, Nat.zero_le _, Nat.zero_le _, hT0⟩ (aN (by omega) (by simp [bA, fin_at, finA_at, upd_at, HV.men, HV.menL, HV.norm, HV.toC, HV.toCL, ← List.map_take]) (by simp [aX, fob_at, upd_at, none0_at, bY, HO.men, HV.men, HV.menL, HV.norm, HV.toC, HV.toCL, ← List.map_take])) ?_
 rintro ⟨⟨T, i, a⟩, g1, g2, g3, g4⟩
 simp only at g1 g2 g3 g4
 refine aB fun K hK => ?_
 refine aB fun K hK => Rg ?_
 iterate 4 refine S0 ?_
 refine T2 (hK _ _ _ ?_)
 clear hK K
 refine aH (b := decide ((i : Int) < T.length)) rfl (fun hb => ?_) (fun hb => ?_)
 ·
  have hlt : i < T.length := by simpa using hb
  clear hb
  refine aJ ?_
  refine T0 (hK _ _ _ ?_)
  clear hK K
  refine aB fun K hK => ?_
  have key : ∀ (T' : List Nd) (a' : Nat) fr ob nx, T'.length = m → a' ≤ 20 * (i + 1) → ShN T' → Fits 0 fr ob (fin [(5, .ptr 8 0), (6, .own 36 T'.length), (7, .c (.int .i64 i))]) (fob [(8, .box 83 (.c (tp (L.take 60) a'))), (36, .row 40 7 (T'.map Nd.cv))]) 3000 → K fr ob nx := by
   rintro T' a' fr ob nx k1 k2 k3 hf
   refine hK _ _ _ (bS hf ?_)
   clear hf hK K
   refine Rg ?_
   have F := IntWalk.i64_in ((i : Int) + 1) (by omega)
   iterate 3 refine SF ?_
   refine T4 ?_
   refine ⟨⟨(T', i + 1, a'), k1, by simp only; omega, k2, k3⟩, fF, ?_⟩
   show m - (i + 1) < m - i
   omega
  refine aK ?_
  refine aB fun K hK => Rg ?_
  refine S0 ?_
  refine HS rfl rfl fun K' hK' => T5 ?_
  refine bZ (args := [_]) (fM (L.take 60) a 2 (by omega) (by omega)) rfl (by simp) ⟨rfl, rfl, rfl, rfl⟩ ?_
  rintro u v' ⟨x, a1, rfl, rfl, p1, p2, p3, p4⟩
  refine AX (hK' _ _ ?_)
  clear hK' K'
  refine S0 ?_
  refine T2 (hK _ _ _ ?_)
  clear hK K
  refine aH (b := _) rfl (fun hb => ?_) (fun hb => ?_)
  ·
   refine aB fun K hK => Rg ?_
   iterate 9 refine S0 ?_ (e := fun _ h_ => by simp only [sH, ↓sP, sA, tyS, simprocAttr, Int.natCast_nonneg, Int.ofNat_lt, hlt, bB hlt, eS, dW, eT hlt, iK hlt, eU hlt, List.length_set, List.length_map, List.map_eq_nil_iff]; exact AX h_)
   refine HS rfl rfl fun K' hK' => ?_
   simp only [sH, ↓sP, sA, tyS, simprocAttr, Int.natCast_nonneg, Int.ofNat_lt, hlt, bB hlt, eS, dW, eT hlt, iK hlt, eU hlt, List.length_set, List.length_map, List.map_eq_nil_iff]
   refine bZ (args := [_]) (fM (L.take 60) a1 4 (by omega) (by omega)) rfl (by simp) ⟨rfl, rfl, rfl, rfl⟩ ?_
   rintro u v' ⟨x2, a2, rfl, rfl, q1, q2, q3, q4⟩
   refine AX (hK' _ _ ?_)
   clear hK' K'
   iterate 2 refine S0 ?_ (e := fun _ h_ => by simp only [sH, ↓sP, sA, tyS, simprocAttr, Int.natCast_nonneg, Int.ofNat_lt, hlt, bB hlt, eS, dW, eT hlt, iK hlt, eU hlt, List.length_set, List.length_map, List.map_eq_nil_iff]; exact AX h_)
   refine HS rfl rfl fun K' hK' => ?_
   simp only [sH, ↓sP, sA, tyS, simprocAttr, Int.natCast_nonneg, Int.ofNat_lt, hlt, bB hlt, eS, dW, eT hlt, iK hlt, eU hlt, List.length_set, List.length_map, List.map_eq_nil_iff]
   refine bZ (args := [_]) (fM (L.take 60) a2 3 (by omega) (by omega)) rfl (by simp) ⟨rfl, rfl, rfl, rfl⟩ ?_
   rintro u v' ⟨x3, a3, rfl, rfl, r1, r2, r3, r4⟩
   refine AX (hK' _ _ ?_)
   clear hK' K'
   iterate 13 refine S0 ?_ (e := fun _ h_ => by simp only [sH, ↓sP, sA, tyS, simprocAttr, Int.natCast_nonneg, Int.ofNat_lt, hlt, bB hlt, eS, dW, eT hlt, iK hlt, eU hlt, List.length_set, List.length_map, List.map_eq_nil_iff]; exact AX h_)
   refine T2 (hK _ _ _ ?_)
   clear hK K
   refine aB fun K hK => ?_
   refine aB fun K hK => Rg ?_
   iterate 6 refine S0 ?_ (e := fun _ h_ => by simp only [sH, ↓sP, sA, tyS, simprocAttr, Int.natCast_nonneg, Int.ofNat_lt, hlt, bB hlt, eS, dW, eT hlt, iK hlt, eU hlt, List.length_set, List.length_map, List.map_eq_nil_iff]; exact AX h_)
   refine T2 (hK _ _ _ ?_)
   clear hK K
   refine aH (b := _) rfl (fun hb => ?_) (fun hb => ?_)
   ·
    refine Rg ?_
    iterate 5 refine S0 ?_ (e := fun _ h_ => by simp only [sH, ↓sP, sA, tyS, simprocAttr, Int.natCast_nonneg, Int.ofNat_lt, hlt, bB hlt, eS, dW, eT hlt, iK hlt, eU hlt, List.length_set, List.length_map, List.map_eq_nil_iff]; exact AX h_)
    refine HS rfl rfl fun K' hK' => ?_
    simp only [sH, ↓sP, sA, tyS, simprocAttr, Int.natCast_nonneg, Int.ofNat_lt, hlt, bB hlt, eS, dW, eT hlt, iK hlt, eU hlt, List.length_set, List.length_map, List.map_eq_nil_iff]
    refine bZ (args := []) (bT8 (L.take 60) a3 (by omega)) rfl (by simp) ⟨rfl, rfl, rfl, rfl⟩ ?_
    rintro u v' ⟨q, a4, rfl, rfl, s1, s2⟩
    refine AX (hK' _ _ ?_)
    clear hK' K'
    iterate 6 refine S0 ?_ (e := fun _ h_ => by simp only [sH, ↓sP, sA, tyS, simprocAttr, Int.natCast_nonneg, Int.ofNat_lt, hlt, bB hlt, eS, dW, eT hlt, iK hlt, eU hlt, List.length_set, List.length_map, List.map_eq_nil_iff]; exact AX h_)
    refine T2 (hK _ _ _ ?_)
    clear hK K
    refine aB fun K hK => Rg ?_
    iterate 6 refine S0 ?_ (e := fun _ h_ => by simp only [sH, ↓sP, sA, tyS, simprocAttr, Int.natCast_nonneg, Int.ofNat_lt, hlt, bB hlt, eS, dW, eT hlt, iK hlt, eU hlt, List.length_set, List.length_map, List.map_eq_nil_iff]; exact AX h_)
    refine T2 (hK _ _ _ ?_)
    clear hK K
    refine aH (b := _) rfl (fun hb => ?_) (fun hb => ?_)
    ·
     refine Rg ?_
     iterate 3 refine S0 ?_ (e := fun _ h_ => by simp only [sH, ↓sP, sA, tyS, simprocAttr, Int.natCast_nonneg, Int.ofNat_lt, hlt, bB hlt, eS, dW, eT hlt, iK hlt, eU hlt, List.length_set, List.length_map, List.map_eq_nil_iff]; exact AX h_)
     refine HS rfl rfl fun K' hK' => ?_
     simp only [sH, ↓sP, sA, tyS, simprocAttr, Int.natCast_nonneg, Int.ofNat_lt, hlt, bB hlt, eS, dW, eT hlt, iK hlt, eU hlt, List.length_set, List.length_map, List.map_eq_nil_iff]
     refine bZ (args := [_]) (fM (L.take 60) a4 3 (by omega) (by omega)) rfl (by simp) ⟨rfl, rfl, rfl, rfl⟩ ?_
     rintro u v' ⟨x4, a5, rfl, rfl, w1, w2, w3, w4⟩
     refine AX (hK' _ _ ?_)
     clear hK' K'
     iterate 3 refine S0 ?_ (e := fun _ h_ => by simp only [sH, ↓sP, sA, tyS, simprocAttr, Int.natCast_nonneg, Int.ofNat_lt, hlt, bB hlt, eS, dW, eT hlt, iK hlt, eU hlt, List.length_set, List.length_map, List.map_eq_nil_iff]; exact AX h_)
     refine T4 ?_
     exact key (T.set i ⟨IntKind.i64.wrap (1 + x2), x4, 0, q⟩) a5 _ _ _ (by simp [g1]) (by omega) (g4.set i (bM3 s2)) (fF)
    refine aJ (T3 ?_)
    exact key (T.set i ⟨IntKind.i64.wrap (1 + x2), 0, 0, q⟩) a4 _ _ _ (by simp [g1]) (by omega) (g4.set i (bM3 s2)) (fF)
   refine aJ ?_
   refine T0 (hK _ _ _ ?_)
   clear hK K
   refine aB fun K hK => Rg ?_
   iterate 6 refine S0 ?_ (e := fun _ h_ => by simp only [sH, ↓sP, sA, tyS, simprocAttr, Int.natCast_nonneg, Int.ofNat_lt, hlt, bB hlt, eS, dW, eT hlt, iK hlt, eU hlt, List.length_set, List.length_map, List.map_eq_nil_iff]; exact AX h_)
   refine T2 (hK _ _ _ ?_)
   clear hK K
   refine aH (b := _) rfl (fun hb => ?_) (fun hb => ?_)
   ·
    refine Rg ?_
    iterate 3 refine S0 ?_ (e := fun _ h_ => by simp only [sH, ↓sP, sA, tyS, simprocAttr, Int.natCast_nonneg, Int.ofNat_lt, hlt, bB hlt, eS, dW, eT hlt, iK hlt, eU hlt, List.length_set, List.length_map, List.map_eq_nil_iff]; exact AX h_)
    refine HS rfl rfl fun K' hK' => ?_
    simp only [sH, ↓sP, sA, tyS, simprocAttr, Int.natCast_nonneg, Int.ofNat_lt, hlt, bB hlt, eS, dW, eT hlt, iK hlt, eU hlt, List.length_set, List.length_map, List.map_eq_nil_iff]
    refine bZ (args := [_]) (fM (L.take 60) a3 3 (by omega) (by omega)) rfl (by simp) ⟨rfl, rfl, rfl, rfl⟩ ?_
    rintro u v' ⟨x4, a5, rfl, rfl, w1, w2, w3, w4⟩
    refine AX (hK' _ _ ?_)
    clear hK' K'
    iterate 3 refine S0 ?_ (e := fun _ h_ => by simp only [sH, ↓sP, sA, tyS, simprocAttr, Int.natCast_nonneg, Int.ofNat_lt, hlt, bB hlt, eS, dW, eT hlt, iK hlt, eU hlt, List.length_set, List.length_map, List.map_eq_nil_iff]; exact AX h_)
    refine T4 ?_
    exact key (T.set i ⟨IntKind.i64.wrap (1 + x2), x4, x3, ⟨0, 0, 0, []⟩⟩) a5 _ _ _ (by simp [g1]) (by omega) (g4.set i (by simp)) (fF)
   refine aJ (T3 ?_)
   exact key (T.set i ⟨IntKind.i64.wrap (1 + x2), 0, x3, ⟨0, 0, 0, []⟩⟩) a3 _ _ _ (by simp [g1]) (by omega) (g4.set i (by simp)) (fF)
  refine aJ (T3 ?_)
  exact key T a1 _ _ _ g1 (by omega) g4 (fF)
 refine aZ (T3 ?_)
 clear hK K
 refine AX (hK _ _ _ ?_)
 clear hK K
 refine R0 ?_
 refine aF (RT Tryz.results12 ?_)
 exact aG [36] (.slc (T.map Nd.cv)) (by simp [HV.close, fob_at, upd_at, HV.norm, HV.toC, HV.closeL, HV.toCL, CV.denil, denilL_Nd]) ⟨T, rfl, by omega, g4⟩

end Go.Proofs.YtlldglbooaefhaaGreatDoor

namespace Go.Proofs.YtlldglbooaefhaaGreatDoor
open Go Go.Hl Go.Pl
set_option maxRecDepth 10000
set_option maxHeartbeats 16000000

theorem bW8 {α : Type} (l : List (List UInt8)) (j : Nat) (p : List UInt8) (r : List (List UInt8)) (h : l.drop j = p :: r) : ∃ hj : j < (l.map fun p => [CV.slc (p.map u8)]).length, (l.map fun p => [CV.slc (p.map u8)])[j] = [CV.slc (p.map u8)] ∧ l.drop (j + 1) = r := by
 have hj : j < l.length := by
  rcases Nat.lt_or_ge j l.length with h' | h'
  ·
   exact h'
  rw [List.drop_eq_nil_of_le h'] at h; cases h
 have h1 := List.drop_eq_getElem_cons hj
 rw [h1] at h
 cases h
 exact ⟨by simpa using hj, by simp, rfl⟩

theorem aQ5 (l : List UInt8) (c : UInt8) (hl : l.length < 2 ^ 40) : aB4 Tryz.prog 126 [(47, .slc [u8 c]), (47, .slc (l.map u8)), (3, .int .i64 0)] ((aQ c l).map fun p => [.slc (p.map u8)]) := by
 refine yO Tryz.func126 rfl (by kernel_rfl) (Nat.le_of_ble_eq_true rfl) rfl fun L J hS hY => ?_
 have e0 : jR [(47, CV.slc [u8 c]), (47, .slc (l.map u8)), (3, .int .i64 0)] = fob [(0, .box 47 (.c (.slc [u8 c]))), (1, .box 47 (.c (.slc (l.map u8)))), (2, .box 3 (.c (.int .i64 0)))] := by
  funext i
  match i with
  | 0 => rfl
  | 1 => rfl
  | 2 => rfl
  | i + 3 => simp [jR, fob, upd]
 have e1 : gH (List.range [((47 : Nat), CV.slc [u8 c]), (47, .slc (l.map u8)), (3, .int .i64 0)].length) = [.ptr 0 0, .ptr 1 0, .ptr 2 0] := rfl
 rw [e0, e1]
 refine eJ fun K hK => ?_
 refine eJ fun K1 hK1 => mY hS rfl (aL (by kernel_rfl) ?_)
 simp only [sR, simprocAttr]
 have F := rI
 iterate 3 refine SF ?_
 simp only [sE, ↓reduceIte, simprocAttr, rI]
 refine hK1 _ _ _ _ _ ?_
 clear hK1 K1
 refine jH (b := false) rfl (fun hb => by cases hb) (fun _ => ?_)
 refine mZ ?_
 simp only [sE, ↓reduceIte, simprocAttr, rI]
 refine hK _ _ _ _ _ ?_
 clear hK K
 refine eJ fun K hK => ?_
 refine oA ?_
 refine aI1 (α := {y : Nat × List UInt8 // (aQ c l).drop y.1 = aQ c y.2 ∧ y.2.length ≤ l.length}) hS (fun y => (fin [(0, .opq (.func (.yield L) #[] #[])), (1, .ptr 0 0), (2, .ptr 1 0), (3, .ptr 2 0)], fob [(0, .box 47 (.c (.slc [u8 c]))), (1, .box 47 (.c (.slc (y.1.2.map u8)))), (2, .box 3 (.c (.int .i64 0)))])) (fun y => y.1.1) 100 (fun y => y.1.2.length) ⟨(0, l), rfl, Nat.le_refl _⟩ rfl (fF) rfl ?_
 rintro ⟨⟨j, rest⟩, hsp, hle⟩
 simp only at hsp hle
 refine oA ?_
 refine eJ fun K1 hK1 => mY hS rfl (aL (by kernel_rfl) ?_)
 simp only [sR, simprocAttr]
 iterate 2 refine SF ?_
 have F := aI rI @denilL_u8
 refine HS rfl rfl fun K' hK' => T6 ?_
 refine C2 (yR rest c) ?_
 rintro u rfl
 refine AX (hK' _ _ ?_)
 clear hK' K'
 have F := rI
 refine SF ?_
 simp only [sE, ↓reduceIte, simprocAttr, rI]
 refine hK1 _ _ _ _ _ ?_
 clear hK1 K1
 refine eJ fun K1 hK1 => ?_
 refine eJ fun K2 hK2 => mY hS rfl (aL (by kernel_rfl) ?_)
 simp only [sR, simprocAttr]
 iterate 2 refine SF ?_
 simp only [sE, ↓reduceIte, simprocAttr, rI]
 refine hK2 _ _ _ _ _ ?_
 clear hK2 K2
 refine jH (b := decide (dE rest c < 0)) rfl (fun hb => ?_) (fun hb => ?_)
 ·
  -- the last piece
  have hn : dE rest c < 0 := by simpa using hb
  rw [mS hn] at hsp
  obtain ⟨hj, hx, hd⟩ := bW8 (α := Nat) _ _ _ _ hsp
  refine aI0 ?_
  simp only [sE, ↓reduceIte, simprocAttr, rI]
  clear hK1 K1
  refine hK _ _ _ _ _ ?_
  clear hK K
  have htk : List.take rest.length (rest.map u8) = rest.map u8 := List.take_of_length_le (by simp)
  refine rR (l := L) 7 hS hY rfl (by kernel_rfl) (by decide) ?_
  simp only [sR, List.range', simprocAttr]
  have F := aI rI @List.length_map.{0,0}
  iterate 6 refine SF ?_
  refine S0 ?_ (e := fun _ h_ => by simp only [sH, ↓sP, sA, tyS, simprocAttr, rI, htk, List.length_map, ↓hslice3.eq_def, Int.natCast_nonneg, mR, List.drop_zero, Nat.sub_zero, Int.le_refl, Int.toNat_zero]; exact AX h_)
  rw [hlex]
  refine ⟨_, _, _, hj, rfl, rfl, rfl, rfl, rfl, ?_, ?_, ?_⟩
  ·
   rw [hx]; rfl
  ·
   simp only [sR, List.range', simprocAttr]
   rw [hlex]
   refine ⟨by simp, fun _ => ?_⟩
   have := List.drop_eq_nil_iff.1 hd
   simp only [List.length_map] at hj ⊢
   omega
  simp only [sR, List.range', simprocAttr]
  rw [hlex]
  exact ⟨by simp, fun h => by cases h⟩
 -- a piece
 have hn : ¬ dE rest c < 0 := by simpa using hb
 obtain ⟨k, hk, hkl, hsp2⟩ := dU hn
 rw [hk]
 rw [hsp2] at hsp
 obtain ⟨hj, hx, hd⟩ := bW8 (α := Nat) _ _ _ _ hsp
 have hkm : min k rest.length = k := by omega
 have ek : List.take k (rest.map u8) = (rest.take k).map u8 := List.map_take.symm
 have htk : List.take k ((rest.take k).map u8) = (rest.take k).map u8 := List.take_of_length_le (by simp; omega)
 have hw1 : IntKind.i64.wrap ((k : Int) + 1) = ((k + 1 : Nat) : Int) := by rw [IntWalk.i64_in _ (by omega)]; rfl
 have hkl1 : k + 1 ≤ rest.length := hkl
 have edr : List.take (rest.length - (k + 1)) (List.drop (k + 1) (rest.map u8)) = (rest.drop (k + 1)).map u8 := by rw [List.map_drop, List.take_of_length_le (by simp)]
 refine mZ ?_
 simp only [sE, ↓reduceIte, simprocAttr, rI]
 refine hK1 _ _ _ _ _ ?_
 clear hK1 K1
 refine eJ fun K1 hK1 => mY hS rfl (aL (by kernel_rfl) ?_)
 simp only [sR, simprocAttr]
 iterate 6 refine S0 ?_ (e := fun _ h_ => by simp only [sH, ↓sP, sA, tyS, simprocAttr, rI, ek, List.length_map, Int.natCast_nonneg, mR, Int.add_zero, Int.ofNat_le, Nat.le_of_lt hkl, List.drop_zero, Nat.sub_zero, show IntKind.i64.wrap (k : Int) = (k : Int) from IntWalk.i64_in _ (by omega)]; exact AX h_)
 simp only [sE, ↓reduceIte, simprocAttr, rI]
 refine hK1 _ _ _ _ _ ?_
 clear hK1 K1
 refine eJ fun K1 hK1 => ?_
 refine eJ fun K2 hK2 => rR (l := L) 7 hS hY rfl (by kernel_rfl) (by decide) ?_
 simp only [sR, List.range', simprocAttr]
 have F := aI rI (aI @List.length_map.{0,0} (aI @List.length_take.{0} hkm))
 iterate 6 refine SF ?_
 refine S0 ?_ (e := fun _ h_ => by simp only [sH, ↓sP, sA, tyS, simprocAttr, rI, htk, List.length_map, List.length_take, hkm, ↓hslice3.eq_def, Int.natCast_nonneg, mR, List.drop_zero, Nat.sub_zero, Int.le_refl, Int.toNat_zero]; exact AX h_)
 rw [hlex]
 refine ⟨_, _, _, hj, rfl, rfl, rfl, rfl, rfl, ?_, ?_, ?_⟩
 ·
  rw [hx]; rfl
 ·
  simp only [sR, List.range', simprocAttr]
  have F := rI
  refine SF ?_
  simp only [sE, ↓reduceIte, simprocAttr, rI]
  refine hK2 _ _ _ _ _ ?_
  clear hK2 K2
  refine jH (b := false) rfl (fun hb => by cases hb) (fun _ => ?_)
  refine mZ ?_
  simp only [sE, ↓reduceIte, simprocAttr, rI]
  refine hK1 _ _ _ _ _ ?_
  clear hK1 K1
  refine mY hS rfl (aL (by kernel_rfl) ?_)
  simp only [sR, simprocAttr]
  have F := aI rI (aI edr (aI hw1 (aI @List.length_map.{0,0} (aI @Int.natCast_nonneg (aI @mR (aI @Int.ofNat_le (aI hkl1 @denilL_u8)))))))
  iterate 7 refine SF ?_
  simp only [sE, ↓reduceIte, simprocAttr, rI]
  refine ⟨⟨(j + 1, rest.drop (k + 1)), hd, by simp; omega⟩, fF, trivial, rfl, ?_⟩
  show (rest.drop (k + 1)).length < rest.length
  simp; omega
 simp only [sR, List.range', simprocAttr]
 have F := rI
 refine SF ?_
 simp only [sE, ↓reduceIte, simprocAttr, rI]
 refine hK2 _ _ _ _ _ ?_
 clear hK2 K2
 refine jH (b := true) rfl (fun _ => ?_) (fun hb => by cases hb)
 refine aT6 ?_
 simp only [sE, ↓reduceIte, simprocAttr, rI]
 exact ⟨by simp, fun h => by cases h⟩

end Go.Proofs.YtlldglbooaefhaaGreatDoor

namespace Go.Proofs.YtlldglbooaefhaaGreatDoor
open Go Go.Hl Go.Pl
set_option maxRecDepth 10000
set_option maxHeartbeats 16000000

theorem bZ8 (s : aE) (hl : s.length < 2 ^ 40) : mU Tryz.prog 87 [.str s] (fun u v => u = .str ((unW s).getD []) ∧ v = .bool (unW s).isSome) := by
 refine FW Tryz.func87 ?_
 refine R0 ?_
 refine aB fun K hK => ?_
 refine R0 ?_
 refine aH (b := s == [126]) rfl (fun hb => ?_) (fun hb => ?_)
 ·
  refine R0 ?_
  refine aF (RT Tryz.results87 ?_)
  have hs : s = [126] := by simpa using hb
  subst hs
  exact bD [] (.str []) (.bool true) rfl ⟨rfl, rfl⟩
 refine aJ ?_
 refine T0 (hK _ _ _ ?_)
 clear hK K
 have hne : s ≠ [126] := by simpa using hb
 clear hb
 refine R0 ?_
 refine aB fun K hK => ?_
 refine R0 ?_
 refine aK ?_
 refine oZ 4 0 5 1 rfl rfl rfl rfl ?_
 refine bE (α := {y : Nat × aE // UnSt s y.1 y.2}) (fun y => (fin [(0, .c (.str s)), (4, .own 24 y.1.2.length), (5, .c (.int .i64 y.1.1))], fob [(24, .row 5 1 (y.1.2.map dY))])) 100 (fun y => s.length - y.1.1) ⟨(0, []), UnSt.init s⟩ (fF) ?_
 rintro ⟨⟨i, out⟩, hst⟩
 simp only at hst
 have hi := hst.1
 have ho := hst.2.2.2
 refine aB fun K hK => ?_
 refine aB fun K hK => Rg ?_
 iterate 4 refine S0 ?_
 refine T2 (hK _ _ _ ?_)
 clear hK K
 refine aH (b := decide ((i : Int) < s.length)) rfl (fun hb => ?_) (fun hb => ?_)
 ·
  have hlt : i < s.length := by simpa using hb
  clear hb
  have hgd : s.getD i 0 = s[i] := by simp [hlt]
  refine aJ ?_
  refine T0 (hK _ _ _ ?_)
  clear hK K
  refine aB fun K hK => ?_
  refine aK ?_
  refine aB fun K hK => ?_
  refine aB fun K hK => Rg ?_
  iterate 3 refine S0 ?_ (e := fun _ h_ => by simp only [sH, ↓sP, sA, tyS, simprocAttr, Int.natCast_nonneg, Int.ofNat_lt, hlt, hgd]; exact AX h_)
  refine HS rfl rfl fun K' hK' => ?_
  simp only [sH, ↓sP, sA, tyS, simprocAttr, Int.natCast_nonneg, Int.ofNat_lt, hlt, hgd]
  refine C1 (qE s[i]) ?_
  rintro u rfl
  refine AX (hK' _ _ ?_)
  clear hK' K'
  refine T2 (hK _ _ _ ?_)
  clear hK K
  refine aH (b := cR s[i]) rfl (fun hb => ?_) (fun hb => ?_)
  ·
   refine aB fun K hK => Rg ?_
   iterate 7 refine S0 ?_ (e := fun _ h_ => by simp only [sH, ↓sP, sA, tyS, simprocAttr, Int.natCast_nonneg, Int.ofNat_lt, hlt, hgd, List.length_append, List.length_map]; exact AX h_)
   refine T2 (hK _ _ _ ?_)
   clear hK K
   refine aZ (T3 ?_)
   clear hK K
   refine AX (hK _ _ _ ?_)
   clear hK K
   refine aL (by kernel_rfl) ?_
   refine TQ (lQ i) ?_
   refine ⟨⟨(i + 1, out ++ [s[i]]), hst.plain hlt hb⟩, aN (by omega) ?_ ?_, ?_⟩
   ·
    simp [bA, upd_at, fin_at, HV.men]
   ·
    simp only [aX, List.map_append]
    exact ⟨rfl, by omega, trivial, trivial⟩
   show s.length - (i + 1) < s.length - i
   omega
  refine aJ ?_
  refine T0 (hK _ _ _ ?_)
  clear hK K
  refine aB fun K hK => ?_
  have hp : cR s[i] = false := hb
  clear hb
  have hw1 : IntKind.i64.wrap ((i : Int) + 1) = ((i + 1 : Nat) : Int) := by rw [IntWalk.i64_in _ (by omega)]; rfl
  have hw2 : IntKind.i64.wrap ((i : Int) + 2) = ((i + 2 : Nat) : Int) := by rw [IntWalk.i64_in _ (by omega)]; rfl
  have hw3 : IntKind.i64.wrap (((i + 2 : Nat) : Int) + 1) = ((i + 3 : Nat) : Int) := by rw [IntWalk.i64_in _ (by omega)]; rfl
  refine aB fun K hK => Rg ?_
  iterate 5 refine S0 ?_ (e := fun _ h_ => by simp only [sH, ↓sP, sA, tyS, simprocAttr, Int.natCast_nonneg, Int.ofNat_lt, hlt, hgd, hw2]; exact AX h_)
  refine aD 29 rfl (fun h9_29 => ?_) (fun h9_29 => ?_)
  ·
   iterate 6 refine S0 ?_ (e := fun _ h_ => by simp only [sH, ↓sP, sA, tyS, simprocAttr, Int.natCast_nonneg, Int.ofNat_lt, hlt, hgd, hw2, h9_29]; exact AX h_)
   refine T2 (hK _ _ _ ?_)
   clear hK K
   refine CT rfl ?_
   refine R0 ?_
   refine aF (RT Tryz.results87 ?_)
   have h37 : s[i] ≠ 37 := by rintro h; rw [h] at h9_29; simp at h9_29
   have hn := mT (hst.bad1 hlt hp (.inl h37)) hne
   exact bD [] (.str []) (.bool false) rfl ⟨by rw [hn]; rfl, by rw [hn]; rfl⟩
  iterate 6 refine S0 ?_ (e := fun _ h_ => by simp only [sH, ↓sP, sA, tyS, simprocAttr, Int.natCast_nonneg, Int.ofNat_lt, hlt, hgd, hw2, h9_29]; exact AX h_)
  refine aD 35 rfl (fun h9_35 => ?_) (fun h9_35 => ?_)
  ·
   simp only [h9_35]
   refine T2 (hK _ _ _ ?_)
   clear hK K
   refine CT rfl ?_
   refine R0 ?_
   refine aF (RT Tryz.results87 ?_)
   have hi2 : s.length ≤ i + 2 := by simp at h9_35; omega
   have hn := mT (hst.bad1 hlt hp (.inr hi2)) hne
   exact bD [] (.str []) (.bool false) rfl ⟨by rw [hn]; rfl, by rw [hn]; rfl⟩
  simp only [h9_35]
  refine T2 (hK _ _ _ ?_)
  clear hK K
  refine CF rfl ?_
  refine aJ ?_
  refine T0 (hK _ _ _ ?_)
  clear hK K
  have h37 : s[i] = 37 := by
   simp only [bne_eq_false_iff_eq] at h9_29
   exact UInt8.toNat_inj.1 (by show s[i].toNat = 37; omega)
  have hi2 : i + 2 < s.length := by simp at h9_35; omega
  have hi1 : i + 1 < s.length := by omega
  have hg1 : s.getD (i + 1) 0 = s[i + 1] := by simp [hi1]
  have hg2 : s.getD (i + 2) 0 = s[i + 2] := by simp [hi2]
  refine aB fun K hK => DW [(0, [], []), (1, [], []), (2, [], []), (3, [], []), (5, [], []), (6, [], []), (7, [], []), (8, [], []), (4, [], [5, 6, 7, 8]), (9, [], []), (10, [], []), (11, [], [])] [0, 0, 2, 7, 15, 0, 0, 64, 224, 511, 1023, 2047] ?_
  have F := aI @Int.natCast_nonneg (aI @Int.ofNat_lt (aI hw1 (aI hw2 (aI hg1 (aI hg2 (aI hi1 (aI hi2 (aI h9_29 h9_35))))))))
  iterate 8 refine WF ?_
  refine cU (g := none) rfl rfl fun K' hK' => T6 ?_
  refine C2 (qF bQ5 s[i + 1]) ?_
  rintro u rfl
  refine AX (hK' _ _ ?_)
  clear hK' K'
  refine cU (g := none) rfl rfl fun K' hK' => T6 ?_
  refine C2 (qF bQ5 s[i + 2]) ?_
  rintro u rfl
  refine AX (hK' _ _ ?_)
  clear hK' K'
  iterate 2 refine WF ?_
  refine T2 (hK _ _ _ ?_)
  clear hK K
  refine aB fun K hK => ?_
  by_cases hx : valH s[i + 1] < 16
  ·
   by_cases hy : valH s[i + 2] < 16
   ·
    rw [pY, pY, if_pos hx, if_pos hy]
    have hx0 : decide (((valH s[i + 1] : Nat) : Int) < 0) = false := by simp
    have hy0 : decide (((valH s[i + 2] : Nat) : Int) < 0) = false := by simp
    have e1 : IntKind.i64.wrap (16 * ((valH s[i + 1] : Nat) : Int)) = ((16 * valH s[i + 1] : Nat) : Int) := by rw [IntWalk.i64_in _ (by omega)]; omega
    have e2 : IntKind.i64.wrap (((16 * valH s[i + 1] : Nat) : Int) + ((valH s[i + 2] : Nat) : Int)) = ((16 * valH s[i + 1] + valH s[i + 2] : Nat) : Int) := by rw [IntWalk.i64_in _ (by omega)]; omega
    have e3 : IntKind.u8.wrap ((16 * valH s[i + 1] + valH s[i + 2] : Nat) : Int) = ((byteH s[i + 1] s[i + 2]).toNat : Int) := by rw [IntWalk.u8_in _ (by omega), yH hx hy]
    refine aB fun K hK => Rg ?_
    have F := aI hx0 (aI hy0 (aI e1 (aI e2 (aI e3 (aI h9_29 h9_35)))))
    iterate 12 refine SF ?_
    refine aU (g := some (53, false)) rfl rfl fun K' hK' => T6 ?_
    refine C1 (qE (byteH s[i + 1] s[i + 2])) ?_
    rintro u rfl
    refine AX (hK' _ _ ?_)
    clear hK' K'
    refine SF ?_
    refine T2 (hK _ _ _ ?_)
    clear hK K
    refine aH (b := cR (byteH s[i + 1] s[i + 2])) rfl (fun hb => ?_) (fun hb => ?_)
    ·
     refine R0 ?_
     refine aF (RT Tryz.results87 ?_)
     have hn := mT (hst.bad2 hi2 h37 (by simp [okH, hx, hy, hb])) hne
     exact bD [] (.str []) (.bool false) rfl ⟨by rw [hn]; rfl, by rw [hn]; rfl⟩
    refine aJ ?_
    refine T0 (hK _ _ _ ?_)
    clear hK K
    refine aB fun K hK => Rg ?_
    have F := aI @Int.natCast_nonneg (aI @List.length_append.{0} (aI @List.length_map.{0,0} (aI e1 (aI e2 (aI e3 (aI h9_29 h9_35))))))
    iterate 9 refine SF ?_
    refine T2 (hK _ _ _ ?_)
    clear hK K
    refine aL (by kernel_rfl) ?_
    refine TQ hw2 ?_
    refine AX (hK _ _ _ ?_)
    clear hK K
    refine aL (by kernel_rfl) ?_
    refine TQ hw3 ?_
    refine ⟨⟨(i + 3, out ++ [byteH s[i + 1] s[i + 2]]), hst.esc hi2 h37 (by simp [okH, hx, hy, hb])⟩, aN (by omega) ?_ ?_, ?_⟩
    ·
     simp [bA, upd_at, fin_at, HV.men]
    ·
     simp only [aX, List.map_append]
     exact ⟨rfl, by omega, trivial, trivial⟩
    show s.length - (i + 3) < s.length - i
    omega
   rw [pY, pY, if_pos hx, if_neg hy]
   have hx0 : decide (((valH s[i + 1] : Nat) : Int) < 0) = false := by simp
   refine aB fun K hK => Rg ?_
   have F := aI hx0 (aI h9_29 h9_35)
   iterate 14 refine SF ?_
   refine T2 (hK _ _ _ ?_)
   clear hK K
   refine CT rfl ?_
   refine R0 ?_
   refine aF (RT Tryz.results87 ?_)
   have hn := mT (hst.bad2 hi2 h37 (by simp [okH, hx, hy])) hne
   exact bD [] (.str []) (.bool false) rfl ⟨by rw [hn]; rfl, by rw [hn]; rfl⟩
  rw [pY, if_neg hx]
  refine aB fun K hK => Rg ?_
  have F := aI h9_29 h9_35
  iterate 14 refine SF ?_
  refine T2 (hK _ _ _ ?_)
  clear hK K
  refine CT rfl ?_
  refine R0 ?_
  refine aF (RT Tryz.results87 ?_)
  have hn := mT (hst.bad2 hi2 h37 (by simp [okH, hx])) hne
  exact bD [] (.str []) (.bool false) rfl ⟨by rw [hn]; rfl, by rw [hn]; rfl⟩
 refine aZ (T3 ?_)
 clear hK K
 refine AX (hK _ _ _ ?_)
 clear hK K
 have hei : i = s.length := by simp at hb; omega
 have hfin := hst.fin hei hne
 refine fE [24] (bS (fr2 := fin [(4, .c (.slc (out.map dY)))]) (ob2 := fob []) (nx2 := 200) (aN (by omega) (by simp [bA, kN, fin_at, finA_at, upd_at, fob_at, HV.close, HV.closeL, CV.denil, CV.denilL, dT, HV.men, HV.menL, HV.norm, HV.toC, HV.toCL]) (by simp [aX, kO, fob_at, upd_at, none0_at, bY, HO.close, HV.close, HV.closeL, HO.men, HV.men, HV.menL, HV.norm, HV.toC, HV.toCL])) ?_)
 refine aB fun K hK => Rg ?_
 have F := aI @bytesC_map @List.length_map.{0,0}
 iterate 7 refine SF ?_
 refine T2 (hK _ _ _ ?_)
 clear hK K
 refine aF (RT Tryz.results87 ?_)
 refine bD [] (.str out) (.bool (decide (0 < (out.length : Int)))) rfl ?_
 rw [hfin]
 by_cases ho0 : out = []
 ·
  subst ho0; simp
 have : 0 < out.length := List.length_pos_iff.2 ho0
 simp [ho0, this]

end Go.Proofs.YtlldglbooaefhaaGreatDoor
