/- Plain Lean: rules, valid policies, their lines (28.3 to 28.5). By an AI agent. -/
import Derived.Test.YtlldglbooaefhaaDoorHlCl
import Derived.Test.YtlldglbooaefhaaDoorHvV1
import Derived.Test.YtlldglbooaefhaaDoorHlExt
import Derived.Lib.ItoaLen
import Derived.Sort.Grow
import Derived.Sort.EncStr
set_option linter.unusedSimpArgs false
set_option linter.unusedVariables false
set_option linter.defProp false
namespace Go.Pl
open Go Go.Hl

theorem aO0 {c : UInt8} {l : List UInt8} (h : (aR c l).length = 1) : aR c l = [l] := by
 by_cases hn : dD l c < 0
 all_goals grind [mJ, dT, List.length_pos_iff, cR, List.length_cons]

def SplSt (l : aE) (c : UInt8) (i : Nat) (rest : aE) (a : List aE) : Prop :=
 a.length = (aR c l).length ∧ a.take i = (aR c l).take i ∧ (aR c l).drop i = aR c rest ∧ i < (aR c l).length ∧ rest.length ≤ l.length
section
variable {l rest : aE} {c : UInt8} {i k : Nat} {a : List aE}
theorem SplSt.init (l : aE) (c : UInt8) : SplSt l c 0 l (List.replicate (aR c l).length []) :=
 ⟨by simp, by simp, rfl, List.length_pos_iff.2 (cR c l), Nat.le_refl _⟩
theorem SplSt.next (h : SplSt l c i rest a) (hk : dD rest c = (k : Int)) : k < rest.length ∧ SplSt l c (i + 1) (rest.drop (k + 1)) (a.set i (rest.take k)) := by
 obtain ⟨h1, h2, h3, h4, h5⟩ := h
 obtain ⟨k', e1, e2, e3⟩ := dT (l := rest) (c := c) (by omega)
 have : k' = k := by omega
 subst this
 rw [e3] at h3
 have h6 := List.drop_eq_getElem_cons h4
 rw [h6] at h3
 have h7 := List.head_eq_of_cons_eq h3
 have h8 := List.tail_eq_of_cons_eq h3
 refine ⟨e2, by grind, ?_, h8, ?_, by grind⟩
 ·
  rw [List.take_succ_eq_append_getElem (by grind), List.take_succ_eq_append_getElem h4, List.getElem_set_self, List.take_set_of_le (Nat.le_refl _), h2, h7]
 grind [Nat.lt_or_ge, aR, List.drop_eq_nil_of_le, absurd, cR]
theorem SplSt.last (h : SplSt l c i rest a) (hk : dD rest c < 0) : i + 1 = (aR c l).length := by
 obtain ⟨h1, h2, h3, h4, h5⟩ := h
 rw [mJ hk] at h3
 have := congrArg List.length h3
 grind
theorem SplSt.fin (h : SplSt l c i rest a) (hi : i + 1 = (aR c l).length) : a.set i rest = aR c l := by
 obtain ⟨h1, h2, h3, h4, h5⟩ := h
 have h6 : (aR c rest).length = 1 := by rw [← h3, List.length_drop]; omega
 rw [aO0 h6] at h3
 have e1 : a.set i rest = (a.set i rest).take (i + 1) := (List.take_of_length_le (by grind)).symm
 rw [e1, List.take_succ_eq_append_getElem (by grind), List.getElem_set_self, List.take_set_of_le (Nat.le_refl _), h2]
 grind [List.take_append_drop, aR]
end

def mS (c : UInt8) : Bool := decide (48 ≤ c.toNat) && decide (c.toNat ≤ 57)
def dA : aE → Nat → Option Nat
 | [], n => some n
 | c :: l, n => if mS c then dA l (10 * n + (c.toNat - 48)) else none
def gB (s : aE) : Bool := decide (s.length < 1) || decide (13 < s.length) || (decide (1 < s.length) && s.getD 0 0 == 48)
def bH (s : aE) : Option Int := if gB s then none else match dA s 0 with | some n => if 1099511627776 < n then none else some (n : Int) | none => none
def DgSt (s : aE) (i n : Nat) : Prop := i ≤ s.length ∧ dA s 0 = dA (s.drop i) n ∧ n < 10 ^ i
theorem DgSt.init (s : aE) : DgSt s 0 0 := ⟨Nat.zero_le _, rfl, by omega⟩
theorem DgSt.next {s : aE} {i n : Nat} (h : DgSt s i n) (hi : i < s.length) (hd : mS s[i] = true) : DgSt s (i + 1) (10 * n + (s[i].toNat - 48)) := by
 obtain ⟨h1, h2, h3⟩ := h
 refine ⟨hi, ?_, ?_⟩
 ·
  rw [h2, List.drop_eq_getElem_cons hi, dA, if_pos hd]
 ·
  simp only [mS, Bool.and_eq_true, decide_eq_true_eq] at hd
  grind
theorem DgSt.bad {s : aE} {i n : Nat} (h : DgSt s i n) (hi : i < s.length) (hd : mS s[i] = false) : dA s 0 = none := by
 rw [h.2.1, List.drop_eq_getElem_cons hi, dA, if_neg (by grind)]
theorem DgSt.fin {s : aE} {i n : Nat} (h : DgSt s i n) (hi : i = s.length) : dA s 0 = some n := by
 rw [h.2.1, hi, List.drop_length]; rfl
theorem DgSt.lt {s : aE} {i n : Nat} (h : DgSt s i n) (hs : s.length ≤ 13) : n < 10000000000000 := by
 have : 10 ^ i ≤ 10 ^ 13 := Nat.pow_le_pow_right (by omega) (Nat.le_trans h.1 hs)
 have := h.2.2
 omega
theorem vK {s : aE} (h : gB s = true) : bH s = none := by unfold bH; grind
theorem yB {s : aE} (h : dA s 0 = none) : bH s = none := by grind [bH]
theorem bG5 {s : aE} {n : Nat} (h : dA s 0 = some n) (h1 : 1099511627776 < n) : bH s = none := by simp_all [bH, if_pos]
theorem aT0 {s : aE} {n : Nat} (h0 : gB s = false) (h : dA s 0 = some n) (h1 : ¬ 1099511627776 < n) : bH s = some (n : Int) := by simp_all [bH, if_neg]
theorem bG6 (c : UInt8) : mS c = (decide ((48 : Int) ≤ (c.toNat : Int)) && decide ((c.toNat : Int) ≤ 57)) := by
 unfold mS
 grind
theorem aO1 {s : aE} {n : Int} (h : bH s = some n) : 0 ≤ n ∧ n ≤ 1099511627776 := by grind [bH]
end Go.Pl

namespace Go.Proofs.YtlldglbooaefhaaDoor
open Go Go.Hl Go.Pl
set_option maxRecDepth 10000
set_option maxHeartbeats 16000000


theorem aO2 (l : List UInt8) (c : UInt8) : cH Tryd.prog 95 [.str l, .str [c]] (fun v => v = .int .i64 (dD l c)) := by
 refine FW Tryd.func95 ?_
 refine R0 ?_
 refine R0 ?_
 refine aC fun K hK => ?_
 refine aK ?_
 refine aC fun K hK => Rg ?_
 iterate 3 refine S0 ?_
 refine aH 18 rfl (fun h2_18 => ?_) (fun h2_18 => ?_)
 ·
  have F := h2_18
  iterate 5 refine SF ?_
  refine T2 (hK _ _ _ ?_)
  clear hK K
  refine CT rfl ?_
  refine R0 ?_
  refine aF (RT Tryd.results95 ?_)
  exact absurd h2_18 (by decide)
 have F := h2_18
 iterate 5 refine SF ?_
 refine aH 22 rfl (fun h2_22 => ?_) (fun h2_22 => ?_)
 ·
  simp only [h2_22]
  refine T2 (hK _ _ _ ?_)
  clear hK K
  refine CT rfl ?_
  refine R0 ?_
  refine aF (RT Tryd.results95 ?_)
  have hl : l = [c] := (eq_of_beq h2_22).symm
  subst hl
  exact aM [] (.int .i64 0) rfl (by simp [dD])
 simp only [h2_22]
 refine T2 (hK _ _ _ ?_)
 clear hK K
 refine CF rfl ?_
 refine R0 ?_
 refine aG (b := (1 : Int) == 1) rfl (fun hb => ?_) (fun hb => ?_)
 ·
  refine aC fun K hK => Rg ?_
  have F := aI @List.getD_cons_zero.{0} (aI h2_18 h2_22)
  iterate 3 refine SF ?_
  refine HS rfl rfl fun K' hK' => T6 ?_
  refine C2 (bG4 l c) ?_
  rintro u rfl
  refine AX (hK' _ _ ?_)
  clear hK' K'
  refine SF ?_
  refine T2 (hK _ _ _ ?_)
  clear hK K
  refine aF (RT Tryd.results95 ?_)
  exact aM [] (.int .i64 (dD l c)) rfl rfl
 exact absurd hb (by decide)





end Go.Proofs.YtlldglbooaefhaaDoor

namespace Go.Pl
open Go Go.Hl

def tab (n : Nat) (f : Nat → Bool) : List Bool := (List.range n).map f
theorem lG (n : Nat) (f : Nat → Bool) : (tab n f).length = n := by simp [tab]
theorem pZ {n : Nat} {f : Nat → Bool} {i : Nat} (h : i < n) : (tab n f)[i]'(by rw [lG]; exact h) = f i := by simp [tab]
theorem aY4 (n : Nat) : List.replicate n false = tab n (fun _ => false) := by
 refine List.ext_getElem (by simp [lG]) fun i h1 h2 => ?_
 grind [pZ]
theorem bQ6 {n : Nat} {f : Nat → Bool} {i : Nat} {b : Bool} : (tab n f).set i b = tab n (fun j => if j = i then b else f j) := by
 refine List.ext_getElem (by simp [lG]) fun j h1 h2 => ?_
 rw [lG] at h2
 rw [pZ h2, List.getElem_set]
 by_cases e : i = j
 ·
  grind
 ·
  rw [if_neg e, if_neg fun h => e h.symm, pZ h2]
theorem aT1 {n : Nat} {f g : Nat → Bool} (h : ∀ i, i < n → f i = g i) : tab n f = tab n g := by grind [List.ext_getElem, lG, pZ]
def bC1 (b : Bool) : CV := .bool b
theorem bQ7 {n : Nat} {f : Nat → Bool} {i : Nat} (h : i < n) : nth ((tab n f).map bC1) i = .bool (f i) := by
 rw [aY (by rw [lG]; exact h), pZ h]; rfl

section
variable (ps : List Pt) (s : aE)
def prt (k : Nat) : Pt := ps.getD k ⟨0, 0⟩
theorem cD2 : mD ps s 0 0 = true := by rw [mD.eq_def]
theorem cD3 (i : Nat) : mD ps s 0 (i + 1) = false := by rw [mD.eq_def]
theorem cD4 (k : Nat) : mD ps s (k + 1) 0 = ((prt ps k).long && mD ps s k 0) := by rw [mD.eq_def]; rfl
theorem oJ (k i : Nat) : mD ps s (k + 1) (i + 1) = if (prt ps k).long then mD ps s k (i + 1) || (mD ps s (k + 1) i && (prt ps k).takes (s.getD i 0)) else mD ps s k i && (prt ps k).takes (s.getD i 0) := by
 rw [mD.eq_def]; rfl

def nxt (k i j : Nat) : Bool := if j ≤ i then mD ps s (k + 1) j else false
theorem bG7 (k : Nat) (j : Nat) : (if j = 0 then (mD ps s k 0 && (prt ps k).long) else false) = nxt ps s k 0 j := by
 unfold nxt
 by_cases h : j = 0
 ·
  subst h; rw [if_pos rfl, if_pos (Nat.le_refl _), cD4, Bool.and_comm]
 ·
  rw [if_neg h, if_neg (by omega)]
theorem bG8 (k i : Nat) (j : Nat) : (if j = i + 1 then mD ps s (k + 1) (i + 1) else nxt ps s k i j) = nxt ps s k (i + 1) j := by
 unfold nxt
 grind
theorem bQ8 (k : Nat) : tab (s.length + 1) (nxt ps s k s.length) = tab (s.length + 1) (mD ps s (k + 1)) :=
 aT1 fun i hi => by unfold nxt; grind
theorem bG9 : tab (s.length + 1) (fun j => if j = 0 then true else false) = tab (s.length + 1) (mD ps s 0) :=
 aT1 fun i _ => by
  cases i with
  | zero => rw [cD2]; rfl
  | succ i => rw [cD3]; rfl

def p1 (i k j : Nat) : Bool := (decide (j < k) && ((prt ps j).long && (mN ps s j i && (prt ps j).takes (s.getD i 0)))) ||
 (decide (1 ≤ j) && (decide (j - 1 < k) && (!(prt ps (j - 1)).long && (mN ps s (j - 1) i && (prt ps (j - 1)).takes (s.getD i 0)))))
def p2 (i k j : Nat) : Bool := if j ≤ k then mN ps s j (i + 1) else p1 ps s i ps.length j
end
end Go.Pl

namespace Go.Proofs.YtlldglbooaefhaaDoor
open Go Go.Hl Go.Pl
set_option maxRecDepth 10000
set_option maxHeartbeats 16000000

theorem bQ9 (c d : UInt8) : ((c.toNat : Int) == (d.toNat : Int)) = (c == d) := by
 by_cases h : c = d
 ·
  simp [h]
 have : ¬ (c.toNat : Int) = (d.toNat : Int) := fun e => h (UInt8.toNat_inj.1 (by omega))
 rw [beq_false_of_ne this, beq_false_of_ne h]
theorem cG6 (c d : UInt8) : ((c.toNat : Int) != (d.toNat : Int)) = !(c == d) := by
 show (!((c.toNat : Int) == (d.toNat : Int))) = _
 rw [bQ9]

theorem eS (x : Pt) (hk : x.k ≤ 3) : cH Tryd.prog 64 [x.cv] (fun v => v = .bool x.long) := by
 refine FW Tryd.func64 ?_
 have F := aI @Pt.cells (aI @Pt.isAgg @Pt.getAll)
 refine RF ?_
 refine aC fun K hK => Rg ?_
 have F := @Pt.get_k
 iterate 4 refine SF ?_
 refine aH 5 rfl (fun h1_5 => ?_) (fun h1_5 => ?_)
 ·
  have F := aI @Pt.get_k h1_5
  iterate 5 refine SF ?_
  refine T2 (hK _ _ _ ?_)
  clear hK K
  refine aF (RT Tryd.results64 ?_)
  refine aM [] (.bool _) rfl ?_
  have hkk : x.k = 0 ∨ x.k = 1 ∨ x.k = 2 ∨ x.k = 3 := by omega
  rcases hkk with h | h | h | h <;> simp_all [Pt.long]
 have F := aI @Pt.get_k h1_5
 iterate 5 refine SF ?_
 refine T2 (hK _ _ _ ?_)
 clear hK K
 refine aF (RT Tryd.results64 ?_)
 refine aM [] (.bool _) rfl ?_
 have hkk : x.k = 0 ∨ x.k = 1 ∨ x.k = 2 ∨ x.k = 3 := by omega
 rcases hkk with h | h | h | h <;> simp_all [Pt.long]



theorem bR0 (c : UInt8) : cH Tryd.prog 81 [u8 c] (fun v => v = .bool true) := by
 refine FW Tryd.func81 ?_
 refine R0 ?_
 refine R0 ?_
 refine aF (RT Tryd.results81 ?_)
 exact aM [] (.bool true) rfl rfl


theorem aT2 (c : UInt8) : cH Tryd.prog 82 [u8 c] (fun v => v = .bool (!(c == 47))) := by
 refine FW Tryd.func82 ?_
 refine R0 ?_
 refine R0 ?_
 refine aF (RT Tryd.results82 ?_)
 exact aM [] (.bool (!(c == 47))) (by rw [← cG6 c 47]; rfl) rfl

end Go.Proofs.YtlldglbooaefhaaDoor

namespace Go.Pl
open Go Go.Hl

def aft (l : List Nd) (i : Nat) : Nat := l.length - ((skip 1 (l.drop i)).getD []).length
theorem aA7 {l : List Nd} {i j : Nat} (hj : j ≤ l.length) (h : skip 1 (l.drop i) = some (l.drop j)) : aft l i = j := by grind [aft, List.length_drop]
theorem gC {l : List Nd} (h : IsTree l) {i : Nat} (hi : i < l.length) : i < aft l i ∧ aft l i ≤ l.length ∧ skip 1 (l.drop i) = some (l.drop (aft l i)) := by grind [bE5, aA7]
def AftSt (l : List Nd) (i m p : Nat) : Prop := p ≤ l.length ∧ skip m (l.drop p) = skip 1 (l.drop i)
theorem AftSt.lt {l : List Nd} (ht : IsTree l) {i m p : Nat} (hi : i < l.length) (h : AftSt l i m p) (hm : 0 < m) : p < l.length := by
 rcases Nat.lt_or_ge p l.length with h1 | h1
 ·
  grind
 ·
  have h2 := h.2
  rw [List.drop_eq_nil_of_le h1, (gC ht hi).2.2] at h2
  obtain ⟨k, rfl⟩ : ∃ k, m = k + 1 := ⟨m - 1, by omega⟩
  cases h2
theorem AftSt.next {l : List Nd} {i m p : Nat} (h : AftSt l i (m + 1) p) (hp : p < l.length) : AftSt l i (m + l[p].c.toNat) (p + 1) := by
 refine ⟨hp, ?_⟩
 rw [← h.2, List.drop_eq_getElem_cons hp]; rfl
theorem AftSt.fin {l : List Nd} {i p : Nat} (h : AftSt l i 0 p) : p = aft l i := by
 have h2 := h.2
 rw [cE] at h2
 exact (aA7 h.1 h2.symm).symm
def eT (l : List Nd) : Nat → Nat → List Nat
 | 0, _ => []
 | k + 1, at_ => at_ :: eT l k (aft l at_)
def bH0 (l : List Nd) (i : Nat) : List Nat := eT l (l.getD i nd0).c.toNat (i + 1)
def oS (l : List Nd) (i : Int) : List Nat := if dH l = true ∧ 0 ≤ i ∧ i < l.length then bH0 l i.toNat else []
theorem rH (l : List Nd) : ∀ (k p : Nat), (eT l k p).length = k
 | 0, _ => rfl
 | k + 1, p => by simp [eT, rH l k]
def bW (l : List Nd) : Nat → Nat → Nat
 | 0, p => p
 | k + 1, p => bW l k (aft l p)
theorem dV (l : List Nd) : ∀ (k p : Nat), bW l (k + 1) p = aft l (bW l k p)
 | 0, p => rfl
 | k + 1, p => dV l k (aft l p)
theorem vL (l : List Nd) : ∀ (k p : Nat), eT l (k + 1) p = eT l k p ++ [bW l k p]
 | 0, p => rfl
 | k + 1, p => by rw [eT, vL l k]; rfl
theorem gM {l : List Nd} (ht : IsTree l) {i : Nat} (hi : i < l.length) : ∀ k, k ≤ l[i].c.toNat → bW l k (i + 1) ≤ l.length ∧ skip (l[i].c.toNat - k) (l.drop (bW l k (i + 1))) = some (l.drop (aft l i)) ∧ i + 1 ≤ bW l k (i + 1)
 | 0, _ => by
  refine ⟨hi, ?_, Nat.le_refl _⟩
  have := (gC ht hi).2.2
  rw [List.drop_eq_getElem_cons hi] at this
  show skip (l[i].c.toNat - 0) _ = _
  rw [← this, Nat.sub_zero]
  show _ = skip (0 + l[i].c.toNat) _
  rw [Nat.zero_add]; rfl
 | k + 1, hk => by
  obtain ⟨h1, h2, h3⟩ := gM ht hi k (by omega)
  have hlt : bW l k (i + 1) < l.length := by
   rcases Nat.lt_or_ge (bW l k (i + 1)) l.length with h | h
   ·
    exact h
   ·
    rw [List.drop_eq_nil_of_le h] at h2
    obtain ⟨q, hq⟩ : ∃ q, l[i].c.toNat - k = q + 1 := ⟨l[i].c.toNat - k - 1, by omega⟩
    rw [hq] at h2; cases h2
  obtain ⟨a1, a2, a3⟩ := gC ht hlt
  rw [dV]
  refine ⟨a2, ?_, by omega⟩
  obtain ⟨q, hq⟩ : ∃ q, l[i].c.toNat - k = 1 + q := ⟨l[i].c.toNat - k - 1, by omega⟩
  rw [hq, eD, a3] at h2
  grind
theorem gU {l : List Nd} (ht : IsTree l) {i : Nat} (hi : i < l.length) {k : Nat} (hk : k < l[i].c.toNat) : bW l k (i + 1) < l.length := by
 obtain ⟨h1, h2, _⟩ := gM ht hi k (by omega)
 rcases Nat.lt_or_ge (bW l k (i + 1)) l.length with h | h
 ·
  exact h
 ·
  rw [List.drop_eq_nil_of_le h] at h2
  obtain ⟨q, hq⟩ : ∃ q, l[i].c.toNat - k = q + 1 := ⟨l[i].c.toNat - k - 1, by omega⟩
  rw [hq] at h2; cases h2

def fT : Nat → List Nd → List Nat
 | _, [] => []
 | o, n :: l => if n.k = 1 then o :: fT (o + 1) l else fT (o + 1) l
def iN (l : List Nd) : List Nat := if dH l then fT 0 l else []
theorem kO : ∀ (l : List Nd) (o : Nat), (fT o l).length = lv l
 | [], _ => rfl
 | n :: l, o => by
  rw [fT, lv]
  split
  ·
   simp [kO l]; omega
  ·
   simp [kO l]
theorem qA : ∀ (a b : List Nd) (o : Nat), fT o (a ++ b) = fT o a ++ fT (o + a.length) b
 | [], b, o => by simp [fT]
 | n :: a, b, o => by
  simp only [List.cons_append, fT, qA a b, List.length_cons]
  grind
theorem aO3 {l : List Nd} {i : Nat} (h : i < l.length) : fT 0 (l.take (i + 1)) = fT 0 (l.take i) ++ (if l[i].k = 1 then [i] else []) := by
 rw [List.take_succ_eq_append_getElem h, qA]
 have : (l.take i).length = i := by simp; omega
 simp_all [Nat.zero_add, fT]
theorem aH2 {l : List Nd} (h : IsTree l) : 1 ≤ lv l := by
 have key : ∀ (l : List Nd) (m : Nat), skip (m + 1) l = some [] → (∀ n ∈ l, bK n = true) → 1 ≤ lv l := by
  intro l
  induction l with
  | nil => intro m h; cases h
  | cons n l ih =>
   intro m h hn
   have h' : skip (m + n.c.toNat) l = some [] := h
   obtain ⟨c1, c2, c3, c4⟩ := cU (hn n List.mem_cons_self)
   rw [lv]
   split
   ·
    omega
   ·
    rename_i hk
    have := c4 hk
    obtain ⟨q, hq⟩ : ∃ q, m + n.c.toNat = q + 1 := ⟨m + n.c.toNat - 1, by omega⟩
    grind
 exact key l 0 h.skip h.node

def cnt (l : List Bool) : Nat := (l.filter id).length
theorem aO4 (a b : List Bool) : cnt (a ++ b) = cnt a + cnt b := by simp [cnt]
theorem bH1 (l : List Bool) : cnt l ≤ l.length := List.length_filter_le _ _
theorem aH3 (l : List Bool) : cnt l.reverse = cnt l := by simp [cnt, List.filter_reverse]
def iE (n : Nd) (l : List Bool) : Bool := if n.k = 2 then cnt l == l.length else if n.k = 3 then decide (1 ≤ cnt l) else decide (n.n ≤ cnt l)
def evS (T : Nat) (tr : List Bool) : List Nd → List Bool
 | [] => []
 | n :: l => if n.k = 1 then tr.getD (T - lv (n :: l)) false :: evS T tr l else iE n ((evS T tr l).take n.c.toNat) :: (evS T tr l).drop n.c.toNat
theorem aH4 {T : Nat} {tr : List Bool} : ∀ (l : List Nd) (m : Nat) (r : List Nd), (∀ n ∈ l, bK n = true) → skip m l = some r → evS T tr r = (evS T tr l).drop m
 | l, 0, r, _, h => by grind [cE]
 | [], m + 1, r, _, h => by cases h
 | n :: l, m + 1, r, hn, h => by
  have h' : skip (m + n.c.toNat) l = some r := h
  rw [aH4 l _ r (fun x hx => hn x (List.mem_cons_of_mem _ hx)) h', evS]
  obtain ⟨c1, c2, c3, c4⟩ := cU (hn n List.mem_cons_self)
  grind [List.drop_drop, Nat.add_comm]
theorem tL {T : Nat} {tr : List Bool} : ∀ (l : List Nd) (m : Nat), (∀ n ∈ l, bK n = true) → skip m l = some [] → (evS T tr l).length = m
 | [], 0, _, _ => rfl
 | [], m + 1, _, h => by cases h
 | n :: l, 0, _, h => by grind [cE]
 | n :: l, m + 1, hn, h => by
  have h' : skip (m + n.c.toNat) l = some [] := h
  have ih := tL (T := T) (tr := tr) l _ (fun x hx => hn x (List.mem_cons_of_mem _ hx)) h'
  obtain ⟨c1, c2, c3, c4⟩ := cU (hn n List.mem_cons_self)
  grind [evS, List.length_cons, List.length_drop]
def iF (l : List Nd) (tr : List Bool) : Bool := dH l && (evS (lv l) tr l).headD false
def kP (l : List Nd) (tr : List Bool) (i : Nat) : Bool := (evS (lv l) tr (l.drop i)).headD false
theorem lH (l : List Nd) (i : Nat) : lv (l.take i) + lv (l.drop i) = lv l := by rw [← gI, List.take_append_drop]
theorem aO5 {l : List Nd} {tr : List Bool} {i : Nat} (hi : i < l.length) (hk : l[i].k = 1) : kP l tr i = tr.getD (lv (l.take i)) false := by
 have h1 := lH l i
 unfold kP
 rw [List.drop_eq_getElem_cons hi] at h1 ⊢
 rw [evS, if_pos hk]
 grind
theorem aY5 {l : List Nd} (ht : IsTree l) {tr : List Bool} {i : Nat} (hi : i < l.length) {k : Nat} (hk : k < l[i].c.toNat) :
  kP l tr (bW l k (i + 1)) = (evS (lv l) tr (l.drop (i + 1))).getD k false := by
 have key : ∀ k, k ≤ l[i].c.toNat → skip k (l.drop (i + 1)) = some (l.drop (bW l k (i + 1))) := by
  intro k
  induction k with
  | zero => intro _; rw [cE]; rfl
  | succ k ih =>
   grind [eD, dV, gC, gU]
 unfold kP
 rw [aH4 _ _ _ (fun n hn => ht.node n (List.mem_of_mem_drop hn)) (key k (by omega))]
 simp_all
theorem aH5 {l : List Nd} {tr : List Bool} {i : Nat} (hi : i < l.length) (hk : l[i].k ≠ 1) : kP l tr i = iE l[i] ((evS (lv l) tr (l.drop (i + 1))).take l[i].c.toNat) := by
 unfold kP
 rw [List.drop_eq_getElem_cons hi, evS, if_neg hk]; rfl
theorem aH6 {l : List Nd} (ht : IsTree l) {tr : List Bool} {i : Nat} (hi : i < l.length) : l[i].c.toNat ≤ (evS (lv l) tr (l.drop (i + 1))).length := by
 obtain ⟨k, hk⟩ := qZ l 1 ht.skip ht.node i hi
 rw [List.drop_eq_getElem_cons hi] at hk
 have hk' : skip (k + l[i].c.toNat) (l.drop (i + 1)) = some [] := hk
 rw [tL _ _ (fun n hn => ht.node n (List.mem_of_mem_drop hn)) hk']
 omega
end Go.Pl

namespace Go.Pl
open Go Go.Hl

theorem sO (c : UInt8) : ∀ m : aE, aR c (m ++ [c]) = aR c m ++ [[]]
 | [] => by simp [aR]
 | b :: m => by
  have ih := sO c m
  simp only [List.cons_append]
  rw [aR, aR]
  by_cases h : b = c
  ·
   grind
  ·
   rw [if_neg h, if_neg h, ih]
   grind [aR, absurd, cR]
theorem mT {c : UInt8} : ∀ {l : aE}, l ≠ [] → (aR c l).getLast (cR c l) = [] → ∃ m, l = m ++ [c]
 | [], h, _ => absurd rfl h
 | b :: l, _, hl => by
  by_cases h : b = c
  ·
   subst h
   have hs : aR b (b :: l) = [] :: aR b l := by rw [aR, if_pos rfl]
   cases l with
   | nil => simp_all
   | cons d l =>
    have : (aR b (d :: l)).getLast (cR b _) = [] := by
     simp only [hs] at hl
     rw [List.getLast_cons (cR b _)] at hl
     exact hl
    obtain ⟨m, hm⟩ := mT (l := d :: l) (by simp) this
    grind
  ·
   cases hs : aR c l with
   | nil => exact absurd hs (cR c l)
   | cons x xs =>
    have hs2 : aR c (b :: l) = (b :: x) :: xs := by rw [aR, if_neg h, hs]
    simp only [hs2] at hl
    cases xs with
    | nil => grind
    | cons y ys =>
     have hne : l ≠ [] := by rintro rfl; simp [aR] at hs
     have : (aR c l).getLast (cR c l) = [] := by
      simp only [hs]
      rw [List.getLast_cons (by simp)] at hl ⊢
      exact hl
     obtain ⟨m, hm⟩ := mT hne this
     grind
def lL (c : UInt8) : List aE → aE
 | [] => []
 | w :: l => w ++ l.flatMap fun v => c :: v
theorem mU (c : UInt8) : ∀ l : aE, lL c (aR c l) = l
 | [] => rfl
 | b :: l => by
  have ih := mU c l
  rw [aR]
  cases hs : aR c l with
  | nil => exact absurd hs (cR c l)
  | cons x xs =>
   grind [lL]
theorem sQ {c : UInt8} : ∀ {w : aE}, (∀ b ∈ w, b ≠ c) → aR c w = [w]
 | [], _ => rfl
 | b :: w, h => by
  rw [aR, if_neg (h b List.mem_cons_self), sQ fun x hx => h x (List.mem_cons_of_mem _ hx)]
theorem vM {c : UInt8} {r : aE} : ∀ {w : aE}, (∀ b ∈ w, b ≠ c) → aR c (w ++ c :: r) = w :: aR c r
 | [], _ => by simp only [List.nil_append]; rw [aR, if_pos rfl]
 | b :: w, h => by
  simp only [List.cons_append]
  rw [aR, if_neg (h b List.mem_cons_self), vM fun x hx => h x (List.mem_cons_of_mem _ hx)]
theorem mV {c : UInt8} : ∀ {l : List aE}, l ≠ [] → (∀ w ∈ l, ∀ b ∈ w, b ≠ c) → aR c (lL c l) = l
 | [], h, _ => absurd rfl h
 | [w], _, h => by grind [lL, sQ, List.mem_cons_self]
 | w :: v :: l, _, h => by
  have ih := mV (c := c) (l := v :: l) (by simp) fun x hx => h x (List.mem_cons_of_mem _ hx)
  grind [lL, vM, List.mem_cons_self]
theorem aO6 (c : UInt8) (m : aE) : ((aR c m).flatMap fun r => r ++ [c]) = m ++ [c] := by
 have h := mU c m
 cases hs : aR c m with
 | nil => exact absurd hs (cR c m)
 | cons x xs =>
  rw [hs] at h
  simp only [lL] at h
  rw [← h]
  have key : ∀ (x : aE) (xs : List aE), (List.flatMap (fun r => r ++ [c]) (x :: xs)) = (x ++ xs.flatMap fun v => c :: v) ++ [c] := by
   intro x xs
   induction xs generalizing x with
   | nil => simp
   | cons y ys ih =>
    grind
  grind

set_option maxRecDepth 20000 in
theorem aH7 {c : UInt8} (h : valH c < 16) : mI (valH c) = c := by
 have key : ∀ n : Fin 256, valH (UInt8.ofNat n.1) < 16 → mI (valH (UInt8.ofNat n.1)) = UInt8.ofNat n.1 := by decide
 have := key ⟨c.toNat, c.toNat_lt⟩
 simp_all
set_option maxRecDepth 20000 in
theorem yC {n : Nat} (h : n < 16) : valH (mI n) = n := by
 have key : ∀ n : Fin 16, valH (mI n.1) = n.1 := by decide
 exact key ⟨n, h⟩
theorem bH2 {x y : UInt8} (h : okH x y = true) : kM (byteH x y) = [37, x, y] := by
 simp only [okH, Bool.and_eq_true, decide_eq_true_eq, Bool.not_eq_true'] at h
 obtain ⟨⟨h1, h2⟩, h3⟩ := h
 unfold kM
 rw [h3, xR h1 h2]
 have e1 : (16 * valH x + valH y) / 16 = valH x := by omega
 have e2 : (16 * valH x + valH y) % 16 = valH y := by omega
 simp only [Bool.false_eq_true, if_false, e1, e2, aH7 h1, aH7 h2]
theorem vN {c : UInt8} (h : cQ c = true) : kM c = [c] := by unfold kM; grind
theorem aA8 : ∀ (n : Nat) {s w : aE}, s.length ≤ n → unB s = some w → cJ w = s
 | 0, s, w, hn, h => by simp_all [List.eq_nil_of_length_eq_zero, unB, Option.some.injEq]
 | n + 1, [], w, _, h => by simp_all [unB, Option.some.injEq]
 | n + 1, c :: l, w, hn, h => by
  simp only [List.length_cons] at hn
  by_cases hp : cQ c = true
  ·
   rw [nU hp, Option.map_eq_some_iff] at h
   obtain ⟨w', h', rfl⟩ := h
   have ih := aA8 n (by omega) h'
   grind [cJ, vN]
  ·
   have hp : cQ c = false := by simpa using hp
   by_cases hc : c = 37
   ·
    subst hc
    match l, h with
    | [], h => grind [tK]
    | [x], h => grind [tK]
    | x :: y :: l', h =>
     by_cases ho : okH x y = true
     ·
      rw [aA0 ho, Option.map_eq_some_iff] at h
      obtain ⟨w', h', rfl⟩ := h
      have ih := aA8 n (by grind) h'
      grind [cJ, bH2]
     grind [sI]
   grind [tK]
theorem bR1 {s w : aE} (h : unW s = some w) : jI w = s := by
 unfold unW at h
 split at h
 ·
  rename_i hs; cases h; rw [hs]; rfl
 ·
  split at h
  ·
   cases h
  ·
   rename_i h1 h2
   have := aA8 _ (Nat.le_refl _) h
   unfold jI
   rw [if_neg (bY2 h2 h), this]
theorem yD : ∀ w : aE, unB (cJ w) = some w
 | [] => rfl
 | c :: w => by
  have ih := yD w
  have e : cJ (c :: w) = kM c ++ cJ w := by simp [cJ]
  rw [e]
  by_cases hp : cQ c = true
  ·
   grind [vN, nU]
  ·
   have hp : cQ c = false := by simpa using hp
   have hlt := c.toNat_lt
   have h1 : valH (mI (c.toNat / 16)) = c.toNat / 16 := yC (by omega)
   have h2 : valH (mI (c.toNat % 16)) = c.toNat % 16 := yC (by omega)
   have hb : byteH (mI (c.toNat / 16)) (mI (c.toNat % 16)) = c := by
    unfold byteH
    rw [h1, h2, Nat.div_add_mod]
    exact UInt8.ofNat_toNat
   have ho : okH (mI (c.toNat / 16)) (mI (c.toNat % 16)) = true := by
    simp only [okH, hb, hp, h1, h2, Bool.and_eq_true, decide_eq_true_eq, Bool.not_false, and_true]
    omega
   grind [kM, mI, aA0]
theorem yE {c b : UInt8} (h : b ∈ kM c) : b ≠ 10 ∧ b ≠ 32 ∧ b ≠ 126 := by
 unfold kM at h
 split at h
 ·
  rename_i hp
  simp only [List.mem_singleton] at h
  subst h
  refine ⟨?_, ?_, ?_⟩ <;> (rintro rfl; revert hp; decide)
 ·
  have key : ∀ n : Nat, mI n ≠ 10 ∧ mI n ≠ 32 ∧ mI n ≠ 126 := by
   intro n
   unfold mI
   rcases Nat.lt_or_ge n 16 with hn | hn
   ·
    have : ∀ n : Fin 16, ([48, 49, 50, 51, 52, 53, 54, 55, 56, 57, 65, 66, 67, 68, 69, 70] : List UInt8).getD n.1 0 ≠ 10 ∧ ([48, 49, 50, 51, 52, 53, 54, 55, 56, 57, 65, 66, 67, 68, 69, 70] : List UInt8).getD n.1 0 ≠ 32 ∧ ([48, 49, 50, 51, 52, 53, 54, 55, 56, 57, 65, 66, 67, 68, 69, 70] : List UInt8).getD n.1 0 ≠ 126 := by decide
    exact this ⟨n, hn⟩
   ·
    simp_all
  grind
theorem rJ {w : aE} {b : UInt8} (h : b ∈ jI w) : b ≠ 10 ∧ b ≠ 32 := by
 unfold jI at h
 split at h
 ·
  grind
 ·
  obtain ⟨c, _, hc⟩ := List.mem_flatMap.1 h
  grind [yE]
theorem bH3 (w : aE) : unW (jI w) = some w := by
 unfold jI
 split
 ·
  rename_i h; subst h; rfl
 ·
  rename_i h
  have hne : cJ w ≠ [] := by
   intro he
   have := aF3 w
   rw [he] at this
   exact h (List.eq_nil_of_length_eq_zero (by grind))
  have h126 : cJ w ≠ [126] := by
   intro he
   have hm : (126 : UInt8) ∈ cJ w := by rw [he]; simp
   obtain ⟨c, _, hc⟩ := List.mem_flatMap.1 hm
   exact (yE hc).2.2 rfl
  simp_all [unW, if_neg, yD]

theorem rK {α β : Type} {f : α → Option β} : ∀ {l : List α} {m : List β}, l.mapM f = some m → (∀ {g : β → α}, (∀ x y, f x = some y → g y = x) → m.map g = l) ∧ m.length = l.length
 | [], m, h => by grind
 | a :: l, m, h => by
  rw [List.mapM_cons] at h
  cases ha : f a with
  | none => grind
  | some b =>
   rw [ha] at h
   cases hl : l.mapM f with
   | none => grind
   | some m' =>
    rw [hl] at h
    cases h
    obtain ⟨h1, h2⟩ := rK hl
    grind
theorem yF (l : List aE) : gT l = lL 32 (l.map jI) := by
 cases l with
 | nil => rfl
 | cons w l => simp [gT, lL, List.flatMap_map]
theorem bR2 {r : aE} {ws : List aE} (h : unL r = some ws) : gT ws = r := by
 have := (rK h).1 (g := jI) fun x y h => bR1 h
 rw [yF, this, mU]
theorem yG : ∀ l : List aE, (l.map jI).mapM unW = some l
 | [] => rfl
 | w :: l => by rw [List.map_cons, List.mapM_cons, bH3, yG l]; rfl
theorem bH4 {l : List aE} (h : l ≠ []) : unL (gT l) = some l := by
 unfold unL
 rw [yF, mV (by simp_all) (by
  intro w hw b hb
  obtain ⟨v, _, rfl⟩ := List.mem_map.1 hw
  exact (rJ hb).2), yG]
theorem aY6 {l : List aE} {b : UInt8} (h : b ∈ gT l) : b ≠ 10 := by
 cases l with
 | nil => simp at h
 | cons w l =>
  simp only [gT, List.mem_append, List.mem_flatMap] at h
  rcases h with h | ⟨v, _, h⟩
  ·
   exact (rJ h).1
  ·
   rcases List.mem_cons.1 h with rfl | h
   all_goals grind [rJ]
theorem aY7 {ls : List (List aE)} (h : ls ≠ []) : gK ls = lL 10 (ls.map gT) ++ [10] := by
 cases ls with
 | nil => grind
 | cons l ls =>
  have key : ∀ (l : List aE) (ls : List (List aE)), gK (l :: ls) = lL 10 ((l :: ls).map gT) ++ [10] := by
   intro l ls
   induction ls generalizing l with
   | nil => simp [gK, lL, aF4]
   | cons k ls ih =>
    grind [gK, aF4, lL]
  grind
theorem yH (m : aE) : fP (m ++ [10]) = (aR 10 m).mapM unR := by simp_all [sO, fP, if_neg, if_pos, List.dropLast_concat]
theorem aY8 {ls : List (List aE)} (h : ∀ l ∈ ls, okL l = true) : fP (gK ls) = some ls := by
 by_cases hne : ls = []
 ·
  subst hne; simp [fP]
 ·
  rw [aY7 hne, yH, mV (by simpa using hne) (by
   intro w hw b hb
   obtain ⟨l, _, rfl⟩ := List.mem_map.1 hw
   exact aY6 hb)]
  clear hne
  induction ls with
  | nil => rfl
  | cons l ls ih =>
   have hl := h l List.mem_cons_self
   have hr : unR (gT l) = some l := by
    unfold unR
    rw [bH4 ((nT l).1 hl).1]
    simp only [hl, if_true]
   rw [List.map_cons, List.mapM_cons, hr, ih fun x hx => h x (List.mem_cons_of_mem _ hx)]
   rfl

theorem bH5 {rs : List aE} {ls : List (List aE)} (h : rs.mapM unL = some ls) : rs.mapM unR = if ls.all okL then some ls else none := by
 induction rs generalizing ls with
 | nil => grind
 | cons r rs ih =>
  rw [List.mapM_cons] at h
  cases hr : unL r with
  | none => grind
  | some l =>
   rw [hr] at h
   cases hl : rs.mapM unL with
   | none => grind
   | some m =>
    rw [hl] at h
    cases h
    rw [List.mapM_cons, ih hl]
    unfold unR
    rw [hr]
    simp only [List.all_cons]
    by_cases h1 : okL l = true
    ·
     grind
    grind
theorem wP {rs : List aE} (h : rs.mapM unL = none) : rs.mapM unR = none := by
 induction rs with
 | nil => grind
 | cons r rs ih =>
  rw [List.mapM_cons] at h ⊢
  cases hr : unL r with
  | none => unfold unR; grind
  | some l =>
   rw [hr] at h
   have : rs.mapM unL = none := by
    cases hl : rs.mapM unL with
    | none => rfl
    | some m => rw [hl] at h; cases h
   rw [ih this]
   cases unR r <;> rfl
theorem aY9 {m : aE} {ls : List (List aE)} (h : (aR 10 m).mapM unL = some ls) : gK ls = m ++ [10] := by
 have h1 := (rK h).1 (g := gT) fun x y h => bR2 h
 have h2 := aO6 10 m
 rw [← h1] at h2
 rw [← h2]
 simp only [gK, List.flatMap_map]
 rfl
end Go.Pl

namespace Go.Pl
open Go Go.Hl

@[simp] theorem cB2 (l : List W32) (i : Nat) (x : W32) : CV.agg ((l.map w32).set i (w32 x)) = ws (l.set i x) := by rw [← List.map_set]; rfl
@[simp] theorem cB3 (l : List UInt8) (i : Nat) (x : UInt8) : CV.agg ((l.map u8).set i (u8 x)) = us (l.set i x) := by rw [← List.map_set]; rfl
@[simp] theorem cF7 (b : List UInt8) : wA b 0 = wz 64 := rfl
@[simp] theorem cF8 (w : List W32) : wB w 0 = w := rfl
def cG7 (s r : St) (j : Nat) : List W32 := (s.l.zipWith (fun x y => x + y) r.l).take j ++ s.l.drop j
@[simp] theorem cB4 (s r : St) : cG7 s r 0 = s.l := rfl
end Go.Pl

namespace Go.Pl
open Go Go.Hl

section
variable {b : List UInt8} {j : Nat} (h0 : 64 * j ≤ b.length) (h1 : b.length < 64 * j + 64)
include h0 h1
end
section
variable {b : List UInt8} {j : Nat} (h0 : 64 * j ≤ b.length) (h1 : b.length < 64 * j + 64)
include h0 h1
end
@[simp] theorem cF9 (l : List UInt8) : CV.agg (l.map u8) = us l := rfl
def ob8 (s : St) (i : Nat) : UInt8 := UInt8.ofNat ((gw s.l (i / 4)) >>> (24 - 8 * (i % 4))).toNat
def cG8 (s : St) (n : Nat) : List UInt8 := itN (fun i l => l.set i (ob8 s i)) n (uz 32)
@[simp] theorem cB5 (s : St) : cG8 s 0 = uz 32 := rfl
end Go.Pl

namespace Go.Pl
open Go Go.Hl

def cG9 (h : wM) : aE := bY0 h.1
def cH0 (d : Dig) : aE := [115, 104, 97, 50, 53, 54, 58] ++ bY0 d.1
def numW (n : Int) : aE := Lib.itoa n
theorem aH8 {n : Int} (h : 0 ≤ n) : numW n = Lib.decDigits n.natAbs := by unfold numW Lib.itoa; rw [if_neg (by omega)]; congr 1; omega
inductive Av where
 | i (n : Int)
 | l (n : Int)
 | h (x : wM)
 | d (x : Dig)
 | s (w : aE)
def Av.w : Av → aE
 | .i n => numW n
 | .l n => numW n
 | .h x => cG9 x
 | .d x => cH0 x
 | .s w => w
def Av.ok : Av → Prop
 | .i n => -9223372036854775808 ≤ n ∧ n ≤ 9223372036854775807
 | .l n => -9223372036854775808 ≤ n ∧ n ≤ 9223372036854775807
 | _ => True
end Go.Pl

namespace Go.Pl
open Go Go.Hl

def bR3 (c : UInt8) : Nat := if 48 ≤ c.toNat ∧ c.toNat ≤ 57 then c.toNat - 48 else if 97 ≤ c.toNat ∧ c.toNat ≤ 102 then c.toNat - 87 else 16
def hX (s : aE) (i : Nat) : UInt8 := s.getD (2 * i) 0
def hY (s : aE) (i : Nat) : UInt8 := s.getD (2 * i + 1) 0
def hB (s : aE) (i : Nat) : UInt8 := UInt8.ofNat (16 * bR3 (hX s i) + bR3 (hY s i))
def hOk (s : aE) (i : Nat) : Bool := decide (bR3 (hX s i) < 16) && decide (bR3 (hY s i) < 16)
def mW (s : aE) (n : Nat) : Option (List UInt8) := if s.length = 2 * n ∧ (List.range n).all (hOk s) = true then some ((List.range n).map (hB s)) else none
def UhSt (s : aE) (n i : Nat) (l : List UInt8) : Prop := l.length = n ∧ i ≤ n ∧ l.take i = (List.range i).map (hB s) ∧ ∀ j, j < i → hOk s j = true
theorem UhSt.init (s : aE) {n : Nat} {l : List UInt8} (h : l.length = n) : UhSt s n 0 l := ⟨h, Nat.zero_le _, by simp, fun j hj => by omega⟩
theorem UhSt.next {s : aE} {n i : Nat} {l : List UInt8} (h : UhSt s n i l) (hi : i < n) (hk : hOk s i = true) : UhSt s n (i + 1) (l.set i (hB s i)) := by
 obtain ⟨h1, h2, h3, h4⟩ := h
 refine ⟨by simpa using h1, hi, ?_, fun j hj => ?_⟩
 ·
  rw [List.take_succ_eq_append_getElem (by rw [List.length_set]; omega), List.getElem_set_self, List.take_set_of_le (Nat.le_refl _), h3, List.range_succ, List.map_append]
  rfl
 ·
  rcases Nat.lt_or_ge j i with h' | h'
  ·
   exact h4 j h'
  ·
   have : j = i := by omega
   rw [this]; exact hk
theorem UhSt.fin {s : aE} {n : Nat} {l : List UInt8} (h : UhSt s n n l) (hs : s.length = 2 * n) : mW s n = some l := by
 obtain ⟨h1, h2, h3, h4⟩ := h
 unfold mW
 rw [if_pos ⟨hs, by rw [List.all_eq_true]; intro j hj; exact h4 j (List.mem_range.1 hj)⟩, ← h3, List.take_of_length_le (by omega)]
theorem UhSt.bad {s : aE} {n i : Nat} {l : List UInt8} (_ : UhSt s n i l) (hi : i < n) (hk : hOk s i = false) : mW s n = none := by
 unfold mW
 rw [if_neg]
 rintro ⟨_, h⟩
 have := List.all_eq_true.1 h i (List.mem_range.2 hi)
 rw [hk] at this; cases this
theorem oK {s : aE} {n : Nat} {l : List UInt8} (h : mW s n = some l) : l.length = n := by
 unfold mW at h
 split at h
 ·
  cases h; simp
 ·
  cases h
def cD5 (s p : aE) : Bool := decide (p.length ≤ s.length) && (s.take p.length == p)
def cD6 (s : aE) : Option wM := match h : mW s 16 with | some l => some ⟨l, oK h⟩ | none => none
def cH1 : aE := [115, 104, 97, 50, 53, 54, 58]
def cH2 (s : aE) : Option Dig := if cD5 s cH1 then match h : mW (s.drop 7) 32 with | some l => some ⟨l, oK h⟩ | none => none else none
end Go.Pl

namespace Go.Pl
open Go Go.Hl

def wd (l : List aE) (i : Nat) : aE := l.getD i []
theorem vO {l : List aE} {i : Nat} (h : i < l.length) : nth (l.map CV.str) i = .str (wd l i) := by
 rw [aY h, wd, List.getD_eq_getElem?_getD, List.getElem?_eq_getElem h]; rfl
def bH6 (l : List aE) (x : Rt) : Option Rt :=
 if l.length = 3 then match bH (wd l 2) with | some n => some { x with q := x.q ++ [⟨wd l 1, n⟩] } | none => none else none
def cD7 (l : List aE) (x : Rt) : Option Rt :=
 if l.length < 6 then none else match bH (wd l 1), cD6 (wd l 2), bH (wd l 4), bH (wd l 5) with
  | some h, some r, some a, some b => some { x with k := x.k ++ [⟨⟨h, r⟩, wd l 3, l.drop 6, a, b⟩] }
  | _, _, _, _ => none
def cD8 (l : List aE) (x : Rt) : Option Rt :=
 if l.length = 3 then match cH2 (wd l 1), bH (wd l 2) with | some d, some t => some { x with x := x.x ++ [⟨d, t⟩] } | _, _ => none else none
end Go.Pl

namespace Go.Pl
open Go Go.Hl

end Go.Pl

namespace Go.Pl
open Go Go.Hl

end Go.Pl

namespace Go.Pl
open Go Go.Hl

end Go.Pl

namespace Go.Pl
open Go Go.Hl

end Go.Pl

namespace Go.Pl
open Go Go.Hl

end Go.Pl

namespace Go.Hl
open Go Go.RowKit Go.Sort Go.Proofs

end Go.Hl

namespace Go.Pl
open Go Go.Hl

end Go.Pl

namespace Go.Pl
open Go Go.Hl

def rMid (r : Rt) : Prop := (r.q.length ≤ 12 ∧ ∀ q ∈ r.q, q.r.length ≤ 300) ∧ (r.k.length ≤ 32 ∧ ∀ k ∈ r.k, k.o.length ≤ 300 ∧ k.rs.length ≤ 30 ∧ ∀ w ∈ k.rs, w.length ≤ 300) ∧ r.x.length ≤ 65
theorem rMid.sz {r : Rt} (h : rMid r) : rSz r := by
 obtain ⟨⟨h1, h2⟩, ⟨h3, h4⟩, h5⟩ := h
 refine ⟨⟨by omega, fun q hq => by have := h2 q hq; omega⟩, ⟨by omega, fun k hk => ?_⟩, by omega⟩
 obtain ⟨k1, k2, k3⟩ := h4 k hk
 exact ⟨by omega, by omega, fun w hw => by have := k3 w hw; omega⟩
end Go.Pl

namespace Go.Pl
open Go Go.Hl

def aO7 (j : Nat) : aE := ([[113, 117, 111, 116, 97], [107, 101, 121], [114, 101, 118, 111, 107, 101, 100]] : List aE).getD j []
def aZ0 (j : Nat) (l : List aE) (x : Rt) : Option Rt := if j = 0 then bH6 l x else if j = 1 then cD7 l x else cD8 l x
def aH9 (j : Nat) : List (List aE) → Rt → Option (List (List aE) × Rt)
 | [], x => some ([], x)
 | l :: ls, x => if wd l 0 = aO7 j then match aZ0 j l x with | some y => aH9 j ls y | none => none else some (l :: ls, x)
def rL : Nat → Nat → List (List aE) → Rt → Option (List (List aE) × Rt)
 | 0, _, ls, x => some (ls, x)
 | n + 1, j, ls, x => match aH9 j ls x with | some (ls', y) => rL n (j + 1) ls' y | none => none
section
variable {l0 : List aE} {ls : List (List aE)} {x : Rt}
end
theorem bH7 {j : Nat} {l : List aE} {ls : List (List aE)} {x y : Rt} (h : wd l 0 = aO7 j) (hy : aZ0 j l x = some y) : aH9 j (l :: ls) x = aH9 j ls y := by
 rw [aH9, if_pos h, hy]
theorem aZ1 {j : Nat} {l : List aE} {ls : List (List aE)} {x : Rt} (h : wd l 0 ≠ aO7 j) : aH9 j (l :: ls) x = some (l :: ls, x) := by
 rw [aH9, if_neg h]
theorem bH8 {n j : Nat} {l : List aE} {ls : List (List aE)} {x y : Rt} (h : wd l 0 = aO7 j) (hy : aZ0 j l x = some y) : rL (n + 1) j (l :: ls) x = rL (n + 1) j ls y := by grind [rL, bH7]
theorem aZ2 {n j : Nat} {l : List aE} {ls : List (List aE)} {x : Rt} (h : wd l 0 ≠ aO7 j) : rL (n + 1) j (l :: ls) x = rL n (j + 1) (l :: ls) x := by
 simp only [rL, aZ1 h]
theorem bH9 {n j : Nat} {x : Rt} : rL (n + 1) j [] x = rL n (j + 1) [] x := by
 simp only [rL, aH9]

def wOk (l : List aE) : Prop := l ≠ [] ∧ l.length ≤ 120 ∧ ∀ w ∈ l, w.length ≤ 32768
theorem wOk.wd {l : List aE} (h : wOk l) (i : Nat) : (wd l i).length ≤ 32768 := by
 unfold Pl.wd
 rw [List.getD_eq_getElem?_getD]
 rcases Nat.lt_or_ge i l.length with h' | h'
 ·
  rw [List.getElem?_eq_getElem h']; exact h.2.2 _ (List.getElem_mem h')
 grind
def rRead (m : Nat) (x : Rt) : Prop := x.q.length + x.k.length + x.x.length ≤ m ∧ (∀ q ∈ x.q, q.r.length ≤ 32768) ∧ ∀ k ∈ x.k, k.o.length ≤ 32768 ∧ k.rs.length ≤ 120 ∧ ∀ w ∈ k.rs, w.length ≤ 32768
theorem aZ3 {j : Nat} {l : List aE} {x y : Rt} {m : Nat} (hl : wOk l) (h : aZ0 j l x = some y) (hx : rRead m x) : rRead (m + 1) y := by
 obtain ⟨h1, h2, h3⟩ := hx
 unfold aZ0 at h
 split at h
 ·
  unfold bH6 at h
  split at h
  ·
   split at h
   ·
    cases h
    refine ⟨by grind, fun q hq => ?_, h3⟩
    rcases List.mem_append.1 hq with hq | hq
    ·
     grind
    ·
     simp only [List.mem_singleton] at hq; subst hq; exact hl.wd 1
   grind
  grind
 ·
  split at h
  ·
   unfold cD7 at h
   split at h
   ·
    cases h
   ·
    split at h
    ·
     cases h
     refine ⟨by grind, h2, fun k hk => ?_⟩
     rcases List.mem_append.1 hk with hk | hk
     ·
      exact h3 k hk
     ·
      simp only [List.mem_singleton] at hk; subst hk
      exact ⟨hl.wd 3, by show (l.drop 6).length ≤ 120; rw [List.length_drop]; have := hl.2.1; omega, fun w hw => hl.2.2 w (List.mem_of_mem_drop hw)⟩
    grind
  ·
   unfold cD8 at h
   split at h
   ·
    split at h
    ·
     cases h
     exact ⟨by grind, h2, h3⟩
    grind
   grind
theorem rRead.sz {m : Nat} {x : Rt} (h : rRead m x) (hm : m ≤ 100000) : rSz x := by
 obtain ⟨h1, h2, h3⟩ := h
 refine ⟨⟨by omega, fun q hq => by grind⟩, ⟨by omega, fun k hk => ?_⟩, by omega⟩
 obtain ⟨k1, k2, k3⟩ := h3 k hk
 exact ⟨by omega, by omega, fun w hw => by grind⟩
def RtSt (ls0 : List (List aE)) (x0 : Rt) (j : Nat) (rest : List (List aE)) (x : Rt) : Prop :=
 j ≤ 3 ∧ rL 3 0 ls0 x0 = rL (3 - j) j rest x ∧ (∀ l ∈ rest, wOk l) ∧ rest.length ≤ ls0.length ∧ rRead (ls0.length - rest.length) x
section
variable {ls0 rest : List (List aE)} {x0 x : Rt} {j : Nat} {l : List aE}
theorem RtSt.init (h : ∀ l ∈ ls0, wOk l) (hx : rRead 0 x0) : RtSt ls0 x0 0 ls0 x0 := ⟨by omega, rfl, h, Nat.le_refl _, by grind⟩
theorem RtSt.hit {y : Rt} (h : RtSt ls0 x0 j (l :: rest) x) (hj : j < 3) (hw : wd l 0 = aO7 j) (hy : aZ0 j l x = some y) : RtSt ls0 x0 j rest y := by
 obtain ⟨h1, h2, h3, h4, h5⟩ := h
 obtain ⟨n, hn⟩ : ∃ n, 3 - j = n + 1 := ⟨2 - j, by omega⟩
 simp only [List.length_cons] at h4 h5
 refine ⟨h1, by rw [h2, hn, bH8 hw hy], fun l hl => h3 l (List.mem_cons_of_mem _ hl), by omega, ?_⟩
 have := aZ3 (h3 l List.mem_cons_self) hy h5
 grind
theorem RtSt.next (h : RtSt ls0 x0 j rest x) (hj : j < 3) (hw : ∀ l ls, rest = l :: ls → wd l 0 ≠ aO7 j) : RtSt ls0 x0 (j + 1) rest x := by
 obtain ⟨h1, h2, h3, h4, h5⟩ := h
 obtain ⟨n, hn⟩ : ∃ n, 3 - j = n + 1 := ⟨2 - j, by omega⟩
 have hn2 : 3 - (j + 1) = n := by omega
 refine ⟨by omega, ?_, h3, h4, h5⟩
 rw [h2, hn, hn2]
 cases rest with
 | nil => exact bH9
 | cons l ls => exact aZ2 (hw l ls rfl)
theorem RtSt.fin (h : RtSt ls0 x0 3 rest x) : rL 3 0 ls0 x0 = some (rest, x) := by rw [h.2.1]; rfl
end
theorem bR4 {b : aE} : ∀ l ∈ eZ b, wOk l := by
 intro l hl
 unfold eZ at hl
 split at hl
 ·
  cases hv : fP b with
  | none => grind
  | some ls =>
   rw [hv] at hl
   simp only [Option.getD_some] at hl
   unfold fP at hv
   split at hv
   ·
    grind
   ·
    split at hv
    ·
     have key : ∀ {rs : List aE} {ls : List (List aE)}, rs.mapM unR = some ls → ∀ l ∈ ls, okL l = true := by
      intro rs
      induction rs with
      | nil => grind
      | cons r rs ih =>
       intro ls h l hl
       rw [List.mapM_cons] at h
       cases hr : unR r with
       | none => grind
       | some a =>
        rw [hr] at h
        cases hm : rs.mapM unR with
        | none => grind
        | some m =>
         rw [hm] at h
         cases h
         rcases List.mem_cons.1 hl with rfl | hl
         ·
          unfold unR at hr
          split at hr
          ·
           split at hr
           ·
            rename_i hk; cases hr; exact hk
           ·
            cases hr
          ·
           cases hr
         ·
          exact ih hm l hl
     exact (nT l).1 (key hv l hl)
    grind
 grind
theorem bI0 {b : aE} : (eZ b).length ≤ 1000 := by
 unfold eZ
 split
 ·
  grind [iA, fP]
 ·
  simp
end Go.Pl

namespace Go.Pl
open Go Go.Hl

end Go.Pl

namespace Go.Pl
open Go Go.Hl

theorem gD : aF2 = 1099511627776 := rfl
end Go.Pl

namespace Go.Pl
open Go Go.Hl

theorem vP : ∀ (a b : aE) (n m : Nat), dA a n = some m → dA (a ++ b) n = dA b m
 | [], b, n, m, h => by simp only [dA, Option.some.injEq] at h; subst h; rfl
 | c :: a, b, n, m, h => by
  simp only [List.cons_append, dA] at h ⊢
  split at h
  ·
   rename_i hc; rw [if_pos hc]; exact vP a b _ _ h
  ·
   cases h
theorem aT3 {k : Nat} (h : k < 10) : mS (UInt8.ofNat (48 + k)) = true ∧ (UInt8.ofNat (48 + k)).toNat - 48 = k := by
 have e : (UInt8.ofNat (48 + k)).toNat = 48 + k := by simp; omega
 rw [mS, e]
 exact ⟨by simp; omega, by omega⟩
theorem aO8 (u : Nat) : dA (Lib.decDigits u) 0 = some u := by
 induction u using Nat.strongRecOn with
 | ind u ih =>
  rw [Lib.decDigits]
  split
  ·
   rename_i h
   obtain ⟨h1, h2⟩ := aT3 h
   simp only [dA, h1, if_true, h2]; simp
  ·
   rw [vP _ _ 0 (u / 10) (ih _ (by omega))]
   obtain ⟨h1, h2⟩ := aT3 (k := u % 10) (by omega)
   simp only [dA, h1, if_true, h2]
   congr 1; omega
theorem aT4 : ∀ (k u : Nat), u < 10 ^ (k + 1) → (Lib.decDigits u).length ≤ k + 1
 | 0, u, h => by rw [Lib.decDigits, dif_pos (by omega)]; simp
 | k + 1, u, h => by
  rw [Lib.decDigits]
  split
  ·
   simp
  ·
   have := aT4 k (u / 10) (by rw [Nat.pow_succ] at h; omega)
   simp only [List.length_append, List.length_singleton]; omega
theorem bI1 {u : Nat} (h : 1 ≤ u) : ∃ c l, Lib.decDigits u = c :: l ∧ c ≠ 48 := by
 induction u using Nat.strongRecOn with
 | ind u ih =>
  rw [Lib.decDigits]
  split
  ·
   rename_i hu
   refine ⟨_, _, rfl, fun hc => ?_⟩
   have := congrArg UInt8.toNat hc
   simp at this; omega
  ·
   obtain ⟨c, l, h1, h2⟩ := ih (u / 10) (by omega) (by omega)
   exact ⟨c, l ++ [UInt8.ofNat (48 + u % 10)], by rw [h1]; rfl, h2⟩
theorem kQ {n : Int} (h0 : 0 ≤ n) (h1 : n ≤ 1099511627776) : bH (numW n) = some n := by
 rw [aH8 h0]
 have hd := aO8 n.natAbs
 have hl := aT4 12 n.natAbs (by omega)
 have hb : gB (Lib.decDigits n.natAbs) = false := by
  unfold gB
  by_cases hz : n.natAbs = 0
  ·
   rw [hz, Lib.decDigits_one (by omega)]; simp
  ·
   obtain ⟨c, l, h2, h3⟩ := bI1 (u := n.natAbs) (by omega)
   rw [h2] at hl ⊢
   have e : ((c :: l).getD 0 0 == (48 : UInt8)) = false := by simpa using h3
   rw [e, Bool.and_false, Bool.or_false, Bool.or_eq_false_iff]
   exact ⟨by simp, decide_eq_false (by omega)⟩
 rw [aT0 hb hd (by omega)]
 congr 1; omega

theorem bR5 {ls : List (List aE)} (h : lD ls = 0) : iA (pQ ls) = 0 ∧ eZ (pQ ls) = ls := by
 rw [zZ h]
 unfold lD at h
 split at h
 ·
  cases h
 ·
  rename_i h1
  split at h
  ·
   rename_i l hl
   have := List.find?_some hl
   simp only [Bool.not_eq_true'] at this
   exact absurd h (bP4 this)
  ·
   rename_i hn
   split at h
   ·
    cases h
   ·
    rename_i h2
    have hok : ∀ l ∈ ls, okL l = true := fun l hl => by
     have := List.find?_eq_none.1 hn l hl
     simpa using this
    have hv := aY8 hok
    have hE : iA (gK ls) = 0 := by unfold iA; rw [if_neg h2, hv]; simp only; rw [if_neg h1]
    exact ⟨hE, by unfold eZ; rw [if_pos hE, hv]; rfl⟩

end Go.Pl

namespace Go.Pl
open Go Go.Hl

def iG (r : Pr) : Bool := eC r.a && ((gL r.b).isSome && ((gL r.c).isSome && (inB r.g 0 aF2 && dH r.t)))
def fQ : List Pr → Bool
 | [] => true
 | r :: l => !(l.map Pr.a).contains r.a && fQ l
def eX (p : Po) : Bool := eC p.n && (inB p.v 1 aF2 && (decide (p.r.length ≤ 16) && (p.r.all iG && fQ p.r)))
theorem mX (l : List Pr) (r : Pr) : fQ (l ++ [r]) = (fQ l && !(l.map Pr.a).contains r.a) := by
 induction l with
 | nil => simp [fQ]
 | cons x l ih =>
  simp only [List.cons_append, fQ, ih, List.map_append, List.map_cons, List.map_nil, List.contains_append, List.contains_cons, List.contains_nil, Bool.or_false]
  rw [show (x.a == r.a) = (r.a == x.a) from Bool.beq_comm]
  grind
def dK : aE := [114, 101, 108, 101, 97, 115, 101, 100]
def dZ : aE := [99, 104, 97, 105, 110, 101, 100]
def dQ : aE := [97, 112, 112, 114, 111, 118, 101, 100]
def fI : aE := [114, 101, 98, 117, 105, 108, 116]
def gE : aE := [108, 105, 115, 116, 101, 100]
def kD : aE := [99, 108, 101, 97, 110]
def lI : aE := [102, 114, 101, 115, 104]
def jB : aE := [115, 101, 116, 116, 108, 101, 100]
def oT : aE := [97, 108, 108]
def oU : aE := [97, 110, 121]
def dB : aE := [97, 116, 108, 101, 97, 115, 116]
def wEnd : aE := [101, 110, 100]
def wPolicy : aE := [112, 111, 108, 105, 99, 121]
def wRule : aE := [114, 117, 108, 101]
def wlR (q : Rq) : List aE :=
 if q.k = 1 then [dK, numW q.n] else if q.k = 2 then [dZ, q.t] else if q.k = 3 then [dQ, numW q.n]
 else if q.k = 4 then [fI, numW q.n, numW q.m] else if q.k = 5 then [gE, numW q.n] else if q.k = 6 then [kD, numW q.n]
 else if q.k = 7 then [lI, numW q.n] else [jB]
def wlN (n : Nd) : List aE := if n.k = 2 then [oT] else if n.k = 3 then [oU] else [dB, numW n.n]
def dN : Nat → Nat → List Nd → List (List aE)
 | 0, _, _ => []
 | _ + 1, 0, _ => []
 | _ + 1, _ + 1, [] => []
 | f + 1, m + 1, n :: l => if n.k = 1 then wlR n.q :: dN f m l else wlN n :: (dN f n.c.toNat l ++ ([wEnd] :: dN f m ((skip n.c.toNat l).getD [])))
theorem qB {l r : List Nd} {m : Nat} (h : skip m l = some r) : r.length ≤ l.length := by
 obtain ⟨j, h1, rfl, _, _⟩ := gJ l m r h
 grind
theorem eY : ∀ (f : Nat) (m : Nat) (l r : List Nd), l.length < f → skip m l = some r → (∀ n ∈ l, bK n = true) → ∀ g, f ≤ g → dN g m l = dN f m l
 | 0, _, _, _, h, _, _, _, _ => by omega
 | f + 1, 0, l, r, _, _, _, g, hg => by obtain ⟨q, rfl⟩ : ∃ q, g = q + 1 := ⟨g - 1, by omega⟩; cases l <;> rfl
 | f + 1, m + 1, [], r, _, h, _, _, _ => by cases h
 | f + 1, m + 1, n :: l, r, hf, h, hn, g, hg => by
  obtain ⟨q, rfl⟩ : ∃ q, g = q + 1 := ⟨g - 1, by omega⟩
  have h' : skip (m + n.c.toNat) l = some r := h
  have hn' : ∀ x ∈ l, bK x = true := fun x hx => hn x (List.mem_cons_of_mem _ hx)
  have hl : l.length < f := by simpa using hf
  obtain ⟨c1, c2, c3, c4⟩ := cU (hn n List.mem_cons_self)
  simp only [dN]
  split
  ·
   rename_i hk
   rw [c3 hk] at h'
   rw [eY f m l r hl (by grind) hn' q (by omega)]
  ·
   rw [Nat.add_comm, eD] at h'
   cases hs : skip n.c.toNat l with
   | none => grind
   | some r1 =>
    rw [hs] at h'
    have h2 : skip m r1 = some r := h'
    have hr1 := qB hs
    obtain ⟨j, _, hj, _, _⟩ := gJ l _ _ hs
    rw [eY f _ l r1 hl hs hn' q (by omega), Option.getD_some, eY f m r1 r (by omega) h2 (fun x hx => hn' x (by grind)) q (by omega)]
theorem mY : ∀ (f : Nat) (a b : Nat) (l r : List Nd), l.length < f → skip a l = some r → (∀ n ∈ l, bK n = true) → ∀ s, skip b r = some s → dN f (a + b) l = dN f a l ++ dN f b r
 | 0, _, _, _, _, h, _, _, _, _ => by omega
 | f + 1, 0, b, l, r, _, h, _, _, _ => by simp_all [cE, Nat.zero_add, dN]
 | f + 1, a + 1, b, [], r, _, h, _, _, _ => by cases h
 | f + 1, a + 1, b, n :: l, r, hf, h, hn, s, hs => by
  have h' : skip (a + n.c.toNat) l = some r := h
  have hn' : ∀ x ∈ l, bK x = true := fun x hx => hn x (List.mem_cons_of_mem _ hx)
  have hl : l.length < f := by simpa using hf
  obtain ⟨c1, c2, c3, c4⟩ := cU (hn n List.mem_cons_self)
  have hrl := qB h'
  have hrn : ∀ x ∈ r, bK x = true := fun x hx => by grind [gJ, List.mem_of_mem_drop]
  have hfb : dN (f + 1) b r = dN f b r := eY f b r s (by omega) hs hrn (f + 1) (by omega)
  rw [show a + 1 + b = a + b + 1 from by omega, hfb]
  simp only [dN]
  split
  ·
   rename_i hk
   rw [c3 hk] at h'
   rw [mY f a b l r hl (by grind) hn' s hs]; rfl
  ·
   rw [Nat.add_comm, eD] at h'
   cases hs1 : skip n.c.toNat l with
   | none => grind
   | some r1 =>
    rw [hs1] at h'
    have h2 : skip a r1 = some r := h'
    have hr1 := qB hs1
    obtain ⟨j, _, hj, _, _⟩ := gJ l _ _ hs1
    rw [Option.getD_some, mY f a b r1 r (by omega) h2 (fun x hx => hn' x (by rw [hj] at hx; exact List.mem_of_mem_drop hx)) s hs]
    simp
def aO9 (t : List Nd) : List (List aE) := dN (t.length + 1) 1 t
def jC (r : Pr) : List (List aE) := [wRule, r.a, r.b, r.c, numW r.g] :: aO9 r.t
def oV (p : Po) : List (List aE) := [wPolicy, p.n, numW p.v] :: p.r.flatMap jC
def rM (p : Po) : aE := if eX p then pQ (oV p) else []
def wQ (p : Po) : Int := if eX p then lD (oV p) else 1
def jD (l : List Nd) (i : Nat) : List (List aE) := dN (l.length + 1) 1 (l.drop i)
theorem vQ {l : List Nd} {i : Nat} (hi : i < l.length) (hk : l[i].k = 1) : jD l i = [wlR l[i].q] := by
 unfold jD
 rw [List.drop_eq_getElem_cons hi, dN, if_pos hk]
 cases l.length <;> simp [dN]
def dU (l : List Nd) (i k : Nat) : List (List aE) := dN (l.length + 1) k (l.drop (i + 1))
theorem lJ (l : List Nd) (i : Nat) : dU l i 0 = [] := by unfold dU; cases l.drop (i + 1) <;> rfl
theorem sS {l : List Nd} (ht : IsTree l) {i : Nat} (hi : i < l.length) (hk : l[i].k ≠ 1) : jD l i = wlN l[i] :: (dU l i l[i].c.toNat ++ [[wEnd]]) := by
 have ha := (gC ht hi).2.2
 rw [List.drop_eq_getElem_cons hi] at ha
 have ha' : skip (0 + l[i].c.toNat) (l.drop (i + 1)) = some (l.drop (aft l i)) := ha
 rw [Nat.zero_add] at ha'
 have hn' : ∀ x ∈ l.drop (i + 1), bK x = true := fun x hx => ht.node x (List.mem_of_mem_drop hx)
 unfold jD dU
 rw [List.drop_eq_getElem_cons hi]
 simp only [dN]
 rw [if_neg hk, ha', eY l.length _ _ _ (by grind) ha' hn' (l.length + 1) (by omega)]
 have : ∀ f (x : List Nd), dN f 0 x = [] := fun f x => by cases f <;> cases x <;> rfl
 grind
theorem qC {l : List Nd} (ht : IsTree l) {i : Nat} (hi : i < l.length) {k : Nat} (hk : k < l[i].c.toNat) : dU l i (k + 1) = dU l i k ++ jD l (bW l k (i + 1)) := by
 have key : ∀ k, k ≤ l[i].c.toNat → skip k (l.drop (i + 1)) = some (l.drop (bW l k (i + 1))) := by
  intro k
  induction k with
  | zero => intro _; rw [cE]; rfl
  | succ k ih =>
   grind [eD, dV, gC, gU]
 unfold dU jD
 exact mY _ k 1 _ _ (by grind) (key k (by omega)) (fun x hx => ht.node x (List.mem_of_mem_drop hx)) _ (gC ht (gU ht hi hk)).2.2

def eU (w : List aE) : Option Rq :=
 if w.length = 2 ∧ wd w 0 = dK then (bH (wd w 1)).map (⟨1, ·, 0, []⟩)
 else if w.length = 2 ∧ wd w 0 = dZ then some ⟨2, 0, 0, wd w 1⟩
 else if w.length = 2 ∧ wd w 0 = dQ then (bH (wd w 1)).map (⟨3, ·, 0, []⟩)
 else if w.length = 3 ∧ wd w 0 = fI then match bH (wd w 1), bH (wd w 2) with | some n, some m => some ⟨4, n, m, []⟩ | _, _ => none
 else if w.length = 2 ∧ wd w 0 = gE then (bH (wd w 1)).map (⟨5, ·, 0, []⟩)
 else if w.length = 2 ∧ wd w 0 = kD then (bH (wd w 1)).map (⟨6, ·, 0, []⟩)
 else if w.length = 2 ∧ wd w 0 = lI then (bH (wd w 1)).map (⟨7, ·, 0, []⟩)
 else if w.length = 1 ∧ wd w 0 = jB then some ⟨8, 0, 0, []⟩ else none
def jE (w : List aE) : Option Nd :=
 if w.length = 1 ∧ wd w 0 = oT then some ⟨2, 0, 0, rq0⟩ else if w.length = 1 ∧ wd w 0 = oU then some ⟨3, 0, 0, rq0⟩
 else if w.length = 2 ∧ wd w 0 = dB then (bH (wd w 1)).map (⟨4, ·, 0, rq0⟩) else none
def gV (w : List aE) : Bool := w.length == 1 && wd w 0 == wEnd
mutual
def rdN : Nat → List (List aE) → Option (List Nd) × List (List aE)
 | 0, ls => (none, ls)
 | _ + 1, [] => (none, [])
 | f + 1, w :: r => match eU w with
  | some q => (some [⟨1, 0, 0, q⟩], r)
  | none => match jE w with
   | none => (none, w :: r)
   | some n => match rdK f r with
    | (none, r') => (none, r')
    | (some (ts, c), r') => (some ({ n with c := c } :: ts), r')
def rdK : Nat → List (List aE) → Option (List Nd × Int) × List (List aE)
 | 0, ls => (none, ls)
 | f + 1, ls => if gV (ls.headD []) then (some ([], 0), ls.tail) else match rdN f ls with
  | (none, r) => (none, r)
  | (some t, r) => match rdK f r with
   | (none, r') => (none, r')
   | (some (ts, c), r') => (some (t ++ ts, c + 1), r')
end
def rdT (ls : List (List aE)) : Option (List Nd) × List (List aE) := rdN (2 * ls.length + 2) ls
def rdR (ls : List (List aE)) : Option Pr × List (List aE) := match ls with
 | [] => (none, [])
 | w :: r => if w.length = 5 ∧ wd w 0 = wRule then match bH (wd w 4) with
   | none => (none, w :: r)
   | some g => match rdT r with | (none, r') => (none, r') | (some t, r') => (some ⟨wd w 1, wd w 2, wd w 3, g, t⟩, r')
  else (none, w :: r)
def kE : Nat → List (List aE) → List Pr → Option (List Pr) × List (List aE)
 | 0, ls, _ => (none, ls)
 | f + 1, ls, a => if ls = [] then (some a, []) else match rdR ls with
  | (none, r) => (none, r)
  | (some x, r) => kE f r (a ++ [x])
def rdP (ls : List (List aE)) : Option Po × List (List aE) := match ls with
 | [] => (none, [])
 | w :: r => if w.length = 3 ∧ wd w 0 = wPolicy then match bH (wd w 2) with
   | none => (none, w :: r)
   | some v => match kE (r.length + 1) r [] with | (none, r') => (none, r') | (some l, r') => (some ⟨wd w 1, v, l⟩, r')
  else (none, w :: r)
def dpE (b : aE) : Int := if iA b ≠ 0 then iA b else match (rdP (eZ b)).1 with | none => 2 | some p => if eX p then 0 else 1
def dpL (b : aE) : Nat := if iA b ≠ 0 then 0 else match rdP (eZ b) with | (none, r) => (eZ b).length - r.length | (some _, _) => 0
def po0 : Po := ⟨[], 0, []⟩
def dpO (b : aE) : Po := if dpE b = 0 then ((rdP (eZ b)).1).getD po0 else po0
end Go.Pl
