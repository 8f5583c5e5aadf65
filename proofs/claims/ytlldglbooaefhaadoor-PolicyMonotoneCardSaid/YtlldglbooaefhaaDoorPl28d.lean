/- Plain Lean: policies and their lines are each other's inverse (28.4, 28.5). By an AI agent. -/
import Derived.Test.YtlldglbooaefhaaDoorHlCl
import Derived.Test.YtlldglbooaefhaaDoorHvV1
import Derived.Test.YtlldglbooaefhaaDoorHlExt
import Derived.Lib.ItoaLen
import Derived.Sort.Grow
import Derived.Sort.EncStr
set_option linter.unusedSimpArgs false
set_option linter.unusedVariables false
set_option linter.defProp false
namespace Go.Pl
open Go Go.Hl

theorem aO4 {c : UInt8} {l : List UInt8} (h : (aR c l).length = 1) : aR c l = [l] := by
 by_cases hn : dB l c < 0
 all_goals grind [mN, dS, List.length_pos_iff, cP, List.length_cons]

def SplSt (l : aE) (c : UInt8) (i : Nat) (rest : aE) (a : List aE) : Prop :=
 a.length = (aR c l).length ∧ a.take i = (aR c l).take i ∧ (aR c l).drop i = aR c rest ∧ i < (aR c l).length ∧ rest.length ≤ l.length
section
variable {l rest : aE} {c : UInt8} {i k : Nat} {a : List aE}
theorem SplSt.init (l : aE) (c : UInt8) : SplSt l c 0 l (List.replicate (aR c l).length []) :=
 ⟨by simp, by simp, rfl, List.length_pos_iff.2 (cP c l), Nat.le_refl _⟩
theorem SplSt.next (h : SplSt l c i rest a) (hk : dB rest c = (k : Int)) : k < rest.length ∧ SplSt l c (i + 1) (rest.drop (k + 1)) (a.set i (rest.take k)) := by
 obtain ⟨h1, h2, h3, h4, h5⟩ := h
 obtain ⟨k', e1, e2, e3⟩ := dS (l := rest) (c := c) (by omega)
 have : k' = k := by omega
 subst this
 rw [e3] at h3
 have h6 := List.drop_eq_getElem_cons h4
 rw [h6] at h3
 have h7 := List.head_eq_of_cons_eq h3
 have h8 := List.tail_eq_of_cons_eq h3
 refine ⟨e2, by grind, ?_, h8, ?_, by grind⟩
 ·
  rw [List.take_succ_eq_append_getElem (by grind), List.take_succ_eq_append_getElem h4, List.getElem_set_self, List.take_set_of_le (Nat.le_refl _), h2, h7]
 grind [Nat.lt_or_ge, aR, List.drop_eq_nil_of_le, absurd, cP]
theorem SplSt.last (h : SplSt l c i rest a) (hk : dB rest c < 0) : i + 1 = (aR c l).length := by
 obtain ⟨h1, h2, h3, h4, h5⟩ := h
 rw [mN hk] at h3
 have := congrArg List.length h3
 grind
theorem SplSt.fin (h : SplSt l c i rest a) (hi : i + 1 = (aR c l).length) : a.set i rest = aR c l := by
 obtain ⟨h1, h2, h3, h4, h5⟩ := h
 have h6 : (aR c rest).length = 1 := by rw [← h3, List.length_drop]; omega
 rw [aO4 h6] at h3
 have e1 : a.set i rest = (a.set i rest).take (i + 1) := (List.take_of_length_le (by grind)).symm
 rw [e1, List.take_succ_eq_append_getElem (by grind), List.getElem_set_self, List.take_set_of_le (Nat.le_refl _), h2]
 grind [List.take_append_drop, aR]
end

def mV (c : UInt8) : Bool := decide (48 ≤ c.toNat) && decide (c.toNat ≤ 57)
def cY : aE → Nat → Option Nat
 | [], n => some n
 | c :: l, n => if mV c then cY l (10 * n + (c.toNat - 48)) else none
def gB (s : aE) : Bool := decide (s.length < 1) || decide (13 < s.length) || (decide (1 < s.length) && s.getD 0 0 == 48)
def bG (s : aE) : Option Int := if gB s then none else match cY s 0 with | some n => if 1099511627776 < n then none else some (n : Int) | none => none
def DgSt (s : aE) (i n : Nat) : Prop := i ≤ s.length ∧ cY s 0 = cY (s.drop i) n ∧ n < 10 ^ i
theorem DgSt.init (s : aE) : DgSt s 0 0 := ⟨Nat.zero_le _, rfl, by omega⟩
theorem DgSt.next {s : aE} {i n : Nat} (h : DgSt s i n) (hi : i < s.length) (hd : mV s[i] = true) : DgSt s (i + 1) (10 * n + (s[i].toNat - 48)) := by
 obtain ⟨h1, h2, h3⟩ := h
 refine ⟨hi, ?_, ?_⟩
 ·
  rw [h2, List.drop_eq_getElem_cons hi, cY, if_pos hd]
 ·
  simp only [mV, Bool.and_eq_true, decide_eq_true_eq] at hd
  grind
theorem DgSt.bad {s : aE} {i n : Nat} (h : DgSt s i n) (hi : i < s.length) (hd : mV s[i] = false) : cY s 0 = none := by
 rw [h.2.1, List.drop_eq_getElem_cons hi, cY, if_neg (by grind)]
theorem DgSt.fin {s : aE} {i n : Nat} (h : DgSt s i n) (hi : i = s.length) : cY s 0 = some n := by
 rw [h.2.1, hi, List.drop_length]; rfl
theorem DgSt.lt {s : aE} {i n : Nat} (h : DgSt s i n) (hs : s.length ≤ 13) : n < 10000000000000 := by
 have : 10 ^ i ≤ 10 ^ 13 := Nat.pow_le_pow_right (by omega) (Nat.le_trans h.1 hs)
 have := h.2.2
 omega
theorem vL {s : aE} (h : gB s = true) : bG s = none := by unfold bG; grind
theorem yG {s : aE} (h : cY s 0 = none) : bG s = none := by grind [bG]
theorem bG9 {s : aE} {n : Nat} (h : cY s 0 = some n) (h1 : 1099511627776 < n) : bG s = none := by simp_all [bG, if_pos]
theorem aT4 {s : aE} {n : Nat} (h0 : gB s = false) (h : cY s 0 = some n) (h1 : ¬ 1099511627776 < n) : bG s = some (n : Int) := by simp_all [bG, if_neg]
theorem bH0 (c : UInt8) : mV c = (decide ((48 : Int) ≤ (c.toNat : Int)) && decide ((c.toNat : Int) ≤ 57)) := by
 unfold mV
 grind
theorem aO5 {s : aE} {n : Int} (h : bG s = some n) : 0 ≤ n ∧ n ≤ 1099511627776 := by grind [bG]
end Go.Pl

namespace Go.Proofs.YtlldglbooaefhaaDoor
open Go Go.Hl Go.Pl
set_option maxRecDepth 10000
set_option maxHeartbeats 16000000


theorem aO6 (l : List UInt8) (c : UInt8) : cF Tryd.prog 95 [.str l, .str [c]] (fun v => v = .int .i64 (dB l c)) := by
 refine FW Tryd.func95 ?_
 refine R0 ?_
 refine R0 ?_
 refine aC fun K hK => ?_
 refine aK ?_
 refine aC fun K hK => Rg ?_
 iterate 3 refine S0 ?_
 refine aH 18 rfl (fun h2_18 => ?_) (fun h2_18 => ?_)
 ·
  have F := h2_18
  iterate 5 refine SF ?_
  refine T2 (hK _ _ _ ?_)
  clear hK K
  refine CT rfl ?_
  refine R0 ?_
  refine aF (RT Tryd.results95 ?_)
  exact absurd h2_18 (by decide)
 have F := h2_18
 iterate 5 refine SF ?_
 refine aH 22 rfl (fun h2_22 => ?_) (fun h2_22 => ?_)
 ·
  simp only [h2_22]
  refine T2 (hK _ _ _ ?_)
  clear hK K
  refine CT rfl ?_
  refine R0 ?_
  refine aF (RT Tryd.results95 ?_)
  have hl : l = [c] := (eq_of_beq h2_22).symm
  subst hl
  exact aL [] (.int .i64 0) rfl (by simp [dB])
 simp only [h2_22]
 refine T2 (hK _ _ _ ?_)
 clear hK K
 refine CF rfl ?_
 refine R0 ?_
 refine aG (b := (1 : Int) == 1) rfl (fun hb => ?_) (fun hb => ?_)
 ·
  refine aC fun K hK => Rg ?_
  have F := aI @List.getD_cons_zero.{0} (aI h2_18 h2_22)
  iterate 3 refine SF ?_
  refine HS rfl rfl fun K' hK' => T6 ?_
  refine C2 (bG8 l c) ?_
  rintro u rfl
  refine AX (hK' _ _ ?_)
  clear hK' K'
  refine SF ?_
  refine T2 (hK _ _ _ ?_)
  clear hK K
  refine aF (RT Tryd.results95 ?_)
  exact aL [] (.int .i64 (dB l c)) rfl rfl
 exact absurd hb (by decide)





end Go.Proofs.YtlldglbooaefhaaDoor

namespace Go.Pl
open Go Go.Hl

def tab (n : Nat) (f : Nat → Bool) : List Bool := (List.range n).map f
theorem lI (n : Nat) (f : Nat → Bool) : (tab n f).length = n := by simp [tab]
theorem qA {n : Nat} {f : Nat → Bool} {i : Nat} (h : i < n) : (tab n f)[i]'(by rw [lI]; exact h) = f i := by simp [tab]
theorem aZ1 (n : Nat) : List.replicate n false = tab n (fun _ => false) := by
 refine List.ext_getElem (by simp [lI]) fun i h1 h2 => ?_
 grind [qA]
theorem bQ9 {n : Nat} {f : Nat → Bool} {i : Nat} {b : Bool} : (tab n f).set i b = tab n (fun j => if j = i then b else f j) := by
 refine List.ext_getElem (by simp [lI]) fun j h1 h2 => ?_
 rw [lI] at h2
 rw [qA h2, List.getElem_set]
 by_cases e : i = j
 ·
  grind
 ·
  rw [if_neg e, if_neg fun h => e h.symm, qA h2]
theorem aT5 {n : Nat} {f g : Nat → Bool} (h : ∀ i, i < n → f i = g i) : tab n f = tab n g := by grind [List.ext_getElem, lI, qA]
def bC1 (b : Bool) : CV := .bool b
theorem bR0 {n : Nat} {f : Nat → Bool} {i : Nat} (h : i < n) : nth ((tab n f).map bC1) i = .bool (f i) := by
 rw [bV (by rw [lI]; exact h), qA h]; rfl

section
variable (ps : List Pt) (s : aE)
def prt (k : Nat) : Pt := ps.getD k ⟨0, 0⟩
theorem cD8 : mD ps s 0 0 = true := by rw [mD.eq_def]
theorem cD9 (i : Nat) : mD ps s 0 (i + 1) = false := by rw [mD.eq_def]
theorem cE0 (k : Nat) : mD ps s (k + 1) 0 = ((prt ps k).long && mD ps s k 0) := by rw [mD.eq_def]; rfl
theorem oN (k i : Nat) : mD ps s (k + 1) (i + 1) = if (prt ps k).long then mD ps s k (i + 1) || (mD ps s (k + 1) i && (prt ps k).takes (s.getD i 0)) else mD ps s k i && (prt ps k).takes (s.getD i 0) := by
 rw [mD.eq_def]; rfl

def nxt (k i j : Nat) : Bool := if j ≤ i then mD ps s (k + 1) j else false
theorem bH1 (k : Nat) (j : Nat) : (if j = 0 then (mD ps s k 0 && (prt ps k).long) else false) = nxt ps s k 0 j := by
 unfold nxt
 by_cases h : j = 0
 ·
  subst h; rw [if_pos rfl, if_pos (Nat.le_refl _), cE0, Bool.and_comm]
 ·
  rw [if_neg h, if_neg (by omega)]
theorem bH2 (k i : Nat) (j : Nat) : (if j = i + 1 then mD ps s (k + 1) (i + 1) else nxt ps s k i j) = nxt ps s k (i + 1) j := by
 unfold nxt
 grind
theorem bR1 (k : Nat) : tab (s.length + 1) (nxt ps s k s.length) = tab (s.length + 1) (mD ps s (k + 1)) :=
 aT5 fun i hi => by unfold nxt; grind
theorem bH3 : tab (s.length + 1) (fun j => if j = 0 then true else false) = tab (s.length + 1) (mD ps s 0) :=
 aT5 fun i _ => by
  cases i with
  | zero => rw [cD8]; rfl
  | succ i => rw [cD9]; rfl

end
end Go.Pl

namespace Go.Proofs.YtlldglbooaefhaaDoor
open Go Go.Hl Go.Pl
set_option maxRecDepth 10000
set_option maxHeartbeats 16000000

theorem bR2 (c d : UInt8) : ((c.toNat : Int) == (d.toNat : Int)) = (c == d) := by
 by_cases h : c = d
 ·
  simp [h]
 have : ¬ (c.toNat : Int) = (d.toNat : Int) := fun e => h (UInt8.toNat_inj.1 (by omega))
 rw [beq_false_of_ne this, beq_false_of_ne h]
theorem cH2 (c d : UInt8) : ((c.toNat : Int) != (d.toNat : Int)) = !(c == d) := by
 show (!((c.toNat : Int) == (d.toNat : Int))) = _
 rw [bR2]

theorem eT (x : Pt) (hk : x.k ≤ 3) : cF Tryd.prog 64 [x.cv] (fun v => v = .bool x.long) := by
 refine FW Tryd.func64 ?_
 have F := aI @Pt.cells (aI @Pt.isAgg @Pt.getAll)
 refine RF ?_
 refine aC fun K hK => Rg ?_
 have F := @Pt.get_k
 iterate 4 refine SF ?_
 refine aH 5 rfl (fun h1_5 => ?_) (fun h1_5 => ?_)
 ·
  have F := aI @Pt.get_k h1_5
  iterate 5 refine SF ?_
  refine T2 (hK _ _ _ ?_)
  clear hK K
  refine aF (RT Tryd.results64 ?_)
  refine aL [] (.bool _) rfl ?_
  have hkk : x.k = 0 ∨ x.k = 1 ∨ x.k = 2 ∨ x.k = 3 := by omega
  rcases hkk with h | h | h | h <;> simp_all [Pt.long]
 have F := aI @Pt.get_k h1_5
 iterate 5 refine SF ?_
 refine T2 (hK _ _ _ ?_)
 clear hK K
 refine aF (RT Tryd.results64 ?_)
 refine aL [] (.bool _) rfl ?_
 have hkk : x.k = 0 ∨ x.k = 1 ∨ x.k = 2 ∨ x.k = 3 := by omega
 rcases hkk with h | h | h | h <;> simp_all [Pt.long]



theorem bR3 (c : UInt8) : cF Tryd.prog 81 [u8 c] (fun v => v = .bool true) := by
 refine FW Tryd.func81 ?_
 refine R0 ?_
 refine R0 ?_
 refine aF (RT Tryd.results81 ?_)
 exact aL [] (.bool true) rfl rfl


theorem aT6 (c : UInt8) : cF Tryd.prog 82 [u8 c] (fun v => v = .bool (!(c == 47))) := by
 refine FW Tryd.func82 ?_
 refine R0 ?_
 refine R0 ?_
 refine aF (RT Tryd.results82 ?_)
 exact aL [] (.bool (!(c == 47))) (by rw [← cH2 c 47]; rfl) rfl

end Go.Proofs.YtlldglbooaefhaaDoor

namespace Go.Pl
open Go Go.Hl

def aft (l : List Nd) (i : Nat) : Nat := l.length - ((skip 1 (l.drop i)).getD []).length
theorem aO7 {l : List Nd} {i j : Nat} (hj : j ≤ l.length) (h : skip 1 (l.drop i) = some (l.drop j)) : aft l i = j := by grind [aft, List.length_drop]
theorem kC {l : List Nd} (h : IsTree l) {i : Nat} (hi : i < l.length) : i < aft l i ∧ aft l i ≤ l.length ∧ skip 1 (l.drop i) = some (l.drop (aft l i)) := by grind [bE9, aO7]
def AftSt (l : List Nd) (i m p : Nat) : Prop := p ≤ l.length ∧ skip m (l.drop p) = skip 1 (l.drop i)
theorem AftSt.lt {l : List Nd} (ht : IsTree l) {i m p : Nat} (hi : i < l.length) (h : AftSt l i m p) (hm : 0 < m) : p < l.length := by
 rcases Nat.lt_or_ge p l.length with h1 | h1
 ·
  grind
 ·
  have h2 := h.2
  rw [List.drop_eq_nil_of_le h1, (kC ht hi).2.2] at h2
  obtain ⟨k, rfl⟩ : ∃ k, m = k + 1 := ⟨m - 1, by omega⟩
  cases h2
theorem AftSt.next {l : List Nd} {i m p : Nat} (h : AftSt l i (m + 1) p) (hp : p < l.length) : AftSt l i (m + l[p].c.toNat) (p + 1) := by
 refine ⟨hp, ?_⟩
 rw [← h.2, List.drop_eq_getElem_cons hp]; rfl
theorem AftSt.fin {l : List Nd} {i p : Nat} (h : AftSt l i 0 p) : p = aft l i := by
 have h2 := h.2
 rw [cG] at h2
 exact (aO7 h.1 h2.symm).symm
def jT (l : List Nd) : Nat → Nat → List Nat
 | 0, _ => []
 | k + 1, at_ => at_ :: jT l k (aft l at_)
def bH4 (l : List Nd) (i : Nat) : List Nat := jT l (l.getD i nd0).c.toNat (i + 1)
def rJ (l : List Nd) (i : Int) : List Nat := if dF l = true ∧ 0 ≤ i ∧ i < l.length then bH4 l i.toNat else []
theorem yH (l : List Nd) : ∀ (k p : Nat), (jT l k p).length = k
 | 0, _ => rfl
 | k + 1, p => by simp [jT, yH l k]
def dT (l : List Nd) : Nat → Nat → Nat
 | 0, p => p
 | k + 1, p => dT l k (aft l p)
theorem fP (l : List Nd) : ∀ (k p : Nat), dT l (k + 1) p = aft l (dT l k p)
 | 0, p => rfl
 | k + 1, p => fP l k (aft l p)
theorem vM (l : List Nd) : ∀ (k p : Nat), jT l (k + 1) p = jT l k p ++ [dT l k p]
 | 0, p => rfl
 | k + 1, p => by rw [jT, vM l k]; rfl
theorem gK {l : List Nd} (ht : IsTree l) {i : Nat} (hi : i < l.length) : ∀ k, k ≤ l[i].c.toNat → dT l k (i + 1) ≤ l.length ∧ skip (l[i].c.toNat - k) (l.drop (dT l k (i + 1))) = some (l.drop (aft l i)) ∧ i + 1 ≤ dT l k (i + 1)
 | 0, _ => by
  refine ⟨hi, ?_, Nat.le_refl _⟩
  have := (kC ht hi).2.2
  rw [List.drop_eq_getElem_cons hi] at this
  show skip (l[i].c.toNat - 0) _ = _
  rw [← this, Nat.sub_zero]
  show _ = skip (0 + l[i].c.toNat) _
  rw [Nat.zero_add]; rfl
 | k + 1, hk => by
  obtain ⟨h1, h2, h3⟩ := gK ht hi k (by omega)
  have hlt : dT l k (i + 1) < l.length := by
   rcases Nat.lt_or_ge (dT l k (i + 1)) l.length with h | h
   ·
    exact h
   ·
    rw [List.drop_eq_nil_of_le h] at h2
    obtain ⟨q, hq⟩ : ∃ q, l[i].c.toNat - k = q + 1 := ⟨l[i].c.toNat - k - 1, by omega⟩
    rw [hq] at h2; cases h2
  obtain ⟨a1, a2, a3⟩ := kC ht hlt
  rw [fP]
  refine ⟨a2, ?_, by omega⟩
  obtain ⟨q, hq⟩ : ∃ q, l[i].c.toNat - k = 1 + q := ⟨l[i].c.toNat - k - 1, by omega⟩
  rw [hq, eS, a3] at h2
  grind
theorem mW {l : List Nd} (ht : IsTree l) {i : Nat} (hi : i < l.length) {k : Nat} (hk : k < l[i].c.toNat) : dT l k (i + 1) < l.length := by
 obtain ⟨h1, h2, _⟩ := gK ht hi k (by omega)
 rcases Nat.lt_or_ge (dT l k (i + 1)) l.length with h | h
 ·
  exact h
 ·
  rw [List.drop_eq_nil_of_le h] at h2
  obtain ⟨q, hq⟩ : ∃ q, l[i].c.toNat - k = q + 1 := ⟨l[i].c.toNat - k - 1, by omega⟩
  rw [hq] at h2; cases h2

def fT : Nat → List Nd → List Nat
 | _, [] => []
 | o, n :: l => if n.k = 1 then o :: fT (o + 1) l else fT (o + 1) l
def gN (l : List Nd) : List Nat := if dF l then fT 0 l else []
theorem iR : ∀ (l : List Nd) (o : Nat), (fT o l).length = lv l
 | [], _ => rfl
 | n :: l, o => by
  rw [fT, lv]
  split
  ·
   simp [iR l]; omega
  ·
   simp [iR l]
theorem qB : ∀ (a b : List Nd) (o : Nat), fT o (a ++ b) = fT o a ++ fT (o + a.length) b
 | [], b, o => by simp [fT]
 | n :: a, b, o => by
  simp only [List.cons_append, fT, qB a b, List.length_cons]
  grind
theorem aO8 {l : List Nd} {i : Nat} (h : i < l.length) : fT 0 (l.take (i + 1)) = fT 0 (l.take i) ++ (if l[i].k = 1 then [i] else []) := by
 rw [List.take_succ_eq_append_getElem h, qB]
 have : (l.take i).length = i := by simp; omega
 simp_all [Nat.zero_add, fT]
theorem aH5 {l : List Nd} (h : IsTree l) : 1 ≤ lv l := by
 have key : ∀ (l : List Nd) (m : Nat), skip (m + 1) l = some [] → (∀ n ∈ l, bL n = true) → 1 ≤ lv l := by
  intro l
  induction l with
  | nil => intro m h; cases h
  | cons n l ih =>
   intro m h hn
   have h' : skip (m + n.c.toNat) l = some [] := h
   obtain ⟨c1, c2, c3, c4⟩ := dK (hn n List.mem_cons_self)
   rw [lv]
   split
   ·
    omega
   ·
    rename_i hk
    have := c4 hk
    obtain ⟨q, hq⟩ : ∃ q, m + n.c.toNat = q + 1 := ⟨m + n.c.toNat - 1, by omega⟩
    grind
 exact key l 0 h.skip h.node

def cnt (l : List Bool) : Nat := (l.filter id).length
theorem bH5 (l : List Bool) : cnt l ≤ l.length := List.length_filter_le _ _
theorem aH6 (l : List Bool) : cnt l.reverse = cnt l := by simp [cnt, List.filter_reverse]
def gT (n : Nd) (l : List Bool) : Bool := if n.k = 2 then cnt l == l.length else if n.k = 3 then decide (1 ≤ cnt l) else decide (n.n ≤ cnt l)
def evS (T : Nat) (tr : List Bool) : List Nd → List Bool
 | [] => []
 | n :: l => if n.k = 1 then tr.getD (T - lv (n :: l)) false :: evS T tr l else gT n ((evS T tr l).take n.c.toNat) :: (evS T tr l).drop n.c.toNat
theorem aA9 {T : Nat} {tr : List Bool} : ∀ (l : List Nd) (m : Nat), (∀ n ∈ l, bL n = true) → skip m l = some [] → (evS T tr l).length = m
 | [], 0, _, _ => rfl
 | [], m + 1, _, h => by cases h
 | n :: l, 0, _, h => by grind [cG]
 | n :: l, m + 1, hn, h => by
  have h' : skip (m + n.c.toNat) l = some [] := h
  have ih := aA9 (T := T) (tr := tr) l _ (fun x hx => hn x (List.mem_cons_of_mem _ hx)) h'
  obtain ⟨c1, c2, c3, c4⟩ := dK (hn n List.mem_cons_self)
  grind [evS, List.length_cons, List.length_drop]
def gU (l : List Nd) (tr : List Bool) : Bool := dF l && (evS (lv l) tr l).headD false
theorem aB0 (l : List Nd) (i : Nat) : lv (l.take i) + lv (l.drop i) = lv l := by rw [← qZ, List.take_append_drop]
theorem bH6 {l : List Nd} (ht : IsTree l) {tr : List Bool} {i : Nat} (hi : i < l.length) : l[i].c.toNat ≤ (evS (lv l) tr (l.drop (i + 1))).length := by
 obtain ⟨k, hk⟩ := rA l 1 ht.skip ht.node i hi
 rw [List.drop_eq_getElem_cons hi] at hk
 have hk' : skip (k + l[i].c.toNat) (l.drop (i + 1)) = some [] := hk
 rw [aA9 _ _ (fun n hn => ht.node n (List.mem_of_mem_drop hn)) hk']
 omega
end Go.Pl

namespace Go.Pl
open Go Go.Hl

theorem sU (c : UInt8) : ∀ m : aE, aR c (m ++ [c]) = aR c m ++ [[]]
 | [] => by simp [aR]
 | b :: m => by
  have ih := sU c m
  simp only [List.cons_append]
  rw [aR, aR]
  by_cases h : b = c
  ·
   grind
  ·
   rw [if_neg h, if_neg h, ih]
   grind [aR, absurd, cP]
theorem mX {c : UInt8} : ∀ {l : aE}, l ≠ [] → (aR c l).getLast (cP c l) = [] → ∃ m, l = m ++ [c]
 | [], h, _ => absurd rfl h
 | b :: l, _, hl => by
  by_cases h : b = c
  ·
   subst h
   have hs : aR b (b :: l) = [] :: aR b l := by rw [aR, if_pos rfl]
   cases l with
   | nil => simp_all
   | cons d l =>
    have : (aR b (d :: l)).getLast (cP b _) = [] := by
     simp only [hs] at hl
     rw [List.getLast_cons (cP b _)] at hl
     exact hl
    obtain ⟨m, hm⟩ := mX (l := d :: l) (by simp) this
    grind
  ·
   cases hs : aR c l with
   | nil => exact absurd hs (cP c l)
   | cons x xs =>
    have hs2 : aR c (b :: l) = (b :: x) :: xs := by rw [aR, if_neg h, hs]
    simp only [hs2] at hl
    cases xs with
    | nil => grind
    | cons y ys =>
     have hne : l ≠ [] := by rintro rfl; simp [aR] at hs
     have : (aR c l).getLast (cP c l) = [] := by
      simp only [hs]
      rw [List.getLast_cons (by simp)] at hl ⊢
      exact hl
     obtain ⟨m, hm⟩ := mX hne this
     grind
def lO (c : UInt8) : List aE → aE
 | [] => []
 | w :: l => w ++ l.flatMap fun v => c :: v
theorem mY (c : UInt8) : ∀ l : aE, lO c (aR c l) = l
 | [] => rfl
 | b :: l => by
  have ih := mY c l
  rw [aR]
  cases hs : aR c l with
  | nil => exact absurd hs (cP c l)
  | cons x xs =>
   grind [lO]
theorem sV {c : UInt8} : ∀ {w : aE}, (∀ b ∈ w, b ≠ c) → aR c w = [w]
 | [], _ => rfl
 | b :: w, h => by
  rw [aR, if_neg (h b List.mem_cons_self), sV fun x hx => h x (List.mem_cons_of_mem _ hx)]
theorem vN {c : UInt8} {r : aE} : ∀ {w : aE}, (∀ b ∈ w, b ≠ c) → aR c (w ++ c :: r) = w :: aR c r
 | [], _ => by simp only [List.nil_append]; rw [aR, if_pos rfl]
 | b :: w, h => by
  simp only [List.cons_append]
  rw [aR, if_neg (h b List.mem_cons_self), vN fun x hx => h x (List.mem_cons_of_mem _ hx)]
theorem mZ {c : UInt8} : ∀ {l : List aE}, l ≠ [] → (∀ w ∈ l, ∀ b ∈ w, b ≠ c) → aR c (lO c l) = l
 | [], h, _ => absurd rfl h
 | [w], _, h => by grind [lO, sV, List.mem_cons_self]
 | w :: v :: l, _, h => by
  have ih := mZ (c := c) (l := v :: l) (by simp) fun x hx => h x (List.mem_cons_of_mem _ hx)
  grind [lO, vN, List.mem_cons_self]
theorem aO9 (c : UInt8) (m : aE) : ((aR c m).flatMap fun r => r ++ [c]) = m ++ [c] := by
 have h := mY c m
 cases hs : aR c m with
 | nil => exact absurd hs (cP c m)
 | cons x xs =>
  rw [hs] at h
  simp only [lO] at h
  rw [← h]
  have key : ∀ (x : aE) (xs : List aE), (List.flatMap (fun r => r ++ [c]) (x :: xs)) = (x ++ xs.flatMap fun v => c :: v) ++ [c] := by
   intro x xs
   induction xs generalizing x with
   | nil => simp
   | cons y ys ih =>
    grind
  grind

set_option maxRecDepth 20000 in
theorem aH7 {c : UInt8} (h : valH c < 16) : mM (valH c) = c := by
 have key : ∀ n : Fin 256, valH (UInt8.ofNat n.1) < 16 → mM (valH (UInt8.ofNat n.1)) = UInt8.ofNat n.1 := by decide
 have := key ⟨c.toNat, c.toNat_lt⟩
 simp_all
set_option maxRecDepth 20000 in
theorem yI {n : Nat} (h : n < 16) : valH (mM n) = n := by
 have key : ∀ n : Fin 16, valH (mM n.1) = n.1 := by decide
 exact key ⟨n, h⟩
theorem bH7 {x y : UInt8} (h : okH x y = true) : kM (byteH x y) = [37, x, y] := by
 simp only [okH, Bool.and_eq_true, decide_eq_true_eq, Bool.not_eq_true'] at h
 obtain ⟨⟨h1, h2⟩, h3⟩ := h
 unfold kM
 rw [h3, xW h1 h2]
 have e1 : (16 * valH x + valH y) / 16 = valH x := by omega
 have e2 : (16 * valH x + valH y) % 16 = valH y := by omega
 simp only [Bool.false_eq_true, if_false, e1, e2, aH7 h1, aH7 h2]
theorem vO {c : UInt8} (h : cO c = true) : kM c = [c] := by unfold kM; grind
theorem aB1 : ∀ (n : Nat) {s w : aE}, s.length ≤ n → unB s = some w → cI w = s
 | 0, s, w, hn, h => by simp_all [List.eq_nil_of_length_eq_zero, unB, Option.some.injEq]
 | n + 1, [], w, _, h => by simp_all [unB, Option.some.injEq]
 | n + 1, c :: l, w, hn, h => by
  simp only [List.length_cons] at hn
  by_cases hp : cO c = true
  ·
   rw [nY hp, Option.map_eq_some_iff] at h
   obtain ⟨w', h', rfl⟩ := h
   have ih := aB1 n (by omega) h'
   grind [cI, vO]
  ·
   have hp : cO c = false := by simpa using hp
   by_cases hc : c = 37
   ·
    subst hc
    match l, h with
    | [], h => grind [tM]
    | [x], h => grind [tM]
    | x :: y :: l', h =>
     by_cases ho : okH x y = true
     ·
      rw [aA2 ho, Option.map_eq_some_iff] at h
      obtain ⟨w', h', rfl⟩ := h
      have ih := aB1 n (by grind) h'
      grind [cI, bH7]
     grind [sM]
   grind [tM]
theorem bR4 {s w : aE} (h : unW s = some w) : jJ w = s := by
 unfold unW at h
 split at h
 ·
  rename_i hs; cases h; rw [hs]; rfl
 ·
  split at h
  ·
   cases h
  ·
   rename_i h1 h2
   have := aB1 _ (Nat.le_refl _) h
   unfold jJ
   rw [if_neg (bY8 h2 h), this]
theorem yJ : ∀ w : aE, unB (cI w) = some w
 | [] => rfl
 | c :: w => by
  have ih := yJ w
  have e : cI (c :: w) = kM c ++ cI w := by simp [cI]
  rw [e]
  by_cases hp : cO c = true
  ·
   grind [vO, nY]
  ·
   have hp : cO c = false := by simpa using hp
   have hlt := c.toNat_lt
   have h1 : valH (mM (c.toNat / 16)) = c.toNat / 16 := yI (by omega)
   have h2 : valH (mM (c.toNat % 16)) = c.toNat % 16 := yI (by omega)
   have hb : byteH (mM (c.toNat / 16)) (mM (c.toNat % 16)) = c := by
    unfold byteH
    rw [h1, h2, Nat.div_add_mod]
    exact UInt8.ofNat_toNat
   have ho : okH (mM (c.toNat / 16)) (mM (c.toNat % 16)) = true := by
    simp only [okH, hb, hp, h1, h2, Bool.and_eq_true, decide_eq_true_eq, Bool.not_false, and_true]
    omega
   grind [kM, mM, aA2]
theorem yK {c b : UInt8} (h : b ∈ kM c) : b ≠ 10 ∧ b ≠ 32 ∧ b ≠ 126 := by
 unfold kM at h
 split at h
 ·
  rename_i hp
  simp only [List.mem_singleton] at h
  subst h
  refine ⟨?_, ?_, ?_⟩ <;> (rintro rfl; revert hp; decide)
 ·
  have key : ∀ n : Nat, mM n ≠ 10 ∧ mM n ≠ 32 ∧ mM n ≠ 126 := by
   intro n
   unfold mM
   rcases Nat.lt_or_ge n 16 with hn | hn
   ·
    have : ∀ n : Fin 16, ([48, 49, 50, 51, 52, 53, 54, 55, 56, 57, 65, 66, 67, 68, 69, 70] : List UInt8).getD n.1 0 ≠ 10 ∧ ([48, 49, 50, 51, 52, 53, 54, 55, 56, 57, 65, 66, 67, 68, 69, 70] : List UInt8).getD n.1 0 ≠ 32 ∧ ([48, 49, 50, 51, 52, 53, 54, 55, 56, 57, 65, 66, 67, 68, 69, 70] : List UInt8).getD n.1 0 ≠ 126 := by decide
    exact this ⟨n, hn⟩
   ·
    simp_all
  grind
theorem rK {w : aE} {b : UInt8} (h : b ∈ jJ w) : b ≠ 10 ∧ b ≠ 32 := by
 unfold jJ at h
 split at h
 ·
  grind
 ·
  obtain ⟨c, _, hc⟩ := List.mem_flatMap.1 h
  grind [yK]
theorem bH8 (w : aE) : unW (jJ w) = some w := by
 unfold jJ
 split
 ·
  rename_i h; subst h; rfl
 ·
  rename_i h
  have hne : cI w ≠ [] := by
   intro he
   have := aF6 w
   rw [he] at this
   exact h (List.eq_nil_of_length_eq_zero (by grind))
  have h126 : cI w ≠ [126] := by
   intro he
   have hm : (126 : UInt8) ∈ cI w := by rw [he]; simp
   obtain ⟨c, _, hc⟩ := List.mem_flatMap.1 hm
   exact (yK hc).2.2 rfl
  simp_all [unW, if_neg, yJ]

theorem rL {α β : Type} {f : α → Option β} : ∀ {l : List α} {m : List β}, l.mapM f = some m → (∀ {g : β → α}, (∀ x y, f x = some y → g y = x) → m.map g = l) ∧ m.length = l.length
 | [], m, h => by grind
 | a :: l, m, h => by
  rw [List.mapM_cons] at h
  cases ha : f a with
  | none => grind
  | some b =>
   rw [ha] at h
   cases hl : l.mapM f with
   | none => grind
   | some m' =>
    rw [hl] at h
    cases h
    obtain ⟨h1, h2⟩ := rL hl
    grind
theorem yL (l : List aE) : gS l = lO 32 (l.map jJ) := by
 cases l with
 | nil => rfl
 | cons w l => simp [gS, lO, List.flatMap_map]
theorem bR5 {r : aE} {ws : List aE} (h : unL r = some ws) : gS ws = r := by
 have := (rL h).1 (g := jJ) fun x y h => bR4 h
 rw [yL, this, mY]
theorem yM : ∀ l : List aE, (l.map jJ).mapM unW = some l
 | [] => rfl
 | w :: l => by rw [List.map_cons, List.mapM_cons, bH8, yM l]; rfl
theorem bH9 {l : List aE} (h : l ≠ []) : unL (gS l) = some l := by
 unfold unL
 rw [yL, mZ (by simp_all) (by
  intro w hw b hb
  obtain ⟨v, _, rfl⟩ := List.mem_map.1 hw
  exact (rK hb).2), yM]
theorem aZ2 {l : List aE} {b : UInt8} (h : b ∈ gS l) : b ≠ 10 := by
 cases l with
 | nil => simp at h
 | cons w l =>
  simp only [gS, List.mem_append, List.mem_flatMap] at h
  rcases h with h | ⟨v, _, h⟩
  ·
   exact (rK h).1
  ·
   rcases List.mem_cons.1 h with rfl | h
   all_goals grind [rK]
theorem aZ3 {ls : List (List aE)} (h : ls ≠ []) : gI ls = lO 10 (ls.map gS) ++ [10] := by
 cases ls with
 | nil => grind
 | cons l ls =>
  have key : ∀ (l : List aE) (ls : List (List aE)), gI (l :: ls) = lO 10 ((l :: ls).map gS) ++ [10] := by
   intro l ls
   induction ls generalizing l with
   | nil => simp [gI, lO, aF7]
   | cons k ls ih =>
    grind [gI, aF7, lO]
  grind
theorem yN (m : aE) : fO (m ++ [10]) = (aR 10 m).mapM unR := by simp_all [sU, fO, if_neg, if_pos, List.dropLast_concat]
theorem aZ4 {ls : List (List aE)} (h : ∀ l ∈ ls, okL l = true) : fO (gI ls) = some ls := by
 by_cases hne : ls = []
 ·
  subst hne; simp [fO]
 ·
  rw [aZ3 hne, yN, mZ (by simpa using hne) (by
   intro w hw b hb
   obtain ⟨l, _, rfl⟩ := List.mem_map.1 hw
   exact aZ2 hb)]
  clear hne
  induction ls with
  | nil => rfl
  | cons l ls ih =>
   have hl := h l List.mem_cons_self
   have hr : unR (gS l) = some l := by
    unfold unR
    rw [bH9 ((nX l).1 hl).1]
    simp only [hl, if_true]
   rw [List.map_cons, List.mapM_cons, hr, ih fun x hx => h x (List.mem_cons_of_mem _ hx)]
   rfl

theorem bI0 {rs : List aE} {ls : List (List aE)} (h : rs.mapM unL = some ls) : rs.mapM unR = if ls.all okL then some ls else none := by
 induction rs generalizing ls with
 | nil => grind
 | cons r rs ih =>
  rw [List.mapM_cons] at h
  cases hr : unL r with
  | none => grind
  | some l =>
   rw [hr] at h
   cases hl : rs.mapM unL with
   | none => grind
   | some m =>
    rw [hl] at h
    cases h
    rw [List.mapM_cons, ih hl]
    unfold unR
    rw [hr]
    simp only [List.all_cons]
    by_cases h1 : okL l = true
    ·
     grind
    grind
theorem wU {rs : List aE} (h : rs.mapM unL = none) : rs.mapM unR = none := by
 induction rs with
 | nil => grind
 | cons r rs ih =>
  rw [List.mapM_cons] at h ⊢
  cases hr : unL r with
  | none => unfold unR; grind
  | some l =>
   rw [hr] at h
   have : rs.mapM unL = none := by
    cases hl : rs.mapM unL with
    | none => rfl
    | some m => rw [hl] at h; cases h
   rw [ih this]
   cases unR r <;> rfl
theorem aZ5 {m : aE} {ls : List (List aE)} (h : (aR 10 m).mapM unL = some ls) : gI ls = m ++ [10] := by
 have h1 := (rL h).1 (g := gS) fun x y h => bR5 h
 have h2 := aO9 10 m
 rw [← h1] at h2
 rw [← h2]
 simp only [gI, List.flatMap_map]
 rfl
end Go.Pl

namespace Go.Pl
open Go Go.Hl

@[simp] theorem cB8 (l : List W32) (i : Nat) (x : W32) : CV.agg ((l.map w32).set i (w32 x)) = ws (l.set i x) := by rw [← List.map_set]; rfl
@[simp] theorem cB9 (l : List UInt8) (i : Nat) (x : UInt8) : CV.agg ((l.map u8).set i (u8 x)) = us (l.set i x) := by rw [← List.map_set]; rfl
@[simp] theorem cG3 (b : List UInt8) : wA b 0 = wz 64 := rfl
@[simp] theorem cG4 (w : List W32) : wB w 0 = w := rfl
def cH3 (s r : St) (j : Nat) : List W32 := (s.l.zipWith (fun x y => x + y) r.l).take j ++ s.l.drop j
@[simp] theorem cC0 (s r : St) : cH3 s r 0 = s.l := rfl
end Go.Pl

namespace Go.Pl
open Go Go.Hl

section
variable {b : List UInt8} {j : Nat} (h0 : 64 * j ≤ b.length) (h1 : b.length < 64 * j + 64)
include h0 h1
end
section
variable {b : List UInt8} {j : Nat} (h0 : 64 * j ≤ b.length) (h1 : b.length < 64 * j + 64)
include h0 h1
end
@[simp] theorem cG5 (l : List UInt8) : CV.agg (l.map u8) = us l := rfl
def ob8 (s : St) (i : Nat) : UInt8 := UInt8.ofNat ((gw s.l (i / 4)) >>> (24 - 8 * (i % 4))).toNat
def cH4 (s : St) (n : Nat) : List UInt8 := itN (fun i l => l.set i (ob8 s i)) n (uz 32)
@[simp] theorem cC1 (s : St) : cH4 s 0 = uz 32 := rfl
end Go.Pl

namespace Go.Pl
open Go Go.Hl

def cH5 (h : wR) : aE := bY6 h.1
def cH6 (d : Dig) : aE := [115, 104, 97, 50, 53, 54, 58] ++ bY6 d.1
def numW (n : Int) : aE := Lib.itoa n
theorem aH8 {n : Int} (h : 0 ≤ n) : numW n = Lib.decDigits n.natAbs := by unfold numW Lib.itoa; rw [if_neg (by omega)]; congr 1; omega
inductive Av where
 | i (n : Int)
 | l (n : Int)
 | h (x : wR)
 | d (x : Dig)
 | s (w : aE)
def Av.w : Av → aE
 | .i n => numW n
 | .l n => numW n
 | .h x => cH5 x
 | .d x => cH6 x
 | .s w => w
def Av.ok : Av → Prop
 | .i n => -9223372036854775808 ≤ n ∧ n ≤ 9223372036854775807
 | .l n => -9223372036854775808 ≤ n ∧ n ≤ 9223372036854775807
 | _ => True
end Go.Pl

namespace Go.Pl
open Go Go.Hl

def bR6 (c : UInt8) : Nat := if 48 ≤ c.toNat ∧ c.toNat ≤ 57 then c.toNat - 48 else if 97 ≤ c.toNat ∧ c.toNat ≤ 102 then c.toNat - 87 else 16
def hX (s : aE) (i : Nat) : UInt8 := s.getD (2 * i) 0
def hY (s : aE) (i : Nat) : UInt8 := s.getD (2 * i + 1) 0
def hB (s : aE) (i : Nat) : UInt8 := UInt8.ofNat (16 * bR6 (hX s i) + bR6 (hY s i))
def hOk (s : aE) (i : Nat) : Bool := decide (bR6 (hX s i) < 16) && decide (bR6 (hY s i) < 16)
def nD (s : aE) (n : Nat) : Option (List UInt8) := if s.length = 2 * n ∧ (List.range n).all (hOk s) = true then some ((List.range n).map (hB s)) else none
def UhSt (s : aE) (n i : Nat) (l : List UInt8) : Prop := l.length = n ∧ i ≤ n ∧ l.take i = (List.range i).map (hB s) ∧ ∀ j, j < i → hOk s j = true
theorem UhSt.init (s : aE) {n : Nat} {l : List UInt8} (h : l.length = n) : UhSt s n 0 l := ⟨h, Nat.zero_le _, by simp, fun j hj => by omega⟩
theorem UhSt.next {s : aE} {n i : Nat} {l : List UInt8} (h : UhSt s n i l) (hi : i < n) (hk : hOk s i = true) : UhSt s n (i + 1) (l.set i (hB s i)) := by
 obtain ⟨h1, h2, h3, h4⟩ := h
 refine ⟨by simpa using h1, hi, ?_, fun j hj => ?_⟩
 ·
  rw [List.take_succ_eq_append_getElem (by rw [List.length_set]; omega), List.getElem_set_self, List.take_set_of_le (Nat.le_refl _), h3, List.range_succ, List.map_append]
  rfl
 ·
  rcases Nat.lt_or_ge j i with h' | h'
  ·
   exact h4 j h'
  ·
   have : j = i := by omega
   rw [this]; exact hk
theorem UhSt.fin {s : aE} {n : Nat} {l : List UInt8} (h : UhSt s n n l) (hs : s.length = 2 * n) : nD s n = some l := by
 obtain ⟨h1, h2, h3, h4⟩ := h
 unfold nD
 rw [if_pos ⟨hs, by rw [List.all_eq_true]; intro j hj; exact h4 j (List.mem_range.1 hj)⟩, ← h3, List.take_of_length_le (by omega)]
theorem UhSt.bad {s : aE} {n i : Nat} {l : List UInt8} (_ : UhSt s n i l) (hi : i < n) (hk : hOk s i = false) : nD s n = none := by
 unfold nD
 rw [if_neg]
 rintro ⟨_, h⟩
 have := List.all_eq_true.1 h i (List.mem_range.2 hi)
 rw [hk] at this; cases this
theorem oO {s : aE} {n : Nat} {l : List UInt8} (h : nD s n = some l) : l.length = n := by
 unfold nD at h
 split at h
 ·
  cases h; simp
 ·
  cases h
def cE1 (s p : aE) : Bool := decide (p.length ≤ s.length) && (s.take p.length == p)
def cE2 (s : aE) : Option wR := match h : nD s 16 with | some l => some ⟨l, oO h⟩ | none => none
def cH7 : aE := [115, 104, 97, 50, 53, 54, 58]
def cH8 (s : aE) : Option Dig := if cE1 s cH7 then match h : nD (s.drop 7) 32 with | some l => some ⟨l, oO h⟩ | none => none else none
end Go.Pl

namespace Go.Pl
open Go Go.Hl

def wd (l : List aE) (i : Nat) : aE := l.getD i []
theorem vP {l : List aE} {i : Nat} (h : i < l.length) : nth (l.map CV.str) i = .str (wd l i) := by
 rw [bV h, wd, List.getD_eq_getElem?_getD, List.getElem?_eq_getElem h]; rfl
def bI1 (l : List aE) (x : Rt) : Option Rt :=
 if l.length = 3 then match bG (wd l 2) with | some n => some { x with q := x.q ++ [⟨wd l 1, n⟩] } | none => none else none
def cE3 (l : List aE) (x : Rt) : Option Rt :=
 if l.length < 6 then none else match bG (wd l 1), cE2 (wd l 2), bG (wd l 4), bG (wd l 5) with
  | some h, some r, some a, some b => some { x with k := x.k ++ [⟨⟨h, r⟩, wd l 3, l.drop 6, a, b⟩] }
  | _, _, _, _ => none
def cE4 (l : List aE) (x : Rt) : Option Rt :=
 if l.length = 3 then match cH8 (wd l 1), bG (wd l 2) with | some d, some t => some { x with x := x.x ++ [⟨d, t⟩] } | _, _ => none else none
end Go.Pl

namespace Go.Pl
open Go Go.Hl

end Go.Pl

namespace Go.Pl
open Go Go.Hl

end Go.Pl

namespace Go.Pl
open Go Go.Hl

end Go.Pl

namespace Go.Pl
open Go Go.Hl

end Go.Pl

namespace Go.Pl
open Go Go.Hl

end Go.Pl

namespace Go.Hl
open Go Go.RowKit Go.Sort Go.Proofs

end Go.Hl

namespace Go.Pl
open Go Go.Hl

end Go.Pl

namespace Go.Pl
open Go Go.Hl

def rMid (r : Rt) : Prop := (r.q.length ≤ 12 ∧ ∀ q ∈ r.q, q.r.length ≤ 300) ∧ (r.k.length ≤ 32 ∧ ∀ k ∈ r.k, k.o.length ≤ 300 ∧ k.rs.length ≤ 30 ∧ ∀ w ∈ k.rs, w.length ≤ 300) ∧ r.x.length ≤ 65
theorem rMid.sz {r : Rt} (h : rMid r) : rSz r := by
 obtain ⟨⟨h1, h2⟩, ⟨h3, h4⟩, h5⟩ := h
 refine ⟨⟨by omega, fun q hq => by have := h2 q hq; omega⟩, ⟨by omega, fun k hk => ?_⟩, by omega⟩
 obtain ⟨k1, k2, k3⟩ := h4 k hk
 exact ⟨by omega, by omega, fun w hw => by have := k3 w hw; omega⟩
end Go.Pl

namespace Go.Pl
open Go Go.Hl

def aP0 (j : Nat) : aE := ([[113, 117, 111, 116, 97], [107, 101, 121], [114, 101, 118, 111, 107, 101, 100]] : List aE).getD j []
def aZ6 (j : Nat) (l : List aE) (x : Rt) : Option Rt := if j = 0 then bI1 l x else if j = 1 then cE3 l x else cE4 l x
def aH9 (j : Nat) : List (List aE) → Rt → Option (List (List aE) × Rt)
 | [], x => some ([], x)
 | l :: ls, x => if wd l 0 = aP0 j then match aZ6 j l x with | some y => aH9 j ls y | none => none else some (l :: ls, x)
def rM : Nat → Nat → List (List aE) → Rt → Option (List (List aE) × Rt)
 | 0, _, ls, x => some (ls, x)
 | n + 1, j, ls, x => match aH9 j ls x with | some (ls', y) => rM n (j + 1) ls' y | none => none
section
variable {l0 : List aE} {ls : List (List aE)} {x : Rt}
end
theorem bI2 {j : Nat} {l : List aE} {ls : List (List aE)} {x y : Rt} (h : wd l 0 = aP0 j) (hy : aZ6 j l x = some y) : aH9 j (l :: ls) x = aH9 j ls y := by
 rw [aH9, if_pos h, hy]
theorem aZ7 {j : Nat} {l : List aE} {ls : List (List aE)} {x : Rt} (h : wd l 0 ≠ aP0 j) : aH9 j (l :: ls) x = some (l :: ls, x) := by
 rw [aH9, if_neg h]
theorem bI3 {n j : Nat} {l : List aE} {ls : List (List aE)} {x y : Rt} (h : wd l 0 = aP0 j) (hy : aZ6 j l x = some y) : rM (n + 1) j (l :: ls) x = rM (n + 1) j ls y := by grind [rM, bI2]
theorem aZ8 {n j : Nat} {l : List aE} {ls : List (List aE)} {x : Rt} (h : wd l 0 ≠ aP0 j) : rM (n + 1) j (l :: ls) x = rM n (j + 1) (l :: ls) x := by
 simp only [rM, aZ7 h]
theorem bI4 {n j : Nat} {x : Rt} : rM (n + 1) j [] x = rM n (j + 1) [] x := by
 simp only [rM, aH9]

def wOk (l : List aE) : Prop := l ≠ [] ∧ l.length ≤ 120 ∧ ∀ w ∈ l, w.length ≤ 32768
theorem wOk.wd {l : List aE} (h : wOk l) (i : Nat) : (wd l i).length ≤ 32768 := by
 unfold Pl.wd
 rw [List.getD_eq_getElem?_getD]
 rcases Nat.lt_or_ge i l.length with h' | h'
 ·
  rw [List.getElem?_eq_getElem h']; exact h.2.2 _ (List.getElem_mem h')
 grind
def rRead (m : Nat) (x : Rt) : Prop := x.q.length + x.k.length + x.x.length ≤ m ∧ (∀ q ∈ x.q, q.r.length ≤ 32768) ∧ ∀ k ∈ x.k, k.o.length ≤ 32768 ∧ k.rs.length ≤ 120 ∧ ∀ w ∈ k.rs, w.length ≤ 32768
theorem aZ9 {j : Nat} {l : List aE} {x y : Rt} {m : Nat} (hl : wOk l) (h : aZ6 j l x = some y) (hx : rRead m x) : rRead (m + 1) y := by
 obtain ⟨h1, h2, h3⟩ := hx
 unfold aZ6 at h
 split at h
 ·
  unfold bI1 at h
  split at h
  ·
   split at h
   ·
    cases h
    refine ⟨by grind, fun q hq => ?_, h3⟩
    rcases List.mem_append.1 hq with hq | hq
    ·
     grind
    ·
     simp only [List.mem_singleton] at hq; subst hq; exact hl.wd 1
   grind
  grind
 ·
  split at h
  ·
   unfold cE3 at h
   split at h
   ·
    cases h
   ·
    split at h
    ·
     cases h
     refine ⟨by grind, h2, fun k hk => ?_⟩
     rcases List.mem_append.1 hk with hk | hk
     ·
      exact h3 k hk
     ·
      simp only [List.mem_singleton] at hk; subst hk
      exact ⟨hl.wd 3, by show (l.drop 6).length ≤ 120; rw [List.length_drop]; have := hl.2.1; omega, fun w hw => hl.2.2 w (List.mem_of_mem_drop hw)⟩
    grind
  ·
   unfold cE4 at h
   split at h
   ·
    split at h
    ·
     cases h
     exact ⟨by grind, h2, h3⟩
    grind
   grind
theorem rRead.sz {m : Nat} {x : Rt} (h : rRead m x) (hm : m ≤ 100000) : rSz x := by
 obtain ⟨h1, h2, h3⟩ := h
 refine ⟨⟨by omega, fun q hq => by grind⟩, ⟨by omega, fun k hk => ?_⟩, by omega⟩
 obtain ⟨k1, k2, k3⟩ := h3 k hk
 exact ⟨by omega, by omega, fun w hw => by grind⟩
def RtSt (ls0 : List (List aE)) (x0 : Rt) (j : Nat) (rest : List (List aE)) (x : Rt) : Prop :=
 j ≤ 3 ∧ rM 3 0 ls0 x0 = rM (3 - j) j rest x ∧ (∀ l ∈ rest, wOk l) ∧ rest.length ≤ ls0.length ∧ rRead (ls0.length - rest.length) x
section
variable {ls0 rest : List (List aE)} {x0 x : Rt} {j : Nat} {l : List aE}
theorem RtSt.init (h : ∀ l ∈ ls0, wOk l) (hx : rRead 0 x0) : RtSt ls0 x0 0 ls0 x0 := ⟨by omega, rfl, h, Nat.le_refl _, by grind⟩
theorem RtSt.hit {y : Rt} (h : RtSt ls0 x0 j (l :: rest) x) (hj : j < 3) (hw : wd l 0 = aP0 j) (hy : aZ6 j l x = some y) : RtSt ls0 x0 j rest y := by
 obtain ⟨h1, h2, h3, h4, h5⟩ := h
 obtain ⟨n, hn⟩ : ∃ n, 3 - j = n + 1 := ⟨2 - j, by omega⟩
 simp only [List.length_cons] at h4 h5
 refine ⟨h1, by rw [h2, hn, bI3 hw hy], fun l hl => h3 l (List.mem_cons_of_mem _ hl), by omega, ?_⟩
 have := aZ9 (h3 l List.mem_cons_self) hy h5
 grind
theorem RtSt.next (h : RtSt ls0 x0 j rest x) (hj : j < 3) (hw : ∀ l ls, rest = l :: ls → wd l 0 ≠ aP0 j) : RtSt ls0 x0 (j + 1) rest x := by
 obtain ⟨h1, h2, h3, h4, h5⟩ := h
 obtain ⟨n, hn⟩ : ∃ n, 3 - j = n + 1 := ⟨2 - j, by omega⟩
 have hn2 : 3 - (j + 1) = n := by omega
 refine ⟨by omega, ?_, h3, h4, h5⟩
 rw [h2, hn, hn2]
 cases rest with
 | nil => exact bI4
 | cons l ls => exact aZ8 (hw l ls rfl)
theorem RtSt.fin (h : RtSt ls0 x0 3 rest x) : rM 3 0 ls0 x0 = some (rest, x) := by rw [h.2.1]; rfl
end
theorem bR7 {b : aE} : ∀ l ∈ eZ b, wOk l := by
 intro l hl
 unfold eZ at hl
 split at hl
 ·
  cases hv : fO b with
  | none => grind
  | some ls =>
   rw [hv] at hl
   simp only [Option.getD_some] at hl
   unfold fO at hv
   split at hv
   ·
    grind
   ·
    split at hv
    ·
     have key : ∀ {rs : List aE} {ls : List (List aE)}, rs.mapM unR = some ls → ∀ l ∈ ls, okL l = true := by
      intro rs
      induction rs with
      | nil => grind
      | cons r rs ih =>
       intro ls h l hl
       rw [List.mapM_cons] at h
       cases hr : unR r with
       | none => grind
       | some a =>
        rw [hr] at h
        cases hm : rs.mapM unR with
        | none => grind
        | some m =>
         rw [hm] at h
         cases h
         rcases List.mem_cons.1 hl with rfl | hl
         ·
          unfold unR at hr
          split at hr
          ·
           split at hr
           ·
            rename_i hk; cases hr; exact hk
           ·
            cases hr
          ·
           cases hr
         ·
          exact ih hm l hl
     exact (nX l).1 (key hv l hl)
    grind
 grind
theorem bI5 {b : aE} : (eZ b).length ≤ 1000 := by
 unfold eZ
 split
 ·
  grind [iB, fO]
 ·
  simp
end Go.Pl

namespace Go.Pl
open Go Go.Hl

end Go.Pl

namespace Go.Pl
open Go Go.Hl

theorem gC : aF5 = 1099511627776 := rfl
end Go.Pl

namespace Go.Pl
open Go Go.Hl

theorem vQ : ∀ (a b : aE) (n m : Nat), cY a n = some m → cY (a ++ b) n = cY b m
 | [], b, n, m, h => by simp only [cY, Option.some.injEq] at h; subst h; rfl
 | c :: a, b, n, m, h => by
  simp only [List.cons_append, cY] at h ⊢
  split at h
  ·
   rename_i hc; rw [if_pos hc]; exact vQ a b _ _ h
  ·
   cases h
theorem aT7 {k : Nat} (h : k < 10) : mV (UInt8.ofNat (48 + k)) = true ∧ (UInt8.ofNat (48 + k)).toNat - 48 = k := by
 have e : (UInt8.ofNat (48 + k)).toNat = 48 + k := by simp; omega
 rw [mV, e]
 exact ⟨by simp; omega, by omega⟩
theorem aP1 (u : Nat) : cY (Lib.decDigits u) 0 = some u := by
 induction u using Nat.strongRecOn with
 | ind u ih =>
  rw [Lib.decDigits]
  split
  ·
   rename_i h
   obtain ⟨h1, h2⟩ := aT7 h
   simp only [cY, h1, if_true, h2]; simp
  ·
   rw [vQ _ _ 0 (u / 10) (ih _ (by omega))]
   obtain ⟨h1, h2⟩ := aT7 (k := u % 10) (by omega)
   simp only [cY, h1, if_true, h2]
   congr 1; omega
theorem aT8 : ∀ (k u : Nat), u < 10 ^ (k + 1) → (Lib.decDigits u).length ≤ k + 1
 | 0, u, h => by rw [Lib.decDigits, dif_pos (by omega)]; simp
 | k + 1, u, h => by
  rw [Lib.decDigits]
  split
  ·
   simp
  ·
   have := aT8 k (u / 10) (by rw [Nat.pow_succ] at h; omega)
   simp only [List.length_append, List.length_singleton]; omega
theorem bI6 {u : Nat} (h : 1 ≤ u) : ∃ c l, Lib.decDigits u = c :: l ∧ c ≠ 48 := by
 induction u using Nat.strongRecOn with
 | ind u ih =>
  rw [Lib.decDigits]
  split
  ·
   rename_i hu
   refine ⟨_, _, rfl, fun hc => ?_⟩
   have := congrArg UInt8.toNat hc
   simp at this; omega
  ·
   obtain ⟨c, l, h1, h2⟩ := ih (u / 10) (by omega) (by omega)
   exact ⟨c, l ++ [UInt8.ofNat (48 + u % 10)], by rw [h1]; rfl, h2⟩
theorem kO {n : Int} (h0 : 0 ≤ n) (h1 : n ≤ 1099511627776) : bG (numW n) = some n := by
 rw [aH8 h0]
 have hd := aP1 n.natAbs
 have hl := aT8 12 n.natAbs (by omega)
 have hb : gB (Lib.decDigits n.natAbs) = false := by
  unfold gB
  by_cases hz : n.natAbs = 0
  ·
   rw [hz, Lib.decDigits_one (by omega)]; simp
  ·
   obtain ⟨c, l, h2, h3⟩ := bI6 (u := n.natAbs) (by omega)
   rw [h2] at hl ⊢
   have e : ((c :: l).getD 0 0 == (48 : UInt8)) = false := by simpa using h3
   rw [e, Bool.and_false, Bool.or_false, Bool.or_eq_false_iff]
   exact ⟨by simp, decide_eq_false (by omega)⟩
 rw [aT4 hb hd (by omega)]
 congr 1; omega

theorem bR8 {ls : List (List aE)} (h : lF ls = 0) : iB (pR ls) = 0 ∧ eZ (pR ls) = ls := by
 rw [aA1 h]
 unfold lF at h
 split at h
 ·
  cases h
 ·
  rename_i h1
  split at h
  ·
   rename_i l hl
   have := List.find?_some hl
   simp only [Bool.not_eq_true'] at this
   exact absurd h (bP7 this)
  ·
   rename_i hn
   split at h
   ·
    cases h
   ·
    rename_i h2
    have hok : ∀ l ∈ ls, okL l = true := fun l hl => by
     have := List.find?_eq_none.1 hn l hl
     simpa using this
    have hv := aZ4 hok
    have hE : iB (gI ls) = 0 := by unfold iB; rw [if_neg h2, hv]; simp only; rw [if_neg h1]
    exact ⟨hE, by unfold eZ; rw [if_pos hE, hv]; rfl⟩

end Go.Pl

namespace Go.Pl
open Go Go.Hl

def iF (r : Pr) : Bool := eD r.a && ((gJ r.b).isSome && ((gJ r.c).isSome && (inB r.g 0 aF5 && dF r.t)))
def fQ : List Pr → Bool
 | [] => true
 | r :: l => !(l.map Pr.a).contains r.a && fQ l
def eX (p : Po) : Bool := eD p.n && (inB p.v 1 aF5 && (decide (p.r.length ≤ 16) && (p.r.all iF && fQ p.r)))
theorem nE (l : List Pr) (r : Pr) : fQ (l ++ [r]) = (fQ l && !(l.map Pr.a).contains r.a) := by
 induction l with
 | nil => simp [fQ]
 | cons x l ih =>
  simp only [List.cons_append, fQ, ih, List.map_append, List.map_cons, List.map_nil, List.contains_append, List.contains_cons, List.contains_nil, Bool.or_false]
  rw [show (x.a == r.a) = (r.a == x.a) from Bool.beq_comm]
  grind
def dI : aE := [114, 101, 108, 101, 97, 115, 101, 100]
def dY : aE := [99, 104, 97, 105, 110, 101, 100]
def dP : aE := [97, 112, 112, 114, 111, 118, 101, 100]
def fH : aE := [114, 101, 98, 117, 105, 108, 116]
def gD : aE := [108, 105, 115, 116, 101, 100]
def kD : aE := [99, 108, 101, 97, 110]
def lJ : aE := [102, 114, 101, 115, 104]
def jB : aE := [115, 101, 116, 116, 108, 101, 100]
def oW : aE := [97, 108, 108]
def oX : aE := [97, 110, 121]
def cZ : aE := [97, 116, 108, 101, 97, 115, 116]
def wEnd : aE := [101, 110, 100]
def wPolicy : aE := [112, 111, 108, 105, 99, 121]
def wRule : aE := [114, 117, 108, 101]
def wlR (q : Rq) : List aE :=
 if q.k = 1 then [dI, numW q.n] else if q.k = 2 then [dY, q.t] else if q.k = 3 then [dP, numW q.n]
 else if q.k = 4 then [fH, numW q.n, numW q.m] else if q.k = 5 then [gD, numW q.n] else if q.k = 6 then [kD, numW q.n]
 else if q.k = 7 then [lJ, numW q.n] else [jB]
def wlN (n : Nd) : List aE := if n.k = 2 then [oW] else if n.k = 3 then [oX] else [cZ, numW n.n]
def dM : Nat → Nat → List Nd → List (List aE)
 | 0, _, _ => []
 | _ + 1, 0, _ => []
 | _ + 1, _ + 1, [] => []
 | f + 1, m + 1, n :: l => if n.k = 1 then wlR n.q :: dM f m l else wlN n :: (dM f n.c.toNat l ++ ([wEnd] :: dM f m ((skip n.c.toNat l).getD [])))
theorem qC {l r : List Nd} {m : Nat} (h : skip m l = some r) : r.length ≤ l.length := by
 obtain ⟨j, h1, rfl, _, _⟩ := gH l m r h
 grind
theorem eY : ∀ (f : Nat) (m : Nat) (l r : List Nd), l.length < f → skip m l = some r → (∀ n ∈ l, bL n = true) → ∀ g, f ≤ g → dM g m l = dM f m l
 | 0, _, _, _, h, _, _, _, _ => by omega
 | f + 1, 0, l, r, _, _, _, g, hg => by obtain ⟨q, rfl⟩ : ∃ q, g = q + 1 := ⟨g - 1, by omega⟩; cases l <;> rfl
 | f + 1, m + 1, [], r, _, h, _, _, _ => by cases h
 | f + 1, m + 1, n :: l, r, hf, h, hn, g, hg => by
  obtain ⟨q, rfl⟩ : ∃ q, g = q + 1 := ⟨g - 1, by omega⟩
  have h' : skip (m + n.c.toNat) l = some r := h
  have hn' : ∀ x ∈ l, bL x = true := fun x hx => hn x (List.mem_cons_of_mem _ hx)
  have hl : l.length < f := by simpa using hf
  obtain ⟨c1, c2, c3, c4⟩ := dK (hn n List.mem_cons_self)
  simp only [dM]
  split
  ·
   rename_i hk
   rw [c3 hk] at h'
   rw [eY f m l r hl (by grind) hn' q (by omega)]
  ·
   rw [Nat.add_comm, eS] at h'
   cases hs : skip n.c.toNat l with
   | none => grind
   | some r1 =>
    rw [hs] at h'
    have h2 : skip m r1 = some r := h'
    have hr1 := qC hs
    obtain ⟨j, _, hj, _, _⟩ := gH l _ _ hs
    rw [eY f _ l r1 hl hs hn' q (by omega), Option.getD_some, eY f m r1 r (by omega) h2 (fun x hx => hn' x (by grind)) q (by omega)]
theorem nF : ∀ (f : Nat) (a b : Nat) (l r : List Nd), l.length < f → skip a l = some r → (∀ n ∈ l, bL n = true) → ∀ s, skip b r = some s → dM f (a + b) l = dM f a l ++ dM f b r
 | 0, _, _, _, _, h, _, _, _, _ => by omega
 | f + 1, 0, b, l, r, _, h, _, _, _ => by simp_all [cG, Nat.zero_add, dM]
 | f + 1, a + 1, b, [], r, _, h, _, _, _ => by cases h
 | f + 1, a + 1, b, n :: l, r, hf, h, hn, s, hs => by
  have h' : skip (a + n.c.toNat) l = some r := h
  have hn' : ∀ x ∈ l, bL x = true := fun x hx => hn x (List.mem_cons_of_mem _ hx)
  have hl : l.length < f := by simpa using hf
  obtain ⟨c1, c2, c3, c4⟩ := dK (hn n List.mem_cons_self)
  have hrl := qC h'
  have hrn : ∀ x ∈ r, bL x = true := fun x hx => by grind [gH, List.mem_of_mem_drop]
  have hfb : dM (f + 1) b r = dM f b r := eY f b r s (by omega) hs hrn (f + 1) (by omega)
  rw [show a + 1 + b = a + b + 1 from by omega, hfb]
  simp only [dM]
  split
  ·
   rename_i hk
   rw [c3 hk] at h'
   rw [nF f a b l r hl (by grind) hn' s hs]; rfl
  ·
   rw [Nat.add_comm, eS] at h'
   cases hs1 : skip n.c.toNat l with
   | none => grind
   | some r1 =>
    rw [hs1] at h'
    have h2 : skip a r1 = some r := h'
    have hr1 := qC hs1
    obtain ⟨j, _, hj, _, _⟩ := gH l _ _ hs1
    rw [Option.getD_some, nF f a b r1 r (by omega) h2 (fun x hx => hn' x (by rw [hj] at hx; exact List.mem_of_mem_drop hx)) s hs]
    simp
def aP2 (t : List Nd) : List (List aE) := dM (t.length + 1) 1 t
def jC (r : Pr) : List (List aE) := [wRule, r.a, r.b, r.c, numW r.g] :: aP2 r.t
def oY (p : Po) : List (List aE) := [wPolicy, p.n, numW p.v] :: p.r.flatMap jC
def rO (p : Po) : aE := if eX p then pR (oY p) else []
def wV (p : Po) : Int := if eX p then lF (oY p) else 1
def jD (l : List Nd) (i : Nat) : List (List aE) := dM (l.length + 1) 1 (l.drop i)
theorem vR {l : List Nd} {i : Nat} (hi : i < l.length) (hk : l[i].k = 1) : jD l i = [wlR l[i].q] := by
 unfold jD
 rw [List.drop_eq_getElem_cons hi, dM, if_pos hk]
 cases l.length <;> simp [dM]
def dU (l : List Nd) (i k : Nat) : List (List aE) := dM (l.length + 1) k (l.drop (i + 1))
theorem lK (l : List Nd) (i : Nat) : dU l i 0 = [] := by unfold dU; cases l.drop (i + 1) <;> rfl
theorem sW {l : List Nd} (ht : IsTree l) {i : Nat} (hi : i < l.length) (hk : l[i].k ≠ 1) : jD l i = wlN l[i] :: (dU l i l[i].c.toNat ++ [[wEnd]]) := by
 have ha := (kC ht hi).2.2
 rw [List.drop_eq_getElem_cons hi] at ha
 have ha' : skip (0 + l[i].c.toNat) (l.drop (i + 1)) = some (l.drop (aft l i)) := ha
 rw [Nat.zero_add] at ha'
 have hn' : ∀ x ∈ l.drop (i + 1), bL x = true := fun x hx => ht.node x (List.mem_of_mem_drop hx)
 unfold jD dU
 rw [List.drop_eq_getElem_cons hi]
 simp only [dM]
 rw [if_neg hk, ha', eY l.length _ _ _ (by grind) ha' hn' (l.length + 1) (by omega)]
 have : ∀ f (x : List Nd), dM f 0 x = [] := fun f x => by cases f <;> cases x <;> rfl
 grind
theorem qD {l : List Nd} (ht : IsTree l) {i : Nat} (hi : i < l.length) {k : Nat} (hk : k < l[i].c.toNat) : dU l i (k + 1) = dU l i k ++ jD l (dT l k (i + 1)) := by
 have key : ∀ k, k ≤ l[i].c.toNat → skip k (l.drop (i + 1)) = some (l.drop (dT l k (i + 1))) := by
  intro k
  induction k with
  | zero => intro _; rw [cG]; rfl
  | succ k ih =>
   grind [eS, fP, kC, mW]
 unfold dU jD
 exact nF _ k 1 _ _ (by grind) (key k (by omega)) (fun x hx => ht.node x (List.mem_of_mem_drop hx)) _ (kC ht (mW ht hi hk)).2.2

def eU (w : List aE) : Option Rq :=
 if w.length = 2 ∧ wd w 0 = dI then (bG (wd w 1)).map (⟨1, ·, 0, []⟩)
 else if w.length = 2 ∧ wd w 0 = dY then some ⟨2, 0, 0, wd w 1⟩
 else if w.length = 2 ∧ wd w 0 = dP then (bG (wd w 1)).map (⟨3, ·, 0, []⟩)
 else if w.length = 3 ∧ wd w 0 = fH then match bG (wd w 1), bG (wd w 2) with | some n, some m => some ⟨4, n, m, []⟩ | _, _ => none
 else if w.length = 2 ∧ wd w 0 = gD then (bG (wd w 1)).map (⟨5, ·, 0, []⟩)
 else if w.length = 2 ∧ wd w 0 = kD then (bG (wd w 1)).map (⟨6, ·, 0, []⟩)
 else if w.length = 2 ∧ wd w 0 = lJ then (bG (wd w 1)).map (⟨7, ·, 0, []⟩)
 else if w.length = 1 ∧ wd w 0 = jB then some ⟨8, 0, 0, []⟩ else none
def jE (w : List aE) : Option Nd :=
 if w.length = 1 ∧ wd w 0 = oW then some ⟨2, 0, 0, rq0⟩ else if w.length = 1 ∧ wd w 0 = oX then some ⟨3, 0, 0, rq0⟩
 else if w.length = 2 ∧ wd w 0 = cZ then (bG (wd w 1)).map (⟨4, ·, 0, rq0⟩) else none
def gV (w : List aE) : Bool := w.length == 1 && wd w 0 == wEnd
mutual
def rdN : Nat → List (List aE) → Option (List Nd) × List (List aE)
 | 0, ls => (none, ls)
 | _ + 1, [] => (none, [])
 | f + 1, w :: r => match eU w with
  | some q => (some [⟨1, 0, 0, q⟩], r)
  | none => match jE w with
   | none => (none, w :: r)
   | some n => match rdK f r with
    | (none, r') => (none, r')
    | (some (ts, c), r') => (some ({ n with c := c } :: ts), r')
def rdK : Nat → List (List aE) → Option (List Nd × Int) × List (List aE)
 | 0, ls => (none, ls)
 | f + 1, ls => if gV (ls.headD []) then (some ([], 0), ls.tail) else match rdN f ls with
  | (none, r) => (none, r)
  | (some t, r) => match rdK f r with
   | (none, r') => (none, r')
   | (some (ts, c), r') => (some (t ++ ts, c + 1), r')
end
def rdT (ls : List (List aE)) : Option (List Nd) × List (List aE) := rdN (2 * ls.length + 2) ls
def rdR (ls : List (List aE)) : Option Pr × List (List aE) := match ls with
 | [] => (none, [])
 | w :: r => if w.length = 5 ∧ wd w 0 = wRule then match bG (wd w 4) with
   | none => (none, w :: r)
   | some g => match rdT r with | (none, r') => (none, r') | (some t, r') => (some ⟨wd w 1, wd w 2, wd w 3, g, t⟩, r')
  else (none, w :: r)
def kE : Nat → List (List aE) → List Pr → Option (List Pr) × List (List aE)
 | 0, ls, _ => (none, ls)
 | f + 1, ls, a => if ls = [] then (some a, []) else match rdR ls with
  | (none, r) => (none, r)
  | (some x, r) => kE f r (a ++ [x])
def rdP (ls : List (List aE)) : Option Po × List (List aE) := match ls with
 | [] => (none, [])
 | w :: r => if w.length = 3 ∧ wd w 0 = wPolicy then match bG (wd w 2) with
   | none => (none, w :: r)
   | some v => match kE (r.length + 1) r [] with | (none, r') => (none, r') | (some l, r') => (some ⟨wd w 1, v, l⟩, r')
  else (none, w :: r)
def dpE (b : aE) : Int := if iB b ≠ 0 then iB b else match (rdP (eZ b)).1 with | none => 2 | some p => if eX p then 0 else 1
def dpL (b : aE) : Nat := if iB b ≠ 0 then 0 else match rdP (eZ b) with | (none, r) => (eZ b).length - r.length | (some _, _) => 0
def po0 : Po := ⟨[], 0, []⟩
def dpO (b : aE) : Po := if dpE b = 0 then ((rdP (eZ b)).1).getD po0 else po0
end Go.Pl

namespace Go.Pl
open Go Go.Hl

theorem sX : ∀ (a : aE) (c : UInt8) (n k : Nat), cY (a ++ [c]) n = some k → ∃ k', cY a n = some k' ∧ mV c = true ∧ k = 10 * k' + (c.toNat - 48)
 | [], c, n, k, h => by
  simp only [List.nil_append, cY] at h
  split at h
  ·
   rename_i hc; cases h; exact ⟨n, rfl, hc, rfl⟩
  ·
   cases h
 | b :: a, c, n, k, h => by
  simp only [List.cons_append, cY] at h ⊢
  split at h
  ·
   rename_i hb; rw [if_pos hb]; exact sX a c _ k h
  ·
   cases h
theorem aT9 : ∀ (m : Nat) (s : aE) (k : Nat), s.length ≤ m → s ≠ [] → (1 < s.length → s.head? ≠ some 48) → cY s 0 = some k → Lib.decDigits k = s
 | 0, s, _, hm, h0, _, _ => absurd (List.eq_nil_of_length_eq_zero (by omega)) h0
 | m + 1, s, k, hm, h0, h1, h => by
  obtain ⟨a, c, rfl⟩ : ∃ a c, s = a ++ [c] := ⟨s.dropLast, s.getLast h0, (List.dropLast_concat_getLast h0).symm⟩
  obtain ⟨k', hk', hc, rfl⟩ := sX a c 0 k h
  simp only [mV, Bool.and_eq_true, decide_eq_true_eq] at hc
  have hcc : UInt8.ofNat (48 + (c.toNat - 48)) = c := by
   refine UInt8.toNat_inj.1 ?_
   rw [UInt8.toNat_ofNat']; omega
  by_cases ha : a = []
  ·
   subst ha
   simp only [cY, Option.some.injEq] at hk'
   subst hk'
   rw [Lib.decDigits_one (by omega)]
   grind
  ·
   have hlen : 1 < (a ++ [c]).length := by
    have := List.length_pos_iff.2 ha
    simp; omega
   have hh : (a ++ [c]).head? = a.head? := by
    cases a with
    | nil => grind
    | cons x a => rfl
   have ih := aT9 m a k' (by grind) ha (fun _ => by grind) hk'
   have hk0 : k' ≠ 0 := by
    rintro rfl
    rw [Lib.decDigits_one (by omega)] at ih
    have := h1 hlen
    rw [hh, ← ih] at this
    exact this rfl
   rw [Lib.decDigits, dif_neg (by omega), show (10 * k' + (c.toNat - 48)) / 10 = k' from by omega, ih, show 48 + (10 * k' + (c.toNat - 48)) % 10 = 48 + (c.toNat - 48) from by omega, hcc]
theorem kP {s : aE} {n : Int} (h : bG s = some n) : numW n = s := by
 have hr := aO5 h
 unfold bG at h
 split at h
 ·
  cases h
 ·
  rename_i hb
  have hb' : gB s = false := by simpa using hb
  simp only [gB, Bool.or_eq_false_iff, decide_eq_false_iff_not, Bool.and_eq_false_iff, beq_eq_false_iff_ne] at hb'
  split at h
  ·
   rename_i k hk
   split at h
   ·
    cases h
   ·
    cases h
    rw [aH8 hr.1]
    refine aT9 s.length s _ (Nat.le_refl _) (fun e => by grind) (fun hl => ?_) (by grind)
    grind [List.head?_eq_getElem?]
  grind
theorem bR9 {w : List aE} (h : w.length = 1) : w = [wd w 0] := by
 match w, h with
 | [a], _ => rfl
theorem bZ3 {w : List aE} (h : w.length = 2) : w = [wd w 0, wd w 1] := by
 match w, h with
 | [a, b], _ => rfl
theorem cE5 {w : List aE} (h : w.length = 3) : w = [wd w 0, wd w 1, wd w 2] := by
 match w, h with
 | [a, b, c], _ => rfl
theorem cH9 {w : List aE} (h : w.length = 5) : w = [wd w 0, wd w 1, wd w 2, wd w 3, wd w 4] := by
 match w, h with
 | [a, b, c, d, e], _ => rfl

theorem bI7 {w : List aE} {q : Rq} (h : eU w = some q) : wlR q = w := by
 have num : ∀ {k : Int} {nm : aE}, (∀ n : Int, wlR ⟨k, n, 0, []⟩ = [nm, numW n]) → w.length = 2 ∧ wd w 0 = nm → (bG (wd w 1)).map (⟨k, ·, 0, []⟩) = some q → wlR q = w := by
  intro k nm h1 h2 h3
  cases hv : bG (wd w 1) with
  | none => grind
  | some n =>
   grind [kP, bZ3]
 unfold eU at h
 split at h
 ·
  rename_i h1; exact num (fun n => rfl) h1 h
 split at h
 ·
  rename_i h1; cases h; rw [bZ3 h1.1, h1.2]; rfl
 split at h
 ·
  rename_i h1; exact num (fun n => rfl) h1 h
 split at h
 ·
  rename_i h1
  split at h
  ·
   rename_i n m hn hm
   cases h
   show [fH, numW n, numW m] = w
   grind [kP, cE5]
  grind
 split at h
 ·
  rename_i h1; exact num (fun n => rfl) h1 h
 split at h
 ·
  rename_i h1; exact num (fun n => rfl) h1 h
 split at h
 ·
  rename_i h1; exact num (fun n => rfl) h1 h
 split at h
 ·
  rename_i h1; cases h; rw [bR9 h1.1, h1.2]; rfl
 grind
theorem bI8 {w : List aE} {n : Nd} (h : jE w = some n) (c : Int) : wlN { n with c := c } = w ∧ n.k ≠ 1 := by
 unfold jE at h
 split at h
 ·
  rename_i h1; cases h; exact ⟨by rw [bR9 h1.1, h1.2]; rfl, by decide⟩
 split at h
 ·
  rename_i h1; cases h; exact ⟨by rw [bR9 h1.1, h1.2]; rfl, by decide⟩
 split at h
 ·
  rename_i h1
  cases hv : bG (wd w 1) with
  | none => grind
  | some m =>
   rw [hv] at h; cases h
   refine ⟨?_, by grind⟩
   show [cZ, numW m] = w
   grind [kP, bZ3]
 grind
theorem jU : ∀ (t x r : List Nd) (m : Nat), skip m t = some r → skip m (t ++ x) = some (r ++ x)
 | t, x, r, 0, h => by grind [cG]
 | [], x, r, m + 1, h => by cases h
 | n :: t, x, r, m + 1, h => by
  have h' : skip (m + n.c.toNat) t = some r := h
  exact jU t x r _ h'
theorem fU : ∀ (f m : Nat) (t x r : List Nd), (t ++ x).length < f → skip m t = some r → (∀ n ∈ t, bL n = true) → dM f m (t ++ x) = dM f m t
 | 0, _, _, _, _, h, _, _ => by omega
 | f + 1, 0, t, x, r, _, _, _ => by cases t <;> cases x <;> rfl
 | f + 1, m + 1, [], x, r, _, h, _ => by cases h
 | f + 1, m + 1, n :: t, x, r, hf, h, hn => by
  have h' : skip (m + n.c.toNat) t = some r := h
  have hn' : ∀ y ∈ t, bL y = true := fun y hy => hn y (List.mem_cons_of_mem _ hy)
  have hl : (t ++ x).length < f := by simpa using hf
  obtain ⟨c1, c2, c3, c4⟩ := dK (hn n List.mem_cons_self)
  simp only [List.cons_append, dM]
  split
  ·
   rename_i hk
   rw [c3 hk] at h'
   rw [fU f m t x r hl (by grind) hn']
  ·
   rw [Nat.add_comm, eS] at h'
   cases hs : skip n.c.toNat t with
   | none => grind
   | some r1 =>
    rw [hs] at h'
    have h2 : skip m r1 = some r := h'
    obtain ⟨j, _, hj, _, _⟩ := gH t _ _ hs
    have hr1 := qC hs
    rw [fU f _ t x r1 hl hs hn', jU t x r1 _ hs, Option.getD_some, Option.getD_some,
     fU f m r1 x r (by grind) h2 (fun y hy => hn' y (by grind))]
theorem yO {w : List aE} (h : gV w = true) : w = [wEnd] := by
 unfold gV at h
 simp only [Bool.and_eq_true, beq_iff_eq] at h
 rw [bR9 h.1, h.2]
theorem bI9 : ∀ (f : Nat), (∀ ls t r, rdN f ls = (some t, r) → (∀ n ∈ t, bL n = true) → skip 1 t = some [] ∧ ls = dM (t.length + 1) 1 t ++ r) ∧
  (∀ ls ts c r, rdK f ls = (some (ts, c), r) → (∀ n ∈ ts, bL n = true) → 0 ≤ c ∧ skip c.toNat ts = some [] ∧ ls = dM (ts.length + 1) c.toNat ts ++ ([wEnd] :: r))
 | 0 => ⟨fun ls t r h _ => (by grind [rdN]), fun ls ts c r h _ => (by grind [rdK])⟩
 | f + 1 => by
  obtain ⟨ihN, ihK⟩ := bI9 f
  have z0 : ∀ f (x : List Nd), dM f 0 x = [] := fun f x => by cases f <;> cases x <;> rfl
  refine ⟨fun ls t r h hn => ?_, fun ls ts c r h hn => ?_⟩
  ·
   cases ls with
   | nil => grind [rdN]
   | cons w rest =>
    simp only [rdN] at h
    split at h
    ·
     rename_i q hq
     cases h
     refine ⟨rfl, ?_⟩
     simp only [List.length_singleton, dM]
     rw [if_pos trivial, bI7 hq]; grind
    ·
     split at h
     ·
      cases h
     ·
      rename_i n hin
      cases hk : rdK f rest with
      | mk o r' =>
       rw [hk] at h
       cases o with
       | none => cases h
       | some p =>
        obtain ⟨ts, c⟩ := p
        simp only [Prod.mk.injEq, Option.some.injEq] at h
        obtain ⟨rfl, rfl⟩ := h
        obtain ⟨g1, g2, g3⟩ := ihK _ _ _ _ hk fun x hx => hn x (List.mem_cons_of_mem _ hx)
        obtain ⟨e1, e2⟩ := bI8 hin c
        refine ⟨?_, ?_⟩
        ·
         show skip (0 + c.toNat) ts = some []
         rw [Nat.zero_add]; exact g2
        ·
         simp only [List.length_cons, dM]
         rw [if_neg e2, e1, g3]
         simp [z0]
  ·
   simp only [rdK] at h
   split at h
   ·
    rename_i he
    cases h
    cases ls with
    | nil => simp [gV] at he
    | cons w rest =>
     have := yO he
     simp only [List.headD_cons] at this
     subst this
     exact ⟨by omega, rfl, rfl⟩
   ·
    cases h1 : rdN f ls with
    | mk o r1 =>
     rw [h1] at h
     cases o with
     | none => cases h
     | some t =>
      simp only at h
      cases h2 : rdK f r1 with
      | mk o2 r2 =>
       rw [h2] at h
       cases o2 with
       | none => cases h
       | some p =>
        obtain ⟨ts2, c2⟩ := p
        simp only [Prod.mk.injEq, Option.some.injEq] at h
        obtain ⟨⟨rfl, rfl⟩, rfl⟩ := h
        obtain ⟨a1, a2⟩ := ihN _ _ _ h1 fun x hx => hn x (List.mem_append_left _ hx)
        have hn2 : ∀ n ∈ ts2, bL n = true := fun x hx => hn x (List.mem_append_right _ hx)
        obtain ⟨b1, b2, b3⟩ := ihK _ _ _ _ h2 hn2
        have e : (c2 + 1).toNat = 1 + c2.toNat := by omega
        have s1 := jU t ts2 [] 1 a1
        rw [List.nil_append] at s1
        refine ⟨by omega, ?_, ?_⟩
        ·
         rw [e, eS, s1]; exact b2
        ·
         rw [a2, b3, e, nF ((t ++ ts2).length + 1) 1 c2.toNat (t ++ ts2) ts2 (Nat.lt_succ_self _) s1 hn _ b2,
          fU _ 1 t ts2 [] (Nat.lt_succ_self _) a1 (fun x hx => hn x (List.mem_append_left _ hx)),
          eY (t.length + 1) 1 t [] (by omega) a1 (fun x hx => hn x (List.mem_append_left _ hx)) ((t ++ ts2).length + 1) (by simp),
          eY (ts2.length + 1) _ ts2 [] (by omega) b2 hn2 ((t ++ ts2).length + 1) (by simp)]
         simp
theorem bS0 {ls r : List (List aE)} {x : Pr} (h : rdR ls = (some x, r)) (hv : dF x.t = true) : ls = jC x ++ r ∧ r.length < ls.length := by
 cases ls with
 | nil => grind [rdR]
 | cons w rest =>
  simp only [rdR] at h
  split at h
  ·
   rename_i h1
   split at h
   ·
    cases h
   ·
    rename_i g hg
    cases ht : rdT rest with
    | mk o r' =>
     rw [ht] at h
     cases o with
     | none => cases h
     | some t =>
      simp only [Prod.mk.injEq, Option.some.injEq] at h
      obtain ⟨rfl, rfl⟩ := h
      obtain ⟨-, g2⟩ := (bI9 _).1 _ _ _ ht (kL hv).node
      have hw := cH9 h1.1
      rw [h1.2] at hw
      refine ⟨?_, ?_⟩
      ·
       show w :: rest = ([wRule, wd w 1, wd w 2, wd w 3, numW g] :: aP2 t) ++ r'
       rw [kP hg, ← hw, g2]; rfl
      grind
  grind
theorem aI0 : ∀ (f : Nat) (ls : List (List aE)) (a l : List Pr) (r : List (List aE)), kE f ls a = (some l, r) → (∀ x ∈ l, dF x.t = true) → ∃ m, l = a ++ m ∧ ls = m.flatMap jC ∧ r = []
 | 0, ls, a, l, r, h, _ => by grind [kE]
 | f + 1, ls, a, l, r, h, hv => by
  simp only [kE] at h
  split at h
  ·
   simp_all
  ·
   cases hr : rdR ls with
   | mk o r1 =>
    rw [hr] at h
    cases o with
    | none => cases h
    | some x =>
     obtain ⟨m, rfl, hm, hr0⟩ := aI0 f r1 (a ++ [x]) l r h hv
     obtain ⟨g1, g2⟩ := bS0 hr (hv x (by simp))
     grind
theorem bS1 {ls r : List (List aE)} {p : Po} (h : rdP ls = (some p, r)) (hv : eX p = true) : ls = oY p := by
 have ht : ∀ x ∈ p.r, dF x.t = true := fun x hx => by simp_all [eX, Bool.and_eq_true, List.all_eq_true, iF]
 cases ls with
 | nil => grind [rdP]
 | cons w rest =>
  simp only [rdP] at h
  split at h
  ·
   rename_i h1
   split at h
   ·
    cases h
   ·
    rename_i v hg
    cases hr : kE (rest.length + 1) rest [] with
    | mk o r' =>
     rw [hr] at h
     cases o with
     | none => cases h
     | some l =>
      simp only [Prod.mk.injEq, Option.some.injEq] at h
      obtain ⟨rfl, rfl⟩ := h
      obtain ⟨m, rfl, hm, -⟩ := aI0 _ _ _ _ _ hr ht
      have hw := cE5 h1.1
      rw [h1.2] at hw
      show w :: rest = [wPolicy, wd w 1, numW v] :: _
      rw [kP hg, ← hw, hm]
  grind
theorem bJ0 {b : aE} (h : iB b = 0) : lF (eZ b) = 0 ∧ pR (eZ b) = b := by
 have hO : eZ b = (fO b).getD [] := by unfold eZ; grind
 unfold iB at h
 split at h
 ·
  cases h
 ·
  rename_i hb
  cases hv : fO b with
  | none => grind
  | some ls =>
   rw [hv] at h hO
   simp only at h
   split at h
   ·
    cases h
   ·
    rename_i hl
    rw [hO, Option.getD_some]
    by_cases hne : b = []
    ·
     grind [fO, lF, gI, pR]
    ·
     have hlast : ∃ m, b = m ++ [10] := by
      unfold fO at hv
      rw [if_neg hne] at hv
      split at hv
      ·
       grind [mX]
      ·
       grind
     obtain ⟨m, rfl⟩ := hlast
     rw [yN] at hv
     cases hu : (aR 10 m).mapM unL with
     | none => grind [wU]
     | some ls' =>
      rw [bI0 hu] at hv
      split at hv
      ·
       rename_i hall
       cases hv
       have hd := aZ5 hu
       have hE : lF ls = 0 := by simp_all [aS3, List.all_eq_true, if_neg]
       grind [aA1]
      grind
theorem bZ4 {b : aE} {p : Po} {r : List (List aE)} (h0 : iB b = 0) (h : rdP (eZ b) = (some p, r)) : (wV p = 0 ∧ rO p = b) ↔ eX p = true := by
 constructor
 ·
  grind [wV]
 ·
  intro hv
  have hl := bS1 h hv
  obtain ⟨e1, e2⟩ := bJ0 h0
  simp_all [wV, rO, if_pos]
end Go.Pl
