/- Part of a proof: walks of functions of the program, by contracts, and the rules they use. By an AI agent. -/
import Derived.Test.YtlldglbooaefhaaGreatDoorPl11v
import Derived.Test.YtlldglbooaefhaaGreatDoorHzSb
import Derived.Test.YtlldglbooaefhaaGreatDoorHzU1
set_option linter.unusedSimpArgs false
set_option linter.unusedVariables false
set_option linter.defProp false
namespace Go.Pl
open Go Go.Hl

theorem vZ : ∀ (a b : aG) (n m : Nat), dD a n = some m → dD (a ++ b) n = dD b m
 | [], b, n, m, h => by simp only [dD, Option.some.injEq] at h; subst h; rfl
 | c :: a, b, n, m, h => by
  simp only [List.cons_append, dD] at h ⊢
  split at h
  ·
   rename_i hc; rw [if_pos hc]; exact vZ a b _ _ h
  ·
   cases h
theorem aV5 {k : Nat} (h : k < 10) : nB (UInt8.ofNat (48 + k)) = true ∧ (UInt8.ofNat (48 + k)).toNat - 48 = k := by
 have e : (UInt8.ofNat (48 + k)).toNat = 48 + k := by simp; omega
 rw [nB, e]
 exact ⟨by simp; omega, by omega⟩
theorem aQ5 (u : Nat) : dD (Lib.decDigits u) 0 = some u := by
 induction u using Nat.strongRecOn with
 | ind u ih =>
  rw [Lib.decDigits]
  split
  ·
   rename_i h
   obtain ⟨h1, h2⟩ := aV5 h
   simp only [dD, h1, if_true, h2]; simp
  ·
   rw [vZ _ _ 0 (u / 10) (ih _ (by omega))]
   obtain ⟨h1, h2⟩ := aV5 (k := u % 10) (by omega)
   simp only [dD, h1, if_true, h2]
   congr 1; omega
theorem aV6 : ∀ (k u : Nat), u < 10 ^ (k + 1) → (Lib.decDigits u).length ≤ k + 1
 | 0, u, h => by rw [Lib.decDigits, dif_pos (by omega)]; simp
 | k + 1, u, h => by
  rw [Lib.decDigits]
  split
  ·
   simp
  ·
   have := aV6 k (u / 10) (by rw [Nat.pow_succ] at h; omega)
   simp only [List.length_append, List.length_singleton]; omega
theorem bK1 {u : Nat} (h : 1 ≤ u) : ∃ c l, Lib.decDigits u = c :: l ∧ c ≠ 48 := by
 induction u using Nat.strongRecOn with
 | ind u ih =>
  rw [Lib.decDigits]
  split
  ·
   rename_i hu
   refine ⟨_, _, rfl, fun hc => ?_⟩
   have := congrArg UInt8.toNat hc
   simp at this; omega
  ·
   obtain ⟨c, l, h1, h2⟩ := ih (u / 10) (by omega) (by omega)
   exact ⟨c, l ++ [UInt8.ofNat (48 + u % 10)], by rw [h1]; rfl, h2⟩
theorem kW {n : Int} (h0 : 0 ≤ n) (h1 : n ≤ 1099511627776) : bG (numW n) = some n := by
 rw [qI h0]
 have hd := aQ5 n.natAbs
 have hl := aV6 12 n.natAbs (by omega)
 have hb : gG (Lib.decDigits n.natAbs) = false := by
  unfold gG
  by_cases hz : n.natAbs = 0
  ·
   rw [hz, Lib.decDigits_one (by omega)]; simp
  ·
   obtain ⟨c, l, h2, h3⟩ := bK1 (u := n.natAbs) (by omega)
   rw [h2] at hl ⊢
   have e : ((c :: l).getD 0 0 == (48 : UInt8)) = false := by simpa using h3
   rw [e, Bool.and_false, Bool.or_false, Bool.or_eq_false_iff]
   exact ⟨by simp, decide_eq_false (by omega)⟩
 rw [aV1 hb hd (by omega)]
 congr 1; omega

theorem bS4 {ls : List (List aG)} (h : jM ls = 0) : iG (mR ls) = 0 ∧ fE (mR ls) = ls := by
 rw [tV h]
 unfold jM at h
 split at h
 ·
  cases h
 ·
  rename_i h1
  split at h
  ·
   rename_i l hl
   have := List.find?_some hl
   simp only [Bool.not_eq_true'] at this
   exact absurd h (bQ4 this)
  ·
   rename_i hn
   split at h
   ·
    cases h
   ·
    rename_i h2
    have hok : ∀ l ∈ ls, okL l = true := fun l hl => by
     have := List.find?_eq_none.1 hn l hl
     simpa using this
    have hv := bB0 hok
    have hE : iG (eT ls) = 0 := by unfold iG; rw [if_neg h2, hv]; simp only; rw [if_neg h1]
    exact ⟨hE, by unfold fE; rw [if_pos hE, hv]; rfl⟩

end Go.Pl

namespace Go.Pl
open Go Go.Hl

def jX (r : Pr) : Bool := dO r.a && ((eC r.b).isSome && ((eC r.c).isSome && (inB r.g 0 vC && cZ r.t)))
def gH : List Pr → Bool
 | [] => true
 | r :: l => !(l.map Pr.a).contains r.a && gH l
def eW (p : Po) : Bool := dO p.n && (inB p.v 1 vC && (decide (p.r.length ≤ 16) && (p.r.all jX && gH p.r)))
theorem tD (l : List Pr) (r : Pr) : gH (l ++ [r]) = (gH l && !(l.map Pr.a).contains r.a) := by
 induction l with
 | nil => simp [gH]
 | cons x l ih =>
  simp only [List.cons_append, gH, ih, List.map_append, List.map_cons, List.map_nil, List.contains_append, List.contains_cons, List.contains_nil, Bool.or_false]
  rw [show (x.a == r.a) = (r.a == x.a) from Bool.beq_comm]
  grind
def dA : aG := [114, 101, 108, 101, 97, 115, 101, 100]
def dT : aG := [99, 104, 97, 105, 110, 101, 100]
def dL : aG := [97, 112, 112, 114, 111, 118, 101, 100]
def eX : aG := [114, 101, 98, 117, 105, 108, 116]
def fM : aG := [108, 105, 115, 116, 101, 100]
def jG : aG := [99, 108, 101, 97, 110]
def kJ : aG := [102, 114, 101, 115, 104]
def gX : aG := [115, 101, 116, 116, 108, 101, 100]
def kX : aG := [97, 108, 108]
def kY : aG := [97, 110, 121]
def cJ : aG := [97, 116, 108, 101, 97, 115, 116]
def wEnd : aG := [101, 110, 100]
def wPolicy : aG := [112, 111, 108, 105, 99, 121]
def wRule : aG := [114, 117, 108, 101]
def wlR (q : Rq) : List aG :=
 if q.k = 1 then [dA, numW q.n] else if q.k = 2 then [dT, q.t] else if q.k = 3 then [dL, numW q.n]
 else if q.k = 4 then [eX, numW q.n, numW q.m] else if q.k = 5 then [fM, numW q.n] else if q.k = 6 then [jG, numW q.n]
 else if q.k = 7 then [kJ, numW q.n] else [gX]
def wlN (n : Nd) : List aG := if n.k = 2 then [kX] else if n.k = 3 then [kY] else [cJ, numW n.n]
def dN : Nat → Nat → List Nd → List (List aG)
 | 0, _, _ => []
 | _ + 1, 0, _ => []
 | _ + 1, _ + 1, [] => []
 | f + 1, m + 1, n :: l => if n.k = 1 then wlR n.q :: dN f m l else wlN n :: (dN f n.c.toNat l ++ ([wEnd] :: dN f m ((skip n.c.toNat l).getD [])))
theorem qJ {l r : List Nd} {m : Nat} (h : skip m l = some r) : r.length ≤ l.length := by
 obtain ⟨j, h1, rfl, _, _⟩ := gN l m r h
 grind
theorem fD : ∀ (f : Nat) (m : Nat) (l r : List Nd), l.length < f → skip m l = some r → (∀ n ∈ l, bR n = true) → ∀ g, f ≤ g → dN g m l = dN f m l
 | 0, _, _, _, h, _, _, _, _ => by omega
 | f + 1, 0, l, r, _, _, _, g, hg => by obtain ⟨q, rfl⟩ : ∃ q, g = q + 1 := ⟨g - 1, by omega⟩; cases l <;> rfl
 | f + 1, m + 1, [], r, _, h, _, _, _ => by cases h
 | f + 1, m + 1, n :: l, r, hf, h, hn, g, hg => by
  obtain ⟨q, rfl⟩ : ∃ q, g = q + 1 := ⟨g - 1, by omega⟩
  have h' : skip (m + n.c.toNat) l = some r := h
  have hn' : ∀ x ∈ l, bR x = true := fun x hx => hn x (List.mem_cons_of_mem _ hx)
  have hl : l.length < f := by simpa using hf
  obtain ⟨c1, c2, c3, c4⟩ := dF (hn n List.mem_cons_self)
  simp only [dN]
  split
  ·
   rename_i hk
   rw [c3 hk] at h'
   rw [fD f m l r hl (by grind) hn' q (by omega)]
  ·
   rw [Nat.add_comm, eS] at h'
   cases hs : skip n.c.toNat l with
   | none => grind
   | some r1 =>
    rw [hs] at h'
    have h2 : skip m r1 = some r := h'
    have hr1 := qJ hs
    obtain ⟨j, _, hj, _, _⟩ := gN l _ _ hs
    rw [fD f _ l r1 hl hs hn' q (by omega), Option.getD_some, fD f m r1 r (by omega) h2 (fun x hx => hn' x (by grind)) q (by omega)]
theorem nG : ∀ (f : Nat) (a b : Nat) (l r : List Nd), l.length < f → skip a l = some r → (∀ n ∈ l, bR n = true) → ∀ s, skip b r = some s → dN f (a + b) l = dN f a l ++ dN f b r
 | 0, _, _, _, _, h, _, _, _, _ => by omega
 | f + 1, 0, b, l, r, _, h, _, _, _ => by simp_all [cL, Nat.zero_add, dN]
 | f + 1, a + 1, b, [], r, _, h, _, _, _ => by cases h
 | f + 1, a + 1, b, n :: l, r, hf, h, hn, s, hs => by
  have h' : skip (a + n.c.toNat) l = some r := h
  have hn' : ∀ x ∈ l, bR x = true := fun x hx => hn x (List.mem_cons_of_mem _ hx)
  have hl : l.length < f := by simpa using hf
  obtain ⟨c1, c2, c3, c4⟩ := dF (hn n List.mem_cons_self)
  have hrl := qJ h'
  have hrn : ∀ x ∈ r, bR x = true := fun x hx => by grind [gN, List.mem_of_mem_drop]
  have hfb : dN (f + 1) b r = dN f b r := fD f b r s (by omega) hs hrn (f + 1) (by omega)
  rw [show a + 1 + b = a + b + 1 from by omega, hfb]
  simp only [dN]
  split
  ·
   rename_i hk
   rw [c3 hk] at h'
   rw [nG f a b l r hl (by grind) hn' s hs]; rfl
  ·
   rw [Nat.add_comm, eS] at h'
   cases hs1 : skip n.c.toNat l with
   | none => grind
   | some r1 =>
    rw [hs1] at h'
    have h2 : skip a r1 = some r := h'
    have hr1 := qJ hs1
    obtain ⟨j, _, hj, _, _⟩ := gN l _ _ hs1
    rw [Option.getD_some, nG f a b r1 r (by omega) h2 (fun x hx => hn' x (by rw [hj] at hx; exact List.mem_of_mem_drop hx)) s hs]
    simp
def aQ6 (t : List Nd) : List (List aG) := dN (t.length + 1) 1 t
def iL (r : Pr) : List (List aG) := [wRule, r.a, r.b, r.c, numW r.g] :: aQ6 r.t
def lP (p : Po) : List (List aG) := [wPolicy, p.n, numW p.v] :: p.r.flatMap iL
def oI (p : Po) : aG := if eW p then mR (lP p) else []
def rZ (p : Po) : Int := if eW p then jM (lP p) else 1
def eE (l : List Nd) (i : Nat) : List (List aG) := dN (l.length + 1) 1 (l.drop i)
theorem oZ {l : List Nd} {i : Nat} (hi : i < l.length) (hk : l[i].k = 1) : eE l i = [wlR l[i].q] := by
 unfold eE
 rw [List.drop_eq_getElem_cons hi, dN, if_pos hk]
 cases l.length <;> simp [dN]
def cP (l : List Nd) (i k : Nat) : List (List aG) := dN (l.length + 1) k (l.drop (i + 1))
theorem gI (l : List Nd) (i : Nat) : cP l i 0 = [] := by unfold cP; cases l.drop (i + 1) <;> rfl
theorem nH {l : List Nd} (ht : IsTree l) {i : Nat} (hi : i < l.length) (hk : l[i].k ≠ 1) : eE l i = wlN l[i] :: (cP l i l[i].c.toNat ++ [[wEnd]]) := by
 have ha := (gO ht hi).2.2
 rw [List.drop_eq_getElem_cons hi] at ha
 have ha' : skip (0 + l[i].c.toNat) (l.drop (i + 1)) = some (l.drop (aft l i)) := ha
 rw [Nat.zero_add] at ha'
 have hn' : ∀ x ∈ l.drop (i + 1), bR x = true := fun x hx => ht.node x (List.mem_of_mem_drop hx)
 unfold eE cP
 rw [List.drop_eq_getElem_cons hi]
 simp only [dN]
 rw [if_neg hk, ha', fD l.length _ _ _ (by grind) ha' hn' (l.length + 1) (by omega)]
 have : ∀ f (x : List Nd), dN f 0 x = [] := fun f x => by cases f <;> cases x <;> rfl
 grind
theorem lQ {l : List Nd} (ht : IsTree l) {i : Nat} (hi : i < l.length) {k : Nat} (hk : k < l[i].c.toNat) : cP l i (k + 1) = cP l i k ++ eE l (cR l k (i + 1)) := by
 have key : ∀ k, k ≤ l[i].c.toNat → skip k (l.drop (i + 1)) = some (l.drop (cR l k (i + 1))) := by
  intro k
  induction k with
  | zero => intro _; rw [cL]; rfl
  | succ k ih =>
   grind [eS, eV, gO, kT]
 unfold cP eE
 exact nG _ k 1 _ _ (by grind) (key k (by omega)) (fun x hx => ht.node x (List.mem_of_mem_drop hx)) _ (gO ht (kT ht hi hk)).2.2

def eY (w : List aG) : Option Rq :=
 if w.length = 2 ∧ wd w 0 = dA then (bG (wd w 1)).map (⟨1, ·, 0, []⟩)
 else if w.length = 2 ∧ wd w 0 = dT then some ⟨2, 0, 0, wd w 1⟩
 else if w.length = 2 ∧ wd w 0 = dL then (bG (wd w 1)).map (⟨3, ·, 0, []⟩)
 else if w.length = 3 ∧ wd w 0 = eX then match bG (wd w 1), bG (wd w 2) with | some n, some m => some ⟨4, n, m, []⟩ | _, _ => none
 else if w.length = 2 ∧ wd w 0 = fM then (bG (wd w 1)).map (⟨5, ·, 0, []⟩)
 else if w.length = 2 ∧ wd w 0 = jG then (bG (wd w 1)).map (⟨6, ·, 0, []⟩)
 else if w.length = 2 ∧ wd w 0 = kJ then (bG (wd w 1)).map (⟨7, ·, 0, []⟩)
 else if w.length = 1 ∧ wd w 0 = gX then some ⟨8, 0, 0, []⟩ else none
def jH (w : List aG) : Option Nd :=
 if w.length = 1 ∧ wd w 0 = kX then some ⟨2, 0, 0, rq0⟩ else if w.length = 1 ∧ wd w 0 = kY then some ⟨3, 0, 0, rq0⟩
 else if w.length = 2 ∧ wd w 0 = cJ then (bG (wd w 1)).map (⟨4, ·, 0, rq0⟩) else none
def gY (w : List aG) : Bool := w.length == 1 && wd w 0 == wEnd
mutual
def rdN : Nat → List (List aG) → Option (List Nd) × List (List aG)
 | 0, ls => (none, ls)
 | _ + 1, [] => (none, [])
 | f + 1, w :: r => match eY w with
  | some q => (some [⟨1, 0, 0, q⟩], r)
  | none => match jH w with
   | none => (none, w :: r)
   | some n => match rdK f r with
    | (none, r') => (none, r')
    | (some (ts, c), r') => (some ({ n with c := c } :: ts), r')
def rdK : Nat → List (List aG) → Option (List Nd × Int) × List (List aG)
 | 0, ls => (none, ls)
 | f + 1, ls => if gY (ls.headD []) then (some ([], 0), ls.tail) else match rdN f ls with
  | (none, r) => (none, r)
  | (some t, r) => match rdK f r with
   | (none, r') => (none, r')
   | (some (ts, c), r') => (some (t ++ ts, c + 1), r')
end
def rdT (ls : List (List aG)) : Option (List Nd) × List (List aG) := rdN (2 * ls.length + 2) ls
def rdR (ls : List (List aG)) : Option Pr × List (List aG) := match ls with
 | [] => (none, [])
 | w :: r => if w.length = 5 ∧ wd w 0 = wRule then match bG (wd w 4) with
   | none => (none, w :: r)
   | some g => match rdT r with | (none, r') => (none, r') | (some t, r') => (some ⟨wd w 1, wd w 2, wd w 3, g, t⟩, r')
  else (none, w :: r)
def kK : Nat → List (List aG) → List Pr → Option (List Pr) × List (List aG)
 | 0, ls, _ => (none, ls)
 | f + 1, ls, a => if ls = [] then (some a, []) else match rdR ls with
  | (none, r) => (none, r)
  | (some x, r) => kK f r (a ++ [x])
def rdP (ls : List (List aG)) : Option Po × List (List aG) := match ls with
 | [] => (none, [])
 | w :: r => if w.length = 3 ∧ wd w 0 = wPolicy then match bG (wd w 2) with
   | none => (none, w :: r)
   | some v => match kK (r.length + 1) r [] with | (none, r') => (none, r') | (some l, r') => (some ⟨wd w 1, v, l⟩, r')
  else (none, w :: r)
def dpE (b : aG) : Int := if iG b ≠ 0 then iG b else match (rdP (fE b)).1 with | none => 2 | some p => if eW p then 0 else 1
def dpL (b : aG) : Nat := if iG b ≠ 0 then 0 else match rdP (fE b) with | (none, r) => (fE b).length - r.length | (some _, _) => 0
def po0 : Po := ⟨[], 0, []⟩
def dpO (b : aG) : Po := if dpE b = 0 then ((rdP (fE b)).1).getD po0 else po0
end Go.Pl

namespace Go.Pl
open Go Go.Hl

theorem tE : ∀ (a : aG) (c : UInt8) (n k : Nat), dD (a ++ [c]) n = some k → ∃ k', dD a n = some k' ∧ nB c = true ∧ k = 10 * k' + (c.toNat - 48)
 | [], c, n, k, h => by
  simp only [List.nil_append, dD] at h
  split at h
  ·
   rename_i hc; cases h; exact ⟨n, rfl, hc, rfl⟩
  ·
   cases h
 | b :: a, c, n, k, h => by
  simp only [List.cons_append, dD] at h ⊢
  split at h
  ·
   rename_i hb; rw [if_pos hb]; exact tE a c _ k h
  ·
   cases h
theorem aV7 : ∀ (m : Nat) (s : aG) (k : Nat), s.length ≤ m → s ≠ [] → (1 < s.length → s.head? ≠ some 48) → dD s 0 = some k → Lib.decDigits k = s
 | 0, s, _, hm, h0, _, _ => absurd (List.eq_nil_of_length_eq_zero (by omega)) h0
 | m + 1, s, k, hm, h0, h1, h => by
  obtain ⟨a, c, rfl⟩ : ∃ a c, s = a ++ [c] := ⟨s.dropLast, s.getLast h0, (List.dropLast_concat_getLast h0).symm⟩
  obtain ⟨k', hk', hc, rfl⟩ := tE a c 0 k h
  simp only [nB, Bool.and_eq_true, decide_eq_true_eq] at hc
  have hcc : UInt8.ofNat (48 + (c.toNat - 48)) = c := by
   refine UInt8.toNat_inj.1 ?_
   rw [UInt8.toNat_ofNat']; omega
  by_cases ha : a = []
  ·
   subst ha
   simp only [dD, Option.some.injEq] at hk'
   subst hk'
   rw [Lib.decDigits_one (by omega)]
   grind
  ·
   have hlen : 1 < (a ++ [c]).length := by
    have := List.length_pos_iff.2 ha
    simp; omega
   have hh : (a ++ [c]).head? = a.head? := by
    cases a with
    | nil => grind
    | cons x a => rfl
   have ih := aV7 m a k' (by grind) ha (fun _ => by grind) hk'
   have hk0 : k' ≠ 0 := by
    rintro rfl
    rw [Lib.decDigits_one (by omega)] at ih
    have := h1 hlen
    rw [hh, ← ih] at this
    exact this rfl
   rw [Lib.decDigits, dif_neg (by omega), show (10 * k' + (c.toNat - 48)) / 10 = k' from by omega, ih, show 48 + (10 * k' + (c.toNat - 48)) % 10 = 48 + (c.toNat - 48) from by omega, hcc]
theorem kZ {s : aG} {n : Int} (h : bG s = some n) : numW n = s := by
 have hr := aP9 h
 unfold bG at h
 split at h
 ·
  cases h
 ·
  rename_i hb
  have hb' : gG s = false := by simpa using hb
  simp only [gG, Bool.or_eq_false_iff, decide_eq_false_iff_not, Bool.and_eq_false_iff, beq_eq_false_iff_ne] at hb'
  split at h
  ·
   rename_i k hk
   split at h
   ·
    cases h
   ·
    cases h
    rw [qI hr.1]
    refine aV7 s.length s _ (Nat.le_refl _) (fun e => by grind) (fun hl => ?_) (by grind)
    grind [List.head?_eq_getElem?]
  grind
theorem bS5 {w : List aG} (h : w.length = 1) : w = [wd w 0] := by
 match w, h with
 | [a], _ => rfl
theorem bY7 {w : List aG} (h : w.length = 2) : w = [wd w 0, wd w 1] := by
 match w, h with
 | [a, b], _ => rfl
theorem cD8 {w : List aG} (h : w.length = 3) : w = [wd w 0, wd w 1, wd w 2] := by
 match w, h with
 | [a, b, c], _ => rfl
theorem cH2 {w : List aG} (h : w.length = 5) : w = [wd w 0, wd w 1, wd w 2, wd w 3, wd w 4] := by
 match w, h with
 | [a, b, c, d, e], _ => rfl

theorem bK2 {w : List aG} {q : Rq} (h : eY w = some q) : wlR q = w := by
 have num : ∀ {k : Int} {nm : aG}, (∀ n : Int, wlR ⟨k, n, 0, []⟩ = [nm, numW n]) → w.length = 2 ∧ wd w 0 = nm → (bG (wd w 1)).map (⟨k, ·, 0, []⟩) = some q → wlR q = w := by
  intro k nm h1 h2 h3
  cases hv : bG (wd w 1) with
  | none => grind
  | some n =>
   grind [kZ, bY7]
 unfold eY at h
 split at h
 ·
  rename_i h1; exact num (fun n => rfl) h1 h
 split at h
 ·
  rename_i h1; cases h; rw [bY7 h1.1, h1.2]; rfl
 split at h
 ·
  rename_i h1; exact num (fun n => rfl) h1 h
 split at h
 ·
  rename_i h1
  split at h
  ·
   rename_i n m hn hm
   cases h
   show [eX, numW n, numW m] = w
   grind [kZ, cD8]
  grind
 split at h
 ·
  rename_i h1; exact num (fun n => rfl) h1 h
 split at h
 ·
  rename_i h1; exact num (fun n => rfl) h1 h
 split at h
 ·
  rename_i h1; exact num (fun n => rfl) h1 h
 split at h
 ·
  rename_i h1; cases h; rw [bS5 h1.1, h1.2]; rfl
 grind
theorem bK3 {w : List aG} {n : Nd} (h : jH w = some n) (c : Int) : wlN { n with c := c } = w ∧ n.k ≠ 1 := by
 unfold jH at h
 split at h
 ·
  rename_i h1; cases h; exact ⟨by rw [bS5 h1.1, h1.2]; rfl, by decide⟩
 split at h
 ·
  rename_i h1; cases h; exact ⟨by rw [bS5 h1.1, h1.2]; rfl, by decide⟩
 split at h
 ·
  rename_i h1
  cases hv : bG (wd w 1) with
  | none => grind
  | some m =>
   rw [hv] at h; cases h
   refine ⟨?_, by grind⟩
   show [cJ, numW m] = w
   grind [kZ, bY7]
 grind
theorem jY : ∀ (t x r : List Nd) (m : Nat), skip m t = some r → skip m (t ++ x) = some (r ++ x)
 | t, x, r, 0, h => by grind [cL]
 | [], x, r, m + 1, h => by cases h
 | n :: t, x, r, m + 1, h => by
  have h' : skip (m + n.c.toNat) t = some r := h
  exact jY t x r _ h'
theorem fY : ∀ (f m : Nat) (t x r : List Nd), (t ++ x).length < f → skip m t = some r → (∀ n ∈ t, bR n = true) → dN f m (t ++ x) = dN f m t
 | 0, _, _, _, _, h, _, _ => by omega
 | f + 1, 0, t, x, r, _, _, _ => by cases t <;> cases x <;> rfl
 | f + 1, m + 1, [], x, r, _, h, _ => by cases h
 | f + 1, m + 1, n :: t, x, r, hf, h, hn => by
  have h' : skip (m + n.c.toNat) t = some r := h
  have hn' : ∀ y ∈ t, bR y = true := fun y hy => hn y (List.mem_cons_of_mem _ hy)
  have hl : (t ++ x).length < f := by simpa using hf
  obtain ⟨c1, c2, c3, c4⟩ := dF (hn n List.mem_cons_self)
  simp only [List.cons_append, dN]
  split
  ·
   rename_i hk
   rw [c3 hk] at h'
   rw [fY f m t x r hl (by grind) hn']
  ·
   rw [Nat.add_comm, eS] at h'
   cases hs : skip n.c.toNat t with
   | none => grind
   | some r1 =>
    rw [hs] at h'
    have h2 : skip m r1 = some r := h'
    obtain ⟨j, _, hj, _, _⟩ := gN t _ _ hs
    have hr1 := qJ hs
    rw [fY f _ t x r1 hl hs hn', jY t x r1 _ hs, Option.getD_some, Option.getD_some,
     fY f m r1 x r (by grind) h2 (fun y hy => hn' y (by grind))]
theorem zC {w : List aG} (h : gY w = true) : w = [wEnd] := by
 unfold gY at h
 simp only [Bool.and_eq_true, beq_iff_eq] at h
 rw [bS5 h.1, h.2]
theorem bK4 : ∀ (f : Nat), (∀ ls t r, rdN f ls = (some t, r) → (∀ n ∈ t, bR n = true) → skip 1 t = some [] ∧ ls = dN (t.length + 1) 1 t ++ r) ∧
  (∀ ls ts c r, rdK f ls = (some (ts, c), r) → (∀ n ∈ ts, bR n = true) → 0 ≤ c ∧ skip c.toNat ts = some [] ∧ ls = dN (ts.length + 1) c.toNat ts ++ ([wEnd] :: r))
 | 0 => ⟨fun ls t r h _ => (by grind [rdN]), fun ls ts c r h _ => (by grind [rdK])⟩
 | f + 1 => by
  obtain ⟨ihN, ihK⟩ := bK4 f
  have z0 : ∀ f (x : List Nd), dN f 0 x = [] := fun f x => by cases f <;> cases x <;> rfl
  refine ⟨fun ls t r h hn => ?_, fun ls ts c r h hn => ?_⟩
  ·
   cases ls with
   | nil => grind [rdN]
   | cons w rest =>
    simp only [rdN] at h
    split at h
    ·
     rename_i q hq
     cases h
     refine ⟨rfl, ?_⟩
     simp only [List.length_singleton, dN]
     rw [if_pos trivial, bK2 hq]; grind
    ·
     split at h
     ·
      cases h
     ·
      rename_i n hin
      cases hk : rdK f rest with
      | mk o r' =>
       rw [hk] at h
       cases o with
       | none => cases h
       | some p =>
        obtain ⟨ts, c⟩ := p
        simp only [Prod.mk.injEq, Option.some.injEq] at h
        obtain ⟨rfl, rfl⟩ := h
        obtain ⟨g1, g2, g3⟩ := ihK _ _ _ _ hk fun x hx => hn x (List.mem_cons_of_mem _ hx)
        obtain ⟨e1, e2⟩ := bK3 hin c
        refine ⟨?_, ?_⟩
        ·
         show skip (0 + c.toNat) ts = some []
         rw [Nat.zero_add]; exact g2
        ·
         simp only [List.length_cons, dN]
         rw [if_neg e2, e1, g3]
         simp [z0]
  ·
   simp only [rdK] at h
   split at h
   ·
    rename_i he
    cases h
    cases ls with
    | nil => simp [gY] at he
    | cons w rest =>
     have := zC he
     simp only [List.headD_cons] at this
     subst this
     exact ⟨by omega, rfl, rfl⟩
   ·
    cases h1 : rdN f ls with
    | mk o r1 =>
     rw [h1] at h
     cases o with
     | none => cases h
     | some t =>
      simp only at h
      cases h2 : rdK f r1 with
      | mk o2 r2 =>
       rw [h2] at h
       cases o2 with
       | none => cases h
       | some p =>
        obtain ⟨ts2, c2⟩ := p
        simp only [Prod.mk.injEq, Option.some.injEq] at h
        obtain ⟨⟨rfl, rfl⟩, rfl⟩ := h
        obtain ⟨a1, a2⟩ := ihN _ _ _ h1 fun x hx => hn x (List.mem_append_left _ hx)
        have hn2 : ∀ n ∈ ts2, bR n = true := fun x hx => hn x (List.mem_append_right _ hx)
        obtain ⟨b1, b2, b3⟩ := ihK _ _ _ _ h2 hn2
        have e : (c2 + 1).toNat = 1 + c2.toNat := by omega
        have s1 := jY t ts2 [] 1 a1
        rw [List.nil_append] at s1
        refine ⟨by omega, ?_, ?_⟩
        ·
         rw [e, eS, s1]; exact b2
        ·
         rw [a2, b3, e, nG ((t ++ ts2).length + 1) 1 c2.toNat (t ++ ts2) ts2 (Nat.lt_succ_self _) s1 hn _ b2,
          fY _ 1 t ts2 [] (Nat.lt_succ_self _) a1 (fun x hx => hn x (List.mem_append_left _ hx)),
          fD (t.length + 1) 1 t [] (by omega) a1 (fun x hx => hn x (List.mem_append_left _ hx)) ((t ++ ts2).length + 1) (by simp),
          fD (ts2.length + 1) _ ts2 [] (by omega) b2 hn2 ((t ++ ts2).length + 1) (by simp)]
         simp
theorem bS6 {ls r : List (List aG)} {x : Pr} (h : rdR ls = (some x, r)) (hv : cZ x.t = true) : ls = iL x ++ r ∧ r.length < ls.length := by
 cases ls with
 | nil => grind [rdR]
 | cons w rest =>
  simp only [rdR] at h
  split at h
  ·
   rename_i h1
   split at h
   ·
    cases h
   ·
    rename_i g hg
    cases ht : rdT rest with
    | mk o r' =>
     rw [ht] at h
     cases o with
     | none => cases h
     | some t =>
      simp only [Prod.mk.injEq, Option.some.injEq] at h
      obtain ⟨rfl, rfl⟩ := h
      obtain ⟨-, g2⟩ := (bK4 _).1 _ _ _ ht (kQ hv).node
      have hw := cH2 h1.1
      rw [h1.2] at hw
      refine ⟨?_, ?_⟩
      ·
       show w :: rest = ([wRule, wd w 1, wd w 2, wd w 3, numW g] :: aQ6 t) ++ r'
       rw [kZ hg, ← hw, g2]; rfl
      grind
  grind
theorem aK3 : ∀ (f : Nat) (ls : List (List aG)) (a l : List Pr) (r : List (List aG)), kK f ls a = (some l, r) → (∀ x ∈ l, cZ x.t = true) → ∃ m, l = a ++ m ∧ ls = m.flatMap iL ∧ r = []
 | 0, ls, a, l, r, h, _ => by grind [kK]
 | f + 1, ls, a, l, r, h, hv => by
  simp only [kK] at h
  split at h
  ·
   simp_all
  ·
   cases hr : rdR ls with
   | mk o r1 =>
    rw [hr] at h
    cases o with
    | none => cases h
    | some x =>
     obtain ⟨m, rfl, hm, hr0⟩ := aK3 f r1 (a ++ [x]) l r h hv
     obtain ⟨g1, g2⟩ := bS6 hr (hv x (by simp))
     grind
theorem bS7 {ls r : List (List aG)} {p : Po} (h : rdP ls = (some p, r)) (hv : eW p = true) : ls = lP p := by
 have ht : ∀ x ∈ p.r, cZ x.t = true := fun x hx => by simp_all [eW, Bool.and_eq_true, List.all_eq_true, jX]
 cases ls with
 | nil => grind [rdP]
 | cons w rest =>
  simp only [rdP] at h
  split at h
  ·
   rename_i h1
   split at h
   ·
    cases h
   ·
    rename_i v hg
    cases hr : kK (rest.length + 1) rest [] with
    | mk o r' =>
     rw [hr] at h
     cases o with
     | none => cases h
     | some l =>
      simp only [Prod.mk.injEq, Option.some.injEq] at h
      obtain ⟨rfl, rfl⟩ := h
      obtain ⟨m, rfl, hm, -⟩ := aK3 _ _ _ _ _ hr ht
      have hw := cD8 h1.1
      rw [h1.2] at hw
      show w :: rest = [wPolicy, wd w 1, numW v] :: _
      rw [kZ hg, ← hw, hm]
  grind
theorem bK5 {b : aG} (h : iG b = 0) : jM (fE b) = 0 ∧ mR (fE b) = b := by
 have hO : fE b = (fT b).getD [] := by unfold fE; grind
 unfold iG at h
 split at h
 ·
  cases h
 ·
  rename_i hb
  cases hv : fT b with
  | none => grind
  | some ls =>
   rw [hv] at h hO
   simp only at h
   split at h
   ·
    cases h
   ·
    rename_i hl
    rw [hO, Option.getD_some]
    by_cases hne : b = []
    ·
     grind [fT, jM, eT, mR]
    ·
     have hlast : ∃ m, b = m ++ [10] := by
      unfold fT at hv
      rw [if_neg hne] at hv
      split at hv
      ·
       grind [nC]
      ·
       grind
     obtain ⟨m, rfl⟩ := hlast
     rw [zB] at hv
     cases hu : (aQ 10 m).mapM unL with
     | none => grind [xE]
     | some ls' =>
      rw [bJ3 hu] at hv
      split at hv
      ·
       rename_i hall
       cases hv
       have hd := bB1 hu
       have hE : jM ls = 0 := by simp_all [aB4, List.all_eq_true, if_neg]
       grind [tV]
      grind
theorem bY8 {b : aG} {p : Po} {r : List (List aG)} (h0 : iG b = 0) (h : rdP (fE b) = (some p, r)) : (rZ p = 0 ∧ oI p = b) ↔ eW p = true := by
 constructor
 ·
  grind [rZ]
 ·
  intro hv
  have hl := bS7 h hv
  obtain ⟨e1, e2⟩ := bK5 h0
  simp_all [rZ, oI, if_pos]
end Go.Pl

namespace Go.Pl
open Go Go.Hl

theorem qK {n a b : Int} : inB n a b = true ↔ a ≤ n ∧ n ≤ b := by unfold inB; simp
theorem bK6 {q : Rq} (h : dZ q = true) : eY (wlR q) = some q := by
 obtain ⟨k, n, m, t⟩ := q
 have hv : ∀ {a b : Int}, inB n a b = true → 0 ≤ a → b ≤ 1099511627776 → bG (numW n) = some n := fun h h1 h2 => by grind [qK, kW]
 unfold dZ at h
 simp only at h
 split at h
 ·
  rename_i h1
  simp only [Bool.and_eq_true, beq_iff_eq] at h
  obtain ⟨h2, rfl, rfl⟩ := h
  have hn := hv h2 (by omega) (by omega)
  rcases h1 with rfl | rfl | rfl
  ·
   show (bG (numW n)).map _ = _; grind
  ·
   show (bG (numW n)).map _ = _; grind
  ·
   show (bG (numW n)).map _ = _; grind
 split at h
 ·
  rename_i h1
  subst h1
  simp only [Bool.and_eq_true, beq_iff_eq] at h
  obtain ⟨h2, h3, rfl⟩ := h
  have hn := hv h2 (by omega) (by omega)
  rw [qK] at h3
  have hm : bG (numW m) = some m := kW (by omega) (by omega)
  show (match bG (numW n), bG (numW m) with | some n, some m => some (⟨4, n, m, []⟩ : Rq) | _, _ => none) = _
  grind
 split at h
 ·
  rename_i h1
  subst h1
  simp only [Bool.and_eq_true, beq_iff_eq] at h
  obtain ⟨-, rfl, rfl⟩ := h
  rfl
 split at h
 ·
  rename_i h1
  subst h1
  simp only [Bool.and_eq_true, beq_iff_eq] at h
  obtain ⟨h2, rfl, rfl⟩ := h
  have hn := hv h2 (by omega) (by omega)
  show (bG (numW n)).map _ = _; grind
 split at h
 ·
  rename_i h1
  subst h1
  simp only [Bool.and_eq_true, beq_iff_eq] at h
  obtain ⟨h2, rfl, rfl⟩ := h
  have hn := hv h2 (by omega) (by rw [jF]; omega)
  show (bG (numW n)).map _ = _; grind
 split at h
 ·
  rename_i h1
  subst h1
  simp only [Bool.and_eq_true, beq_iff_eq] at h
  obtain ⟨rfl, rfl, rfl⟩ := h
  rfl
 grind
theorem bK7 {n : Nd} (h : bR n = true) (hk : n.k ≠ 1) : jH (wlN n) = some { n with c := 0 } ∧ eY (wlN n) = none := by
 obtain ⟨k, a, c, q⟩ := n
 unfold bR at h
 simp only at h hk
 rw [if_neg hk] at h
 split at h
 ·
  rename_i h1
  simp only [Bool.and_eq_true, beq_iff_eq, aH7] at h
  obtain ⟨-, rfl, rfl⟩ := h
  rcases h1 with rfl | rfl <;> exact ⟨rfl, rfl⟩
 split at h
 ·
  rename_i h1
  subst h1
  simp only [Bool.and_eq_true, aH7, qK] at h
  obtain ⟨⟨c1, c2⟩, rfl, a1, a2⟩ := h
  refine ⟨?_, rfl⟩
  show (bG (numW a)).map _ = _
  grind [kW]
 grind
theorem wC {l r : List Nd} {m : Nat} (h : skip m l = some r) : ∃ t, l = t ++ r ∧ skip m t = some [] := by
 induction l generalizing m with
 | nil =>
  cases m with
  | zero => rw [cL] at h; cases h; exact ⟨[], rfl, rfl⟩
  | succ m => cases h
 | cons n l ih =>
  cases m with
  | zero => rw [cL] at h; cases h; exact ⟨[], rfl, rfl⟩
  | succ m =>
   obtain ⟨t, h1, h2⟩ := ih (m := m + n.c.toNat) h
   exact ⟨n :: t, by rw [h1]; rfl, h2⟩
theorem aQ7 {n : Nd} (h : bR n = true) (hk : n.k ≠ 1) : gY (wlN n) = false := by
 unfold wlN
 split
 ·
  rfl
 ·
  split
  ·
   rfl
  ·
   rfl
theorem aQ8 (q : Rq) : gY (wlR q) = false := by
 unfold wlR
 repeat' split
 all_goals rfl
theorem bK8 : ∀ (f : Nat), (∀ t rest, skip 1 t = some [] → (∀ n ∈ t, bR n = true) → 2 * t.length ≤ f → rdN f (dN (t.length + 1) 1 t ++ rest) = (some t, rest)) ∧
  (∀ ts c rest, skip c ts = some [] → (∀ n ∈ ts, bR n = true) → 2 * ts.length + 1 ≤ f → rdK f (dN (ts.length + 1) c ts ++ ([wEnd] :: rest)) = (some (ts, (c : Int)), rest))
 | 0 => ⟨fun t rest h _ hf => (by
   have : t = [] := List.eq_nil_of_length_eq_zero (by omega)
   subst this; cases h), fun ts c rest _ _ hf => by omega⟩
 | f + 1 => by
  obtain ⟨ihN, ihK⟩ := bK8 f
  have z0 : ∀ f (x : List Nd), dN f 0 x = [] := fun f x => by cases f <;> cases x <;> rfl
  refine ⟨fun t rest h hn hf => ?_, fun ts c rest h hn hf => ?_⟩
  ·
   cases t with
   | nil => cases h
   | cons n ts =>
    have hnn := hn n List.mem_cons_self
    have hn' : ∀ x ∈ ts, bR x = true := fun x hx => hn x (List.mem_cons_of_mem _ hx)
    have h' : skip (0 + n.c.toNat) ts = some [] := h
    rw [Nat.zero_add] at h'
    obtain ⟨c1, c2, c3, c4⟩ := dF hnn
    simp only [List.length_cons, dN]
    by_cases hk : n.k = 1
    ·
     rw [if_pos hk]
     rw [c3 hk] at h'
     have : ts = [] := by
      cases ts with
      | nil => rfl
      | cons a b => grind [skip, cL]
     subst this
     have hq : dZ n.q = true ∧ n.n = 0 := by
      unfold bR at hnn
      rw [if_pos hk] at hnn
      simp only [Bool.and_eq_true, beq_iff_eq] at hnn
      exact ⟨hnn.2.2, hnn.2.1⟩
     simp only [List.cons_append, List.nil_append, rdN, bK6 hq.1]
     obtain ⟨k, a, c, q⟩ := n
     simp only at hk hq c3
     rw [hk, hq.2, c3 hk]
    ·
     rw [if_neg hk]
     obtain ⟨e1, e2⟩ := bK7 hnn hk
     have := ihK ts n.c.toNat rest h' hn' (by grind)
     simp only [List.cons_append, List.append_assoc, List.nil_append, rdN, e2, e1, this]
     have : ((n.c.toNat : Nat) : Int) = n.c := by omega
     rw [this]
  ·
   cases c with
   | zero =>
    rw [cL] at h; cases h
    rw [z0]
    simp only [List.nil_append, rdK, List.headD_cons, show gY [wEnd] = true from rfl, if_true, List.tail_cons]; rfl
   | succ c =>
    rw [Nat.add_comm, eS] at h
    cases h1 : skip 1 ts with
    | none => grind
    | some r =>
     rw [h1] at h
     have h2 : skip c r = some [] := h
     obtain ⟨t, rfl, ht⟩ := wC h1
     have hnt : ∀ x ∈ t, bR x = true := fun x hx => hn x (List.mem_append_left _ hx)
     have hnr : ∀ x ∈ r, bR x = true := fun x hx => hn x (List.mem_append_right _ hx)
     have ht1 : 1 ≤ t.length := by
      cases t with
      | nil => cases ht
      | cons _ _ => simp
     simp only [List.length_append] at hf
     have e : dN ((t ++ r).length + 1) (c + 1) (t ++ r) = dN (t.length + 1) 1 t ++ dN (r.length + 1) c r := by
      rw [Nat.add_comm c 1, nG _ 1 c (t ++ r) r (Nat.lt_succ_self _) h1 hn _ h2, fY _ 1 t r [] (Nat.lt_succ_self _) ht hnt,
       fD (t.length + 1) 1 t [] (by omega) ht hnt ((t ++ r).length + 1) (by simp), fD (r.length + 1) c r [] (by omega) h2 hnr ((t ++ r).length + 1) (by simp)]
     rw [e, List.append_assoc]
     have a1 := ihN t (dN (r.length + 1) c r ++ [wEnd] :: rest) ht hnt (by omega)
     have a2 := ihK r c rest h2 hnr (by omega)
     have hne : gY ((dN (t.length + 1) 1 t ++ (dN (r.length + 1) c r ++ [wEnd] :: rest)).headD []) = false := by
      cases t with
      | nil => cases ht
      | cons n t =>
       simp only [List.length_cons, dN]
       split
       ·
        exact aQ8 _
       ·
        rename_i hk; exact aQ7 (hnt n List.mem_cons_self) hk
     simp only [rdK]
     rw [hne]
     simp only [Bool.false_eq_true, if_false, a1, a2]
     have : ((c : Nat) : Int) + 1 = ((c + 1 : Nat) : Int) := by omega
     rw [this]
theorem tX : ∀ (f m : Nat) (l : List Nd), l.length < f → skip m l = some [] → (∀ n ∈ l, bR n = true) → l.length ≤ (dN f m l).length
 | 0, _, _, h, _, _ => by omega
 | f + 1, m, [], _, _, _ => by simp
 | f + 1, 0, n :: l, _, h, _ => by rw [cL] at h; cases h
 | f + 1, m + 1, n :: l, hf, h, hn => by
  have h' : skip (m + n.c.toNat) l = some [] := h
  have hn' : ∀ y ∈ l, bR y = true := fun y hy => hn y (List.mem_cons_of_mem _ hy)
  have hl : l.length < f := by simpa using hf
  obtain ⟨c1, c2, c3, c4⟩ := dF (hn n List.mem_cons_self)
  simp only [dN]
  split
  ·
   rename_i hk
   rw [c3 hk] at h'
   have := tX f m l hl (by simpa using h') hn'
   simp only [List.length_cons]; omega
  ·
   rw [Nat.add_comm, eS] at h'
   cases hs : skip n.c.toNat l with
   | none => rw [hs] at h'; cases h'
   | some r1 =>
    rw [hs] at h'
    have h2 : skip m r1 = some [] := h'
    obtain ⟨t, rfl, ht⟩ := wC hs
    simp only [List.length_append] at hl
    have hnt : ∀ x ∈ t, bR x = true := fun x hx => hn' x (List.mem_append_left _ hx)
    have a1 := tX f _ t (by omega) ht hnt
    have a2 := tX f m r1 (by omega) h2 (fun x hx => hn' x (List.mem_append_right _ hx))
    rw [Option.getD_some, fY f _ t r1 [] (by simp; omega) ht hnt]
    simp only [List.length_cons, List.length_append]; omega
theorem bS8 {t : List Nd} (h : IsTree t) (rest : List (List aG)) : rdT (aQ6 t ++ rest) = (some t, rest) := by
 have := tX (t.length + 1) 1 t (by omega) h.skip h.node
 exact (bK8 _).1 t rest h.skip h.node (by simp only [aQ6, List.length_append]; omega)
theorem qL {r : Pr} (h : jX r = true) : (0 ≤ r.g ∧ r.g ≤ 1099511627776) ∧ IsTree r.t ∧ dO r.a = true ∧ (eC r.b).isSome = true ∧ (eC r.c).isSome = true := by
 unfold jX at h
 simp only [Bool.and_eq_true, qK] at h
 obtain ⟨h1, h2, h3, ⟨h4, h5⟩, h6⟩ := h
 rw [jF] at h5
 exact ⟨⟨h4, h5⟩, kQ h6, h1, h2, h3⟩
theorem bS9 {r : Pr} (h : jX r = true) (rest : List (List aG)) : rdR (iL r ++ rest) = (some r, rest) := by
 obtain ⟨⟨g0, g1⟩, ht, -⟩ := qL h
 show rdR ([wRule, r.a, r.b, r.c, numW r.g] :: (aQ6 r.t ++ rest)) = _
 unfold rdR
 simp only
 rw [if_pos ⟨rfl, rfl⟩]
 have : bG (wd [wRule, r.a, r.b, r.c, numW r.g] 4) = some r.g := kW g0 g1
 rw [this]
 simp only
 rw [bS8 ht]; rfl
theorem aK4 : ∀ (l a : List Pr) (f : Nat), (∀ r ∈ l, jX r = true) → l.length < f → kK f (l.flatMap iL) a = (some (a ++ l), [])
 | [], a, f, _, hf => by
  obtain ⟨g, rfl⟩ : ∃ g, f = g + 1 := ⟨f - 1, by simp at hf; omega⟩
  simp [kK]
 | r :: l, a, f, h, hf => by
  obtain ⟨g, rfl⟩ : ∃ g, f = g + 1 := ⟨f - 1, by simp at hf; omega⟩
  simp only [List.flatMap_cons, kK]
  rw [if_neg (by simp [iL]), bS9 (h r List.mem_cons_self)]
  simp only
  rw [aK4 l (a ++ [r]) g (fun x hx => h x (List.mem_cons_of_mem _ hx)) (by simp at hf; omega)]
  simp
theorem aV8 : ∀ l : List Pr, l.length ≤ (l.flatMap iL).length
 | [] => by simp
 | r :: l => by have := aV8 l; simp [iL] at this ⊢; omega
theorem aC7 {p : Po} (h : eW p = true) : (1 ≤ p.v ∧ p.v ≤ 1099511627776) ∧ p.r.length ≤ 16 ∧ dO p.n = true ∧ ∀ r ∈ p.r, jX r = true := by
 unfold eW at h
 simp only [Bool.and_eq_true, qK, decide_eq_true_eq, List.all_eq_true] at h
 obtain ⟨h1, ⟨h2, h3⟩, h4, h5, -⟩ := h
 rw [jF] at h3
 exact ⟨⟨h2, h3⟩, h4, h1, h5⟩
theorem bT0 {p : Po} (h : eW p = true) : rdP (lP p) = (some p, []) := by
 obtain ⟨⟨v0, v1⟩, -, -, hr⟩ := aC7 h
 show rdP ([wPolicy, p.n, numW p.v] :: p.r.flatMap iL) = _
 unfold rdP
 simp only
 rw [if_pos ⟨rfl, rfl⟩]
 have : bG (wd [wPolicy, p.n, numW p.v] 2) = some p.v := kW (by omega) v1
 rw [this]
 simp only
 rw [aK4 p.r [] _ hr (by have := aV8 p.r; omega)]; rfl
theorem bB7 {p : Po} (h : rZ p = 0) : dpE (oI p) = 0 ∧ dpO (oI p) = p ∧ dpL (oI p) = 0 := by
 have hv : eW p = true := by
  unfold rZ at h
  split at h
  ·
   assumption
  ·
   cases h
 have he : jM (lP p) = 0 := by unfold rZ at h; rw [if_pos hv] at h; exact h
 have hb : oI p = mR (lP p) := by unfold oI; rw [if_pos hv]
 obtain ⟨h1, h2⟩ := bS4 he
 have hr := bT0 hv
 rw [hb]
 have hE : dpE (mR (lP p)) = 0 := by unfold dpE; rw [if_neg (by rw [h1]; simp), h2, hr]; simp only; rw [if_pos hv]
 exact ⟨hE, by unfold dpO; rw [if_pos hE, h2, hr]; rfl, by unfold dpL; rw [if_neg (by rw [h1]; simp), h2, hr]⟩
end Go.Pl

namespace Go.Pl
open Go Go.Hl

theorem aV9 : ∀ (l : List Nd) (m : Nat) (v : Int), skip m l = some [] → (∀ n ∈ l, bR n = true) → pS l m v = some (0, v + lv l)
 | [], 0, v, _, _ => by simp [pS, lv]
 | [], m + 1, v, h, _ => by cases h
 | n :: l, 0, v, h, _ => by grind [cL]
 | n :: l, m + 1, v, h, hn => by
  have h' : skip (m + n.c.toNat) l = some [] := h
  have hnn := hn n List.mem_cons_self
  obtain ⟨c1, c2, c3, c4⟩ := dF hnn
  have e : ((m + 1 : Nat) : Int) + (n.c - 1) = ((m + n.c.toNat : Nat) : Int) := by omega
  rw [pS, if_neg (by omega), if_pos hnn, e, aV9 l _ _ h' (fun x hx => hn x (List.mem_cons_of_mem _ hx)), lv]
  grind
theorem bK9 {l : List Nd} (h : IsTree l) : cZ l = true := by
 unfold cZ
 have := aV9 l 1 0 h.skip h.node
 rw [show ((1 : Nat) : Int) = 1 from rfl] at this
 rw [this]
 have := h.lv
 simp [h.ne, h.len]
 omega
end Go.Pl

namespace Go.Pl
open Go Go.Hl

def uni (l : List (Nat × Nat)) : List (Nat × Nat) := l.eraseDups
def wD (f : Nat → List (Nat × Nat)) : Nat → Nat → Nat × Nat → List (Nat × Nat)
 | 0, _, p => [p]
 | c + 1, n, p => uni ((f n).flatMap fun q => wD f c (n + q.1) (p.1 + q.1, p.2 + q.2))
def pos : Nat → Nat → List (Nat × Nat)
 | 0, _ => [(1, 1)]
 | d + 1, n => uni ((1, 1) :: if n ≤ 8 then (List.range 3).flatMap fun c => wD (pos d) (c + 1) (n + 1) (1, 0) else [])
theorem tY {l : List (Nat × Nat)} {p : Nat × Nat} : p ∈ uni l ↔ p ∈ l := by unfold uni; simp_all
theorem zD {f : Nat → List (Nat × Nat)} : ∀ {c n : Nat} {p q r : Nat × Nat}, q ∈ wD f c n p → r ∈ f (n + (q.1 - p.1)) → p.1 ≤ q.1 → (q.1 + r.1, q.2 + r.2) ∈ wD f (c + 1) n p
 | 0, n, p, q, r, hq, hr, _ => by simp_all [wD, List.mem_singleton, Nat.sub_self, Nat.add_zero, tY, List.mem_flatMap]
 | c + 1, n, p, q, r, hq, hr, hpq => by
  unfold wD at hq ⊢
  rw [tY, List.mem_flatMap] at hq ⊢
  obtain ⟨s, hs, hq⟩ := hq
  have hle : p.1 + s.1 ≤ q.1 := by
   have key : ∀ (c n : Nat) (p q : Nat × Nat), q ∈ wD f c n p → p.1 ≤ q.1 := by
    intro c
    induction c with
    | zero => simp_all [wD, List.mem_singleton, Nat.le_refl]
    | succ c ih =>
     grind [wD, tY]
   exact key _ _ _ _ hq
  refine ⟨s, hs, zD hq ?_ hle⟩
  grind
structure Made (d n : Nat) (t : List Nd) : Prop where
 skip : skip 1 t = some []
 node : ∀ n ∈ t, bR n = true
 pos : (t.length, lv t) ∈ pos d n
structure MadeK (d n k : Nat) (ts : List Nd) : Prop where
 skip : skip k ts = some []
 node : ∀ n ∈ ts, bR n = true
 pos : (1 + ts.length, lv ts) ∈ wD (pos d) k (n + 1) (1, 0)
theorem MadeK.zero (d n : Nat) : MadeK d n 0 [] := ⟨rfl, by simp, by simp [wD, lv]⟩
theorem MadeK.next {d n k : Nat} {ts t : List Nd} (h : MadeK d n k ts) (ht : Made d (n + 1 + ts.length) t) : MadeK d n (k + 1) (ts ++ t) := by
 refine ⟨?_, fun x hx => ?_, ?_⟩
 ·
  rw [eS, jY ts t [] k h.skip]; exact ht.skip
 ·
  rcases List.mem_append.1 hx with hx | hx
  ·
   exact h.node x hx
  ·
   exact ht.node x hx
 ·
  have := zD (r := (t.length, lv t)) h.pos (by
   rw [show n + 1 + (1 + ts.length - 1) = n + 1 + ts.length from by omega]; exact ht.pos) (by simp)
  grind [rN, Nat.add_assoc]
theorem MadeK.fin {d n : Nat} {ts : List Nd} {x : Nd} {c : Nat} (h : MadeK d n c ts) (hn : n ≤ 8) (hx : bR x = true) (hk : x.k ≠ 1) (hc : x.c = c) (h1 : 1 ≤ c) (h3 : c ≤ 3) : Made (d + 1) n (x :: ts) := by
 refine ⟨?_, fun y hy => ?_, ?_⟩
 ·
  show Pl.skip (0 + x.c.toNat) ts = some []
  rw [hc, Nat.zero_add]; exact h.skip
 ·
  rcases List.mem_cons.1 hy with rfl | hy
  ·
   grind
  ·
   exact h.node y hy
 ·
  rw [Pl.pos, tY]
  refine List.mem_cons_of_mem _ ?_
  rw [if_pos hn, List.mem_flatMap]
  refine ⟨c - 1, List.mem_range.2 (by omega), ?_⟩
  rw [show c - 1 + 1 = c from by omega]
  have := h.pos
  simp_all [lv, if_neg, List.length_cons, Nat.add_comm]

end Go.Pl

namespace Go.Pl
open Go Go.Hl

structure Ms where
 n : aG
 v : Int
 r : List Pr
 o : List Nat
 d : Bool
theorem bL0 : ∀ (f : Nat), (∀ ls t r, rdN f ls = (some t, r) → r.length < ls.length) ∧ (∀ ls p r, rdK f ls = (some p, r) → r.length < ls.length)
 | 0 => ⟨fun ls t r h => (by simp only [rdN] at h; cases h), fun ls p r h => (by simp only [rdK] at h; cases h)⟩
 | f + 1 => by
  obtain ⟨ihN, ihK⟩ := bL0 f
  refine ⟨fun ls t r h => ?_, fun ls p r h => ?_⟩
  ·
   cases ls with
   | nil => simp only [rdN] at h; cases h
   | cons w rest =>
    simp only [rdN] at h
    split at h
    ·
     cases h; simp
    ·
     split at h
     ·
      cases h
     ·
      cases hk : rdK f rest with
      | mk o r' =>
       rw [hk] at h
       cases o with
       | none => cases h
       | some p =>
        cases h
        have := ihK _ _ _ hk
        simp only [List.length_cons]; omega
  ·
   simp only [rdK] at h
   split at h
   ·
    rename_i he
    cases h
    cases ls with
    | nil => simp [gY] at he
    | cons w rest => simp
   ·
    cases h1 : rdN f ls with
    | mk o r1 =>
     rw [h1] at h
     cases o with
     | none => cases h
     | some t =>
      simp only at h
      cases h2 : rdK f r1 with
      | mk o2 r2 =>
       rw [h2] at h
       cases o2 with
       | none => cases h
       | some q =>
        cases h
        have a := ihN _ _ _ h1
        have b := ihK _ _ _ h2
        omega
theorem innR_c {w : List aG} {n : Nd} (h : jH w = some n) : n.c = 0 ∧ gY w = false := by
 refine ⟨?_, ?_⟩
 ·
  unfold jH at h
  split at h
  ·
   cases h; rfl
  split at h
  ·
   cases h; rfl
  split at h
  ·
   cases hv : bG (wd w 1) with
   | none => rw [hv] at h; cases h
   | some m => rw [hv] at h; cases h; rfl
  ·
   cases h
 ·
  cases he : gY w with
  | false => rfl
  | true => rw [zC he] at h; cases h
end Go.Pl

namespace Go.Pl
open Go Go.Hl

end Go.Pl

namespace Go.Pl
open Go Go.Hl

def zE (ns im : aG) (r : Pr) : Bool := lK r.b ns && lK r.c im
def bL1 (p : Po) (ns im : aG) : Int := if eW p then match p.r.findIdx? (zE ns im) with | some i => (i : Int) | none => -1 else -1
theorem bL2 {p : Po} {ns im : aG} (hp : eW p = false) : bL1 p ns im = -1 := by
 unfold bL1; rw [if_neg (by rw [hp]; simp)]
def aK5 (n : Int) : Nd := ⟨1, 0, 0, ⟨1, n, 0, []⟩⟩
def awT : List Nd := [⟨4, 2, 3, rq0⟩, aK5 1, aK5 2, aK5 3]
def awP : Po := ⟨[112], 1, [⟨[114], [112, 114, 111, 100, 47, 42, 42], [42], 5, awT⟩]⟩
theorem bY9 : cZ awT = true := by decide
theorem bZ0 : eW awP = true := by decide +kernel
theorem bL3 : vU awT [true, false, true] = true := by decide
theorem bL4 : vU awT [true] = false := by decide
theorem lA : (iR awT).length = 3 := by decide
theorem qM : (rV awT 0).length = 3 := by decide
theorem bZ1 : bL1 awP [112, 114, 111, 100, 47, 101, 117] [119, 101, 98] = 0 := by decide +kernel
end Go.Pl

namespace Go.Pl
open Go Go.Hl
theorem bEq {c d : UInt8} (h : ((c.toNat : Int) == (d.toNat : Int)) = true) : c = d := by
 have h1 := eq_of_beq h
 exact UInt8.toNat_inj.1 (by omega)
theorem bNe {c d : UInt8} (h : ((c.toNat : Int) == (d.toNat : Int)) = false) : c ≠ d := by
 intro e; subst e; simp at h
theorem aK6 {l : List UInt8} {c : UInt8} (h : ¬ dG l c < 0) : c ∈ l := by
 unfold dG at h
 cases e : l.findIdx? (· == c) with
 | none => rw [e] at h; simp at h
 | some i =>
  obtain ⟨hi, h1, _⟩ := List.findIdx?_eq_some_iff_getElem.1 e
  have := eq_of_beq h1
  rw [← this]; exact List.getElem_mem hi
theorem tF {l : List UInt8} {c : UInt8} (h : dG l c < 0) : c ∉ l := by
 unfold dG at h
 cases e : l.findIdx? (· == c) with
 | none =>
  intro hc
  have := List.findIdx?_eq_none_iff.1 e c hc
  simp at this
 | some i => rw [e] at h; simp only at h; omega
theorem qN {p : aG} (h : p.length < 1 ∨ 200 < p.length) : eC p = none := by unfold eC; rw [if_pos h]
theorem aC8 {p : aG} (h1 : 1 ≤ p.length) (h2 : p.length ≤ 200) : eC p = patP p := by unfold eC; rw [if_neg (by omega)]
end Go.Pl

namespace Go.Proofs.YtlldglbooaefhaaGreatDoor
open Go Go.Hl Go.Pl
set_option maxRecDepth 10000
set_option maxHeartbeats 16000000

theorem aK7 (p : aG) : gD Tryz.prog 83 [.str p] (fun u v => u = .slc (((eC p).getD []).map Pt.cv) ∧ v = .bool (eC p).isSome) := by
 refine FW Tryz.func83 ?_
 refine R0 ?_
 refine aB fun K hK => ?_
 refine aB fun K hK => Rg ?_
 iterate 4 refine S0 ?_
 refine aD 8 rfl (fun h1_8 => ?_) (fun h1_8 => ?_)
 ·
  have F := h1_8
  iterate 9 refine SF ?_
  refine T2 (hK _ _ _ ?_)
  clear hK K
  refine CT rfl ?_
  refine R0 ?_
  refine aE (RT Tryz.results83 ?_)
  have hn : eC p = none := qN (by simp at h1_8; omega)
  refine aT [] (.slc []) (.bool false) ?_ ⟨by rw [hn]; rfl, by rw [hn]; rfl⟩
  simp [HV.close, HV.closeL, CV.denil, CV.denilL, HV.norm, HV.toC, HV.toCL]
 have F := h1_8
 iterate 5 refine SF ?_
 refine aD 12 rfl (fun h1_12 => ?_) (fun h1_12 => ?_)
 ·
  have F := aI h1_8 h1_12
  iterate 4 refine SF ?_
  refine T2 (hK _ _ _ ?_)
  clear hK K
  refine CT rfl ?_
  refine R0 ?_
  refine aE (RT Tryz.results83 ?_)
  have hn : eC p = none := qN (by simp at h1_12; omega)
  refine aT [] (.slc []) (.bool false) ?_ ⟨by rw [hn]; rfl, by rw [hn]; rfl⟩
  simp [HV.close, HV.closeL, CV.denil, CV.denilL, HV.norm, HV.toC, HV.toCL]
 have F := aI h1_8 h1_12
 refine SF ?_
 refine aZ (g := some (14, false)) rfl rfl fun K' hK' => T6 ?_
 refine C2 (qF p 0) ?_
 rintro u rfl
 refine AX (hK' _ _ ?_)
 clear hK' K'
 iterate 2 refine SF ?_
 refine aD 17 rfl (fun h1_17 => ?_) (fun h1_17 => ?_)
 ·
  simp only [h1_17]
  refine T2 (hK _ _ _ ?_)
  clear hK K
  refine CT rfl ?_
  refine R0 ?_
  refine aE (RT Tryz.results83 ?_)
  have hn : eC p = none := by
   rw [aC8 (by simp at h1_8; omega) (by simp at h1_12; omega)]
   exact iV p.length p (Nat.le_refl _) (aK6 (by simpa using h1_17))
  refine aT [] (.slc []) (.bool false) ?_ ⟨by rw [hn]; rfl, by rw [hn]; rfl⟩
  simp [HV.close, HV.closeL, CV.denil, CV.denilL, HV.norm, HV.toC, HV.toCL]
 simp only [h1_17]
 refine T2 (hK _ _ _ ?_)
 clear hK K
 refine CF rfl ?_
 refine aJ ?_
 refine T0 (hK _ _ _ ?_)
 clear hK K
 have hpv := aC8 (p := p) (by simp at h1_8; omega) (by simp at h1_12; omega)
 have hl : p.length ≤ 200 := by simp at h1_12; omega
 have hz0 : (0 : UInt8) ∉ p := tF (by simpa using h1_17)
 have hz : ∀ (i : Nat) (h : i < p.length), p[i] ≠ 0 := fun i h e => hz0 (e ▸ List.getElem_mem h)
 clear h1_8 h1_12 h1_17
 refine R0 ?_
 refine aB fun K hK => ?_
 refine R0 ?_
 refine aK ?_
 refine mM 4 0 140 2 rfl rfl rfl rfl ?_
 refine bE (α := {y : Nat × List Pt // PatSt p y.1 y.2}) (fun y => (fin [(0, .c (.str p)), (4, .own 68 y.1.2.length), (5, .c (.int .i64 y.1.1))], fob [(68, .row 140 2 (y.1.2.map Pt.cv))])) 100 (fun y => p.length - y.1.1) ⟨(0, []), PatSt.init p⟩ (fF) ?_
 rintro ⟨⟨i, out⟩, hst⟩
 simp only at hst
 have hi := hst.1
 have ho := hst.2.2.1
 refine aB fun K hK => ?_
 refine aB fun K hK => Rg ?_
 iterate 4 refine S0 ?_
 refine T2 (hK _ _ _ ?_)
 clear hK K
 refine aH (b := decide ((i : Int) < p.length)) rfl (fun hb => ?_) (fun hb => ?_)
 ·
  have hlt : i < p.length := by simpa using hb
  clear hb
  have hgd : p.getD i 0 = p[i] := by simp [hlt]
  have hw1 : IntKind.i64.wrap ((i : Int) + 1) = ((i + 1 : Nat) : Int) := by rw [IntWalk.i64_in _ (by omega)]; rfl
  have hw2 : IntKind.i64.wrap (((i + 1 : Nat) : Int) + 1) = ((i + 2 : Nat) : Int) := by rw [IntWalk.i64_in _ (by omega)]; rfl
  refine aJ ?_
  refine T0 (hK _ _ _ ?_)
  clear hK K
  refine aB fun K hK => ?_
  refine aK ?_
  refine aK ?_
  refine aB fun K hK => Rg ?_
  iterate 5 refine S0 ?_ (e := fun _ h_ => by simp only [sH, ↓sP, sA, tyS, simprocAttr, Int.natCast_nonneg, Int.ofNat_lt, hlt, hgd]; exact AX h_)
  refine T2 (hK _ _ _ ?_)
  clear hK K
  refine aH (b := ((p[i].toNat : Int) == 92)) rfl (fun hb => ?_) (fun hb => ?_)
  ·
   have h92 : p[i] = 92 := bEq (d := 92) hb
   clear hb
   have F := hw1
   refine RF ?_
   refine aB fun K hK => ?_
   refine aB fun K hK => Rg ?_
   iterate 4 refine S0 ?_
   refine T2 (hK _ _ _ ?_)
   clear hK K
   refine aH (b := (((i + 1 : Nat) : Int) == ((p.length : Nat) : Int))) rfl (fun hb => ?_) (fun hb => ?_)
   ·
    have hie : i + 1 = p.length := by have := eq_of_beq hb; omega
    refine R0 ?_
    refine aE (RT Tryz.results83 ?_)
    have hn : eC p = none := by rw [hpv]; exact hst.bad (yK hlt h92 hie)
    refine aT [] (.slc []) (.bool false) ?_ ⟨by rw [hn]; rfl, by rw [hn]; rfl⟩
    simp [HV.close, HV.closeL, CV.denil, CV.denilL, HV.norm, HV.toC, HV.toCL]
   have hi1 : i + 1 < p.length := by
    have : ¬ i + 1 = p.length := by rintro e; rw [e] at hb; simp at hb
    omega
   clear hb
   have hg1 : p.getD (i + 1) 0 = p[i + 1] := by simp [hi1]
   refine aJ ?_
   refine T0 (hK _ _ _ ?_)
   clear hK K
   refine Rg ?_
   have F := aI @Int.natCast_nonneg (aI @Int.ofNat_lt (aI hi1 (aI hg1 (aI @List.length_append.{0} @List.length_map.{0,0}))))
   iterate 8 refine SF ?_
   refine T2 (hK _ _ _ ?_)
   clear hK K
   refine aL (by kernel_rfl) ?_
   refine TQ hw2 ?_
   refine ⟨⟨(i + 2, out ++ [⟨0, p[i + 1]⟩]), hst.step (k := 2) (by omega) (by omega) (by simp) (aI3 hi1 h92 (hz (i + 1) hi1))⟩, aM (by omega) ?_ ?_, ?_⟩
   ·
    simp [aY, upd_at, fin_at, HV.men]
   ·
    simp only [bB, List.map_append]
    exact ⟨rfl, by omega, trivial, trivial⟩
   show p.length - (i + 2) < p.length - i
   omega
  have h92 : p[i] ≠ 92 := bNe (d := 92) hb
  clear hb
  refine aB fun K hK => Rg ?_
  iterate 5 refine S0 ?_ (e := fun _ h_ => by simp only [sH, ↓sP, sA, tyS, simprocAttr, Int.natCast_nonneg, Int.ofNat_lt, hlt, hgd]; exact AX h_)
  refine T2 (hK _ _ _ ?_)
  clear hK K
  refine aH (b := ((p[i].toNat : Int) == 63)) rfl (fun hb => ?_) (fun hb => ?_)
  ·
   have h63 : p[i] = 63 := bEq (d := 63) hb
   clear hb
   refine Rg ?_
   have F := aI @List.length_append.{0} @List.length_map.{0,0}
   iterate 5 refine SF ?_
   refine T2 (hK _ _ _ ?_)
   clear hK K
   refine aL (by kernel_rfl) ?_
   refine TQ hw1 ?_
   refine ⟨⟨(i + 1, out ++ [⟨1, 0⟩]), hst.step (k := 1) (by omega) (by omega) (by simp) (bH1 hlt h63)⟩, aM (by omega) ?_ ?_, ?_⟩
   ·
    simp [aY, upd_at, fin_at, HV.men]
   ·
    simp only [bB, List.map_append]
    exact ⟨rfl, by omega, trivial, trivial⟩
   show p.length - (i + 1) < p.length - i
   omega
  have h63 : p[i] ≠ 63 := bNe (d := 63) hb
  clear hb
  by_cases h42 : p[i] = 42
  ·
   by_cases hi1 : i + 1 < p.length
   ·
    by_cases h43 : p[i + 1] = 42
    ·
     have hd42 : ((p[i].toNat : Int) == 42) = true := by rw [h42]; rfl
     have hg1 : p.getD (i + 1) 0 = p[i + 1] := by simp [hi1]
     have hd43 : ((p[i + 1].toNat : Int) == 42) = true := by rw [h43]; rfl
     refine aB fun K hK => Rg ?_
     iterate 19 refine S0 ?_ (e := fun _ h_ => by simp only [sH, ↓sP, sA, tyS, simprocAttr, Int.natCast_nonneg, Int.ofNat_lt, hlt, hgd, hw1, hi1, hg1, hd42, hd43, decide_true]; exact AX h_)
     refine T2 (hK _ _ _ ?_)
     clear hK K
     refine CT rfl ?_
     have F := hw1
     refine RF ?_
     refine Rg ?_
     have F := aI @List.length_append.{0} @List.length_map.{0,0}
     iterate 5 refine SF ?_
     refine T2 (hK _ _ _ ?_)
     clear hK K
     refine aL (by kernel_rfl) ?_
     refine TQ hw2 ?_
     refine ⟨⟨(i + 2, out ++ [⟨3, 0⟩]), hst.step (k := 2) (by omega) (by omega) (by simp) (aU3 hi1 h42 h43)⟩, aM (by omega) ?_ ?_, ?_⟩
     ·
      simp [aY, upd_at, fin_at, HV.men]
     ·
      simp only [bB, List.map_append]
      exact ⟨rfl, by omega, trivial, trivial⟩
     show p.length - (i + 2) < p.length - i
     omega
    have hd42 : ((p[i].toNat : Int) == 42) = true := by rw [h42]; rfl
    have hg1 : p.getD (i + 1) 0 = p[i + 1] := by simp [hi1]
    have hd43 : ((p[i + 1].toNat : Int) == 42) = false := by rw [show (42 : Int) = ((42 : UInt8).toNat : Int) from rfl, bA7]; simpa using h43
    refine aB fun K hK => Rg ?_
    iterate 19 refine S0 ?_ (e := fun _ h_ => by simp only [sH, ↓sP, sA, tyS, simprocAttr, Int.natCast_nonneg, Int.ofNat_lt, hlt, hgd, hw1, hi1, hg1, hd42, hd43, decide_true]; exact AX h_)
    refine T2 (hK _ _ _ ?_)
    clear hK K
    refine CF rfl ?_
    refine aB fun K hK => Rg ?_
    iterate 5 refine S0 ?_ (e := fun _ h_ => by simp only [sH, ↓sP, sA, tyS, simprocAttr, Int.natCast_nonneg, Int.ofNat_lt, hlt, hgd, hd42]; exact AX h_)
    refine T2 (hK _ _ _ ?_)
    clear hK K
    refine CT rfl ?_
    refine Rg ?_
    have F := aI @List.length_append.{0} @List.length_map.{0,0}
    iterate 5 refine SF ?_
    refine T2 (hK _ _ _ ?_)
    clear hK K
    refine aL (by kernel_rfl) ?_
    refine TQ hw1 ?_
    refine ⟨⟨(i + 1, out ++ [⟨2, 0⟩]), hst.step (k := 1) (by omega) (by omega) (by simp) (aB6 hlt h42 fun _ => h43)⟩, aM (by omega) ?_ ?_, ?_⟩
    ·
     simp [aY, upd_at, fin_at, HV.men]
    ·
     simp only [bB, List.map_append]
     exact ⟨rfl, by omega, trivial, trivial⟩
    show p.length - (i + 1) < p.length - i
    omega
   have hd42 : ((p[i].toNat : Int) == 42) = true := by rw [h42]; rfl
   have hdi : decide (((i + 1 : Nat) : Int) < ((p.length : Nat) : Int)) = false := by simp; omega
   refine aB fun K hK => Rg ?_
   iterate 19 refine S0 ?_ (e := fun _ h_ => by simp only [sH, ↓sP, sA, tyS, simprocAttr, Int.natCast_nonneg, hdi, hlt, hgd, hw1, hd42]; exact AX h_)
   refine T2 (hK _ _ _ ?_)
   clear hK K
   refine CF rfl ?_
   refine aB fun K hK => Rg ?_
   iterate 5 refine S0 ?_ (e := fun _ h_ => by simp only [sH, ↓sP, sA, tyS, simprocAttr, Int.natCast_nonneg, Int.ofNat_lt, hlt, hgd, hd42]; exact AX h_)
   refine T2 (hK _ _ _ ?_)
   clear hK K
   refine CT rfl ?_
   refine Rg ?_
   have F := aI @List.length_append.{0} @List.length_map.{0,0}
   iterate 5 refine SF ?_
   refine T2 (hK _ _ _ ?_)
   clear hK K
   refine aL (by kernel_rfl) ?_
   refine TQ hw1 ?_
   refine ⟨⟨(i + 1, out ++ [⟨2, 0⟩]), hst.step (k := 1) (by omega) (by omega) (by simp) (aB6 hlt h42 fun h => absurd h hi1)⟩, aM (by omega) ?_ ?_, ?_⟩
   ·
    simp [aY, upd_at, fin_at, HV.men]
   ·
    simp only [bB, List.map_append]
    exact ⟨rfl, by omega, trivial, trivial⟩
   show p.length - (i + 1) < p.length - i
   omega
  have hd42 : ((p[i].toNat : Int) == 42) = false := by rw [show (42 : Int) = ((42 : UInt8).toNat : Int) from rfl, bA7]; simpa using h42
  refine aB fun K hK => Rg ?_
  iterate 19 refine S0 ?_ (e := fun _ h_ => by simp only [sH, ↓sP, sA, tyS, simprocAttr, Int.natCast_nonneg, Int.ofNat_lt, hlt, hgd, hw1, hd42]; exact AX h_)
  refine T2 (hK _ _ _ ?_)
  clear hK K
  refine CF rfl ?_
  refine aB fun K hK => Rg ?_
  iterate 5 refine S0 ?_ (e := fun _ h_ => by simp only [sH, ↓sP, sA, tyS, simprocAttr, Int.natCast_nonneg, Int.ofNat_lt, hlt, hgd, hd42]; exact AX h_)
  refine T2 (hK _ _ _ ?_)
  clear hK K
  refine CF rfl ?_
  refine Rg ?_
  iterate 8 refine S0 ?_ (e := fun _ h_ => by simp only [sH, ↓sP, sA, tyS, simprocAttr, Int.natCast_nonneg, Int.ofNat_lt, hlt, hgd, List.length_append, List.length_map]; exact AX h_)
  refine T2 (hK _ _ _ ?_)
  clear hK K
  refine aL (by kernel_rfl) ?_
  refine TQ hw1 ?_
  refine ⟨⟨(i + 1, out ++ [⟨0, p[i]⟩]), hst.step (k := 1) (by omega) (by omega) (by simp) (bH2 hlt (hz i hlt) h92 h63 h42)⟩, aM (by omega) ?_ ?_, ?_⟩
  ·
   simp [aY, upd_at, fin_at, HV.men]
  ·
   simp only [bB, List.map_append]
   exact ⟨rfl, by omega, trivial, trivial⟩
  show p.length - (i + 1) < p.length - i
  omega
 refine aX (T3 ?_)
 clear hK K
 refine AX (hK _ _ _ ?_)
 clear hK K
 have hei : i = p.length := by simp at hb; omega
 have hfin : eC p = some out := by rw [hpv]; exact hst.fin hei
 refine R0 ?_
 refine aE (RT Tryz.results83 ?_)
 refine aT [68] (.slc (out.map Pt.cv)) (.bool true) ?_ ⟨by rw [hfin]; rfl, by rw [hfin]; rfl⟩
 simp [HV.close, fob_at, upd_at, HV.norm, HV.toC, HV.closeL, HV.toCL, CV.denil, denilL_Pt]

theorem bT1 (p : aG) : gD Tryz.prog 84 [.str p] (fun u v => u = .slc (((eC p).getD []).map Pt.cv) ∧ v = .bool (eC p).isSome) := by
 refine FW Tryz.func84 ?_
 refine R0 ?_
 refine aB fun K hK => ?_
 refine aB fun K hK => Rg ?_
 iterate 3 refine S0 ?_
 refine aD 8 rfl (fun h1_8 => ?_) (fun h1_8 => ?_)
 ·
  have F := h1_8
  iterate 4 refine SF ?_
  refine T2 (hK _ _ _ ?_)
  clear hK K
  refine CT rfl ?_
  refine R0 ?_
  refine aE (RT Tryz.results84 ?_)
  have hn : eC p = none := by 
   have : p = [] := by simpa using h1_8
   exact qN (.inl (by rw [this]; simp))
  refine aT [] (.slc []) (.bool false) ?_ ⟨by rw [hn]; rfl, by rw [hn]; rfl⟩
  simp [HV.close, HV.closeL, CV.denil, CV.denilL, HV.norm, HV.toC, HV.toCL]
 have F := h1_8
 iterate 4 refine SF ?_
 refine aD 12 rfl (fun h1_12 => ?_) (fun h1_12 => ?_)
 ·
  simp only [h1_12]
  refine T2 (hK _ _ _ ?_)
  clear hK K
  refine CT rfl ?_
  refine R0 ?_
  refine aE (RT Tryz.results84 ?_)
  have hn : eC p = none := by exact qN (by simp at h1_12; omega)
  refine aT [] (.slc []) (.bool false) ?_ ⟨by rw [hn]; rfl, by rw [hn]; rfl⟩
  simp [HV.close, HV.closeL, CV.denil, CV.denilL, HV.norm, HV.toC, HV.toCL]
 simp only [h1_12]
 refine T2 (hK _ _ _ ?_)
 clear hK K
 refine CF rfl ?_
 refine aJ ?_
 refine T0 (hK _ _ _ ?_)
 clear hK K
 have hpl : 1 ≤ p.length := List.length_pos_iff.2 (by simpa using h1_8)
 have hl : p.length ≤ 200 := by simp at h1_12; omega
 have hpv := aC8 hpl hl
 clear h1_8 h1_12
 refine R0 ?_
 refine aB fun K hK => ?_
 refine R0 ?_
 refine aK ?_
 refine mM 4 0 143 2 rfl rfl rfl rfl ?_
 refine bE (α := {y : Nat × List Pt // PatSt p y.1 y.2}) (fun y => (fin [(0, .c (.str p)), (4, .own 44 y.1.2.length), (5, .c (.int .i64 y.1.1))], fob [(44, .row 143 2 (y.1.2.map Pt.cv))])) 100 (fun y => p.length - y.1.1) ⟨(0, []), PatSt.init p⟩ (fF) ?_
 rintro ⟨⟨i, out⟩, hst⟩
 simp only at hst
 have hi := hst.1
 have ho := hst.2.2.1
 refine aB fun K hK => ?_
 refine aB fun K hK => Rg ?_
 iterate 4 refine S0 ?_
 refine T2 (hK _ _ _ ?_)
 clear hK K
 refine aH (b := decide ((i : Int) < p.length)) rfl (fun hb => ?_) (fun hb => ?_)
 ·
  have hlt : i < p.length := by simpa using hb
  clear hb
  have hgd : p.getD i 0 = p[i] := by simp [hlt]
  have hw1 : IntKind.i64.wrap ((i : Int) + 1) = ((i + 1 : Nat) : Int) := by rw [IntWalk.i64_in _ (by omega)]; rfl
  have hw2 : IntKind.i64.wrap (((i + 1 : Nat) : Int) + 1) = ((i + 2 : Nat) : Int) := by rw [IntWalk.i64_in _ (by omega)]; rfl
  refine aJ ?_
  refine T0 (hK _ _ _ ?_)
  clear hK K
  refine aB fun K hK => ?_
  refine aK ?_
  refine aB fun K hK => Rg ?_
  iterate 4 refine S0 ?_ (e := fun _ h_ => by simp only [sH, ↓sP, sA, tyS, simprocAttr, Int.natCast_nonneg, Int.ofNat_lt, hlt, hgd]; exact AX h_)
  refine T2 (hK _ _ _ ?_)
  clear hK K
  refine aB fun K hK => ?_
  refine R0 ?_
  refine aH (b := ((p[i].toNat : Int) == 0)) rfl (fun hb => ?_) (fun hb => ?_)
  ·
   have h0 : p[i] = 0 := bEq (d := 0) hb
   refine R0 ?_
   refine aE (RT Tryz.results84 ?_)
   have hn : eC p = none := by rw [hpv]; exact hst.bad (aI4 hlt h0)
   refine aT [] (.slc []) (.bool false) ?_ ⟨by rw [hn]; rfl, by rw [hn]; rfl⟩
   simp [HV.close, HV.closeL, CV.denil, CV.denilL, HV.norm, HV.toC, HV.toCL]
  have h0 : p[i] ≠ 0 := bNe (d := 0) hb
  clear hb
  refine aJ ?_
  refine T0 (hK _ _ _ ?_)
  clear hK K
  refine R0 ?_
  refine aK ?_
  refine R0 ?_
  refine aH (b := ((p[i].toNat : Int) == 92)) rfl (fun hb => ?_) (fun hb => ?_)
  ·
   have h92 : p[i] = 92 := bEq (d := 92) hb
   clear hb
   refine aB fun K hK => ?_
   by_cases hi1 : i + 1 < p.length
   ·
    by_cases h10 : p[i + 1] = 0
    ·
     have hne : ((((i + 1 : Nat) : Int)) == ((p.length : Nat) : Int)) = false := by rw [beq_eq_false_iff_ne]; omega
     have hg1 : p.getD (i + 1) 0 = p[i + 1] := by simp [hi1]
     have hd0 : ((p[i + 1].toNat : Int) == 0) = true := by rw [h10]; rfl
     refine aB fun K hK => Rg ?_
     iterate 12 refine S0 ?_ (e := fun _ h_ => by simp only [sH, ↓sP, sA, tyS, simprocAttr, Int.natCast_nonneg, Int.ofNat_lt, hlt, hgd, hw1, hne, hi1, hg1, hd0]; exact AX h_)
     refine T2 (hK _ _ _ ?_)
     clear hK K
     refine CT rfl ?_
     refine R0 ?_
     refine aE (RT Tryz.results84 ?_)
     have hn : eC p = none := by rw [hpv]; exact hst.bad (aZ5 hi1 h92 h10)
     refine aT [] (.slc []) (.bool false) ?_ ⟨by rw [hn]; rfl, by rw [hn]; rfl⟩
     simp [HV.close, HV.closeL, CV.denil, CV.denilL, HV.norm, HV.toC, HV.toCL]
    have hne : ((((i + 1 : Nat) : Int)) == ((p.length : Nat) : Int)) = false := by rw [beq_eq_false_iff_ne]; omega
    have hg1 : p.getD (i + 1) 0 = p[i + 1] := by simp [hi1]
    have hd0 : ((p[i + 1].toNat : Int) == 0) = false := by rw [show (0 : Int) = ((0 : UInt8).toNat : Int) from rfl, bA7]; simpa using h10
    refine aB fun K hK => Rg ?_
    iterate 12 refine S0 ?_ (e := fun _ h_ => by simp only [sH, ↓sP, sA, tyS, simprocAttr, Int.natCast_nonneg, Int.ofNat_lt, hlt, hgd, hw1, hne, hi1, hg1, hd0]; exact AX h_)
    refine T2 (hK _ _ _ ?_)
    clear hK K
    refine CF rfl ?_
    refine aJ ?_
    refine T0 (hK _ _ _ ?_)
    clear hK K
    have F := hw1
    refine RF ?_
    refine Rg ?_
    iterate 8 refine S0 ?_ (e := fun _ h_ => by simp only [sH, ↓sP, sA, tyS, simprocAttr, Int.natCast_nonneg, Int.ofNat_lt, hlt, hgd, hi1, hg1, List.length_append, List.length_map]; exact AX h_)
    refine T2 (hK _ _ _ ?_)
    clear hK K
    refine aL (by kernel_rfl) ?_
    refine TQ hw2 ?_
    refine ⟨⟨(i + 2, out ++ [⟨0, p[i + 1]⟩]), hst.step (k := 2) (by omega) (by omega) (by simp) (aI3 hi1 h92 h10)⟩, aM (by omega) ?_ ?_, ?_⟩
    ·
     simp [aY, upd_at, fin_at, HV.men]
    ·
     simp only [bB, List.map_append]
     exact ⟨rfl, by omega, trivial, trivial⟩
    show p.length - (i + 2) < p.length - i
    omega
   have hie : i + 1 = p.length := by omega
   have hne : ((((i + 1 : Nat) : Int)) == ((p.length : Nat) : Int)) = true := by rw [hie]; simp
   refine aB fun K hK => Rg ?_
   iterate 12 refine S0 ?_ (e := fun _ h_ => by simp only [sH, ↓sP, sA, tyS, simprocAttr, Int.natCast_nonneg, Int.ofNat_lt, hlt, hgd, hw1, hne]; exact AX h_)
   refine T2 (hK _ _ _ ?_)
   clear hK K
   refine CT rfl ?_
   refine R0 ?_
   refine aE (RT Tryz.results84 ?_)
   have hn : eC p = none := by rw [hpv]; exact hst.bad (yK hlt h92 hie)
   refine aT [] (.slc []) (.bool false) ?_ ⟨by rw [hn]; rfl, by rw [hn]; rfl⟩
   simp [HV.close, HV.closeL, CV.denil, CV.denilL, HV.norm, HV.toC, HV.toCL]
  have h92 : p[i] ≠ 92 := bNe (d := 92) hb
  clear hb
  refine R0 ?_
  refine aH (b := ((p[i].toNat : Int) == 42)) rfl (fun hb => ?_) (fun hb => ?_)
  ·
   have h42 : p[i] = 42 := bEq (d := 42) hb
   clear hb
   by_cases hi1 : i + 1 < p.length
   ·
    by_cases h43 : p[i + 1] = 42
    ·
     have hg1 : p.getD (i + 1) 0 = p[i + 1] := by simp [hi1]
     have hd43 : ((p[i + 1].toNat : Int) == 42) = true := by rw [h43]; rfl
     refine aB fun K hK => Rg ?_
     iterate 12 refine S0 ?_ (e := fun _ h_ => by simp only [sH, ↓sP, sA, tyS, simprocAttr, Int.natCast_nonneg, Int.ofNat_lt, hlt, hgd, hw1, hi1, hg1, hd43, decide_true]; exact AX h_)
     refine T2 (hK _ _ _ ?_)
     clear hK K
     refine CT rfl ?_
     have F := hw1
     refine RF ?_
     refine Rg ?_
     have F := aI @List.length_append.{0} @List.length_map.{0,0}
     iterate 5 refine SF ?_
     refine T2 (hK _ _ _ ?_)
     clear hK K
     refine aL (by kernel_rfl) ?_
     refine TQ hw2 ?_
     refine ⟨⟨(i + 2, out ++ [⟨3, 0⟩]), hst.step (k := 2) (by omega) (by omega) (by simp) (aU3 hi1 h42 h43)⟩, aM (by omega) ?_ ?_, ?_⟩
     ·
      simp [aY, upd_at, fin_at, HV.men]
     ·
      simp only [bB, List.map_append]
      exact ⟨rfl, by omega, trivial, trivial⟩
     show p.length - (i + 2) < p.length - i
     omega
    have hg1 : p.getD (i + 1) 0 = p[i + 1] := by simp [hi1]
    have hd43 : ((p[i + 1].toNat : Int) == 42) = false := by rw [show (42 : Int) = ((42 : UInt8).toNat : Int) from rfl, bA7]; simpa using h43
    refine aB fun K hK => Rg ?_
    iterate 12 refine S0 ?_ (e := fun _ h_ => by simp only [sH, ↓sP, sA, tyS, simprocAttr, Int.natCast_nonneg, Int.ofNat_lt, hlt, hgd, hw1, hi1, hg1, hd43, decide_true]; exact AX h_)
    refine T2 (hK _ _ _ ?_)
    clear hK K
    refine CF rfl ?_
    refine Rg ?_
    have F := aI @List.length_append.{0} @List.length_map.{0,0}
    iterate 5 refine SF ?_
    refine T2 (hK _ _ _ ?_)
    clear hK K
    refine aL (by kernel_rfl) ?_
    refine TQ hw1 ?_
    refine ⟨⟨(i + 1, out ++ [⟨2, 0⟩]), hst.step (k := 1) (by omega) (by omega) (by simp) (aB6 hlt h42 fun _ => h43)⟩, aM (by omega) ?_ ?_, ?_⟩
    ·
     simp [aY, upd_at, fin_at, HV.men]
    ·
     simp only [bB, List.map_append]
     exact ⟨rfl, by omega, trivial, trivial⟩
    show p.length - (i + 1) < p.length - i
    omega
   have hdi : decide (((i + 1 : Nat) : Int) < ((p.length : Nat) : Int)) = false := by simp; omega
   refine aB fun K hK => Rg ?_
   have F := aI hw1 hdi
   iterate 12 refine SF ?_
   refine T2 (hK _ _ _ ?_)
   clear hK K
   refine CF rfl ?_
   refine Rg ?_
   have F := aI @List.length_append.{0} @List.length_map.{0,0}
   iterate 5 refine SF ?_
   refine T2 (hK _ _ _ ?_)
   clear hK K
   refine aL (by kernel_rfl) ?_
   refine TQ hw1 ?_
   refine ⟨⟨(i + 1, out ++ [⟨2, 0⟩]), hst.step (k := 1) (by omega) (by omega) (by simp) (aB6 hlt h42 fun h => absurd h hi1)⟩, aM (by omega) ?_ ?_, ?_⟩
   ·
    simp [aY, upd_at, fin_at, HV.men]
   ·
    simp only [bB, List.map_append]
    exact ⟨rfl, by omega, trivial, trivial⟩
   show p.length - (i + 1) < p.length - i
   omega
  have h42 : p[i] ≠ 42 := bNe (d := 42) hb
  clear hb
  refine R0 ?_
  refine aH (b := ((p[i].toNat : Int) == 63)) rfl (fun hb => ?_) (fun hb => ?_)
  ·
   have h63 : p[i] = 63 := bEq (d := 63) hb
   clear hb
   refine Rg ?_
   have F := aI @List.length_append.{0} @List.length_map.{0,0}
   iterate 5 refine SF ?_
   refine T2 (hK _ _ _ ?_)
   clear hK K
   refine aL (by kernel_rfl) ?_
   refine TQ hw1 ?_
   refine ⟨⟨(i + 1, out ++ [⟨1, 0⟩]), hst.step (k := 1) (by omega) (by omega) (by simp) (bH1 hlt h63)⟩, aM (by omega) ?_ ?_, ?_⟩
   ·
    simp [aY, upd_at, fin_at, HV.men]
   ·
    simp only [bB, List.map_append]
    exact ⟨rfl, by omega, trivial, trivial⟩
   show p.length - (i + 1) < p.length - i
   omega
  have h63 : p[i] ≠ 63 := bNe (d := 63) hb
  clear hb
  refine Rg ?_
  iterate 6 refine S0 ?_ (e := fun _ h_ => by simp only [sH, ↓sP, sA, tyS, simprocAttr, Int.natCast_nonneg, Int.ofNat_lt, hlt, hgd, List.length_append, List.length_map]; exact AX h_)
  refine T2 (hK _ _ _ ?_)
  clear hK K
  refine aL (by kernel_rfl) ?_
  refine TQ hw1 ?_
  refine ⟨⟨(i + 1, out ++ [⟨0, p[i]⟩]), hst.step (k := 1) (by omega) (by omega) (by simp) (bH2 hlt h0 h92 h63 h42)⟩, aM (by omega) ?_ ?_, ?_⟩
  ·
   simp [aY, upd_at, fin_at, HV.men]
  ·
   simp only [bB, List.map_append]
   exact ⟨rfl, by omega, trivial, trivial⟩
  show p.length - (i + 1) < p.length - i
  omega
 refine aX (T3 ?_)
 clear hK K
 refine AX (hK _ _ _ ?_)
 clear hK K
 have hei : i = p.length := by simp at hb; omega
 have hfin : eC p = some out := by rw [hpv]; exact hst.fin hei
 refine R0 ?_
 refine aE (RT Tryz.results84 ?_)
 refine aT [44] (.slc (out.map Pt.cv)) (.bool true) ?_ ⟨by rw [hfin]; rfl, by rw [hfin]; rfl⟩
 simp [HV.close, fob_at, upd_at, HV.norm, HV.toC, HV.closeL, HV.toCL, CV.denil, denilL_Pt]


end Go.Proofs.YtlldglbooaefhaaGreatDoor
