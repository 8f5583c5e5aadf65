/- Plain Lean: the rows of Match as the walks see them. By an AI agent. -/
import Derived.Test.YtlldglbooaefhaaGreatDoorPl28f
import Derived.Test.YtlldglbooaefhaaGreatDoorPl11u
import Derived.Test.YtlldglbooaefhaaGreatDoorHzU1
import Derived.Test.YtlldglbooaefhaaGreatDoorHzSb
set_option linter.unusedSimpArgs false
set_option linter.unusedVariables false
set_option linter.defProp false
namespace Go.Pl
open Go Go.Hl

theorem tF (f : Nat) (x : List Nd) : cC f 0 x = [] := by cases f <;> cases x <;> rfl
theorem bQ7 {n : Nd} {ts : List Nd} (h : skip n.c.toNat ts = some []) : cC ((n :: ts).length + 1) 1 (n :: ts) = if n.k = 1 then [wlR n.q] else wlN n :: (cC (ts.length + 1) n.c.toNat ts ++ [[wEnd]]) := by
 simp only [List.length_cons, cC]
theorem bH0 {t r : List Nd} {c : Nat} (ht : skip 1 t = some []) (h2 : skip c r = some []) (hn : ∀ n ∈ t ++ r, bF n = true) : cC ((t ++ r).length + 1) (c + 1) (t ++ r) = cC (t.length + 1) 1 t ++ cC (r.length + 1) c r := by
 have hnt : ∀ x ∈ t, bF x = true := fun x hx => hn x (List.mem_append_left _ hx)
 have hnr : ∀ x ∈ r, bF x = true := fun x hx => hn x (List.mem_append_right _ hx)
 have h1 := iY t r [] 1 ht
 rw [List.nil_append] at h1
 rw [Nat.add_comm c 1, lP _ 1 c (t ++ r) r (Nat.lt_succ_self _) h1 hn _ h2, fL _ 1 t r [] (Nat.lt_succ_self _) ht hnt,
  eH (t.length + 1) 1 t [] (by omega) ht hnt ((t ++ r).length + 1) (by simp), eH (r.length + 1) c r [] (by omega) h2 hnr ((t ++ r).length + 1) (by simp)]
theorem bH1 {t : List Nd} (h : skip 1 t = some []) (hn : ∀ n ∈ t, bF n = true) : ∃ w ls, cC (t.length + 1) 1 t = w :: ls ∧ gR w = false := by
 cases t with
 | nil => cases h
 | cons n ts =>
  simp only [List.length_cons, cC]
  split
  ·
   exact ⟨_, _, rfl, xJ _⟩
  ·
   rename_i hk; exact ⟨_, _, rfl, xI (hn n List.mem_cons_self) hk⟩
theorem vD (f : Nat) : rdN f [] = (none, []) := by cases f <;> simp [rdN]
theorem bZ5 (f : Nat) : rdK f [] = (none, []) := by
 cases f with
 | zero => simp [rdK]
 | succ f => simp [rdK, gR, vD]
theorem bQ8 : ∀ (f : Nat), (∀ t j, skip 1 t = some [] → (∀ n ∈ t, bF n = true) → 2 * t.length ≤ f → j < (cC (t.length + 1) 1 t).length → rdN f ((cC (t.length + 1) 1 t).take j) = (none, [])) ∧
  (∀ ts c j, skip c ts = some [] → (∀ n ∈ ts, bF n = true) → 2 * ts.length + 1 ≤ f → j ≤ (cC (ts.length + 1) c ts).length → rdK f ((cC (ts.length + 1) c ts ++ [[wEnd]]).take j) = (none, []))
 | 0 => ⟨fun t j h _ hf _ => (by
   have : t = [] := List.eq_nil_of_length_eq_zero (by omega)
   subst this; cases h), fun ts c j _ _ hf => by omega⟩
 | f + 1 => by
  obtain ⟨ihN, ihK⟩ := bQ8 f
  obtain ⟨okN, okK⟩ := aU7 f
  refine ⟨fun t j h hn hf hj => ?_, fun ts c j h hn hf hj => ?_⟩
  ·
   cases t with
   | nil => cases h
   | cons n ts =>
    have hnn := hn n List.mem_cons_self
    have hn' : ∀ x ∈ ts, bF x = true := fun x hx => hn x (List.mem_cons_of_mem _ hx)
    have h' : skip (0 + n.c.toNat) ts = some [] := h
    rw [Nat.zero_add] at h'
    rw [bQ7 h'] at hj ⊢
    cases j with
    | zero => rw [List.take_zero, vD]
    | succ j =>
     by_cases hk : n.k = 1
     ·
      grind
     ·
      rw [if_neg hk] at hj ⊢
      grind [aO0, List.length_cons, rdN]
  ·
   cases j with
   | zero => rw [List.take_zero, bZ5]
   | succ j =>
    cases c with
    | zero => grind [tF]
    | succ c =>
     rw [Nat.add_comm, eG] at h
     cases h1 : skip 1 ts with
     | none => grind
     | some r =>
      rw [h1] at h
      have h2 : skip c r = some [] := h
      obtain ⟨t, rfl, ht⟩ := pQ h1
      have hnt : ∀ x ∈ t, bF x = true := fun x hx => hn x (List.mem_append_left _ hx)
      have hnr : ∀ x ∈ r, bF x = true := fun x hx => hn x (List.mem_append_right _ hx)
      have ht1 : 1 ≤ t.length := by
       cases t with
       | nil => cases ht
       | cons _ _ => simp
      simp only [List.length_append] at hf
      rw [bH0 ht h2 hn] at hj ⊢
      obtain ⟨w, ls, hw, he⟩ := bH1 ht hnt
      have hhd : gR (((cC (t.length + 1) 1 t ++ cC (r.length + 1) c r ++ [[wEnd]]).take (j + 1)).headD []) = false := by
       rw [hw]; simpa using he
      rw [rdK, hhd]
      simp only [Bool.false_eq_true, if_false]
      rcases Nat.lt_or_ge (j + 1) (cC (t.length + 1) 1 t).length with hlt | hge
      ·
       have e : (cC (t.length + 1) 1 t ++ cC (r.length + 1) c r ++ [[wEnd]]).take (j + 1) = (cC (t.length + 1) 1 t).take (j + 1) := by
        rw [List.append_assoc, List.take_append_of_le_length (by omega)]
       rw [e, ihN t (j + 1) ht hnt (by omega) hlt]
      ·
       have e : (cC (t.length + 1) 1 t ++ cC (r.length + 1) c r ++ [[wEnd]]).take (j + 1) = cC (t.length + 1) 1 t ++ (cC (r.length + 1) c r ++ [[wEnd]]).take (j + 1 - (cC (t.length + 1) 1 t).length) := by
        rw [List.append_assoc, List.take_append, List.take_of_length_le hge]
       rw [e, okN t _ ht hnt (by omega)]
       simp only
       rw [ihK r c _ h2 hnr (by omega) (by grind)]
theorem bA3 : ∀ (f : Nat), (∀ ls, 2 * ls.length + 1 ≤ f → ∀ g, f ≤ g → rdN g ls = rdN f ls) ∧ (∀ ls, 2 * ls.length + 2 ≤ f → ∀ g, f ≤ g → rdK g ls = rdK f ls)
 | 0 => ⟨fun ls h => by omega, fun ls h => by omega⟩
 | f + 1 => by
  obtain ⟨ihN, ihK⟩ := bA3 f
  refine ⟨fun ls h g hg => ?_, fun ls h g hg => ?_⟩
  ·
   obtain ⟨q, rfl⟩ : ∃ q, g = q + 1 := ⟨g - 1, by omega⟩
   cases ls with
   | nil => rw [vD, vD]
   | cons w rest =>
    simp only [rdN]
    grind
  ·
   obtain ⟨q, rfl⟩ : ∃ q, g = q + 1 := ⟨g - 1, by omega⟩
   simp only [rdK]
   rw [ihN ls (by omega) q (by omega)]
   cases h1 : rdN f ls with
   | mk o r =>
    cases o with
    | none => rfl
    | some t =>
     have := (aU8 f).1 ls t r h1
     grind
theorem bZ6 {p : Po} {r : Pr} (hp : eK p = true) (hr : p.r = [r]) {k : Nat} (h2 : 2 ≤ k) (hk : k < (dS p).length) : rdP ((dS p).take k) = (none, []) := by
 obtain ⟨⟨v0, v1⟩, -, -, hrr⟩ := oR hp
 have hrb := hrr r (by grind)
 obtain ⟨⟨g0, g1⟩, ht, -⟩ := iB hrb
 have e : dS p = [wPolicy, p.n, numW p.v] :: [wRule, r.a, r.b, r.c, numW r.g] :: mQ r.t := by
  unfold dS; rw [hr]; simp [gB]
 rw [e] at hk ⊢
 obtain ⟨j, rfl⟩ : ∃ j, k = j + 2 := ⟨k - 2, by omega⟩
 simp only [List.take_succ_cons]
 have hv : bJ (wd [wPolicy, p.n, numW p.v] 2) = some p.v := iP (by omega) v1
 have hg : bJ (wd [wRule, r.a, r.b, r.c, numW r.g] 4) = some r.g := iP g0 g1
 have hge := oQ (r.t.length + 1) 1 r.t (by omega) ht.skip ht.node
 have hT : ∀ f, 2 * r.t.length ≤ f → rdN f ((mQ r.t).take j) = (none, []) := fun f hf => (bQ8 f).1 r.t j ht.skip ht.node hf (by grind [List.length_cons, mQ])
 have hR : rdR ([wRule, r.a, r.b, r.c, numW r.g] :: (mQ r.t).take j) = (none, []) := by
  unfold rdR
  simp only
  rw [if_pos ⟨rfl, rfl⟩, hg]
  simp only
  unfold rdT
  have : rdN (2 * ((mQ r.t).take j).length + 2) ((mQ r.t).take j) = (none, []) := by
   have := hT (2 * r.t.length + (2 * ((mQ r.t).take j).length + 2)) (by omega)
   rw [← (bA3 (2 * ((mQ r.t).take j).length + 2)).1 _ (by omega) (2 * r.t.length + (2 * ((mQ r.t).take j).length + 2)) (by omega)]
   exact this
  grind
 unfold rdP
 simp only
 rw [if_pos ⟨rfl, rfl⟩, hv]
 simp_all [List.length_cons, kJ, if_neg]

theorem lR {w : aJ} (h : cW w = true) : 1 ≤ w.length ∧ w.length ≤ 64 := by
 cases w with
 | nil => cases h
 | cons c r =>
  simp_all [cW, Bool.and_eq_true, decide_eq_true_eq]
theorem vE : ∀ (f m : Nat) (l r : List Nd), l.length < f → skip m l = some r → (∀ n ∈ l, bF n = true) → (cC f m l).length + 2 * r.length ≤ 2 * l.length
 | 0, _, _, _, h, _, _ => by omega
 | f + 1, 0, l, r, _, h, _ => by grind [cL, tF]
 | f + 1, m + 1, [], r, _, h, _ => by cases h
 | f + 1, m + 1, n :: l, r, hf, h, hn => by
  have h' : skip (m + n.c.toNat) l = some r := h
  have hn' : ∀ y ∈ l, bF y = true := fun y hy => hn y (List.mem_cons_of_mem _ hy)
  have hl : l.length < f := by simpa using hf
  obtain ⟨c1, c2, c3, c4⟩ := dG (hn n List.mem_cons_self)
  simp only [cC]
  split
  ·
   rename_i hk
   rw [c3 hk] at h'
   have := vE f m l r hl (by grind) hn'
   grind
  ·
   rw [Nat.add_comm, eG] at h'
   cases hs : skip n.c.toNat l with
   | none => grind
   | some r1 =>
    rw [hs] at h'
    have h2 : skip m r1 = some r := h'
    obtain ⟨j, _, hj, _, _⟩ := fN l _ _ hs
    have a1 := vE f _ l r1 hl hs hn'
    have a2 := vE f m r1 r (by grind) h2 (fun x hx => hn' x (by grind))
    grind
def pR (l : List aJ) : Prop := 1 ≤ l.length ∧ l.length ≤ 6 ∧ ∀ w ∈ l, w.length ≤ 80
theorem iQ {n : Int} (h0 : 0 ≤ n) (h1 : n ≤ 1099511627776) : (numW n).length ≤ 80 := by grind [bP3]
theorem cG4 {q : Rq} (h : dC q = true) : pR (wlR q) := by
 obtain ⟨k, n, m, t⟩ := q
 have hb : ∀ {a b : Int}, inB n a b = true → 0 ≤ a → b ≤ 1099511627776 → (numW n).length ≤ 80 := fun h h1 h2 => by grind [jK, iQ]
 have two : ∀ {a : aJ}, a.length ≤ 80 → (numW n).length ≤ 80 → pR [a, numW n] := fun h1 h2 => ⟨by simp, by simp, fun w hw => by
  grind⟩
 unfold dC at h
 simp only at h
 split at h
 ·
  rename_i h1
  simp only [Bool.and_eq_true] at h
  have hn := hb h.1 (by omega) (by omega)
  rcases h1 with rfl | rfl | rfl
  ·
   exact two (by decide) hn
  ·
   exact two (by decide) hn
  ·
   exact two (by decide) hn
 split at h
 ·
  rename_i h1
  subst h1
  simp only [Bool.and_eq_true, jK] at h
  have hn := iQ (n := n) (by omega) (by omega)
  have hm := iQ (n := m) (by omega) (by omega)
  refine ⟨by show 1 ≤ 3; omega, by show 3 ≤ 6; omega, fun w hw => ?_⟩
  have hw : w ∈ [eQ, numW n, numW m] := hw
  simp only [List.mem_cons, List.not_mem_nil, or_false] at hw
  rcases hw with rfl | rfl | rfl
  ·
   decide
  all_goals grind
 split at h
 ·
  rename_i h1
  subst h1
  simp only [Bool.and_eq_true] at h
  have ht := lR h.1
  refine ⟨by show 1 ≤ 2; omega, by show 2 ≤ 6; omega, fun w hw => ?_⟩
  have hw : w ∈ [dY, t] := hw
  simp only [List.mem_cons, List.not_mem_nil, or_false] at hw
  rcases hw with rfl | rfl
  ·
   decide
  grind
 split at h
 ·
  rename_i h1
  subst h1
  simp only [Bool.and_eq_true] at h
  exact two (by decide) (hb h.1 (by omega) (by omega))
 split at h
 ·
  rename_i h1
  subst h1
  simp only [Bool.and_eq_true] at h
  exact two (by decide) (hb h.1 (by omega) (by rw [gA]; omega))
 split at h
 ·
  rename_i h1
  subst h1
  refine ⟨by show 1 ≤ 1; omega, by show 1 ≤ 6; omega, fun w hw => ?_⟩
  have hw : w ∈ [gZ] := hw
  simp only [List.mem_singleton] at hw
  subst hw; decide
 grind
theorem cG5 {n : Nd} (h : bF n = true) (hk : n.k ≠ 1) : pR (wlN n) := by
 obtain ⟨k, a, c, q⟩ := n
 unfold bF at h
 simp only at h hk
 rw [if_neg hk] at h
 have one : ∀ {a : aJ}, a.length ≤ 80 → pR [a] := fun h1 => ⟨by simp, by simp, fun w hw => by
  grind⟩
 split at h
 ·
  rename_i h1
  rcases h1 with rfl | rfl
  ·
   exact one (by decide)
  ·
   exact one (by decide)
 split at h
 ·
  rename_i h1
  subst h1
  simp only [Bool.and_eq_true, jK] at h
  have hn := iQ (n := a) (by omega) (by omega)
  refine ⟨by show 1 ≤ 2; omega, by show 2 ≤ 6; omega, fun w hw => ?_⟩
  have hw : w ∈ [cO, numW a] := hw
  simp only [List.mem_cons, List.not_mem_nil, or_false] at hw
  rcases hw with rfl | rfl
  ·
   decide
  grind
 grind
theorem vF : ∀ (f m : Nat) (l : List Nd), (∀ n ∈ l, bF n = true) → ∀ x ∈ cC f m l, pR x
 | 0, _, _, _, x, hx => by simp [cC] at hx
 | f + 1, 0, l, _, x, hx => by grind [tF]
 | f + 1, m + 1, [], _, x, hx => by simp [cC] at hx
 | f + 1, m + 1, n :: l, hn, x, hx => by
  have hnn := hn n List.mem_cons_self
  have hn' : ∀ y ∈ l, bF y = true := fun y hy => hn y (List.mem_cons_of_mem _ hy)
  simp only [cC] at hx
  split at hx
  ·
   rename_i hk
   rcases List.mem_cons.1 hx with rfl | hx
   ·
    simp_all [bF, if_pos, Bool.and_eq_true, cG4]
   ·
    exact vF f m l hn' x hx
  ·
   rename_i hk
   rcases List.mem_cons.1 hx with rfl | hx
   ·
    exact cG5 hnn hk
   ·
    rcases List.mem_append.1 hx with hx | hx
    ·
     exact vF f _ l hn' x hx
    ·
     rcases List.mem_cons.1 hx with rfl | hx
     ·
      exact ⟨by simp, by simp, fun w hw => by simp only [List.mem_singleton] at hw; subst hw; decide⟩
     ·
      refine vF f m _ (fun y hy => hn' y ?_) x hx
      cases hs : skip n.c.toNat l with
      | none => grind
      | some r =>
       grind [fN, List.mem_of_mem_drop]
def lS (p : Po) : Prop := eK p = true ∧ p.r.length ≤ 2 ∧ ∀ r ∈ p.r, r.b.length ≤ 80 ∧ r.c.length ≤ 80 ∧ r.t.length ≤ 40
theorem vG {p : Po} (h : lS p) : (∀ l ∈ dS p, pR l) ∧ (dS p).length ≤ 170 := by
 obtain ⟨hv, h2, h3⟩ := h
 obtain ⟨⟨v0, v1⟩, -, hn, hr⟩ := oR hv
 constructor
 ·
  intro l hl
  simp only [dS, List.mem_cons, List.mem_flatMap] at hl
  rcases hl with rfl | ⟨r, hrm, hl⟩
  ·
   have := lR hn
   have hnv := iQ (n := p.v) (by omega) v1
   refine ⟨by simp, by simp, fun w hw => ?_⟩
   simp only [List.mem_cons, List.not_mem_nil, or_false] at hw
   rcases hw with rfl | rfl | rfl
   ·
    decide
   all_goals grind
  ·
   obtain ⟨⟨g0, g1⟩, ht, hna, -⟩ := iB (hr r hrm)
   have := lR hna
   have hg := iQ g0 g1
   obtain ⟨hb, hc, -⟩ := h3 r hrm
   simp only [gB, List.mem_cons] at hl
   rcases hl with rfl | hl
   ·
    refine ⟨by simp, by simp, fun w hw => ?_⟩
    simp only [List.mem_cons, List.not_mem_nil, or_false] at hw
    rcases hw with rfl | rfl | rfl | rfl | rfl
    ·
     decide
    all_goals grind
   ·
    exact vF _ _ _ ht.node l hl
 ·
  have key : ∀ l : List Pr, (∀ r ∈ l, r ∈ p.r) → (l.flatMap gB).length ≤ 81 * l.length := by
   intro l
   induction l with
   | nil => grind
   | cons r l ih =>
    intro h
    have := ih fun x hx => h x (List.mem_cons_of_mem _ hx)
    have hrm := h r List.mem_cons_self
    obtain ⟨-, ht, -⟩ := iB (hr r hrm)
    have hle := vE (r.t.length + 1) 1 r.t [] (by omega) ht.skip ht.node
    obtain ⟨-, -, h40⟩ := h3 r hrm
    simp only [List.flatMap_cons, List.length_append, gB, List.length_cons, mQ]
    grind
  grind [dS, List.length_cons]
theorem bH2 {p : Po} (h : lS p) : oW p = 0 := by
 obtain ⟨h1, h2⟩ := vG h
 unfold oW
 rw [if_pos h.1]
 exact xM h1 h2
end Go.Pl

namespace Go.Pl
open Go Go.Hl

def aB0 (ns im : aJ) (r : Pr) : Bool := mG r.b ns && mG r.c im
def bQ9 (p : Po) (ns im : aJ) : Int := if eK p then match p.r.findIdx? (aB0 ns im) with | some i => (i : Int) | none => -1 else -1
theorem bR0 {p : Po} {ns im : aJ} (hp : eK p = false) : bQ9 p ns im = -1 := by
 unfold bQ9; rw [if_neg (by rw [hp]; simp)]
def aO3 (n : Int) : Nd := ⟨1, 0, 0, ⟨1, n, 0, []⟩⟩
def awT : List Nd := [⟨4, 2, 3, rq0⟩, aO3 1, aO3 2, aO3 3]
def awP : Po := ⟨[112], 1, [⟨[114], [112, 114, 111, 100, 47, 42, 42], [42], 5, awT⟩]⟩
theorem cG6 : dH awT = true := by decide
theorem cG7 : eK awP = true := by decide +kernel
theorem bR1 : xC awT [true, false, true] = true := by decide
theorem bR2 : xC awT [true] = false := by decide
theorem lT : (jJ awT).length = 3 := by decide
theorem rH : (tC awT 0).length = 3 := by decide
theorem cG8 : bQ9 awP [112, 114, 111, 100, 47, 101, 117] [119, 101, 98] = 0 := by decide +kernel
end Go.Pl

namespace Go.Pl
open Go Go.Hl
theorem bEq {c d : UInt8} (h : ((c.toNat : Int) == (d.toNat : Int)) = true) : c = d := by
 have h1 := eq_of_beq h
 exact UInt8.toNat_inj.1 (by omega)
theorem bNe {c d : UInt8} (h : ((c.toNat : Int) == (d.toNat : Int)) = false) : c ≠ d := by
 intro e; subst e; simp at h
theorem aO4 {l : List UInt8} {c : UInt8} (h : ¬ dD l c < 0) : c ∈ l := by
 unfold dD at h
 cases e : l.findIdx? (· == c) with
 | none => rw [e] at h; simp at h
 | some i =>
  obtain ⟨hi, h1, _⟩ := List.findIdx?_eq_some_iff_getElem.1 e
  have := eq_of_beq h1
  rw [← this]; exact List.getElem_mem hi
theorem uJ {l : List UInt8} {c : UInt8} (h : dD l c < 0) : c ∉ l := by
 unfold dD at h
 cases e : l.findIdx? (· == c) with
 | none =>
  intro hc
  have := List.findIdx?_eq_none_iff.1 e c hc
  simp at this
 | some i => rw [e] at h; simp only at h; omega
theorem rJ {p : aJ} (h : p.length < 1 ∨ 200 < p.length) : eL p = none := by unfold eL; rw [if_pos h]
theorem aF9 {p : aJ} (h1 : 1 ≤ p.length) (h2 : p.length ≤ 200) : eL p = patP p := by unfold eL; rw [if_neg (by omega)]
end Go.Pl

namespace Go.Proofs.YtlldglbooaefhaaGreatDoor
open Go Go.Hl Go.Pl
set_option maxRecDepth 10000
set_option maxHeartbeats 16000000

theorem aO5 (p : aJ) : fR Tryz.prog 83 [.str p] (fun u v => u = .slc (((eL p).getD []).map Pt.cv) ∧ v = .bool (eL p).isSome) := by
 refine FW Tryz.func83 ?_
 refine R0 ?_
 refine aC fun K hK => ?_
 refine aC fun K hK => Rg ?_
 iterate 4 refine S0 ?_
 refine aE 8 rfl (fun h1_8 => ?_) (fun h1_8 => ?_)
 ·
  have F := h1_8
  iterate 9 refine SF ?_
  refine T2 (hK _ _ _ ?_)
  clear hK K
  refine CT rfl ?_
  refine R0 ?_
  refine aF (RT Tryz.results83 ?_)
  have hn : eL p = none := rJ (by simp at h1_8; omega)
  refine aR [] (.slc []) (.bool false) ?_ ⟨by rw [hn]; rfl, by rw [hn]; rfl⟩
  simp [HV.close, HV.closeL, CV.denil, CV.denilL, HV.norm, HV.toC, HV.toCL]
 have F := h1_8
 iterate 5 refine SF ?_
 refine aE 12 rfl (fun h1_12 => ?_) (fun h1_12 => ?_)
 ·
  have F := aI h1_8 h1_12
  iterate 4 refine SF ?_
  refine T2 (hK _ _ _ ?_)
  clear hK K
  refine CT rfl ?_
  refine R0 ?_
  refine aF (RT Tryz.results83 ?_)
  have hn : eL p = none := rJ (by simp at h1_12; omega)
  refine aR [] (.slc []) (.bool false) ?_ ⟨by rw [hn]; rfl, by rw [hn]; rfl⟩
  simp [HV.close, HV.closeL, CV.denil, CV.denilL, HV.norm, HV.toC, HV.toCL]
 have F := aI h1_8 h1_12
 refine SF ?_
 refine bM (g := some (14, false)) rfl rfl fun K' hK' => T6 ?_
 refine C2 (rB p 0) ?_
 rintro u rfl
 refine AX (hK' _ _ ?_)
 clear hK' K'
 iterate 2 refine SF ?_
 refine aE 17 rfl (fun h1_17 => ?_) (fun h1_17 => ?_)
 ·
  simp only [h1_17]
  refine T2 (hK _ _ _ ?_)
  clear hK K
  refine CT rfl ?_
  refine R0 ?_
  refine aF (RT Tryz.results83 ?_)
  have hn : eL p = none := by
   rw [aF9 (by simp at h1_8; omega) (by simp at h1_12; omega)]
   exact jO p.length p (Nat.le_refl _) (aO4 (by simpa using h1_17))
  refine aR [] (.slc []) (.bool false) ?_ ⟨by rw [hn]; rfl, by rw [hn]; rfl⟩
  simp [HV.close, HV.closeL, CV.denil, CV.denilL, HV.norm, HV.toC, HV.toCL]
 simp only [h1_17]
 refine T2 (hK _ _ _ ?_)
 clear hK K
 refine CF rfl ?_
 refine aK ?_
 refine T0 (hK _ _ _ ?_)
 clear hK K
 have hpv := aF9 (p := p) (by simp at h1_8; omega) (by simp at h1_12; omega)
 have hl : p.length ≤ 200 := by simp at h1_12; omega
 have hz0 : (0 : UInt8) ∉ p := uJ (by simpa using h1_17)
 have hz : ∀ (i : Nat) (h : i < p.length), p[i] ≠ 0 := fun i h e => hz0 (e ▸ List.getElem_mem h)
 clear h1_8 h1_12 h1_17
 refine R0 ?_
 refine aC fun K hK => ?_
 refine R0 ?_
 refine aL ?_
 refine jW 4 0 140 2 rfl rfl rfl rfl ?_
 refine bE (α := {y : Nat × List Pt // PatSt p y.1 y.2}) (fun y => (fin [(0, .c (.str p)), (4, .own 68 y.1.2.length), (5, .c (.int .i64 y.1.1))], fob [(68, .row 140 2 (y.1.2.map Pt.cv))])) 100 (fun y => p.length - y.1.1) ⟨(0, []), PatSt.init p⟩ (fF) ?_
 rintro ⟨⟨i, out⟩, hst⟩
 simp only at hst
 have hi := hst.1
 have ho := hst.2.2.1
 refine aC fun K hK => ?_
 refine aC fun K hK => Rg ?_
 iterate 4 refine S0 ?_
 refine T2 (hK _ _ _ ?_)
 clear hK K
 refine aG (b := decide ((i : Int) < p.length)) rfl (fun hb => ?_) (fun hb => ?_)
 ·
  have hlt : i < p.length := by simpa using hb
  clear hb
  have hgd : p.getD i 0 = p[i] := by simp [hlt]
  have hw1 : IntKind.i64.wrap ((i : Int) + 1) = ((i + 1 : Nat) : Int) := by rw [IntWalk.i64_in _ (by omega)]; rfl
  have hw2 : IntKind.i64.wrap (((i + 1 : Nat) : Int) + 1) = ((i + 2 : Nat) : Int) := by rw [IntWalk.i64_in _ (by omega)]; rfl
  refine aK ?_
  refine T0 (hK _ _ _ ?_)
  clear hK K
  refine aC fun K hK => ?_
  refine aL ?_
  refine aL ?_
  refine aC fun K hK => Rg ?_
  iterate 5 refine S0 ?_ (e := fun _ h_ => by simp only [sH, ↓sP, sA, tyS, simprocAttr, Int.natCast_nonneg, Int.ofNat_lt, hlt, hgd]; exact AX h_)
  refine T2 (hK _ _ _ ?_)
  clear hK K
  refine aG (b := ((p[i].toNat : Int) == 92)) rfl (fun hb => ?_) (fun hb => ?_)
  ·
   have h92 : p[i] = 92 := bEq (d := 92) hb
   clear hb
   have F := hw1
   refine RF ?_
   refine aC fun K hK => ?_
   refine aC fun K hK => Rg ?_
   iterate 4 refine S0 ?_
   refine T2 (hK _ _ _ ?_)
   clear hK K
   refine aG (b := (((i + 1 : Nat) : Int) == ((p.length : Nat) : Int))) rfl (fun hb => ?_) (fun hb => ?_)
   ·
    have hie : i + 1 = p.length := by have := eq_of_beq hb; omega
    refine R0 ?_
    refine aF (RT Tryz.results83 ?_)
    have hn : eL p = none := by rw [hpv]; exact hst.bad (zP hlt h92 hie)
    refine aR [] (.slc []) (.bool false) ?_ ⟨by rw [hn]; rfl, by rw [hn]; rfl⟩
    simp [HV.close, HV.closeL, CV.denil, CV.denilL, HV.norm, HV.toC, HV.toCL]
   have hi1 : i + 1 < p.length := by
    have : ¬ i + 1 = p.length := by rintro e; rw [e] at hb; simp at hb
    omega
   clear hb
   have hg1 : p.getD (i + 1) 0 = p[i + 1] := by simp [hi1]
   refine aK ?_
   refine T0 (hK _ _ _ ?_)
   clear hK K
   refine Rg ?_
   have F := aI @Int.natCast_nonneg (aI @Int.ofNat_lt (aI hi1 (aI hg1 (aI @List.length_append.{0} @List.length_map.{0,0}))))
   iterate 8 refine SF ?_
   refine T2 (hK _ _ _ ?_)
   clear hK K
   refine aM (by kernel_rfl) ?_
   refine TQ hw2 ?_
   refine ⟨⟨(i + 2, out ++ [⟨0, p[i + 1]⟩]), hst.step (k := 2) (by omega) (by omega) (by simp) (aL4 hi1 h92 (hz (i + 1) hi1))⟩, aN (by omega) ?_ ?_, ?_⟩
   ·
    simp [aW, upd_at, fin_at, HV.men]
   ·
    simp only [aY, List.map_append]
    exact ⟨rfl, by omega, trivial, trivial⟩
   show p.length - (i + 2) < p.length - i
   omega
  have h92 : p[i] ≠ 92 := bNe (d := 92) hb
  clear hb
  refine aC fun K hK => Rg ?_
  iterate 5 refine S0 ?_ (e := fun _ h_ => by simp only [sH, ↓sP, sA, tyS, simprocAttr, Int.natCast_nonneg, Int.ofNat_lt, hlt, hgd]; exact AX h_)
  refine T2 (hK _ _ _ ?_)
  clear hK K
  refine aG (b := ((p[i].toNat : Int) == 63)) rfl (fun hb => ?_) (fun hb => ?_)
  ·
   have h63 : p[i] = 63 := bEq (d := 63) hb
   clear hb
   refine Rg ?_
   have F := aI @List.length_append.{0} @List.length_map.{0,0}
   iterate 5 refine SF ?_
   refine T2 (hK _ _ _ ?_)
   clear hK K
   refine aM (by kernel_rfl) ?_
   refine TQ hw1 ?_
   refine ⟨⟨(i + 1, out ++ [⟨1, 0⟩]), hst.step (k := 1) (by omega) (by omega) (by simp) (bM7 hlt h63)⟩, aN (by omega) ?_ ?_, ?_⟩
   ·
    simp [aW, upd_at, fin_at, HV.men]
   ·
    simp only [aY, List.map_append]
    exact ⟨rfl, by omega, trivial, trivial⟩
   show p.length - (i + 1) < p.length - i
   omega
  have h63 : p[i] ≠ 63 := bNe (d := 63) hb
  clear hb
  by_cases h42 : p[i] = 42
  ·
   by_cases hi1 : i + 1 < p.length
   ·
    by_cases h43 : p[i + 1] = 42
    ·
     have hd42 : ((p[i].toNat : Int) == 42) = true := by rw [h42]; rfl
     have hg1 : p.getD (i + 1) 0 = p[i + 1] := by simp [hi1]
     have hd43 : ((p[i + 1].toNat : Int) == 42) = true := by rw [h43]; rfl
     refine aC fun K hK => Rg ?_
     iterate 19 refine S0 ?_ (e := fun _ h_ => by simp only [sH, ↓sP, sA, tyS, simprocAttr, Int.natCast_nonneg, Int.ofNat_lt, hlt, hgd, hw1, hi1, hg1, hd42, hd43, decide_true]; exact AX h_)
     refine T2 (hK _ _ _ ?_)
     clear hK K
     refine CT rfl ?_
     have F := hw1
     refine RF ?_
     refine Rg ?_
     have F := aI @List.length_append.{0} @List.length_map.{0,0}
     iterate 5 refine SF ?_
     refine T2 (hK _ _ _ ?_)
     clear hK K
     refine aM (by kernel_rfl) ?_
     refine TQ hw2 ?_
     refine ⟨⟨(i + 2, out ++ [⟨3, 0⟩]), hst.step (k := 2) (by omega) (by omega) (by simp) (aY5 hi1 h42 h43)⟩, aN (by omega) ?_ ?_, ?_⟩
     ·
      simp [aW, upd_at, fin_at, HV.men]
     ·
      simp only [aY, List.map_append]
      exact ⟨rfl, by omega, trivial, trivial⟩
     show p.length - (i + 2) < p.length - i
     omega
    have hd42 : ((p[i].toNat : Int) == 42) = true := by rw [h42]; rfl
    have hg1 : p.getD (i + 1) 0 = p[i + 1] := by simp [hi1]
    have hd43 : ((p[i + 1].toNat : Int) == 42) = false := by rw [show (42 : Int) = ((42 : UInt8).toNat : Int) from rfl, bF8]; simpa using h43
    refine aC fun K hK => Rg ?_
    iterate 19 refine S0 ?_ (e := fun _ h_ => by simp only [sH, ↓sP, sA, tyS, simprocAttr, Int.natCast_nonneg, Int.ofNat_lt, hlt, hgd, hw1, hi1, hg1, hd42, hd43, decide_true]; exact AX h_)
    refine T2 (hK _ _ _ ?_)
    clear hK K
    refine CF rfl ?_
    refine aC fun K hK => Rg ?_
    iterate 5 refine S0 ?_ (e := fun _ h_ => by simp only [sH, ↓sP, sA, tyS, simprocAttr, Int.natCast_nonneg, Int.ofNat_lt, hlt, hgd, hd42]; exact AX h_)
    refine T2 (hK _ _ _ ?_)
    clear hK K
    refine CT rfl ?_
    refine Rg ?_
    have F := aI @List.length_append.{0} @List.length_map.{0,0}
    iterate 5 refine SF ?_
    refine T2 (hK _ _ _ ?_)
    clear hK K
    refine aM (by kernel_rfl) ?_
    refine TQ hw1 ?_
    refine ⟨⟨(i + 1, out ++ [⟨2, 0⟩]), hst.step (k := 1) (by omega) (by omega) (by simp) (aE8 hlt h42 fun _ => h43)⟩, aN (by omega) ?_ ?_, ?_⟩
    ·
     simp [aW, upd_at, fin_at, HV.men]
    ·
     simp only [aY, List.map_append]
     exact ⟨rfl, by omega, trivial, trivial⟩
    show p.length - (i + 1) < p.length - i
    omega
   have hd42 : ((p[i].toNat : Int) == 42) = true := by rw [h42]; rfl
   have hdi : decide (((i + 1 : Nat) : Int) < ((p.length : Nat) : Int)) = false := by simp; omega
   refine aC fun K hK => Rg ?_
   iterate 19 refine S0 ?_ (e := fun _ h_ => by simp only [sH, ↓sP, sA, tyS, simprocAttr, Int.natCast_nonneg, hdi, hlt, hgd, hw1, hd42]; exact AX h_)
   refine T2 (hK _ _ _ ?_)
   clear hK K
   refine CF rfl ?_
   refine aC fun K hK => Rg ?_
   iterate 5 refine S0 ?_ (e := fun _ h_ => by simp only [sH, ↓sP, sA, tyS, simprocAttr, Int.natCast_nonneg, Int.ofNat_lt, hlt, hgd, hd42]; exact AX h_)
   refine T2 (hK _ _ _ ?_)
   clear hK K
   refine CT rfl ?_
   refine Rg ?_
   have F := aI @List.length_append.{0} @List.length_map.{0,0}
   iterate 5 refine SF ?_
   refine T2 (hK _ _ _ ?_)
   clear hK K
   refine aM (by kernel_rfl) ?_
   refine TQ hw1 ?_
   refine ⟨⟨(i + 1, out ++ [⟨2, 0⟩]), hst.step (k := 1) (by omega) (by omega) (by simp) (aE8 hlt h42 fun h => absurd h hi1)⟩, aN (by omega) ?_ ?_, ?_⟩
   ·
    simp [aW, upd_at, fin_at, HV.men]
   ·
    simp only [aY, List.map_append]
    exact ⟨rfl, by omega, trivial, trivial⟩
   show p.length - (i + 1) < p.length - i
   omega
  have hd42 : ((p[i].toNat : Int) == 42) = false := by rw [show (42 : Int) = ((42 : UInt8).toNat : Int) from rfl, bF8]; simpa using h42
  refine aC fun K hK => Rg ?_
  iterate 19 refine S0 ?_ (e := fun _ h_ => by simp only [sH, ↓sP, sA, tyS, simprocAttr, Int.natCast_nonneg, Int.ofNat_lt, hlt, hgd, hw1, hd42]; exact AX h_)
  refine T2 (hK _ _ _ ?_)
  clear hK K
  refine CF rfl ?_
  refine aC fun K hK => Rg ?_
  iterate 5 refine S0 ?_ (e := fun _ h_ => by simp only [sH, ↓sP, sA, tyS, simprocAttr, Int.natCast_nonneg, Int.ofNat_lt, hlt, hgd, hd42]; exact AX h_)
  refine T2 (hK _ _ _ ?_)
  clear hK K
  refine CF rfl ?_
  refine Rg ?_
  iterate 8 refine S0 ?_ (e := fun _ h_ => by simp only [sH, ↓sP, sA, tyS, simprocAttr, Int.natCast_nonneg, Int.ofNat_lt, hlt, hgd, List.length_append, List.length_map]; exact AX h_)
  refine T2 (hK _ _ _ ?_)
  clear hK K
  refine aM (by kernel_rfl) ?_
  refine TQ hw1 ?_
  refine ⟨⟨(i + 1, out ++ [⟨0, p[i]⟩]), hst.step (k := 1) (by omega) (by omega) (by simp) (bM8 hlt (hz i hlt) h92 h63 h42)⟩, aN (by omega) ?_ ?_, ?_⟩
  ·
   simp [aW, upd_at, fin_at, HV.men]
  ·
   simp only [aY, List.map_append]
   exact ⟨rfl, by omega, trivial, trivial⟩
  show p.length - (i + 1) < p.length - i
  omega
 refine bA (T3 ?_)
 clear hK K
 refine AX (hK _ _ _ ?_)
 clear hK K
 have hei : i = p.length := by simp at hb; omega
 have hfin : eL p = some out := by rw [hpv]; exact hst.fin hei
 refine R0 ?_
 refine aF (RT Tryz.results83 ?_)
 refine aR [68] (.slc (out.map Pt.cv)) (.bool true) ?_ ⟨by rw [hfin]; rfl, by rw [hfin]; rfl⟩
 simp [HV.close, fob_at, upd_at, HV.norm, HV.toC, HV.closeL, HV.toCL, CV.denil, denilL_Pt]

theorem bZ7 (p : aJ) : fR Tryz.prog 84 [.str p] (fun u v => u = .slc (((eL p).getD []).map Pt.cv) ∧ v = .bool (eL p).isSome) := by
 refine FW Tryz.func84 ?_
 refine R0 ?_
 refine aC fun K hK => ?_
 refine aC fun K hK => Rg ?_
 iterate 3 refine S0 ?_
 refine aE 8 rfl (fun h1_8 => ?_) (fun h1_8 => ?_)
 ·
  have F := h1_8
  iterate 4 refine SF ?_
  refine T2 (hK _ _ _ ?_)
  clear hK K
  refine CT rfl ?_
  refine R0 ?_
  refine aF (RT Tryz.results84 ?_)
  have hn : eL p = none := by 
   have : p = [] := by simpa using h1_8
   exact rJ (.inl (by rw [this]; simp))
  refine aR [] (.slc []) (.bool false) ?_ ⟨by rw [hn]; rfl, by rw [hn]; rfl⟩
  simp [HV.close, HV.closeL, CV.denil, CV.denilL, HV.norm, HV.toC, HV.toCL]
 have F := h1_8
 iterate 4 refine SF ?_
 refine aE 12 rfl (fun h1_12 => ?_) (fun h1_12 => ?_)
 ·
  simp only [h1_12]
  refine T2 (hK _ _ _ ?_)
  clear hK K
  refine CT rfl ?_
  refine R0 ?_
  refine aF (RT Tryz.results84 ?_)
  have hn : eL p = none := by exact rJ (by simp at h1_12; omega)
  refine aR [] (.slc []) (.bool false) ?_ ⟨by rw [hn]; rfl, by rw [hn]; rfl⟩
  simp [HV.close, HV.closeL, CV.denil, CV.denilL, HV.norm, HV.toC, HV.toCL]
 simp only [h1_12]
 refine T2 (hK _ _ _ ?_)
 clear hK K
 refine CF rfl ?_
 refine aK ?_
 refine T0 (hK _ _ _ ?_)
 clear hK K
 have hpl : 1 ≤ p.length := List.length_pos_iff.2 (by simpa using h1_8)
 have hl : p.length ≤ 200 := by simp at h1_12; omega
 have hpv := aF9 hpl hl
 clear h1_8 h1_12
 refine R0 ?_
 refine aC fun K hK => ?_
 refine R0 ?_
 refine aL ?_
 refine jW 4 0 143 2 rfl rfl rfl rfl ?_
 refine bE (α := {y : Nat × List Pt // PatSt p y.1 y.2}) (fun y => (fin [(0, .c (.str p)), (4, .own 44 y.1.2.length), (5, .c (.int .i64 y.1.1))], fob [(44, .row 143 2 (y.1.2.map Pt.cv))])) 100 (fun y => p.length - y.1.1) ⟨(0, []), PatSt.init p⟩ (fF) ?_
 rintro ⟨⟨i, out⟩, hst⟩
 simp only at hst
 have hi := hst.1
 have ho := hst.2.2.1
 refine aC fun K hK => ?_
 refine aC fun K hK => Rg ?_
 iterate 4 refine S0 ?_
 refine T2 (hK _ _ _ ?_)
 clear hK K
 refine aG (b := decide ((i : Int) < p.length)) rfl (fun hb => ?_) (fun hb => ?_)
 ·
  have hlt : i < p.length := by simpa using hb
  clear hb
  have hgd : p.getD i 0 = p[i] := by simp [hlt]
  have hw1 : IntKind.i64.wrap ((i : Int) + 1) = ((i + 1 : Nat) : Int) := by rw [IntWalk.i64_in _ (by omega)]; rfl
  have hw2 : IntKind.i64.wrap (((i + 1 : Nat) : Int) + 1) = ((i + 2 : Nat) : Int) := by rw [IntWalk.i64_in _ (by omega)]; rfl
  refine aK ?_
  refine T0 (hK _ _ _ ?_)
  clear hK K
  refine aC fun K hK => ?_
  refine aL ?_
  refine aC fun K hK => Rg ?_
  iterate 4 refine S0 ?_ (e := fun _ h_ => by simp only [sH, ↓sP, sA, tyS, simprocAttr, Int.natCast_nonneg, Int.ofNat_lt, hlt, hgd]; exact AX h_)
  refine T2 (hK _ _ _ ?_)
  clear hK K
  refine aC fun K hK => ?_
  refine R0 ?_
  refine aG (b := ((p[i].toNat : Int) == 0)) rfl (fun hb => ?_) (fun hb => ?_)
  ·
   have h0 : p[i] = 0 := bEq (d := 0) hb
   refine R0 ?_
   refine aF (RT Tryz.results84 ?_)
   have hn : eL p = none := by rw [hpv]; exact hst.bad (aL5 hlt h0)
   refine aR [] (.slc []) (.bool false) ?_ ⟨by rw [hn]; rfl, by rw [hn]; rfl⟩
   simp [HV.close, HV.closeL, CV.denil, CV.denilL, HV.norm, HV.toC, HV.toCL]
  have h0 : p[i] ≠ 0 := bNe (d := 0) hb
  clear hb
  refine aK ?_
  refine T0 (hK _ _ _ ?_)
  clear hK K
  refine R0 ?_
  refine aL ?_
  refine R0 ?_
  refine aG (b := ((p[i].toNat : Int) == 92)) rfl (fun hb => ?_) (fun hb => ?_)
  ·
   have h92 : p[i] = 92 := bEq (d := 92) hb
   clear hb
   refine aC fun K hK => ?_
   by_cases hi1 : i + 1 < p.length
   ·
    by_cases h10 : p[i + 1] = 0
    ·
     have hne : ((((i + 1 : Nat) : Int)) == ((p.length : Nat) : Int)) = false := by rw [beq_eq_false_iff_ne]; omega
     have hg1 : p.getD (i + 1) 0 = p[i + 1] := by simp [hi1]
     have hd0 : ((p[i + 1].toNat : Int) == 0) = true := by rw [h10]; rfl
     refine aC fun K hK => Rg ?_
     iterate 12 refine S0 ?_ (e := fun _ h_ => by simp only [sH, ↓sP, sA, tyS, simprocAttr, Int.natCast_nonneg, Int.ofNat_lt, hlt, hgd, hw1, hne, hi1, hg1, hd0]; exact AX h_)
     refine T2 (hK _ _ _ ?_)
     clear hK K
     refine CT rfl ?_
     refine R0 ?_
     refine aF (RT Tryz.results84 ?_)
     have hn : eL p = none := by rw [hpv]; exact hst.bad (bE6 hi1 h92 h10)
     refine aR [] (.slc []) (.bool false) ?_ ⟨by rw [hn]; rfl, by rw [hn]; rfl⟩
     simp [HV.close, HV.closeL, CV.denil, CV.denilL, HV.norm, HV.toC, HV.toCL]
    have hne : ((((i + 1 : Nat) : Int)) == ((p.length : Nat) : Int)) = false := by rw [beq_eq_false_iff_ne]; omega
    have hg1 : p.getD (i + 1) 0 = p[i + 1] := by simp [hi1]
    have hd0 : ((p[i + 1].toNat : Int) == 0) = false := by rw [show (0 : Int) = ((0 : UInt8).toNat : Int) from rfl, bF8]; simpa using h10
    refine aC fun K hK => Rg ?_
    iterate 12 refine S0 ?_ (e := fun _ h_ => by simp only [sH, ↓sP, sA, tyS, simprocAttr, Int.natCast_nonneg, Int.ofNat_lt, hlt, hgd, hw1, hne, hi1, hg1, hd0]; exact AX h_)
    refine T2 (hK _ _ _ ?_)
    clear hK K
    refine CF rfl ?_
    refine aK ?_
    refine T0 (hK _ _ _ ?_)
    clear hK K
    have F := hw1
    refine RF ?_
    refine Rg ?_
    iterate 8 refine S0 ?_ (e := fun _ h_ => by simp only [sH, ↓sP, sA, tyS, simprocAttr, Int.natCast_nonneg, Int.ofNat_lt, hlt, hgd, hi1, hg1, List.length_append, List.length_map]; exact AX h_)
    refine T2 (hK _ _ _ ?_)
    clear hK K
    refine aM (by kernel_rfl) ?_
    refine TQ hw2 ?_
    refine ⟨⟨(i + 2, out ++ [⟨0, p[i + 1]⟩]), hst.step (k := 2) (by omega) (by omega) (by simp) (aL4 hi1 h92 h10)⟩, aN (by omega) ?_ ?_, ?_⟩
    ·
     simp [aW, upd_at, fin_at, HV.men]
    ·
     simp only [aY, List.map_append]
     exact ⟨rfl, by omega, trivial, trivial⟩
    show p.length - (i + 2) < p.length - i
    omega
   have hie : i + 1 = p.length := by omega
   have hne : ((((i + 1 : Nat) : Int)) == ((p.length : Nat) : Int)) = true := by rw [hie]; simp
   refine aC fun K hK => Rg ?_
   iterate 12 refine S0 ?_ (e := fun _ h_ => by simp only [sH, ↓sP, sA, tyS, simprocAttr, Int.natCast_nonneg, Int.ofNat_lt, hlt, hgd, hw1, hne]; exact AX h_)
   refine T2 (hK _ _ _ ?_)
   clear hK K
   refine CT rfl ?_
   refine R0 ?_
   refine aF (RT Tryz.results84 ?_)
   have hn : eL p = none := by rw [hpv]; exact hst.bad (zP hlt h92 hie)
   refine aR [] (.slc []) (.bool false) ?_ ⟨by rw [hn]; rfl, by rw [hn]; rfl⟩
   simp [HV.close, HV.closeL, CV.denil, CV.denilL, HV.norm, HV.toC, HV.toCL]
  have h92 : p[i] ≠ 92 := bNe (d := 92) hb
  clear hb
  refine R0 ?_
  refine aG (b := ((p[i].toNat : Int) == 42)) rfl (fun hb => ?_) (fun hb => ?_)
  ·
   have h42 : p[i] = 42 := bEq (d := 42) hb
   clear hb
   by_cases hi1 : i + 1 < p.length
   ·
    by_cases h43 : p[i + 1] = 42
    ·
     have hg1 : p.getD (i + 1) 0 = p[i + 1] := by simp [hi1]
     have hd43 : ((p[i + 1].toNat : Int) == 42) = true := by rw [h43]; rfl
     refine aC fun K hK => Rg ?_
     iterate 12 refine S0 ?_ (e := fun _ h_ => by simp only [sH, ↓sP, sA, tyS, simprocAttr, Int.natCast_nonneg, Int.ofNat_lt, hlt, hgd, hw1, hi1, hg1, hd43, decide_true]; exact AX h_)
     refine T2 (hK _ _ _ ?_)
     clear hK K
     refine CT rfl ?_
     have F := hw1
     refine RF ?_
     refine Rg ?_
     have F := aI @List.length_append.{0} @List.length_map.{0,0}
     iterate 5 refine SF ?_
     refine T2 (hK _ _ _ ?_)
     clear hK K
     refine aM (by kernel_rfl) ?_
     refine TQ hw2 ?_
     refine ⟨⟨(i + 2, out ++ [⟨3, 0⟩]), hst.step (k := 2) (by omega) (by omega) (by simp) (aY5 hi1 h42 h43)⟩, aN (by omega) ?_ ?_, ?_⟩
     ·
      simp [aW, upd_at, fin_at, HV.men]
     ·
      simp only [aY, List.map_append]
      exact ⟨rfl, by omega, trivial, trivial⟩
     show p.length - (i + 2) < p.length - i
     omega
    have hg1 : p.getD (i + 1) 0 = p[i + 1] := by simp [hi1]
    have hd43 : ((p[i + 1].toNat : Int) == 42) = false := by rw [show (42 : Int) = ((42 : UInt8).toNat : Int) from rfl, bF8]; simpa using h43
    refine aC fun K hK => Rg ?_
    iterate 12 refine S0 ?_ (e := fun _ h_ => by simp only [sH, ↓sP, sA, tyS, simprocAttr, Int.natCast_nonneg, Int.ofNat_lt, hlt, hgd, hw1, hi1, hg1, hd43, decide_true]; exact AX h_)
    refine T2 (hK _ _ _ ?_)
    clear hK K
    refine CF rfl ?_
    refine Rg ?_
    have F := aI @List.length_append.{0} @List.length_map.{0,0}
    iterate 5 refine SF ?_
    refine T2 (hK _ _ _ ?_)
    clear hK K
    refine aM (by kernel_rfl) ?_
    refine TQ hw1 ?_
    refine ⟨⟨(i + 1, out ++ [⟨2, 0⟩]), hst.step (k := 1) (by omega) (by omega) (by simp) (aE8 hlt h42 fun _ => h43)⟩, aN (by omega) ?_ ?_, ?_⟩
    ·
     simp [aW, upd_at, fin_at, HV.men]
    ·
     simp only [aY, List.map_append]
     exact ⟨rfl, by omega, trivial, trivial⟩
    show p.length - (i + 1) < p.length - i
    omega
   have hdi : decide (((i + 1 : Nat) : Int) < ((p.length : Nat) : Int)) = false := by simp; omega
   refine aC fun K hK => Rg ?_
   have F := aI hw1 hdi
   iterate 12 refine SF ?_
   refine T2 (hK _ _ _ ?_)
   clear hK K
   refine CF rfl ?_
   refine Rg ?_
   have F := aI @List.length_append.{0} @List.length_map.{0,0}
   iterate 5 refine SF ?_
   refine T2 (hK _ _ _ ?_)
   clear hK K
   refine aM (by kernel_rfl) ?_
   refine TQ hw1 ?_
   refine ⟨⟨(i + 1, out ++ [⟨2, 0⟩]), hst.step (k := 1) (by omega) (by omega) (by simp) (aE8 hlt h42 fun h => absurd h hi1)⟩, aN (by omega) ?_ ?_, ?_⟩
   ·
    simp [aW, upd_at, fin_at, HV.men]
   ·
    simp only [aY, List.map_append]
    exact ⟨rfl, by omega, trivial, trivial⟩
   show p.length - (i + 1) < p.length - i
   omega
  have h42 : p[i] ≠ 42 := bNe (d := 42) hb
  clear hb
  refine R0 ?_
  refine aG (b := ((p[i].toNat : Int) == 63)) rfl (fun hb => ?_) (fun hb => ?_)
  ·
   have h63 : p[i] = 63 := bEq (d := 63) hb
   clear hb
   refine Rg ?_
   have F := aI @List.length_append.{0} @List.length_map.{0,0}
   iterate 5 refine SF ?_
   refine T2 (hK _ _ _ ?_)
   clear hK K
   refine aM (by kernel_rfl) ?_
   refine TQ hw1 ?_
   refine ⟨⟨(i + 1, out ++ [⟨1, 0⟩]), hst.step (k := 1) (by omega) (by omega) (by simp) (bM7 hlt h63)⟩, aN (by omega) ?_ ?_, ?_⟩
   ·
    simp [aW, upd_at, fin_at, HV.men]
   ·
    simp only [aY, List.map_append]
    exact ⟨rfl, by omega, trivial, trivial⟩
   show p.length - (i + 1) < p.length - i
   omega
  have h63 : p[i] ≠ 63 := bNe (d := 63) hb
  clear hb
  refine Rg ?_
  iterate 6 refine S0 ?_ (e := fun _ h_ => by simp only [sH, ↓sP, sA, tyS, simprocAttr, Int.natCast_nonneg, Int.ofNat_lt, hlt, hgd, List.length_append, List.length_map]; exact AX h_)
  refine T2 (hK _ _ _ ?_)
  clear hK K
  refine aM (by kernel_rfl) ?_
  refine TQ hw1 ?_
  refine ⟨⟨(i + 1, out ++ [⟨0, p[i]⟩]), hst.step (k := 1) (by omega) (by omega) (by simp) (bM8 hlt h0 h92 h63 h42)⟩, aN (by omega) ?_ ?_, ?_⟩
  ·
   simp [aW, upd_at, fin_at, HV.men]
  ·
   simp only [aY, List.map_append]
   exact ⟨rfl, by omega, trivial, trivial⟩
  show p.length - (i + 1) < p.length - i
  omega
 refine bA (T3 ?_)
 clear hK K
 refine AX (hK _ _ _ ?_)
 clear hK K
 have hei : i = p.length := by simp at hb; omega
 have hfin : eL p = some out := by rw [hpv]; exact hst.fin hei
 refine R0 ?_
 refine aF (RT Tryz.results84 ?_)
 refine aR [44] (.slc (out.map Pt.cv)) (.bool true) ?_ ⟨by rw [hfin]; rfl, by rw [hfin]; rfl⟩
 simp [HV.close, fob_at, upd_at, HV.norm, HV.toC, HV.closeL, HV.toCL, CV.denil, denilL_Pt]


end Go.Proofs.YtlldglbooaefhaaGreatDoor

namespace Go.Pl
open Go Go.Hl
def rK (c : UInt8) (l : aJ) : aJ := match l.findIdx? (· == c) with | some i => l.take i | none => l
def xN (c : UInt8) (l : aJ) : aJ := match l.findIdx? (· == c) with | some i => l.drop (i + 1) | none => []
def uW (c : UInt8) (l : aJ) : Bool := (l.findIdx? (· == c)).isSome
theorem rL {c : UInt8} {l : aJ} {i : Nat} (h : dD l c = (i : Int)) : i < l.length ∧ rK c l = l.take i ∧ xN c l = l.drop (i + 1) ∧ uW c l = true := by
 unfold dD at h
 cases e : l.findIdx? (· == c) with
 | none => grind
 | some j =>
  grind [List.findIdx?_eq_some_iff_getElem, rK, xN, uW]
theorem rM {c : UInt8} {l : aJ} (h : dD l c < 0) : rK c l = l ∧ xN c l = [] ∧ uW c l = false := by grind [dD, rK, xN, uW]
theorem aB1 (c : UInt8) (l : aJ) : aP c l = if uW c l then rK c l :: aP c (xN c l) else [rK c l] := by
 by_cases h : dD l c < 0
 all_goals grind [rM, nJ, dP, rL]
theorem aO6 {c : UInt8} {l : aJ} (h : uW c l = true) : (xN c l).length < l.length := by
 by_cases h0 : dD l c < 0
 ·
  simp_all [rM]
 ·
  obtain ⟨i, hi, hil, _⟩ := dP h0
  rw [(rL hi).2.2.1]; grind
def PathSt (p : aJ) (m : Bool) (s : aJ) : Prop := s.length ≤ 200 ∧ (aP 47 p).all kP = if m then (aP 47 s).all kP else true
theorem PathSt.step {p s : aJ} (h : PathSt p true s) (hg : kP (rK 47 s) = true) : PathSt p (uW 47 s) (xN 47 s) := by
 refine ⟨?_, ?_⟩
 ·
  cases hf : uW 47 s with
  | true => have := aO6 hf; have := h.1; omega
  | false =>
   by_cases h0 : dD s 47 < 0
   all_goals grind [rM, dP, rL]
 ·
  rw [h.2, if_pos rfl, aB1 47 s]
  grind
theorem PathSt.bad {p s : aJ} (h : PathSt p true s) (hg : kP (rK 47 s) = false) : (aP 47 p).all kP = false := by
 rw [h.2, if_pos rfl, aB1 47 s]
 grind
theorem bR3 {p : aJ} (h1 : 1 ≤ p.length) (h2 : p.length ≤ 200) (h0 : (0 : UInt8) ∉ p) : kQ p = (aP 47 p).all kP := by grind [kQ]
theorem aB2 {p : aJ} (h : p.length < 1 ∨ 200 < p.length) : kQ p = false := by grind [kQ, decide_eq_false]
theorem aU9 {p : aJ} (h : (0 : UInt8) ∈ p) : kQ p = false := by
 unfold kQ; grind
theorem xO {w : aJ} (h : w = [] ∨ w = [46] ∨ w = [46, 46]) : kP w = false := by
 rcases h with h | h | h <;> subst h <;> rfl
theorem bH3 {w : aJ} (h1 : w ≠ []) (h2 : w ≠ [46]) (h3 : w ≠ [46, 46]) : kP w = true := by grind [kP]
end Go.Pl

namespace Go.Proofs.YtlldglbooaefhaaGreatDoor
open Go Go.Hl Go.Pl
set_option maxRecDepth 10000
set_option maxHeartbeats 16000000

theorem bR4 (l : aJ) (c : UInt8) (hl : l.length < 2 ^ 40) : aE9 Tryz.prog 135 [.str l, .str [c]] (fun u v x => u = .str (rK c l) ∧ v = .str (xN c l) ∧ x = .bool (uW c l)) := by
 refine FW Tryz.func135 ?_
 refine R0 ?_
 refine aC fun K hK => ?_
 refine AU ?_
 refine SC (xA l c) ?_
 refine AU ?_
 refine aG (b := decide ((0 : Int) ≤ dD l c)) rfl (fun hb => ?_) (fun hb => ?_)
 ·
  have hn : ¬ dD l c < 0 := by simp at hb; omega
  obtain ⟨i, hi, hil, hsp⟩ := dP hn
  obtain ⟨_, c1, c2, c3⟩ := rL hi
  have htd : List.take (l.length - (i + 1)) (List.drop (i + 1) l) = List.drop (i + 1) l := List.take_of_length_le (by simp)
  have hil1 : i + 1 ≤ l.length := hil
  have hil0 : i ≤ l.length := by omega
  rw [hi]
  refine aC fun K hK => QR ?_
  have F := aI @Int.natCast_nonneg (aI @Int.ofNat_le (aI @Int.sub_zero (aI @Nat.sub_zero (aI @List.drop_zero.{0} (aI hil0 (aI hil1 (aI htd (show IntKind.i64.wrap ((i : Int) + 1) = ((i + 1 : Nat) : Int) from by rw [IntWalk.i64_in _ (by omega)]; rfl))))))))
  refine AU ?_
  refine T2 (hK _ _ _ ?_)
  clear hK K
  refine aF (RT Tryz.results135 ?_)
  exact jX [] (.str (l.take i)) (.str (l.drop (i + 1))) (.bool true) rfl ⟨by rw [c1], by rw [c2], by rw [c3]⟩
 have hn : dD l c < 0 := by simp at hb; omega
 obtain ⟨c1, c2, c3⟩ := rM hn
 refine aK ?_
 refine T0 (hK _ _ _ ?_)
 clear hK K
 refine AU ?_
 refine aF (RT Tryz.results135 ?_)
 exact jX [] (.str l) (.str []) (.bool false) rfl ⟨by rw [c1], by rw [c2], by rw [c3]⟩


theorem bZ8 (l : aJ) (c : UInt8) (hl : l.length < 2 ^ 40) : aE9 Tryz.prog 113 [.str l, .str [c]] (fun u v x => u = .str (rK c l) ∧ v = .str (xN c l) ∧ x = .bool (uW c l)) := by
 refine FW Tryz.func113 ?_
 refine R0 ?_
 refine aC fun K hK => Rg ?_
 refine AU ?_
 refine HS rfl rfl fun K' hK' => T5 ?_
 refine pN (args := [_, _]) (bR4 l c hl) ⟨rfl, rfl, rfl, rfl⟩ ?_
 rintro u v x ⟨rfl, rfl, rfl⟩
 refine AX (hK' _ _ ?_)
 clear hK' K'
 refine AU ?_
 refine T2 (hK _ _ _ ?_)
 clear hK K
 refine aF (RT Tryz.results113 ?_)
 exact jX [] _ _ _ rfl ⟨rfl, rfl, rfl⟩


theorem bA4 (p : aJ) : bQ Tryz.prog 58 [.str p] (fun v => v = .bool (eL p).isSome) := by
 refine FW Tryz.func58 ?_
 refine R0 ?_
 refine aC fun K hK => Rg ?_
 refine S0 ?_
 refine HS rfl rfl fun K' hK' => T5 ?_
 refine D1 (aO5 p) ?_
 rintro u v ⟨rfl, rfl⟩
 refine AX (hK' _ _ ?_)
 clear hK' K'
 refine AU ?_
 refine T2 (hK _ _ _ ?_)
 clear hK K
 refine R0 ?_
 refine aF (RT Tryz.results58 ?_)
 exact aH [] _ rfl rfl


theorem aO7 (p : aJ) : bQ Tryz.prog 60 [.str p] (fun v => v = .bool (eL p).isSome) := by
 refine FW Tryz.func60 ?_
 refine R0 ?_
 refine aC fun K hK => Rg ?_
 refine S0 ?_
 refine HS rfl rfl fun K' hK' => T5 ?_
 refine D1 (bZ7 p) ?_
 rintro u v ⟨rfl, rfl⟩
 refine AX (hK' _ _ ?_)
 clear hK' K'
 refine AU ?_
 refine T2 (hK _ _ _ ?_)
 clear hK K
 refine R0 ?_
 refine aF (RT Tryz.results60 ?_)
 exact aH [] _ rfl rfl


theorem bA5 (p : aJ) : bQ Tryz.prog 96 [.str p] (fun v => v = .bool (kQ p)) := by
 refine FW Tryz.func96 ?_
 refine R0 ?_
 refine aC fun K hK => ?_
 refine aC fun K hK => Rg ?_
 iterate 4 refine S0 ?_
 refine aE 7 rfl (fun h1_7 => ?_) (fun h1_7 => ?_)
 ·
  have F := h1_7
  iterate 9 refine SF ?_
  refine T2 (hK _ _ _ ?_)
  clear hK K
  refine CT rfl ?_
  refine R0 ?_
  refine aF (RT Tryz.results96 ?_)
  exact aH [] (.bool false) rfl (by rw [aB2 (by simp at h1_7; omega)])
 have F := h1_7
 iterate 5 refine SF ?_
 refine aE 11 rfl (fun h1_11 => ?_) (fun h1_11 => ?_)
 ·
  clear F
  have F := aI h1_7 h1_11
  iterate 4 refine SF ?_
  refine T2 (hK _ _ _ ?_)
  clear hK K
  refine CT rfl ?_
  refine R0 ?_
  refine aF (RT Tryz.results96 ?_)
  exact aH [] (.bool false) rfl (by rw [aB2 (by simp at h1_11; omega)])
 clear F
 have F := aI h1_7 h1_11
 refine SF ?_
 refine bM (g := some (13, false)) rfl rfl fun K' hK' => T6 ?_
 refine C2 (rB p 0) ?_
 rintro u rfl
 refine AX (hK' _ _ ?_)
 clear hK' K'
 iterate 2 refine SF ?_
 refine aE 16 rfl (fun h1_16 => ?_) (fun h1_16 => ?_)
 ·
  simp only [h1_16]
  refine T2 (hK _ _ _ ?_)
  clear hK K
  refine CT rfl ?_
  refine R0 ?_
  refine aF (RT Tryz.results96 ?_)
  exact aH [] (.bool false) rfl (by rw [aU9 (aO4 (by simpa using h1_16))])
 simp only [h1_16]
 refine T2 (hK _ _ _ ?_)
 clear hK K
 refine CF rfl ?_
 refine aK ?_
 refine T0 (hK _ _ _ ?_)
 clear hK K
 refine aC fun K hK => ?_
 have hl : p.length ≤ 200 := by simp at h1_11; omega
 have hpv := bR3 (p := p) (by simp at h1_7; omega) hl (uJ (by simpa using h1_16))
 clear h1_7 h1_11 h1_16
 refine R0 ?_
 refine aL ?_
 refine bE (α := {y : Bool × aJ // PathSt p y.1 y.2}) (fun y => (fin [(0, .c (.str y.1.2)), (3, .c (.bool y.1.1))], fob [])) 100 (fun y => if y.1.1 then y.1.2.length + 1 else 0) ⟨(true, p), hl, by simp⟩ (fF) ?_
 rintro ⟨⟨m, s⟩, hst⟩
 simp only at hst
 have hs := hst.1
 refine aC fun K hK => ?_
 refine R0 ?_
 refine aG (b := m) rfl (fun hb => ?_) (fun hb => ?_)
 ·
  subst hb
  refine aK ?_
  refine T0 (hK _ _ _ ?_)
  clear hK K
  refine aL ?_
  refine R0 ?_
  refine aC fun K hK => Rg ?_
  refine S0 ?_
  refine HS rfl rfl fun K' hK' => T5 ?_
  refine pN (args := [_, _]) (bZ8 s 47 (by omega)) ⟨rfl, rfl, rfl, rfl⟩ ?_
  rintro u v x ⟨rfl, rfl, rfl⟩
  refine AX (hK' _ _ ?_)
  clear hK' K'
  iterate 7 refine S0 ?_
  refine T2 (hK _ _ _ ?_)
  clear hK K
  refine aC fun K hK => Rg ?_
  iterate 3 refine S0 ?_
  refine aE 26 rfl (fun h7_26 => ?_) (fun h7_26 => ?_)
  ·
   clear F
   have F := h7_26
   iterate 7 refine SF ?_
   refine T2 (hK _ _ _ ?_)
   clear hK K
   refine CT rfl ?_
   refine R0 ?_
   refine aF (RT Tryz.results96 ?_)
   have hg : kP (rK 47 s) = false := xO (.inl (eq_of_beq h7_26))
   exact aH [] (.bool false) rfl (by rw [hpv, hst.bad hg])
  clear F
  have F := h7_26
  iterate 4 refine SF ?_
  refine aE 29 rfl (fun h7_29 => ?_) (fun h7_29 => ?_)
  ·
   clear F
   have F := aI h7_26 h7_29
   iterate 3 refine SF ?_
   refine T2 (hK _ _ _ ?_)
   clear hK K
   refine CT rfl ?_
   refine R0 ?_
   refine aF (RT Tryz.results96 ?_)
   have hg : kP (rK 47 s) = false := xO (.inr (.inl (eq_of_beq h7_29)))
   exact aH [] (.bool false) rfl (by rw [hpv, hst.bad hg])
  clear F
  have F := aI h7_26 h7_29
  iterate 3 refine SF ?_
  refine aE 33 rfl (fun h7_33 => ?_) (fun h7_33 => ?_)
  ·
   simp only [h7_33]
   refine T2 (hK _ _ _ ?_)
   clear hK K
   refine CT rfl ?_
   refine R0 ?_
   refine aF (RT Tryz.results96 ?_)
   have hg : kP (rK 47 s) = false := xO (.inr (.inr (eq_of_beq h7_33)))
   exact aH [] (.bool false) rfl (by rw [hpv, hst.bad hg])
  simp only [h7_33]
  refine T2 (hK _ _ _ ?_)
  clear hK K
  refine CF rfl ?_
  refine aK (T3 ?_)
  have hg : kP (rK 47 s) = true := bH3 (by simpa using h7_26) (by simpa using h7_29) (by simpa using h7_33)
  refine ⟨⟨(uW 47 s, xN 47 s), hst.step hg⟩, fF, ?_⟩
  show (if uW 47 s = true then (xN 47 s).length + 1 else 0) < if true = true then s.length + 1 else 0
  rw [if_pos rfl]
  split
  ·
   rename_i h
   have := aO6 h
   omega
  omega
 subst hb
 refine bA (T3 ?_)
 clear hK K
 refine AX (hK _ _ _ ?_)
 clear hK K
 refine R0 ?_
 refine aF (RT Tryz.results96 ?_)
 exact aH [] (.bool true) rfl (by rw [hpv, hst.2]; rfl)


end Go.Proofs.YtlldglbooaefhaaGreatDoor

namespace Go.Proofs.YtlldglbooaefhaaGreatDoor
open Go Go.Hl Go.Pl
set_option maxRecDepth 10000
set_option maxHeartbeats 16000000

theorem cP0 : lst [] = cQ := by funext j; simp [lst, cQ]

theorem bZ9 (x : Pt) (c : UInt8) : cK2 Tryz.prog 114 140 x.cv [u8 c] (fun v => v = .bool (c == x.c)) := by
 show HFn _ _ [.c (u8 c), .ptr 0 0] 1 _ _
 refine bR (args := [.c (u8 c), .ptr 0 0]) Tryz.func114 rfl (by kernel_rfl) (zJ _ _ [u8 c]) (Nat.le_of_ble_eq_true rfl) ?_
 refine R0 ?_
 refine RS ?_
 have F := aI @Pt.get_c @bF8
 refine AU ?_
 refine aF (RT Tryz.results114 ?_)
 refine aS7 [] (.bool (c == x.c)) x.cv rfl rfl (by simp [HV.close, HV.norm, HV.toC, Pt.denil]) (by simp) rfl rfl


theorem bH4 (x : Pt) (hk : x.k = 0) : HGe Tryz.prog 97 [.c x.cv] [] (fun r os => r = .clo 114 [.ptr 0 0] ∧ os = [.box 140 (.c x.cv)]) := by
 show HFn _ _ [.c x.cv] 0 (lst []) _
 rw [cP0]
 refine bR (args := [.c x.cv]) Tryz.func97 rfl (by kernel_rfl) (jN [x.cv]) (Nat.le_of_ble_eq_true rfl) ?_
 have hd0 : ((x.k : Int) == 0) = true := by rw [hk]; rfl
 have F := aI @Pt.cells (aI @Pt.isAgg @Pt.getAll)
 refine RF ?_
 refine aC fun K hK => ?_
 have F := @Pt.get_k
 refine RF ?_
 refine aL ?_
 have F := hd0
 refine RF ?_
 refine CT rfl ?_
 refine R0 ?_
 refine aF (RT Tryz.results97 ?_)
 refine eE [] [0] (.clo 114 [.ptr 0 0]) [.box 140 (.c x.cv)] rfl ?_ ?_ rfl (by simp) (by simp) (by simp) ⟨rfl, rfl⟩
 ·
  simp [HV.men, HV.menL]
 refine ⟨⟨by simp [HO.men, HV.men], by simp, .box 140 (.c x.cv), rfl, ?_⟩, trivial⟩
 simp [fY, HV.close, HV.norm, HV.toC, Pt.denil, HO.ren, HV.ren]


theorem bH5 (x : Pt) (hk : x.k = 3) : bQ Tryz.prog 97 [x.cv] (fun v => v = .fn 115) := by
 refine FW Tryz.func97 ?_
 have hd0 : ((x.k : Int) == 0) = false := by rw [hk]; rfl
 have hd3 : ((x.k : Int) == 3) = true := by rw [hk]; rfl
 have F := aI @Pt.cells (aI @Pt.isAgg @Pt.getAll)
 refine RF ?_
 refine aC fun K hK => ?_
 have F := @Pt.get_k
 refine RF ?_
 refine aL ?_
 have F := hd0
 refine RF ?_
 refine CF rfl ?_
 have F := hd3
 refine RF ?_
 refine CT rfl ?_
 refine R0 ?_
 refine aF (RT Tryz.results97 ?_)
 exact aH [] (.fn 115) rfl rfl


theorem aB3 (x : Pt) (hk : x.k = 1 ∨ x.k = 2) : bQ Tryz.prog 97 [x.cv] (fun v => v = .fn 116) := by
 refine FW Tryz.func97 ?_
 have hd0 : ((x.k : Int) == 0) = false := by rcases hk with h | h <;> rw [h] <;> rfl
 have hd3 : ((x.k : Int) == 3) = false := by rcases hk with h | h <;> rw [h] <;> rfl
 have F := aI @Pt.cells (aI @Pt.isAgg @Pt.getAll)
 refine RF ?_
 refine aC fun K hK => ?_
 have F := @Pt.get_k
 refine RF ?_
 refine aL ?_
 have F := hd0
 refine RF ?_
 refine CF rfl ?_
 have F := hd3
 refine RF ?_
 refine CF rfl ?_
 refine aK ?_
 refine T0 (hK _ _ _ ?_)
 clear hK K
 refine R0 ?_
 refine aF (RT Tryz.results97 ?_)
 exact aH [] (.fn 116) rfl rfl


end Go.Proofs.YtlldglbooaefhaaGreatDoor

namespace Go.Pl
open Go Go.Hl
theorem bH6 {p : aJ} {ps : List Pt} (h : eL p = some ps) : ps.length ≤ 200 ∧ ∀ x ∈ ps, x.k ≤ 3 := by
 unfold eL at h
 split at h
 ·
  cases h
 ·
  rename_i hl
  obtain ⟨h1, h2⟩ := aY4 p.length p ps (Nat.le_refl _) h
  grind
theorem aO8 {p s : aJ} (h : eL p = none) : mG p s = false := by unfold mG; rw [h]
theorem aO9 {p s : aJ} (h : kQ s = false) : mG p s = false := by grind [mG]
theorem aP0 {p s : aJ} {ps : List Pt} (h : eL p = some ps) (hs : kQ s = true) : mG p s = mD ps s ps.length s.length := by grind [mG]
theorem bH7 {s : aJ} (h : kQ s = true) : s.length ≤ 200 := by simp_all [kQ, Bool.and_eq_true, decide_eq_true_eq]
def bW (n : Nat) (f : Nat → Bool) : List CV := (tab n f).map bC1
theorem aU (n : Nat) (f : Nat → Bool) : (bW n f).length = n := by simp [bW, mJ]
theorem aV {n : Nat} {f : Nat → Bool} {i : Nat} (h : i < n) : nth (bW n f) i = .bool (f i) := bX9 h
theorem bH8 (n : Nat) : List.replicate n (CV.bool false) = bW n (fun _ => false) := by
 unfold bW; rw [← bF7]; simp [bC1]
theorem xP (n : Nat) (f : Nat → Bool) (i : Nat) (b : Bool) : (bW n f).set i (.bool b) = bW n (fun j => if j = i then b else f j) := by
 unfold bW
 rw [← bX8, List.map_set]; rfl
theorem iZ (n : Nat) (f : Nat → Bool) : CV.denilL (bW n f) = bW n f := cE (fun x => by simp [bC1, CV.denil]) _
theorem bH9 {n : Nat} {ps : List Pt} {s : aJ} : (bW n (fun _ => false)).set 0 (.bool true) = bW n (fun j => if j = 0 then true else false) := xP _ _ _ _
theorem jA {n : Nat} {ps : List Pt} {s : aJ} {k : Nat} {b : Bool} (hb : b = (mD ps s k 0 && (prt ps k).long)) : (bW n (fun _ => false)).set 0 (.bool b) = bW n (nxt ps s k 0) := by
 rw [xP, hb]
 congr 1
 grind [bO1]
theorem gC {n : Nat} {ps : List Pt} {s : aJ} {k i : Nat} {b : Bool} (hb : b = mD ps s (k + 1) (i + 1)) : (bW n (nxt ps s k i)).set (i + 1) (.bool b) = bW n (nxt ps s k (i + 1)) := by simp_all [xP, bO2]
theorem vH {ps : List Pt} {s : aJ} {k : Nat} : bW (s.length + 1) (nxt ps s k s.length) = bW (s.length + 1) (mD ps s (k + 1)) := by
 unfold bW; rw [bY0]
theorem bR5 {ps : List Pt} {s : aJ} : bW (s.length + 1) (fun j => if j = 0 then true else false) = bW (s.length + 1) (mD ps s 0) := by
 unfold bW; rw [bO3]
theorem cA0 {ps : List Pt} {k : Nat} (h : k < ps.length) : prt ps k = ps[k] := by simp [prt, h]
end Go.Pl
