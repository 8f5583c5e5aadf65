/- Part of a proof: walks of functions of the program, by contracts, and the rules they use. By an AI agent. -/
import Derived.Test.YtlldglbooaefhaaGreatDoorPl11q
import Derived.Test.YtlldglbooaefhaaGreatDoorHzU1
import Derived.Test.YtlldglbooaefhaaGreatDoorHzSb
set_option linter.unusedSimpArgs false
set_option linter.unusedVariables false
set_option linter.defProp false
namespace Go.Pl
open Go Go.Hl

def aP7 (j : Nat) : aE := ([[113, 117, 111, 116, 97], [107, 101, 121], [114, 101, 118, 111, 107, 101, 100]] : List aE).getD j []
def bA2 (j : Nat) (l : List aE) (x : Rt) : Option Rt := if j = 0 then bI4 l x else if j = 1 then cE0 l x else cE1 l x
def aJ1 (j : Nat) : List (List aE) → Rt → Option (List (List aE) × Rt)
 | [], x => some ([], x)
 | l :: ls, x => if wd l 0 = aP7 j then match bA2 j l x with | some y => aJ1 j ls y | none => none else some (l :: ls, x)
def rX : Nat → Nat → List (List aE) → Rt → Option (List (List aE) × Rt)
 | 0, _, ls, x => some (ls, x)
 | n + 1, j, ls, x => match aJ1 j ls x with | some (ls', y) => rX n (j + 1) ls' y | none => none
section
variable {l0 : List aE} {ls : List (List aE)} {x : Rt}
end
theorem bI5 {j : Nat} {l : List aE} {ls : List (List aE)} {x y : Rt} (h : wd l 0 = aP7 j) (hy : bA2 j l x = some y) : aJ1 j (l :: ls) x = aJ1 j ls y := by
 rw [aJ1, if_pos h, hy]
theorem bA3 {j : Nat} {l : List aE} {ls : List (List aE)} {x : Rt} (h : wd l 0 ≠ aP7 j) : aJ1 j (l :: ls) x = some (l :: ls, x) := by
 rw [aJ1, if_neg h]
theorem bI6 {n j : Nat} {l : List aE} {ls : List (List aE)} {x y : Rt} (h : wd l 0 = aP7 j) (hy : bA2 j l x = some y) : rX (n + 1) j (l :: ls) x = rX (n + 1) j ls y := by
 simp only [rX, bI5 h hy]
theorem bA4 {n j : Nat} {l : List aE} {ls : List (List aE)} {x : Rt} (h : wd l 0 ≠ aP7 j) : rX (n + 1) j (l :: ls) x = rX n (j + 1) (l :: ls) x := by
 simp only [rX, bA3 h]
theorem bI7 {n j : Nat} {x : Rt} : rX (n + 1) j [] x = rX n (j + 1) [] x := by
 simp only [rX, aJ1]

def wOk (l : List aE) : Prop := l ≠ [] ∧ l.length ≤ 120 ∧ ∀ w ∈ l, w.length ≤ 32768
theorem wOk.wd {l : List aE} (h : wOk l) (i : Nat) : (wd l i).length ≤ 32768 := by
 unfold Pl.wd
 rw [List.getD_eq_getElem?_getD]
 rcases Nat.lt_or_ge i l.length with h' | h'
 ·
  rw [List.getElem?_eq_getElem h']; exact h.2.2 _ (List.getElem_mem h')
 ·
  rw [List.getElem?_eq_none h']; simp
def rRead (m : Nat) (x : Rt) : Prop := x.q.length + x.k.length + x.x.length ≤ m ∧ (∀ q ∈ x.q, q.r.length ≤ 32768) ∧ ∀ k ∈ x.k, k.o.length ≤ 32768 ∧ k.rs.length ≤ 120 ∧ ∀ w ∈ k.rs, w.length ≤ 32768
theorem bA5 {j : Nat} {l : List aE} {x y : Rt} {m : Nat} (hl : wOk l) (h : bA2 j l x = some y) (hx : rRead m x) : rRead (m + 1) y := by
 obtain ⟨h1, h2, h3⟩ := hx
 unfold bA2 at h
 split at h
 ·
  unfold bI4 at h
  split at h
  ·
   split at h
   ·
    cases h
    refine ⟨by simp only [List.length_append, List.length_singleton]; omega, fun q hq => ?_, h3⟩
    rcases List.mem_append.1 hq with hq | hq
    ·
     exact h2 q hq
    ·
     simp only [List.mem_singleton] at hq; subst hq; exact hl.wd 1
   ·
    cases h
  ·
   cases h
 ·
  split at h
  ·
   unfold cE0 at h
   split at h
   ·
    cases h
   ·
    split at h
    ·
     cases h
     refine ⟨by simp only [List.length_append, List.length_singleton]; omega, h2, fun k hk => ?_⟩
     rcases List.mem_append.1 hk with hk | hk
     ·
      exact h3 k hk
     ·
      simp only [List.mem_singleton] at hk; subst hk
      exact ⟨hl.wd 3, by show (l.drop 6).length ≤ 120; rw [List.length_drop]; have := hl.2.1; omega, fun w hw => hl.2.2 w (List.mem_of_mem_drop hw)⟩
    ·
     cases h
  ·
   unfold cE1 at h
   split at h
   ·
    split at h
    ·
     cases h
     exact ⟨by simp only [List.length_append, List.length_singleton]; omega, h2, h3⟩
    ·
     cases h
   ·
    cases h
theorem rRead.sz {m : Nat} {x : Rt} (h : rRead m x) (hm : m ≤ 100000) : rSz x := by
 obtain ⟨h1, h2, h3⟩ := h
 refine ⟨⟨by omega, fun q hq => by have := h2 q hq; omega⟩, ⟨by omega, fun k hk => ?_⟩, by omega⟩
 obtain ⟨k1, k2, k3⟩ := h3 k hk
 exact ⟨by omega, by omega, fun w hw => by have := k3 w hw; omega⟩
def RtSt (ls0 : List (List aE)) (x0 : Rt) (j : Nat) (rest : List (List aE)) (x : Rt) : Prop :=
 j ≤ 3 ∧ rX 3 0 ls0 x0 = rX (3 - j) j rest x ∧ (∀ l ∈ rest, wOk l) ∧ rest.length ≤ ls0.length ∧ rRead (ls0.length - rest.length) x
section
variable {ls0 rest : List (List aE)} {x0 x : Rt} {j : Nat} {l : List aE}
theorem RtSt.init (h : ∀ l ∈ ls0, wOk l) (hx : rRead 0 x0) : RtSt ls0 x0 0 ls0 x0 := ⟨by omega, rfl, h, Nat.le_refl _, by rw [Nat.sub_self]; exact hx⟩
theorem RtSt.hit {y : Rt} (h : RtSt ls0 x0 j (l :: rest) x) (hj : j < 3) (hw : wd l 0 = aP7 j) (hy : bA2 j l x = some y) : RtSt ls0 x0 j rest y := by
 obtain ⟨h1, h2, h3, h4, h5⟩ := h
 obtain ⟨n, hn⟩ : ∃ n, 3 - j = n + 1 := ⟨2 - j, by omega⟩
 simp only [List.length_cons] at h4 h5
 refine ⟨h1, by rw [h2, hn, bI6 hw hy], fun l hl => h3 l (List.mem_cons_of_mem _ hl), by omega, ?_⟩
 have := bA5 (h3 l List.mem_cons_self) hy h5
 have e : ls0.length - (rest.length + 1) + 1 = ls0.length - rest.length := by omega
 rwa [e] at this
theorem RtSt.next (h : RtSt ls0 x0 j rest x) (hj : j < 3) (hw : ∀ l ls, rest = l :: ls → wd l 0 ≠ aP7 j) : RtSt ls0 x0 (j + 1) rest x := by
 obtain ⟨h1, h2, h3, h4, h5⟩ := h
 obtain ⟨n, hn⟩ : ∃ n, 3 - j = n + 1 := ⟨2 - j, by omega⟩
 have hn2 : 3 - (j + 1) = n := by omega
 refine ⟨by omega, ?_, h3, h4, h5⟩
 rw [h2, hn, hn2]
 cases rest with
 | nil => exact bI7
 | cons l ls => exact bA4 (hw l ls rfl)
theorem RtSt.fin (h : RtSt ls0 x0 3 rest x) : rX 3 0 ls0 x0 = some (rest, x) := by rw [h.2.1]; rfl
end
theorem bS3 {b : aE} : ∀ l ∈ fA b, wOk l := by
 intro l hl
 unfold fA at hl
 split at hl
 ·
  cases hv : fS b with
  | none => rw [hv] at hl; simp at hl
  | some ls =>
   rw [hv] at hl
   simp only [Option.getD_some] at hl
   unfold fS at hv
   split at hv
   ·
    cases hv; simp at hl
   ·
    split at hv
    ·
     have key : ∀ {rs : List aE} {ls : List (List aE)}, rs.mapM unR = some ls → ∀ l ∈ ls, okL l = true := by
      intro rs
      induction rs with
      | nil => intro ls h l hl; simp only [List.mapM_nil] at h; cases h; simp at hl
      | cons r rs ih =>
       intro ls h l hl
       rw [List.mapM_cons] at h
       cases hr : unR r with
       | none => rw [hr] at h; cases h
       | some a =>
        rw [hr] at h
        cases hm : rs.mapM unR with
        | none => rw [hm] at h; cases h
        | some m =>
         rw [hm] at h
         cases h
         rcases List.mem_cons.1 hl with rfl | hl
         ·
          unfold unR at hr
          split at hr
          ·
           split at hr
           ·
            rename_i hk; cases hr; exact hk
           ·
            cases hr
          ·
           cases hr
         ·
          exact ih hm l hl
     exact (nX l).1 (key hv l hl)
    ·
     cases hv
 ·
  simp at hl
theorem bI8 {b : aE} : (fA b).length ≤ 1000 := by
 unfold fA
 split
 ·
  rename_i h
  unfold iM at h
  split at h
  ·
   cases h
  ·
   cases hv : fS b with
   | none => simp
   | some ls =>
    rw [hv] at h
    simp only at h
    split at h
    ·
     cases h
    ·
     simp only [Option.getD_some]; omega
 ·
  simp
end Go.Pl

namespace Go.Pl
open Go Go.Hl

end Go.Pl

namespace Go.Pl
open Go Go.Hl

theorem iF : vA = 1099511627776 := rfl
end Go.Pl

namespace Go.Pl
open Go Go.Hl

theorem vZ : ∀ (a b : aE) (n m : Nat), dA a n = some m → dA (a ++ b) n = dA b m
 | [], b, n, m, h => by simp only [dA, Option.some.injEq] at h; subst h; rfl
 | c :: a, b, n, m, h => by
  simp only [List.cons_append, dA] at h ⊢
  split at h
  ·
   rename_i hc; rw [if_pos hc]; exact vZ a b _ _ h
  ·
   cases h
theorem aU4 {k : Nat} (h : k < 10) : nA (UInt8.ofNat (48 + k)) = true ∧ (UInt8.ofNat (48 + k)).toNat - 48 = k := by
 have e : (UInt8.ofNat (48 + k)).toNat = 48 + k := by simp; omega
 rw [nA, e]
 exact ⟨by simp; omega, by omega⟩
theorem aP8 (u : Nat) : dA (Lib.decDigits u) 0 = some u := by
 induction u using Nat.strongRecOn with
 | ind u ih =>
  rw [Lib.decDigits]
  split
  ·
   rename_i h
   obtain ⟨h1, h2⟩ := aU4 h
   simp only [dA, h1, if_true, h2]; simp
  ·
   rw [vZ _ _ 0 (u / 10) (ih _ (by omega))]
   obtain ⟨h1, h2⟩ := aU4 (k := u % 10) (by omega)
   simp only [dA, h1, if_true, h2]
   congr 1; omega
theorem aU5 : ∀ (k u : Nat), u < 10 ^ (k + 1) → (Lib.decDigits u).length ≤ k + 1
 | 0, u, h => by rw [Lib.decDigits, dif_pos (by omega)]; simp
 | k + 1, u, h => by
  rw [Lib.decDigits]
  split
  ·
   simp
  ·
   have := aU5 k (u / 10) (by rw [Nat.pow_succ] at h; omega)
   simp only [List.length_append, List.length_singleton]; omega
theorem bI9 {u : Nat} (h : 1 ≤ u) : ∃ c l, Lib.decDigits u = c :: l ∧ c ≠ 48 := by
 induction u using Nat.strongRecOn with
 | ind u ih =>
  rw [Lib.decDigits]
  split
  ·
   rename_i hu
   refine ⟨_, _, rfl, fun hc => ?_⟩
   have := congrArg UInt8.toNat hc
   simp at this; omega
  ·
   obtain ⟨c, l, h1, h2⟩ := ih (u / 10) (by omega) (by omega)
   exact ⟨c, l ++ [UInt8.ofNat (48 + u % 10)], by rw [h1]; rfl, h2⟩
theorem lA {n : Int} (h0 : 0 ≤ n) (h1 : n ≤ 1099511627776) : bH (numW n) = some n := by
 rw [aJ0 h0]
 have hd := aP8 n.natAbs
 have hl := aU5 12 n.natAbs (by omega)
 have hb : gI (Lib.decDigits n.natAbs) = false := by
  unfold gI
  by_cases hz : n.natAbs = 0
  ·
   rw [hz, Lib.decDigits_one (by omega)]; simp
  ·
   obtain ⟨c, l, h2, h3⟩ := bI9 (u := n.natAbs) (by omega)
   rw [h2] at hl ⊢
   have e : ((c :: l).getD 0 0 == (48 : UInt8)) = false := by simpa using h3
   rw [e, Bool.and_false, Bool.or_false, Bool.or_eq_false_iff]
   exact ⟨by simp, decide_eq_false (by omega)⟩
 rw [aU1 hb hd (by omega)]
 congr 1; omega

theorem bS4 {ls : List (List aE)} (h : lM ls = 0) : iM (pX ls) = 0 ∧ fA (pX ls) = ls := by
 rw [aA8 h]
 unfold lM at h
 split at h
 ·
  cases h
 ·
  rename_i h1
  split at h
  ·
   rename_i l hl
   have := List.find?_some hl
   simp only [Bool.not_eq_true'] at this
   exact absurd h (bQ3 this)
  ·
   rename_i hn
   split at h
   ·
    cases h
   ·
    rename_i h2
    have hok : ∀ l ∈ ls, okL l = true := fun l hl => by
     have := List.find?_eq_none.1 hn l hl
     simpa using this
    have hv := bA0 hok
    have hE : iM (gB ls) = 0 := by unfold iM; rw [if_neg h2, hv]; simp only; rw [if_neg h1]
    exact ⟨hE, by unfold fA; rw [if_pos hE, hv]; rfl⟩

end Go.Pl

namespace Go.Pl
open Go Go.Hl

def kE (r : Pr) : Bool := dN r.a && ((gL r.b).isSome && ((gL r.c).isSome && (inB r.g 0 vA && cP r.t)))
def fU : List Pr → Bool
 | [] => true
 | r :: l => !(l.map Pr.a).contains r.a && fU l
def fV (p : Po) : Bool := dN p.n && (inB p.v 1 vA && (decide (p.r.length ≤ 16) && (p.r.all kE && fU p.r)))
theorem tG (l : List Pr) (r : Pr) : fU (l ++ [r]) = (fU l && !(l.map Pr.a).contains r.a) := by
 induction l with
 | nil => simp [fU]
 | cons x l ih =>
  simp only [List.cons_append, fU, ih, List.map_append, List.map_cons, List.map_nil, List.contains_append, List.contains_cons, List.contains_nil, Bool.or_false]
  rw [show (x.a == r.a) = (r.a == x.a) from Bool.beq_comm]
  generalize (List.map Pr.a l).contains x.a = A
  generalize (r.a == x.a) = B
  generalize fU l = C
  generalize (List.map Pr.a l).contains r.a = D
  cases A <;> cases B <;> cases C <;> cases D <;> rfl
def dK : aE := [114, 101, 108, 101, 97, 115, 101, 100]
def eB : aE := [99, 104, 97, 105, 110, 101, 100]
def dL : aE := [97, 112, 112, 114, 111, 118, 101, 100]
def fJ : aE := [114, 101, 98, 117, 105, 108, 116]
def eY : aE := [108, 105, 115, 116, 101, 100]
def gQ : aE := [99, 108, 101, 97, 110]
def gR : aE := [102, 114, 101, 115, 104]
def jI : aE := [115, 101, 116, 116, 108, 101, 100]
def pD : aE := [97, 108, 108]
def pE : aE := [97, 110, 121]
def dC : aE := [97, 116, 108, 101, 97, 115, 116]
def wEnd : aE := [101, 110, 100]
def wPolicy : aE := [112, 111, 108, 105, 99, 121]
def wRule : aE := [114, 117, 108, 101]
def wlR (q : Rq) : List aE :=
 if q.k = 1 then [dK, numW q.n] else if q.k = 2 then [eB, q.t] else if q.k = 3 then [dL, numW q.n]
 else if q.k = 4 then [fJ, numW q.n, numW q.m] else if q.k = 5 then [eY, numW q.n] else if q.k = 6 then [gQ, numW q.n]
 else if q.k = 7 then [gR, numW q.n] else [jI]
def wlN (n : Nd) : List aE := if n.k = 2 then [pD] else if n.k = 3 then [pE] else [dC, numW n.n]
def dP : Nat → Nat → List Nd → List (List aE)
 | 0, _, _ => []
 | _ + 1, 0, _ => []
 | _ + 1, _ + 1, [] => []
 | f + 1, m + 1, n :: l => if n.k = 1 then wlR n.q :: dP f m l else wlN n :: (dP f n.c.toNat l ++ ([wEnd] :: dP f m ((skip n.c.toNat l).getD [])))
theorem qI {l r : List Nd} {m : Nat} (h : skip m l = some r) : r.length ≤ l.length := by
 obtain ⟨j, h1, rfl, _, _⟩ := gO l m r h
 rw [List.length_drop]; omega
theorem eZ : ∀ (f : Nat) (m : Nat) (l r : List Nd), l.length < f → skip m l = some r → (∀ n ∈ l, bT n = true) → ∀ g, f ≤ g → dP g m l = dP f m l
 | 0, _, _, _, h, _, _, _, _ => by omega
 | f + 1, 0, l, r, _, _, _, g, hg => by obtain ⟨q, rfl⟩ : ∃ q, g = q + 1 := ⟨g - 1, by omega⟩; cases l <;> rfl
 | f + 1, m + 1, [], r, _, h, _, _, _ => by cases h
 | f + 1, m + 1, n :: l, r, hf, h, hn, g, hg => by
  obtain ⟨q, rfl⟩ : ∃ q, g = q + 1 := ⟨g - 1, by omega⟩
  have h' : skip (m + n.c.toNat) l = some r := h
  have hn' : ∀ x ∈ l, bT x = true := fun x hx => hn x (List.mem_cons_of_mem _ hx)
  have hl : l.length < f := by simpa using hf
  obtain ⟨c1, c2, c3, c4⟩ := cI (hn n List.mem_cons_self)
  simp only [dP]
  split
  ·
   rename_i hk
   rw [c3 hk] at h'
   rw [eZ f m l r hl (by simpa using h') hn' q (by omega)]
  ·
   rw [Nat.add_comm, dZ] at h'
   cases hs : skip n.c.toNat l with
   | none => rw [hs] at h'; cases h'
   | some r1 =>
    rw [hs] at h'
    have h2 : skip m r1 = some r := h'
    have hr1 := qI hs
    obtain ⟨j, _, hj, _, _⟩ := gO l _ _ hs
    rw [eZ f _ l r1 hl hs hn' q (by omega), Option.getD_some, eZ f m r1 r (by omega) h2 (fun x hx => hn' x (by rw [hj] at hx; exact List.mem_of_mem_drop hx)) q (by omega)]
theorem nG : ∀ (f : Nat) (a b : Nat) (l r : List Nd), l.length < f → skip a l = some r → (∀ n ∈ l, bT n = true) → ∀ s, skip b r = some s → dP f (a + b) l = dP f a l ++ dP f b r
 | 0, _, _, _, _, h, _, _, _, _ => by omega
 | f + 1, 0, b, l, r, _, h, _, _, _ => by
  rw [cE] at h; cases h
  rw [Nat.zero_add]
  have : dP (f + 1) 0 l = [] := by cases l <;> rfl
  rw [this]; rfl
 | f + 1, a + 1, b, [], r, _, h, _, _, _ => by cases h
 | f + 1, a + 1, b, n :: l, r, hf, h, hn, s, hs => by
  have h' : skip (a + n.c.toNat) l = some r := h
  have hn' : ∀ x ∈ l, bT x = true := fun x hx => hn x (List.mem_cons_of_mem _ hx)
  have hl : l.length < f := by simpa using hf
  obtain ⟨c1, c2, c3, c4⟩ := cI (hn n List.mem_cons_self)
  have hrl := qI h'
  have hrn : ∀ x ∈ r, bT x = true := fun x hx => by
   obtain ⟨j, _, hj, _, _⟩ := gO l _ _ h'
   rw [hj] at hx; exact hn' x (List.mem_of_mem_drop hx)
  have hfb : dP (f + 1) b r = dP f b r := eZ f b r s (by omega) hs hrn (f + 1) (by omega)
  rw [show a + 1 + b = a + b + 1 from by omega, hfb]
  simp only [dP]
  split
  ·
   rename_i hk
   rw [c3 hk] at h'
   rw [nG f a b l r hl (by simpa using h') hn' s hs]; rfl
  ·
   rw [Nat.add_comm, dZ] at h'
   cases hs1 : skip n.c.toNat l with
   | none => rw [hs1] at h'; cases h'
   | some r1 =>
    rw [hs1] at h'
    have h2 : skip a r1 = some r := h'
    have hr1 := qI hs1
    obtain ⟨j, _, hj, _, _⟩ := gO l _ _ hs1
    rw [Option.getD_some, nG f a b r1 r (by omega) h2 (fun x hx => hn' x (by rw [hj] at hx; exact List.mem_of_mem_drop hx)) s hs]
    simp
def aP9 (t : List Nd) : List (List aE) := dP (t.length + 1) 1 t
def jJ (r : Pr) : List (List aE) := [wRule, r.a, r.b, r.c, numW r.g] :: aP9 r.t
def pF (p : Po) : List (List aE) := [wPolicy, p.n, numW p.v] :: p.r.flatMap jJ
def rY (p : Po) : aE := if fV p then pX (pF p) else []
def xG (p : Po) : Int := if fV p then lM (pF p) else 1
def jK (l : List Nd) (i : Nat) : List (List aE) := dP (l.length + 1) 1 (l.drop i)
theorem wC {l : List Nd} {i : Nat} (hi : i < l.length) (hk : l[i].k = 1) : jK l i = [wlR l[i].q] := by
 unfold jK
 rw [List.drop_eq_getElem_cons hi, dP, if_pos hk]
 cases l.length <;> simp [dP]
def dV (l : List Nd) (i k : Nat) : List (List aE) := dP (l.length + 1) k (l.drop (i + 1))
theorem lT (l : List Nd) (i : Nat) : dV l i 0 = [] := by unfold dV; cases l.drop (i + 1) <;> rfl
theorem tH {l : List Nd} (ht : IsTree l) {i : Nat} (hi : i < l.length) (hk : l[i].k ≠ 1) : jK l i = wlN l[i] :: (dV l i l[i].c.toNat ++ [[wEnd]]) := by
 have ha := (iN ht hi).2.2
 rw [List.drop_eq_getElem_cons hi] at ha
 have ha' : skip (0 + l[i].c.toNat) (l.drop (i + 1)) = some (l.drop (aft l i)) := ha
 rw [Nat.zero_add] at ha'
 have hn' : ∀ x ∈ l.drop (i + 1), bT x = true := fun x hx => ht.node x (List.mem_of_mem_drop hx)
 unfold jK dV
 rw [List.drop_eq_getElem_cons hi]
 simp only [dP]
 rw [if_neg hk, ha', eZ l.length _ _ _ (by rw [List.length_drop]; omega) ha' hn' (l.length + 1) (by omega)]
 have : ∀ f (x : List Nd), dP f 0 x = [] := fun f x => by cases f <;> cases x <;> rfl
 rw [this]
theorem qJ {l : List Nd} (ht : IsTree l) {i : Nat} (hi : i < l.length) {k : Nat} (hk : k < l[i].c.toNat) : dV l i (k + 1) = dV l i k ++ jK l (cJ l k (i + 1)) := by
 have key : ∀ k, k ≤ l[i].c.toNat → skip k (l.drop (i + 1)) = some (l.drop (cJ l k (i + 1))) := by
  intro k
  induction k with
  | zero => intro _; rw [cE]; rfl
  | succ k ih =>
   intro hk
   rw [dZ, ih (by omega), cK]
   exact (iN ht (iD ht hi (by omega))).2.2
 unfold dV jK
 exact nG _ k 1 _ _ (by rw [List.length_drop]; omega) (key k (by omega)) (fun x hx => ht.node x (List.mem_of_mem_drop hx)) _ (iN ht (iD ht hi hk)).2.2

def eR (w : List aE) : Option Rq :=
 if w.length = 2 ∧ wd w 0 = dK then (bH (wd w 1)).map (⟨1, ·, 0, []⟩)
 else if w.length = 2 ∧ wd w 0 = eB then some ⟨2, 0, 0, wd w 1⟩
 else if w.length = 2 ∧ wd w 0 = dL then (bH (wd w 1)).map (⟨3, ·, 0, []⟩)
 else if w.length = 3 ∧ wd w 0 = fJ then match bH (wd w 1), bH (wd w 2) with | some n, some m => some ⟨4, n, m, []⟩ | _, _ => none
 else if w.length = 2 ∧ wd w 0 = eY then (bH (wd w 1)).map (⟨5, ·, 0, []⟩)
 else if w.length = 2 ∧ wd w 0 = gQ then (bH (wd w 1)).map (⟨6, ·, 0, []⟩)
 else if w.length = 2 ∧ wd w 0 = gR then (bH (wd w 1)).map (⟨7, ·, 0, []⟩)
 else if w.length = 1 ∧ wd w 0 = jI then some ⟨8, 0, 0, []⟩ else none
def jL (w : List aE) : Option Nd :=
 if w.length = 1 ∧ wd w 0 = pD then some ⟨2, 0, 0, rq0⟩ else if w.length = 1 ∧ wd w 0 = pE then some ⟨3, 0, 0, rq0⟩
 else if w.length = 2 ∧ wd w 0 = dC then (bH (wd w 1)).map (⟨4, ·, 0, rq0⟩) else none
def iG (w : List aE) : Bool := w.length == 1 && wd w 0 == wEnd
mutual
def rdN : Nat → List (List aE) → Option (List Nd) × List (List aE)
 | 0, ls => (none, ls)
 | _ + 1, [] => (none, [])
 | f + 1, w :: r => match eR w with
  | some q => (some [⟨1, 0, 0, q⟩], r)
  | none => match jL w with
   | none => (none, w :: r)
   | some n => match rdK f r with
    | (none, r') => (none, r')
    | (some (ts, c), r') => (some ({ n with c := c } :: ts), r')
def rdK : Nat → List (List aE) → Option (List Nd × Int) × List (List aE)
 | 0, ls => (none, ls)
 | f + 1, ls => if iG (ls.headD []) then (some ([], 0), ls.tail) else match rdN f ls with
  | (none, r) => (none, r)
  | (some t, r) => match rdK f r with
   | (none, r') => (none, r')
   | (some (ts, c), r') => (some (t ++ ts, c + 1), r')
end
def rdT (ls : List (List aE)) : Option (List Nd) × List (List aE) := rdN (2 * ls.length + 2) ls
def rdR (ls : List (List aE)) : Option Pr × List (List aE) := match ls with
 | [] => (none, [])
 | w :: r => if w.length = 5 ∧ wd w 0 = wRule then match bH (wd w 4) with
   | none => (none, w :: r)
   | some g => match rdT r with | (none, r') => (none, r') | (some t, r') => (some ⟨wd w 1, wd w 2, wd w 3, g, t⟩, r')
  else (none, w :: r)
def jS : Nat → List (List aE) → List Pr → Option (List Pr) × List (List aE)
 | 0, ls, _ => (none, ls)
 | f + 1, ls, a => if ls = [] then (some a, []) else match rdR ls with
  | (none, r) => (none, r)
  | (some x, r) => jS f r (a ++ [x])
def rdP (ls : List (List aE)) : Option Po × List (List aE) := match ls with
 | [] => (none, [])
 | w :: r => if w.length = 3 ∧ wd w 0 = wPolicy then match bH (wd w 2) with
   | none => (none, w :: r)
   | some v => match jS (r.length + 1) r [] with | (none, r') => (none, r') | (some l, r') => (some ⟨wd w 1, v, l⟩, r')
  else (none, w :: r)
def dpE (b : aE) : Int := if iM b ≠ 0 then iM b else match (rdP (fA b)).1 with | none => 2 | some p => if fV p then 0 else 1
def dpL (b : aE) : Nat := if iM b ≠ 0 then 0 else match rdP (fA b) with | (none, r) => (fA b).length - r.length | (some _, _) => 0
def po0 : Po := ⟨[], 0, []⟩
def dpO (b : aE) : Po := if dpE b = 0 then ((rdP (fA b)).1).getD po0 else po0
end Go.Pl

namespace Go.Pl
open Go Go.Hl

theorem tI : ∀ (a : aE) (c : UInt8) (n k : Nat), dA (a ++ [c]) n = some k → ∃ k', dA a n = some k' ∧ nA c = true ∧ k = 10 * k' + (c.toNat - 48)
 | [], c, n, k, h => by
  simp only [List.nil_append, dA] at h
  split at h
  ·
   rename_i hc; cases h; exact ⟨n, rfl, hc, rfl⟩
  ·
   cases h
 | b :: a, c, n, k, h => by
  simp only [List.cons_append, dA] at h ⊢
  split at h
  ·
   rename_i hb; rw [if_pos hb]; exact tI a c _ k h
  ·
   cases h
theorem aU6 : ∀ (m : Nat) (s : aE) (k : Nat), s.length ≤ m → s ≠ [] → (1 < s.length → s.head? ≠ some 48) → dA s 0 = some k → Lib.decDigits k = s
 | 0, s, _, hm, h0, _, _ => absurd (List.eq_nil_of_length_eq_zero (by omega)) h0
 | m + 1, s, k, hm, h0, h1, h => by
  obtain ⟨a, c, rfl⟩ : ∃ a c, s = a ++ [c] := ⟨s.dropLast, s.getLast h0, (List.dropLast_concat_getLast h0).symm⟩
  obtain ⟨k', hk', hc, rfl⟩ := tI a c 0 k h
  simp only [nA, Bool.and_eq_true, decide_eq_true_eq] at hc
  have hcc : UInt8.ofNat (48 + (c.toNat - 48)) = c := by
   refine UInt8.toNat_inj.1 ?_
   rw [UInt8.toNat_ofNat']; omega
  by_cases ha : a = []
  ·
   subst ha
   simp only [dA, Option.some.injEq] at hk'
   subst hk'
   rw [Lib.decDigits_one (by omega)]
   simp only [Nat.mul_zero, Nat.zero_add, hcc, List.nil_append]
  ·
   have hlen : 1 < (a ++ [c]).length := by
    have := List.length_pos_iff.2 ha
    simp; omega
   have hh : (a ++ [c]).head? = a.head? := by
    cases a with
    | nil => exact absurd rfl ha
    | cons x a => rfl
   have ih := aU6 m a k' (by simp at hm; omega) ha (fun _ => by rw [← hh]; exact h1 hlen) hk'
   have hk0 : k' ≠ 0 := by
    rintro rfl
    rw [Lib.decDigits_one (by omega)] at ih
    have := h1 hlen
    rw [hh, ← ih] at this
    exact this rfl
   rw [Lib.decDigits, dif_neg (by omega), show (10 * k' + (c.toNat - 48)) / 10 = k' from by omega, ih, show 48 + (10 * k' + (c.toNat - 48)) % 10 = 48 + (c.toNat - 48) from by omega, hcc]
theorem iY {s : aE} {n : Int} (h : bH s = some n) : numW n = s := by
 have hr := aP3 h
 unfold bH at h
 split at h
 ·
  cases h
 ·
  rename_i hb
  have hb' : gI s = false := by simpa using hb
  simp only [gI, Bool.or_eq_false_iff, decide_eq_false_iff_not, Bool.and_eq_false_iff, beq_eq_false_iff_ne] at hb'
  split at h
  ·
   rename_i k hk
   split at h
   ·
    cases h
   ·
    cases h
    rw [aJ0 hr.1]
    refine aU6 s.length s _ (Nat.le_refl _) (fun e => by rw [e] at hb'; simp at hb') (fun hl => ?_) (by simpa using hk)
    rcases hb'.2 with h1 | h1
    ·
     omega
    ·
     intro e
     refine h1 ?_
     rw [List.getD_eq_getElem?_getD, ← List.head?_eq_getElem?, e]; rfl
  ·
   cases h
theorem bS5 {w : List aE} (h : w.length = 1) : w = [wd w 0] := by
 match w, h with
 | [a], _ => rfl
theorem bZ1 {w : List aE} (h : w.length = 2) : w = [wd w 0, wd w 1] := by
 match w, h with
 | [a, b], _ => rfl
theorem cE2 {w : List aE} (h : w.length = 3) : w = [wd w 0, wd w 1, wd w 2] := by
 match w, h with
 | [a, b, c], _ => rfl
theorem cH5 {w : List aE} (h : w.length = 5) : w = [wd w 0, wd w 1, wd w 2, wd w 3, wd w 4] := by
 match w, h with
 | [a, b, c, d, e], _ => rfl

theorem bJ0 {w : List aE} {q : Rq} (h : eR w = some q) : wlR q = w := by
 have num : ∀ {k : Int} {nm : aE}, (∀ n : Int, wlR ⟨k, n, 0, []⟩ = [nm, numW n]) → w.length = 2 ∧ wd w 0 = nm → (bH (wd w 1)).map (⟨k, ·, 0, []⟩) = some q → wlR q = w := by
  intro k nm h1 h2 h3
  cases hv : bH (wd w 1) with
  | none => rw [hv] at h3; cases h3
  | some n =>
   rw [hv] at h3; cases h3
   rw [h1, iY hv, bZ1 h2.1, h2.2]; rfl
 unfold eR at h
 split at h
 ·
  rename_i h1; exact num (fun n => rfl) h1 h
 split at h
 ·
  rename_i h1; cases h; rw [bZ1 h1.1, h1.2]; rfl
 split at h
 ·
  rename_i h1; exact num (fun n => rfl) h1 h
 split at h
 ·
  rename_i h1
  split at h
  ·
   rename_i n m hn hm
   cases h
   show [fJ, numW n, numW m] = w
   rw [iY hn, iY hm, cE2 h1.1, h1.2]; rfl
  ·
   cases h
 split at h
 ·
  rename_i h1; exact num (fun n => rfl) h1 h
 split at h
 ·
  rename_i h1; exact num (fun n => rfl) h1 h
 split at h
 ·
  rename_i h1; exact num (fun n => rfl) h1 h
 split at h
 ·
  rename_i h1; cases h; rw [bS5 h1.1, h1.2]; rfl
 ·
  cases h
theorem bJ1 {w : List aE} {n : Nd} (h : jL w = some n) (c : Int) : wlN { n with c := c } = w ∧ n.k ≠ 1 := by
 unfold jL at h
 split at h
 ·
  rename_i h1; cases h; exact ⟨by rw [bS5 h1.1, h1.2]; rfl, by decide⟩
 split at h
 ·
  rename_i h1; cases h; exact ⟨by rw [bS5 h1.1, h1.2]; rfl, by decide⟩
 split at h
 ·
  rename_i h1
  cases hv : bH (wd w 1) with
  | none => rw [hv] at h; cases h
  | some m =>
   rw [hv] at h; cases h
   refine ⟨?_, by show (4 : Int) ≠ 1; decide⟩
   show [dC, numW m] = w
   rw [iY hv, bZ1 h1.1, h1.2]; rfl
 ·
  cases h
theorem kF : ∀ (t x r : List Nd) (m : Nat), skip m t = some r → skip m (t ++ x) = some (r ++ x)
 | t, x, r, 0, h => by rw [cE] at h ⊢; cases h; rfl
 | [], x, r, m + 1, h => by cases h
 | n :: t, x, r, m + 1, h => by
  have h' : skip (m + n.c.toNat) t = some r := h
  exact kF t x r _ h'
theorem gA : ∀ (f m : Nat) (t x r : List Nd), (t ++ x).length < f → skip m t = some r → (∀ n ∈ t, bT n = true) → dP f m (t ++ x) = dP f m t
 | 0, _, _, _, _, h, _, _ => by omega
 | f + 1, 0, t, x, r, _, _, _ => by cases t <;> cases x <;> rfl
 | f + 1, m + 1, [], x, r, _, h, _ => by cases h
 | f + 1, m + 1, n :: t, x, r, hf, h, hn => by
  have h' : skip (m + n.c.toNat) t = some r := h
  have hn' : ∀ y ∈ t, bT y = true := fun y hy => hn y (List.mem_cons_of_mem _ hy)
  have hl : (t ++ x).length < f := by simpa using hf
  obtain ⟨c1, c2, c3, c4⟩ := cI (hn n List.mem_cons_self)
  simp only [List.cons_append, dP]
  split
  ·
   rename_i hk
   rw [c3 hk] at h'
   rw [gA f m t x r hl (by simpa using h') hn']
  ·
   rw [Nat.add_comm, dZ] at h'
   cases hs : skip n.c.toNat t with
   | none => rw [hs] at h'; cases h'
   | some r1 =>
    rw [hs] at h'
    have h2 : skip m r1 = some r := h'
    obtain ⟨j, _, hj, _, _⟩ := gO t _ _ hs
    have hr1 := qI hs
    rw [gA f _ t x r1 hl hs hn', kF t x r1 _ hs, Option.getD_some, Option.getD_some,
     gA f m r1 x r (by simp at hl ⊢; omega) h2 (fun y hy => hn' y (by rw [hj] at hy; exact List.mem_of_mem_drop hy))]
theorem yY {w : List aE} (h : iG w = true) : w = [wEnd] := by
 unfold iG at h
 simp only [Bool.and_eq_true, beq_iff_eq] at h
 rw [bS5 h.1, h.2]
theorem bJ2 : ∀ (f : Nat), (∀ ls t r, rdN f ls = (some t, r) → (∀ n ∈ t, bT n = true) → skip 1 t = some [] ∧ ls = dP (t.length + 1) 1 t ++ r) ∧
  (∀ ls ts c r, rdK f ls = (some (ts, c), r) → (∀ n ∈ ts, bT n = true) → 0 ≤ c ∧ skip c.toNat ts = some [] ∧ ls = dP (ts.length + 1) c.toNat ts ++ ([wEnd] :: r))
 | 0 => ⟨fun ls t r h _ => (by simp only [rdN] at h; cases h), fun ls ts c r h _ => (by simp only [rdK] at h; cases h)⟩
 | f + 1 => by
  obtain ⟨ihN, ihK⟩ := bJ2 f
  have z0 : ∀ f (x : List Nd), dP f 0 x = [] := fun f x => by cases f <;> cases x <;> rfl
  refine ⟨fun ls t r h hn => ?_, fun ls ts c r h hn => ?_⟩
  ·
   cases ls with
   | nil => simp only [rdN] at h; cases h
   | cons w rest =>
    simp only [rdN] at h
    split at h
    ·
     rename_i q hq
     cases h
     refine ⟨rfl, ?_⟩
     simp only [List.length_singleton, dP]
     rw [if_pos trivial, bJ0 hq]; simp [dP]
    ·
     split at h
     ·
      cases h
     ·
      rename_i n hin
      cases hk : rdK f rest with
      | mk o r' =>
       rw [hk] at h
       cases o with
       | none => cases h
       | some p =>
        obtain ⟨ts, c⟩ := p
        simp only [Prod.mk.injEq, Option.some.injEq] at h
        obtain ⟨rfl, rfl⟩ := h
        obtain ⟨g1, g2, g3⟩ := ihK _ _ _ _ hk fun x hx => hn x (List.mem_cons_of_mem _ hx)
        obtain ⟨e1, e2⟩ := bJ1 hin c
        refine ⟨?_, ?_⟩
        ·
         show skip (0 + c.toNat) ts = some []
         rw [Nat.zero_add]; exact g2
        ·
         simp only [List.length_cons, dP]
         rw [if_neg e2, e1, g3]
         simp [z0]
  ·
   simp only [rdK] at h
   split at h
   ·
    rename_i he
    cases h
    cases ls with
    | nil => simp [iG] at he
    | cons w rest =>
     have := yY he
     simp only [List.headD_cons] at this
     subst this
     exact ⟨by omega, rfl, rfl⟩
   ·
    cases h1 : rdN f ls with
    | mk o r1 =>
     rw [h1] at h
     cases o with
     | none => cases h
     | some t =>
      simp only at h
      cases h2 : rdK f r1 with
      | mk o2 r2 =>
       rw [h2] at h
       cases o2 with
       | none => cases h
       | some p =>
        obtain ⟨ts2, c2⟩ := p
        simp only [Prod.mk.injEq, Option.some.injEq] at h
        obtain ⟨⟨rfl, rfl⟩, rfl⟩ := h
        obtain ⟨a1, a2⟩ := ihN _ _ _ h1 fun x hx => hn x (List.mem_append_left _ hx)
        have hn2 : ∀ n ∈ ts2, bT n = true := fun x hx => hn x (List.mem_append_right _ hx)
        obtain ⟨b1, b2, b3⟩ := ihK _ _ _ _ h2 hn2
        have e : (c2 + 1).toNat = 1 + c2.toNat := by omega
        have s1 := kF t ts2 [] 1 a1
        rw [List.nil_append] at s1
        refine ⟨by omega, ?_, ?_⟩
        ·
         rw [e, dZ, s1]; exact b2
        ·
         rw [a2, b3, e, nG ((t ++ ts2).length + 1) 1 c2.toNat (t ++ ts2) ts2 (Nat.lt_succ_self _) s1 hn _ b2,
          gA _ 1 t ts2 [] (Nat.lt_succ_self _) a1 (fun x hx => hn x (List.mem_append_left _ hx)),
          eZ (t.length + 1) 1 t [] (by omega) a1 (fun x hx => hn x (List.mem_append_left _ hx)) ((t ++ ts2).length + 1) (by simp),
          eZ (ts2.length + 1) _ ts2 [] (by omega) b2 hn2 ((t ++ ts2).length + 1) (by simp)]
         simp
theorem bS6 {ls r : List (List aE)} {x : Pr} (h : rdR ls = (some x, r)) (hv : cP x.t = true) : ls = jJ x ++ r ∧ r.length < ls.length := by
 cases ls with
 | nil => simp only [rdR] at h; cases h
 | cons w rest =>
  simp only [rdR] at h
  split at h
  ·
   rename_i h1
   split at h
   ·
    cases h
   ·
    rename_i g hg
    cases ht : rdT rest with
    | mk o r' =>
     rw [ht] at h
     cases o with
     | none => cases h
     | some t =>
      simp only [Prod.mk.injEq, Option.some.injEq] at h
      obtain ⟨rfl, rfl⟩ := h
      obtain ⟨-, g2⟩ := (bJ2 _).1 _ _ _ ht (fH hv).node
      have hw := cH5 h1.1
      rw [h1.2] at hw
      refine ⟨?_, ?_⟩
      ·
       show w :: rest = ([wRule, wd w 1, wd w 2, wd w 3, numW g] :: aP9 t) ++ r'
       rw [iY hg, ← hw, g2]; rfl
      ·
       rw [g2]; simp; omega
  ·
   cases h
theorem aJ2 : ∀ (f : Nat) (ls : List (List aE)) (a l : List Pr) (r : List (List aE)), jS f ls a = (some l, r) → (∀ x ∈ l, cP x.t = true) → ∃ m, l = a ++ m ∧ ls = m.flatMap jJ ∧ r = []
 | 0, ls, a, l, r, h, _ => by simp only [jS] at h; cases h
 | f + 1, ls, a, l, r, h, hv => by
  simp only [jS] at h
  split at h
  ·
   rename_i he
   cases h
   exact ⟨[], by simp, by simpa using he, rfl⟩
  ·
   cases hr : rdR ls with
   | mk o r1 =>
    rw [hr] at h
    cases o with
    | none => cases h
    | some x =>
     obtain ⟨m, rfl, hm, hr0⟩ := aJ2 f r1 (a ++ [x]) l r h hv
     obtain ⟨g1, g2⟩ := bS6 hr (hv x (by simp))
     exact ⟨x :: m, by simp, by rw [g1, hm]; rfl, hr0⟩
theorem bS7 {ls r : List (List aE)} {p : Po} (h : rdP ls = (some p, r)) (hv : fV p = true) : ls = pF p := by
 have ht : ∀ x ∈ p.r, cP x.t = true := fun x hx => by
  unfold fV at hv
  simp only [Bool.and_eq_true, List.all_eq_true] at hv
  have := hv.2.2.2.1 x hx
  unfold kE at this
  simp only [Bool.and_eq_true] at this
  exact this.2.2.2.2
 cases ls with
 | nil => simp only [rdP] at h; cases h
 | cons w rest =>
  simp only [rdP] at h
  split at h
  ·
   rename_i h1
   split at h
   ·
    cases h
   ·
    rename_i v hg
    cases hr : jS (rest.length + 1) rest [] with
    | mk o r' =>
     rw [hr] at h
     cases o with
     | none => cases h
     | some l =>
      simp only [Prod.mk.injEq, Option.some.injEq] at h
      obtain ⟨rfl, rfl⟩ := h
      obtain ⟨m, rfl, hm, -⟩ := aJ2 _ _ _ _ _ hr ht
      have hw := cE2 h1.1
      rw [h1.2] at hw
      show w :: rest = [wPolicy, wd w 1, numW v] :: _
      rw [iY hg, ← hw, hm]
  ·
   cases h
theorem bJ3 {b : aE} (h : iM b = 0) : lM (fA b) = 0 ∧ pX (fA b) = b := by
 have hO : fA b = (fS b).getD [] := by unfold fA; rw [if_pos h]
 unfold iM at h
 split at h
 ·
  cases h
 ·
  rename_i hb
  cases hv : fS b with
  | none => rw [hv] at h; cases h
  | some ls =>
   rw [hv] at h hO
   simp only at h
   split at h
   ·
    cases h
   ·
    rename_i hl
    rw [hO, Option.getD_some]
    by_cases hne : b = []
    ·
     subst hne
     have : ls = [] := by simpa [fS] using hv.symm
     subst this
     exact ⟨by simp [lM, gB], by simp [pX, gB]⟩
    ·
     have hlast : ∃ m, b = m ++ [10] := by
      unfold fS at hv
      rw [if_neg hne] at hv
      split at hv
      ·
       rename_i h2; exact nC hne h2
      ·
       cases hv
     obtain ⟨m, rfl⟩ := hlast
     rw [yX] at hv
     cases hu : (aQ 10 m).mapM unL with
     | none => rw [xF hu] at hv; cases hv
     | some ls' =>
      rw [bI3 hu] at hv
      split at hv
      ·
       rename_i hall
       cases hv
       have hd := bA1 hu
       have hE : lM ls = 0 := by
        rw [aT0 (by omega) (fun l hl => List.all_eq_true.1 hall l hl), hd, if_neg hb]
       exact ⟨hE, by rw [aA8 hE, hd]⟩
      ·
       cases hv
theorem bZ2 {b : aE} {p : Po} {r : List (List aE)} (h0 : iM b = 0) (h : rdP (fA b) = (some p, r)) : (xG p = 0 ∧ rY p = b) ↔ fV p = true := by
 constructor
 ·
  rintro ⟨h1, -⟩
  unfold xG at h1
  split at h1
  ·
   assumption
  ·
   cases h1
 ·
  intro hv
  have hl := bS7 h hv
  obtain ⟨e1, e2⟩ := bJ3 h0
  unfold xG rY
  rw [if_pos hv, if_pos hv, ← hl]
  exact ⟨e1, e2⟩
end Go.Pl

namespace Go.Pl
open Go Go.Hl

theorem qK {n a b : Int} : inB n a b = true ↔ a ≤ n ∧ n ≤ b := by unfold inB; simp
theorem bJ4 {q : Rq} (h : dB q = true) : eR (wlR q) = some q := by
 obtain ⟨k, n, m, t⟩ := q
 have hv : ∀ {a b : Int}, inB n a b = true → 0 ≤ a → b ≤ 1099511627776 → bH (numW n) = some n := fun h h1 h2 => by
  rw [qK] at h; exact lA (by omega) (by omega)
 unfold dB at h
 simp only at h
 split at h
 ·
  rename_i h1
  simp only [Bool.and_eq_true, beq_iff_eq] at h
  obtain ⟨h2, rfl, rfl⟩ := h
  have hn := hv h2 (by omega) (by omega)
  rcases h1 with rfl | rfl | rfl
  ·
   show (bH (numW n)).map _ = _; rw [hn]; rfl
  ·
   show (bH (numW n)).map _ = _; rw [hn]; rfl
  ·
   show (bH (numW n)).map _ = _; rw [hn]; rfl
 split at h
 ·
  rename_i h1
  subst h1
  simp only [Bool.and_eq_true, beq_iff_eq] at h
  obtain ⟨h2, h3, rfl⟩ := h
  have hn := hv h2 (by omega) (by omega)
  rw [qK] at h3
  have hm : bH (numW m) = some m := lA (by omega) (by omega)
  show (match bH (numW n), bH (numW m) with | some n, some m => some (⟨4, n, m, []⟩ : Rq) | _, _ => none) = _
  rw [hn, hm]
 split at h
 ·
  rename_i h1
  subst h1
  simp only [Bool.and_eq_true, beq_iff_eq] at h
  obtain ⟨-, rfl, rfl⟩ := h
  rfl
 split at h
 ·
  rename_i h1
  subst h1
  simp only [Bool.and_eq_true, beq_iff_eq] at h
  obtain ⟨h2, rfl, rfl⟩ := h
  have hn := hv h2 (by omega) (by omega)
  show (bH (numW n)).map _ = _; rw [hn]; rfl
 split at h
 ·
  rename_i h1
  subst h1
  simp only [Bool.and_eq_true, beq_iff_eq] at h
  obtain ⟨h2, rfl, rfl⟩ := h
  have hn := hv h2 (by omega) (by rw [iF]; omega)
  show (bH (numW n)).map _ = _; rw [hn]; rfl
 split at h
 ·
  rename_i h1
  subst h1
  simp only [Bool.and_eq_true, beq_iff_eq] at h
  obtain ⟨rfl, rfl, rfl⟩ := h
  rfl
 ·
  cases h
theorem bJ5 {n : Nd} (h : bT n = true) (hk : n.k ≠ 1) : jL (wlN n) = some { n with c := 0 } ∧ eR (wlN n) = none := by
 obtain ⟨k, a, c, q⟩ := n
 unfold bT at h
 simp only at h hk
 rw [if_neg hk] at h
 split at h
 ·
  rename_i h1
  simp only [Bool.and_eq_true, beq_iff_eq, aG5] at h
  obtain ⟨-, rfl, rfl⟩ := h
  rcases h1 with rfl | rfl <;> exact ⟨rfl, rfl⟩
 split at h
 ·
  rename_i h1
  subst h1
  simp only [Bool.and_eq_true, aG5, qK] at h
  obtain ⟨⟨c1, c2⟩, rfl, a1, a2⟩ := h
  refine ⟨?_, rfl⟩
  show (bH (numW a)).map _ = _
  rw [lA (by omega) (by omega)]; rfl
 ·
  cases h
theorem wD {l r : List Nd} {m : Nat} (h : skip m l = some r) : ∃ t, l = t ++ r ∧ skip m t = some [] := by
 induction l generalizing m with
 | nil =>
  cases m with
  | zero => rw [cE] at h; cases h; exact ⟨[], rfl, rfl⟩
  | succ m => cases h
 | cons n l ih =>
  cases m with
  | zero => rw [cE] at h; cases h; exact ⟨[], rfl, rfl⟩
  | succ m =>
   obtain ⟨t, h1, h2⟩ := ih (m := m + n.c.toNat) h
   exact ⟨n :: t, by rw [h1]; rfl, h2⟩
theorem aQ0 {n : Nd} (h : bT n = true) (hk : n.k ≠ 1) : iG (wlN n) = false := by
 unfold wlN
 split
 ·
  rfl
 ·
  split
  ·
   rfl
  ·
   rfl
theorem aQ1 (q : Rq) : iG (wlR q) = false := by
 unfold wlR
 repeat' split
 all_goals rfl
theorem bJ6 : ∀ (f : Nat), (∀ t rest, skip 1 t = some [] → (∀ n ∈ t, bT n = true) → 2 * t.length ≤ f → rdN f (dP (t.length + 1) 1 t ++ rest) = (some t, rest)) ∧
  (∀ ts c rest, skip c ts = some [] → (∀ n ∈ ts, bT n = true) → 2 * ts.length + 1 ≤ f → rdK f (dP (ts.length + 1) c ts ++ ([wEnd] :: rest)) = (some (ts, (c : Int)), rest))
 | 0 => ⟨fun t rest h _ hf => (by
   have : t = [] := List.eq_nil_of_length_eq_zero (by omega)
   subst this; cases h), fun ts c rest _ _ hf => by omega⟩
 | f + 1 => by
  obtain ⟨ihN, ihK⟩ := bJ6 f
  have z0 : ∀ f (x : List Nd), dP f 0 x = [] := fun f x => by cases f <;> cases x <;> rfl
  refine ⟨fun t rest h hn hf => ?_, fun ts c rest h hn hf => ?_⟩
  ·
   cases t with
   | nil => cases h
   | cons n ts =>
    have hnn := hn n List.mem_cons_self
    have hn' : ∀ x ∈ ts, bT x = true := fun x hx => hn x (List.mem_cons_of_mem _ hx)
    have h' : skip (0 + n.c.toNat) ts = some [] := h
    rw [Nat.zero_add] at h'
    obtain ⟨c1, c2, c3, c4⟩ := cI hnn
    simp only [List.length_cons, dP]
    by_cases hk : n.k = 1
    ·
     rw [if_pos hk]
     rw [c3 hk] at h'
     have : ts = [] := by
      cases ts with
      | nil => rfl
      | cons a b => have h2 : skip 0 (a :: b) = some [] := h'; rw [cE] at h2; cases h2
     subst this
     have hq : dB n.q = true ∧ n.n = 0 := by
      unfold bT at hnn
      rw [if_pos hk] at hnn
      simp only [Bool.and_eq_true, beq_iff_eq] at hnn
      exact ⟨hnn.2.2, hnn.2.1⟩
     simp only [List.cons_append, List.nil_append, rdN, bJ4 hq.1]
     obtain ⟨k, a, c, q⟩ := n
     simp only at hk hq c3
     rw [hk, hq.2, c3 hk]
    ·
     rw [if_neg hk]
     obtain ⟨e1, e2⟩ := bJ5 hnn hk
     have := ihK ts n.c.toNat rest h' hn' (by simp only [List.length_cons] at hf; omega)
     simp only [List.cons_append, List.append_assoc, List.nil_append, rdN, e2, e1, this]
     have : ((n.c.toNat : Nat) : Int) = n.c := by omega
     rw [this]
  ·
   cases c with
   | zero =>
    rw [cE] at h; cases h
    rw [z0]
    simp only [List.nil_append, rdK, List.headD_cons, show iG [wEnd] = true from rfl, if_true, List.tail_cons]; rfl
   | succ c =>
    rw [Nat.add_comm, dZ] at h
    cases h1 : skip 1 ts with
    | none => rw [h1] at h; cases h
    | some r =>
     rw [h1] at h
     have h2 : skip c r = some [] := h
     obtain ⟨t, rfl, ht⟩ := wD h1
     have hnt : ∀ x ∈ t, bT x = true := fun x hx => hn x (List.mem_append_left _ hx)
     have hnr : ∀ x ∈ r, bT x = true := fun x hx => hn x (List.mem_append_right _ hx)
     have ht1 : 1 ≤ t.length := by
      cases t with
      | nil => cases ht
      | cons _ _ => simp
     simp only [List.length_append] at hf
     have e : dP ((t ++ r).length + 1) (c + 1) (t ++ r) = dP (t.length + 1) 1 t ++ dP (r.length + 1) c r := by
      rw [Nat.add_comm c 1, nG _ 1 c (t ++ r) r (Nat.lt_succ_self _) h1 hn _ h2, gA _ 1 t r [] (Nat.lt_succ_self _) ht hnt,
       eZ (t.length + 1) 1 t [] (by omega) ht hnt ((t ++ r).length + 1) (by simp), eZ (r.length + 1) c r [] (by omega) h2 hnr ((t ++ r).length + 1) (by simp)]
     rw [e, List.append_assoc]
     have a1 := ihN t (dP (r.length + 1) c r ++ [wEnd] :: rest) ht hnt (by omega)
     have a2 := ihK r c rest h2 hnr (by omega)
     have hne : iG ((dP (t.length + 1) 1 t ++ (dP (r.length + 1) c r ++ [wEnd] :: rest)).headD []) = false := by
      cases t with
      | nil => cases ht
      | cons n t =>
       simp only [List.length_cons, dP]
       split
       ·
        exact aQ1 _
       ·
        rename_i hk; exact aQ0 (hnt n List.mem_cons_self) hk
     simp only [rdK]
     rw [hne]
     simp only [Bool.false_eq_true, if_false, a1, a2]
     have : ((c : Nat) : Int) + 1 = ((c + 1 : Nat) : Int) := by omega
     rw [this]
theorem tW : ∀ (f m : Nat) (l : List Nd), l.length < f → skip m l = some [] → (∀ n ∈ l, bT n = true) → l.length ≤ (dP f m l).length
 | 0, _, _, h, _, _ => by omega
 | f + 1, m, [], _, _, _ => by simp
 | f + 1, 0, n :: l, _, h, _ => by rw [cE] at h; cases h
 | f + 1, m + 1, n :: l, hf, h, hn => by
  have h' : skip (m + n.c.toNat) l = some [] := h
  have hn' : ∀ y ∈ l, bT y = true := fun y hy => hn y (List.mem_cons_of_mem _ hy)
  have hl : l.length < f := by simpa using hf
  obtain ⟨c1, c2, c3, c4⟩ := cI (hn n List.mem_cons_self)
  simp only [dP]
  split
  ·
   rename_i hk
   rw [c3 hk] at h'
   have := tW f m l hl (by simpa using h') hn'
   simp only [List.length_cons]; omega
  ·
   rw [Nat.add_comm, dZ] at h'
   cases hs : skip n.c.toNat l with
   | none => rw [hs] at h'; cases h'
   | some r1 =>
    rw [hs] at h'
    have h2 : skip m r1 = some [] := h'
    obtain ⟨t, rfl, ht⟩ := wD hs
    simp only [List.length_append] at hl
    have hnt : ∀ x ∈ t, bT x = true := fun x hx => hn' x (List.mem_append_left _ hx)
    have a1 := tW f _ t (by omega) ht hnt
    have a2 := tW f m r1 (by omega) h2 (fun x hx => hn' x (List.mem_append_right _ hx))
    rw [Option.getD_some, gA f _ t r1 [] (by simp; omega) ht hnt]
    simp only [List.length_cons, List.length_append]; omega
theorem bS8 {t : List Nd} (h : IsTree t) (rest : List (List aE)) : rdT (aP9 t ++ rest) = (some t, rest) := by
 have := tW (t.length + 1) 1 t (by omega) h.skip h.node
 exact (bJ6 _).1 t rest h.skip h.node (by simp only [aP9, List.length_append]; omega)
theorem wE {r : Pr} (h : kE r = true) : (0 ≤ r.g ∧ r.g ≤ 1099511627776) ∧ IsTree r.t ∧ dN r.a = true ∧ (gL r.b).isSome = true ∧ (gL r.c).isSome = true := by
 unfold kE at h
 simp only [Bool.and_eq_true, qK] at h
 obtain ⟨h1, h2, h3, ⟨h4, h5⟩, h6⟩ := h
 rw [iF] at h5
 exact ⟨⟨h4, h5⟩, fH h6, h1, h2, h3⟩
theorem bS9 {r : Pr} (h : kE r = true) (rest : List (List aE)) : rdR (jJ r ++ rest) = (some r, rest) := by
 obtain ⟨⟨g0, g1⟩, ht, -⟩ := wE h
 show rdR ([wRule, r.a, r.b, r.c, numW r.g] :: (aP9 r.t ++ rest)) = _
 unfold rdR
 simp only
 rw [if_pos ⟨rfl, rfl⟩]
 have : bH (wd [wRule, r.a, r.b, r.c, numW r.g] 4) = some r.g := lA g0 g1
 rw [this]
 simp only
 rw [bS8 ht]; rfl
theorem aJ3 : ∀ (l a : List Pr) (f : Nat), (∀ r ∈ l, kE r = true) → l.length < f → jS f (l.flatMap jJ) a = (some (a ++ l), [])
 | [], a, f, _, hf => by
  obtain ⟨g, rfl⟩ : ∃ g, f = g + 1 := ⟨f - 1, by simp at hf; omega⟩
  simp [jS]
 | r :: l, a, f, h, hf => by
  obtain ⟨g, rfl⟩ : ∃ g, f = g + 1 := ⟨f - 1, by simp at hf; omega⟩
  simp only [List.flatMap_cons, jS]
  rw [if_neg (by simp [jJ]), bS9 (h r List.mem_cons_self)]
  simp only
  rw [aJ3 l (a ++ [r]) g (fun x hx => h x (List.mem_cons_of_mem _ hx)) (by simp at hf; omega)]
  simp
theorem aU7 : ∀ l : List Pr, l.length ≤ (l.flatMap jJ).length
 | [] => by simp
 | r :: l => by have := aU7 l; simp [jJ] at this ⊢; omega
theorem aU8 {p : Po} (h : fV p = true) : (1 ≤ p.v ∧ p.v ≤ 1099511627776) ∧ p.r.length ≤ 16 ∧ dN p.n = true ∧ ∀ r ∈ p.r, kE r = true := by
 unfold fV at h
 simp only [Bool.and_eq_true, qK, decide_eq_true_eq, List.all_eq_true] at h
 obtain ⟨h1, ⟨h2, h3⟩, h4, h5, -⟩ := h
 rw [iF] at h3
 exact ⟨⟨h2, h3⟩, h4, h1, h5⟩
theorem bT0 {p : Po} (h : fV p = true) : rdP (pF p) = (some p, []) := by
 obtain ⟨⟨v0, v1⟩, -, -, hr⟩ := aU8 h
 show rdP ([wPolicy, p.n, numW p.v] :: p.r.flatMap jJ) = _
 unfold rdP
 simp only
 rw [if_pos ⟨rfl, rfl⟩]
 have : bH (wd [wPolicy, p.n, numW p.v] 2) = some p.v := lA (by omega) v1
 rw [this]
 simp only
 rw [aJ3 p.r [] _ hr (by have := aU7 p.r; omega)]; rfl
theorem bA6 {p : Po} (h : xG p = 0) : dpE (rY p) = 0 ∧ dpO (rY p) = p ∧ dpL (rY p) = 0 := by
 have hv : fV p = true := by
  unfold xG at h
  split at h
  ·
   assumption
  ·
   cases h
 have he : lM (pF p) = 0 := by unfold xG at h; rw [if_pos hv] at h; exact h
 have hb : rY p = pX (pF p) := by unfold rY; rw [if_pos hv]
 obtain ⟨h1, h2⟩ := bS4 he
 have hr := bT0 hv
 rw [hb]
 have hE : dpE (pX (pF p)) = 0 := by unfold dpE; rw [if_neg (by rw [h1]; simp), h2, hr]; simp only; rw [if_pos hv]
 exact ⟨hE, by unfold dpO; rw [if_pos hE, h2, hr]; rfl, by unfold dpL; rw [if_neg (by rw [h1]; simp), h2, hr]⟩
end Go.Pl

namespace Go.Pl
open Go Go.Hl

theorem aU9 : ∀ (l : List Nd) (m : Nat) (v : Int), skip m l = some [] → (∀ n ∈ l, bT n = true) → pV l m v = some (0, v + lv l)
 | [], 0, v, _, _ => by simp [pV, lv]
 | [], m + 1, v, h, _ => by cases h
 | n :: l, 0, v, h, _ => by rw [cE] at h; cases h
 | n :: l, m + 1, v, h, hn => by
  have h' : skip (m + n.c.toNat) l = some [] := h
  have hnn := hn n List.mem_cons_self
  obtain ⟨c1, c2, c3, c4⟩ := cI hnn
  have e : ((m + 1 : Nat) : Int) + (n.c - 1) = ((m + n.c.toNat : Nat) : Int) := by omega
  rw [pV, if_neg (by omega), if_pos hnn, e, aU9 l _ _ h' (fun x hx => hn x (List.mem_cons_of_mem _ hx)), lv]
  congr 2
  split <;> omega
theorem bJ7 {l : List Nd} (h : IsTree l) : cP l = true := by
 unfold cP
 have := aU9 l 1 0 h.skip h.node
 rw [show ((1 : Nat) : Int) = 1 from rfl] at this
 rw [this]
 have := h.lv
 simp [h.ne, h.len]
 omega
end Go.Pl

namespace Go.Pl
open Go Go.Hl

def uni (l : List (Nat × Nat)) : List (Nat × Nat) := l.eraseDups
def rZ (f : Nat → List (Nat × Nat)) : Nat → Nat → Nat × Nat → List (Nat × Nat)
 | 0, _, p => [p]
 | c + 1, n, p => uni ((f n).flatMap fun q => rZ f c (n + q.1) (p.1 + q.1, p.2 + q.2))
def pos : Nat → Nat → List (Nat × Nat)
 | 0, _ => [(1, 1)]
 | d + 1, n => uni ((1, 1) :: if n ≤ 8 then (List.range 3).flatMap fun c => rZ (pos d) (c + 1) (n + 1) (1, 0) else [])
theorem tX {l : List (Nat × Nat)} {p : Nat × Nat} : p ∈ uni l ↔ p ∈ l := by unfold uni; exact List.mem_eraseDups
theorem yZ {f : Nat → List (Nat × Nat)} : ∀ {c n : Nat} {p q r : Nat × Nat}, q ∈ rZ f c n p → r ∈ f (n + (q.1 - p.1)) → p.1 ≤ q.1 → (q.1 + r.1, q.2 + r.2) ∈ rZ f (c + 1) n p
 | 0, n, p, q, r, hq, hr, _ => by
  simp only [rZ, List.mem_singleton] at hq
  subst hq
  rw [Nat.sub_self, Nat.add_zero] at hr
  unfold rZ
  rw [tX, List.mem_flatMap]
  exact ⟨r, hr, by simp [rZ]⟩
 | c + 1, n, p, q, r, hq, hr, hpq => by
  unfold rZ at hq ⊢
  rw [tX, List.mem_flatMap] at hq ⊢
  obtain ⟨s, hs, hq⟩ := hq
  have hle : p.1 + s.1 ≤ q.1 := by
   have key : ∀ (c n : Nat) (p q : Nat × Nat), q ∈ rZ f c n p → p.1 ≤ q.1 := by
    intro c
    induction c with
    | zero => intro n p q h; simp only [rZ, List.mem_singleton] at h; subst h; exact Nat.le_refl _
    | succ c ih =>
     intro n p q h
     unfold rZ at h
     rw [tX, List.mem_flatMap] at h
     obtain ⟨s, _, h⟩ := h
     have := ih _ _ _ h
     simp only at this; omega
   exact key _ _ _ _ hq
  refine ⟨s, hs, yZ hq ?_ hle⟩
  rwa [show n + s.1 + (q.1 - (p.1 + s.1)) = n + (q.1 - p.1) from by omega]
structure Made (d n : Nat) (t : List Nd) : Prop where
 skip : skip 1 t = some []
 node : ∀ n ∈ t, bT n = true
 pos : (t.length, lv t) ∈ pos d n
structure MadeK (d n k : Nat) (ts : List Nd) : Prop where
 skip : skip k ts = some []
 node : ∀ n ∈ ts, bT n = true
 pos : (1 + ts.length, lv ts) ∈ rZ (pos d) k (n + 1) (1, 0)
theorem MadeK.zero (d n : Nat) : MadeK d n 0 [] := ⟨rfl, by simp, by simp [rZ, lv]⟩
theorem MadeK.next {d n k : Nat} {ts t : List Nd} (h : MadeK d n k ts) (ht : Made d (n + 1 + ts.length) t) : MadeK d n (k + 1) (ts ++ t) := by
 refine ⟨?_, fun x hx => ?_, ?_⟩
 ·
  rw [dZ, kF ts t [] k h.skip]; exact ht.skip
 ·
  rcases List.mem_append.1 hx with hx | hx
  ·
   exact h.node x hx
  ·
   exact ht.node x hx
 ·
  have := yZ (r := (t.length, lv t)) h.pos (by
   rw [show n + 1 + (1 + ts.length - 1) = n + 1 + ts.length from by omega]; exact ht.pos) (by simp)
  simpa [rM, Nat.add_assoc] using this
theorem MadeK.fin {d n : Nat} {ts : List Nd} {x : Nd} {c : Nat} (h : MadeK d n c ts) (hn : n ≤ 8) (hx : bT x = true) (hk : x.k ≠ 1) (hc : x.c = c) (h1 : 1 ≤ c) (h3 : c ≤ 3) : Made (d + 1) n (x :: ts) := by
 refine ⟨?_, fun y hy => ?_, ?_⟩
 ·
  show Pl.skip (0 + x.c.toNat) ts = some []
  rw [hc, Nat.zero_add]; exact h.skip
 ·
  rcases List.mem_cons.1 hy with rfl | hy
  ·
   exact hx
  ·
   exact h.node y hy
 ·
  rw [Pl.pos, tX]
  refine List.mem_cons_of_mem _ ?_
  rw [if_pos hn, List.mem_flatMap]
  refine ⟨c - 1, List.mem_range.2 (by omega), ?_⟩
  rw [show c - 1 + 1 = c from by omega]
  have := h.pos
  have e : lv (x :: ts) = lv ts := by rw [lv, if_neg hk]; omega
  rw [e, List.length_cons, Nat.add_comm ts.length 1]
  exact this

end Go.Pl

namespace Go.Pl
open Go Go.Hl

structure Ms where
 n : aE
 v : Int
 r : List Pr
 o : List Nat
 d : Bool
theorem bJ8 : ∀ (f : Nat), (∀ ls t r, rdN f ls = (some t, r) → r.length < ls.length) ∧ (∀ ls p r, rdK f ls = (some p, r) → r.length < ls.length)
 | 0 => ⟨fun ls t r h => (by simp only [rdN] at h; cases h), fun ls p r h => (by simp only [rdK] at h; cases h)⟩
 | f + 1 => by
  obtain ⟨ihN, ihK⟩ := bJ8 f
  refine ⟨fun ls t r h => ?_, fun ls p r h => ?_⟩
  ·
   cases ls with
   | nil => simp only [rdN] at h; cases h
   | cons w rest =>
    simp only [rdN] at h
    split at h
    ·
     cases h; simp
    ·
     split at h
     ·
      cases h
     ·
      cases hk : rdK f rest with
      | mk o r' =>
       rw [hk] at h
       cases o with
       | none => cases h
       | some p =>
        cases h
        have := ihK _ _ _ hk
        simp only [List.length_cons]; omega
  ·
   simp only [rdK] at h
   split at h
   ·
    rename_i he
    cases h
    cases ls with
    | nil => simp [iG] at he
    | cons w rest => simp
   ·
    cases h1 : rdN f ls with
    | mk o r1 =>
     rw [h1] at h
     cases o with
     | none => cases h
     | some t =>
      simp only at h
      cases h2 : rdK f r1 with
      | mk o2 r2 =>
       rw [h2] at h
       cases o2 with
       | none => cases h
       | some q =>
        cases h
        have a := ihN _ _ _ h1
        have b := ihK _ _ _ h2
        omega
theorem innR_c {w : List aE} {n : Nd} (h : jL w = some n) : n.c = 0 ∧ iG w = false := by
 refine ⟨?_, ?_⟩
 ·
  unfold jL at h
  split at h
  ·
   cases h; rfl
  split at h
  ·
   cases h; rfl
  split at h
  ·
   cases hv : bH (wd w 1) with
   | none => rw [hv] at h; cases h
   | some m => rw [hv] at h; cases h; rfl
  ·
   cases h
 ·
  cases he : iG w with
  | false => rfl
  | true => rw [yY he] at h; cases h
end Go.Pl

namespace Go.Pl
open Go Go.Hl

theorem bJ9 {w : aE} (h : dN w = true) : 1 ≤ w.length ∧ w.length ≤ 64 := by
 cases w with
 | nil => cases h
 | cons c r =>
  simp only [dN, Bool.and_eq_true, decide_eq_true_eq] at h
  exact ⟨by simp, h.1⟩
end Go.Pl

namespace Go.Pl
open Go Go.Hl

def zA (ns im : aE) (r : Pr) : Bool := lN r.b ns && lN r.c im
def bK0 (p : Po) (ns im : aE) : Int := if fV p then match p.r.findIdx? (zA ns im) with | some i => (i : Int) | none => -1 else -1
theorem bK1 {p : Po} {ns im : aE} (hp : fV p = false) : bK0 p ns im = -1 := by
 unfold bK0; rw [if_neg (by rw [hp]; simp)]
def aJ4 (n : Int) : Nd := ⟨1, 0, 0, ⟨1, n, 0, []⟩⟩
def awT : List Nd := [⟨4, 2, 3, rq0⟩, aJ4 1, aJ4 2, aJ4 3]
def awP : Po := ⟨[112], 1, [⟨[114], [112, 114, 111, 100, 47, 42, 42], [42], 5, awT⟩]⟩
theorem bZ3 : cP awT = true := by decide
theorem bZ4 : fV awP = true := by decide +kernel
theorem bK2 : oT awT [true, false, true] = true := by decide
theorem bK3 : oT awT [true] = false := by decide
theorem lB : (gJ awT).length = 3 := by decide
theorem qL : (lS awT 0).length = 3 := by decide
theorem bZ5 : bK0 awP [112, 114, 111, 100, 47, 101, 117] [119, 101, 98] = 0 := by decide +kernel
end Go.Pl

namespace Go.Pl
open Go Go.Hl
theorem bEq {c d : UInt8} (h : ((c.toNat : Int) == (d.toNat : Int)) = true) : c = d := by
 have h1 := eq_of_beq h
 exact UInt8.toNat_inj.1 (by omega)
theorem bNe {c d : UInt8} (h : ((c.toNat : Int) == (d.toNat : Int)) = false) : c ≠ d := by
 intro e; subst e; simp at h
theorem aJ5 {l : List UInt8} {c : UInt8} (h : ¬ dE l c < 0) : c ∈ l := by
 unfold dE at h
 cases e : l.findIdx? (· == c) with
 | none => rw [e] at h; simp at h
 | some i =>
  obtain ⟨hi, h1, _⟩ := List.findIdx?_eq_some_iff_getElem.1 e
  have := eq_of_beq h1
  rw [← this]; exact List.getElem_mem hi
theorem tJ {l : List UInt8} {c : UInt8} (h : dE l c < 0) : c ∉ l := by
 unfold dE at h
 cases e : l.findIdx? (· == c) with
 | none =>
  intro hc
  have := List.findIdx?_eq_none_iff.1 e c hc
  simp at this
 | some i => rw [e] at h; simp only at h; omega
theorem aJ6 {p : aE} (h : p.length < 1 ∨ 200 < p.length) : gL p = none := by unfold gL; rw [if_pos h]
theorem aV0 {p : aE} (h1 : 1 ≤ p.length) (h2 : p.length ≤ 200) : gL p = patP p := by unfold gL; rw [if_neg (by omega)]
end Go.Pl

namespace Go.Proofs.YtlldglbooaefhaaGreatDoor
open Go Go.Hl Go.Pl
set_option maxRecDepth 10000
set_option maxHeartbeats 16000000

theorem aJ7 (p : aE) : mU Tryz.prog 83 [.str p] (fun u v => u = .slc (((gL p).getD []).map Pt.cv) ∧ v = .bool (gL p).isSome) := by
 refine FW Tryz.func83 ?_
 refine R0 ?_
 refine aB fun K hK => ?_
 refine aB fun K hK => Rg ?_
 iterate 4 refine S0 ?_
 refine aD 8 rfl (fun h1_8 => ?_) (fun h1_8 => ?_)
 ·
  have F := h1_8
  iterate 9 refine SF ?_
  refine T2 (hK _ _ _ ?_)
  clear hK K
  refine CT rfl ?_
  refine R0 ?_
  refine aF (RT Tryz.results83 ?_)
  have hn : gL p = none := aJ6 (by simp at h1_8; omega)
  refine bD [] (.slc []) (.bool false) ?_ ⟨by rw [hn]; rfl, by rw [hn]; rfl⟩
  simp [HV.close, HV.closeL, CV.denil, CV.denilL, HV.norm, HV.toC, HV.toCL]
 have F := h1_8
 iterate 5 refine SF ?_
 refine aD 12 rfl (fun h1_12 => ?_) (fun h1_12 => ?_)
 ·
  have F := aI h1_8 h1_12
  iterate 4 refine SF ?_
  refine T2 (hK _ _ _ ?_)
  clear hK K
  refine CT rfl ?_
  refine R0 ?_
  refine aF (RT Tryz.results83 ?_)
  have hn : gL p = none := aJ6 (by simp at h1_12; omega)
  refine bD [] (.slc []) (.bool false) ?_ ⟨by rw [hn]; rfl, by rw [hn]; rfl⟩
  simp [HV.close, HV.closeL, CV.denil, CV.denilL, HV.norm, HV.toC, HV.toCL]
 have F := aI h1_8 h1_12
 refine SF ?_
 refine aU (g := some (14, false)) rfl rfl fun K' hK' => T6 ?_
 refine C2 (qF p 0) ?_
 rintro u rfl
 refine AX (hK' _ _ ?_)
 clear hK' K'
 iterate 2 refine SF ?_
 refine aD 17 rfl (fun h1_17 => ?_) (fun h1_17 => ?_)
 ·
  simp only [h1_17]
  refine T2 (hK _ _ _ ?_)
  clear hK K
  refine CT rfl ?_
  refine R0 ?_
  refine aF (RT Tryz.results83 ?_)
  have hn : gL p = none := by
   rw [aV0 (by simp at h1_8; omega) (by simp at h1_12; omega)]
   exact iX p.length p (Nat.le_refl _) (aJ5 (by simpa using h1_17))
  refine bD [] (.slc []) (.bool false) ?_ ⟨by rw [hn]; rfl, by rw [hn]; rfl⟩
  simp [HV.close, HV.closeL, CV.denil, CV.denilL, HV.norm, HV.toC, HV.toCL]
 simp only [h1_17]
 refine T2 (hK _ _ _ ?_)
 clear hK K
 refine CF rfl ?_
 refine aJ ?_
 refine T0 (hK _ _ _ ?_)
 clear hK K
 have hpv := aV0 (p := p) (by simp at h1_8; omega) (by simp at h1_12; omega)
 have hl : p.length ≤ 200 := by simp at h1_12; omega
 have hz0 : (0 : UInt8) ∉ p := tJ (by simpa using h1_17)
 have hz : ∀ (i : Nat) (h : i < p.length), p[i] ≠ 0 := fun i h e => hz0 (e ▸ List.getElem_mem h)
 clear h1_8 h1_12 h1_17
 refine R0 ?_
 refine aB fun K hK => ?_
 refine R0 ?_
 refine aK ?_
 refine oZ 4 0 140 2 rfl rfl rfl rfl ?_
 refine bE (α := {y : Nat × List Pt // PatSt p y.1 y.2}) (fun y => (fin [(0, .c (.str p)), (4, .own 68 y.1.2.length), (5, .c (.int .i64 y.1.1))], fob [(68, .row 140 2 (y.1.2.map Pt.cv))])) 100 (fun y => p.length - y.1.1) ⟨(0, []), PatSt.init p⟩ (fF) ?_
 rintro ⟨⟨i, out⟩, hst⟩
 simp only at hst
 have hi := hst.1
 have ho := hst.2.2.1
 refine aB fun K hK => ?_
 refine aB fun K hK => Rg ?_
 iterate 4 refine S0 ?_
 refine T2 (hK _ _ _ ?_)
 clear hK K
 refine aH (b := decide ((i : Int) < p.length)) rfl (fun hb => ?_) (fun hb => ?_)
 ·
  have hlt : i < p.length := by simpa using hb
  clear hb
  have hgd : p.getD i 0 = p[i] := by simp [hlt]
  have hw1 : IntKind.i64.wrap ((i : Int) + 1) = ((i + 1 : Nat) : Int) := by rw [IntWalk.i64_in _ (by omega)]; rfl
  have hw2 : IntKind.i64.wrap (((i + 1 : Nat) : Int) + 1) = ((i + 2 : Nat) : Int) := by rw [IntWalk.i64_in _ (by omega)]; rfl
  refine aJ ?_
  refine T0 (hK _ _ _ ?_)
  clear hK K
  refine aB fun K hK => ?_
  refine aK ?_
  refine aK ?_
  refine aB fun K hK => Rg ?_
  iterate 5 refine S0 ?_ (e := fun _ h_ => by simp only [sH, ↓sP, sA, tyS, simprocAttr, Int.natCast_nonneg, Int.ofNat_lt, hlt, hgd]; exact AX h_)
  refine T2 (hK _ _ _ ?_)
  clear hK K
  refine aH (b := ((p[i].toNat : Int) == 92)) rfl (fun hb => ?_) (fun hb => ?_)
  ·
   have h92 : p[i] = 92 := bEq (d := 92) hb
   clear hb
   have F := hw1
   refine RF ?_
   refine aB fun K hK => ?_
   refine aB fun K hK => Rg ?_
   iterate 4 refine S0 ?_
   refine T2 (hK _ _ _ ?_)
   clear hK K
   refine aH (b := (((i + 1 : Nat) : Int) == ((p.length : Nat) : Int))) rfl (fun hb => ?_) (fun hb => ?_)
   ·
    have hie : i + 1 = p.length := by have := eq_of_beq hb; omega
    refine R0 ?_
    refine aF (RT Tryz.results83 ?_)
    have hn : gL p = none := by rw [hpv]; exact hst.bad (aY5 hlt h92 hie)
    refine bD [] (.slc []) (.bool false) ?_ ⟨by rw [hn]; rfl, by rw [hn]; rfl⟩
    simp [HV.close, HV.closeL, CV.denil, CV.denilL, HV.norm, HV.toC, HV.toCL]
   have hi1 : i + 1 < p.length := by
    have : ¬ i + 1 = p.length := by rintro e; rw [e] at hb; simp at hb
    omega
   clear hb
   have hg1 : p.getD (i + 1) 0 = p[i + 1] := by simp [hi1]
   refine aJ ?_
   refine T0 (hK _ _ _ ?_)
   clear hK K
   refine Rg ?_
   have F := aI @Int.natCast_nonneg (aI @Int.ofNat_lt (aI hi1 (aI hg1 (aI @List.length_append.{0} @List.length_map.{0,0}))))
   iterate 8 refine SF ?_
   refine T2 (hK _ _ _ ?_)
   clear hK K
   refine aL (by kernel_rfl) ?_
   refine TQ hw2 ?_
   refine ⟨⟨(i + 2, out ++ [⟨0, p[i + 1]⟩]), hst.step (k := 2) (by omega) (by omega) (by simp) (bG0 hi1 h92 (hz (i + 1) hi1))⟩, aN (by omega) ?_ ?_, ?_⟩
   ·
    simp [bA, upd_at, fin_at, HV.men]
   ·
    simp only [aX, List.map_append]
    exact ⟨rfl, by omega, trivial, trivial⟩
   show p.length - (i + 2) < p.length - i
   omega
  have h92 : p[i] ≠ 92 := bNe (d := 92) hb
  clear hb
  refine aB fun K hK => Rg ?_
  iterate 5 refine S0 ?_ (e := fun _ h_ => by simp only [sH, ↓sP, sA, tyS, simprocAttr, Int.natCast_nonneg, Int.ofNat_lt, hlt, hgd]; exact AX h_)
  refine T2 (hK _ _ _ ?_)
  clear hK K
  refine aH (b := ((p[i].toNat : Int) == 63)) rfl (fun hb => ?_) (fun hb => ?_)
  ·
   have h63 : p[i] = 63 := bEq (d := 63) hb
   clear hb
   refine Rg ?_
   have F := aI @List.length_append.{0} @List.length_map.{0,0}
   iterate 5 refine SF ?_
   refine T2 (hK _ _ _ ?_)
   clear hK K
   refine aL (by kernel_rfl) ?_
   refine TQ hw1 ?_
   refine ⟨⟨(i + 1, out ++ [⟨1, 0⟩]), hst.step (k := 1) (by omega) (by omega) (by simp) (bY6 hlt h63)⟩, aN (by omega) ?_ ?_, ?_⟩
   ·
    simp [bA, upd_at, fin_at, HV.men]
   ·
    simp only [aX, List.map_append]
    exact ⟨rfl, by omega, trivial, trivial⟩
   show p.length - (i + 1) < p.length - i
   omega
  have h63 : p[i] ≠ 63 := bNe (d := 63) hb
  clear hb
  by_cases h42 : p[i] = 42
  ·
   by_cases hi1 : i + 1 < p.length
   ·
    by_cases h43 : p[i + 1] = 42
    ·
     have hd42 : ((p[i].toNat : Int) == 42) = true := by rw [h42]; rfl
     have hg1 : p.getD (i + 1) 0 = p[i + 1] := by simp [hi1]
     have hd43 : ((p[i + 1].toNat : Int) == 42) = true := by rw [h43]; rfl
     refine aB fun K hK => Rg ?_
     iterate 19 refine S0 ?_ (e := fun _ h_ => by simp only [sH, ↓sP, sA, tyS, simprocAttr, Int.natCast_nonneg, Int.ofNat_lt, hlt, hgd, hw1, hi1, hg1, hd42, hd43, decide_true]; exact AX h_)
     refine T2 (hK _ _ _ ?_)
     clear hK K
     refine CT rfl ?_
     have F := hw1
     refine RF ?_
     refine Rg ?_
     have F := aI @List.length_append.{0} @List.length_map.{0,0}
     iterate 5 refine SF ?_
     refine T2 (hK _ _ _ ?_)
     clear hK K
     refine aL (by kernel_rfl) ?_
     refine TQ hw2 ?_
     refine ⟨⟨(i + 2, out ++ [⟨3, 0⟩]), hst.step (k := 2) (by omega) (by omega) (by simp) (bQ7 hi1 h42 h43)⟩, aN (by omega) ?_ ?_, ?_⟩
     ·
      simp [bA, upd_at, fin_at, HV.men]
     ·
      simp only [aX, List.map_append]
      exact ⟨rfl, by omega, trivial, trivial⟩
     show p.length - (i + 2) < p.length - i
     omega
    have hd42 : ((p[i].toNat : Int) == 42) = true := by rw [h42]; rfl
    have hg1 : p.getD (i + 1) 0 = p[i + 1] := by simp [hi1]
    have hd43 : ((p[i + 1].toNat : Int) == 42) = false := by rw [show (42 : Int) = ((42 : UInt8).toNat : Int) from rfl, bR8]; simpa using h43
    refine aB fun K hK => Rg ?_
    iterate 19 refine S0 ?_ (e := fun _ h_ => by simp only [sH, ↓sP, sA, tyS, simprocAttr, Int.natCast_nonneg, Int.ofNat_lt, hlt, hgd, hw1, hi1, hg1, hd42, hd43, decide_true]; exact AX h_)
    refine T2 (hK _ _ _ ?_)
    clear hK K
    refine CF rfl ?_
    refine aB fun K hK => Rg ?_
    iterate 5 refine S0 ?_ (e := fun _ h_ => by simp only [sH, ↓sP, sA, tyS, simprocAttr, Int.natCast_nonneg, Int.ofNat_lt, hlt, hgd, hd42]; exact AX h_)
    refine T2 (hK _ _ _ ?_)
    clear hK K
    refine CT rfl ?_
    refine Rg ?_
    have F := aI @List.length_append.{0} @List.length_map.{0,0}
    iterate 5 refine SF ?_
    refine T2 (hK _ _ _ ?_)
    clear hK K
    refine aL (by kernel_rfl) ?_
    refine TQ hw1 ?_
    refine ⟨⟨(i + 1, out ++ [⟨2, 0⟩]), hst.step (k := 1) (by omega) (by omega) (by simp) (bG1 hlt h42 fun _ => h43)⟩, aN (by omega) ?_ ?_, ?_⟩
    ·
     simp [bA, upd_at, fin_at, HV.men]
    ·
     simp only [aX, List.map_append]
     exact ⟨rfl, by omega, trivial, trivial⟩
    show p.length - (i + 1) < p.length - i
    omega
   have hd42 : ((p[i].toNat : Int) == 42) = true := by rw [h42]; rfl
   have hdi : decide (((i + 1 : Nat) : Int) < ((p.length : Nat) : Int)) = false := by simp; omega
   refine aB fun K hK => Rg ?_
   iterate 19 refine S0 ?_ (e := fun _ h_ => by simp only [sH, ↓sP, sA, tyS, simprocAttr, Int.natCast_nonneg, hdi, hlt, hgd, hw1, hd42]; exact AX h_)
   refine T2 (hK _ _ _ ?_)
   clear hK K
   refine CF rfl ?_
   refine aB fun K hK => Rg ?_
   iterate 5 refine S0 ?_ (e := fun _ h_ => by simp only [sH, ↓sP, sA, tyS, simprocAttr, Int.natCast_nonneg, Int.ofNat_lt, hlt, hgd, hd42]; exact AX h_)
   refine T2 (hK _ _ _ ?_)
   clear hK K
   refine CT rfl ?_
   refine Rg ?_
   have F := aI @List.length_append.{0} @List.length_map.{0,0}
   iterate 5 refine SF ?_
   refine T2 (hK _ _ _ ?_)
   clear hK K
   refine aL (by kernel_rfl) ?_
   refine TQ hw1 ?_
   refine ⟨⟨(i + 1, out ++ [⟨2, 0⟩]), hst.step (k := 1) (by omega) (by omega) (by simp) (bG1 hlt h42 fun h => absurd h hi1)⟩, aN (by omega) ?_ ?_, ?_⟩
   ·
    simp [bA, upd_at, fin_at, HV.men]
   ·
    simp only [aX, List.map_append]
    exact ⟨rfl, by omega, trivial, trivial⟩
   show p.length - (i + 1) < p.length - i
   omega
  have hd42 : ((p[i].toNat : Int) == 42) = false := by rw [show (42 : Int) = ((42 : UInt8).toNat : Int) from rfl, bR8]; simpa using h42
  refine aB fun K hK => Rg ?_
  iterate 19 refine S0 ?_ (e := fun _ h_ => by simp only [sH, ↓sP, sA, tyS, simprocAttr, Int.natCast_nonneg, Int.ofNat_lt, hlt, hgd, hw1, hd42]; exact AX h_)
  refine T2 (hK _ _ _ ?_)
  clear hK K
  refine CF rfl ?_
  refine aB fun K hK => Rg ?_
  iterate 5 refine S0 ?_ (e := fun _ h_ => by simp only [sH, ↓sP, sA, tyS, simprocAttr, Int.natCast_nonneg, Int.ofNat_lt, hlt, hgd, hd42]; exact AX h_)
  refine T2 (hK _ _ _ ?_)
  clear hK K
  refine CF rfl ?_
  refine Rg ?_
  iterate 8 refine S0 ?_ (e := fun _ h_ => by simp only [sH, ↓sP, sA, tyS, simprocAttr, Int.natCast_nonneg, Int.ofNat_lt, hlt, hgd, List.length_append, List.length_map]; exact AX h_)
  refine T2 (hK _ _ _ ?_)
  clear hK K
  refine aL (by kernel_rfl) ?_
  refine TQ hw1 ?_
  refine ⟨⟨(i + 1, out ++ [⟨0, p[i]⟩]), hst.step (k := 1) (by omega) (by omega) (by simp) (bY7 hlt (hz i hlt) h92 h63 h42)⟩, aN (by omega) ?_ ?_, ?_⟩
  ·
   simp [bA, upd_at, fin_at, HV.men]
  ·
   simp only [aX, List.map_append]
   exact ⟨rfl, by omega, trivial, trivial⟩
  show p.length - (i + 1) < p.length - i
  omega
 refine aZ (T3 ?_)
 clear hK K
 refine AX (hK _ _ _ ?_)
 clear hK K
 have hei : i = p.length := by simp at hb; omega
 have hfin : gL p = some out := by rw [hpv]; exact hst.fin hei
 refine R0 ?_
 refine aF (RT Tryz.results83 ?_)
 refine bD [68] (.slc (out.map Pt.cv)) (.bool true) ?_ ⟨by rw [hfin]; rfl, by rw [hfin]; rfl⟩
 simp [HV.close, fob_at, upd_at, HV.norm, HV.toC, HV.closeL, HV.toCL, CV.denil, denilL_Pt]

end Go.Proofs.YtlldglbooaefhaaGreatDoor
