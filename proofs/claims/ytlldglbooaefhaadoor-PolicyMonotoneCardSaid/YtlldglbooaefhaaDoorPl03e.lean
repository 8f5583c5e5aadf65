/- Plain Lean: the rows of Match as the walks see them. By an AI agent. -/
import Derived.Test.YtlldglbooaefhaaDoorPl28d
import Derived.Test.YtlldglbooaefhaaDoorHvV1
import Derived.Test.YtlldglbooaefhaaDoorHlCl
set_option linter.unusedSimpArgs false
set_option linter.unusedVariables false
set_option linter.defProp false
namespace Go.Pl
open Go Go.Hl

theorem lL {n a b : Int} : inB n a b = true ↔ a ≤ n ∧ n ≤ b := by unfold inB; simp
theorem bJ1 {q : Rq} (h : eL q = true) : eU (wlR q) = some q := by
 obtain ⟨k, n, m, t⟩ := q
 have hv : ∀ {a b : Int}, inB n a b = true → 0 ≤ a → b ≤ 1099511627776 → bG (numW n) = some n := fun h h1 h2 => by grind [lL, kO]
 unfold eL at h
 simp only at h
 split at h
 ·
  rename_i h1
  simp only [Bool.and_eq_true, beq_iff_eq] at h
  obtain ⟨h2, rfl, rfl⟩ := h
  have hn := hv h2 (by omega) (by omega)
  rcases h1 with rfl | rfl | rfl
  ·
   show (bG (numW n)).map _ = _; grind
  ·
   show (bG (numW n)).map _ = _; grind
  ·
   show (bG (numW n)).map _ = _; grind
 split at h
 ·
  rename_i h1
  subst h1
  simp only [Bool.and_eq_true, beq_iff_eq] at h
  obtain ⟨h2, h3, rfl⟩ := h
  have hn := hv h2 (by omega) (by omega)
  rw [lL] at h3
  have hm : bG (numW m) = some m := kO (by omega) (by omega)
  show (match bG (numW n), bG (numW m) with | some n, some m => some (⟨4, n, m, []⟩ : Rq) | _, _ => none) = _
  grind
 split at h
 ·
  rename_i h1
  subst h1
  simp only [Bool.and_eq_true, beq_iff_eq] at h
  obtain ⟨-, rfl, rfl⟩ := h
  rfl
 split at h
 ·
  rename_i h1
  subst h1
  simp only [Bool.and_eq_true, beq_iff_eq] at h
  obtain ⟨h2, rfl, rfl⟩ := h
  have hn := hv h2 (by omega) (by omega)
  show (bG (numW n)).map _ = _; grind
 split at h
 ·
  rename_i h1
  subst h1
  simp only [Bool.and_eq_true, beq_iff_eq] at h
  obtain ⟨h2, rfl, rfl⟩ := h
  have hn := hv h2 (by omega) (by rw [gC]; omega)
  show (bG (numW n)).map _ = _; grind
 split at h
 ·
  rename_i h1
  subst h1
  simp only [Bool.and_eq_true, beq_iff_eq] at h
  obtain ⟨rfl, rfl, rfl⟩ := h
  rfl
 grind
theorem bJ2 {n : Nd} (h : bL n = true) (hk : n.k ≠ 1) : jE (wlN n) = some { n with c := 0 } ∧ eU (wlN n) = none := by
 obtain ⟨k, a, c, q⟩ := n
 unfold bL at h
 simp only at h hk
 rw [if_neg hk] at h
 split at h
 ·
  rename_i h1
  simp only [Bool.and_eq_true, beq_iff_eq, uS] at h
  obtain ⟨-, rfl, rfl⟩ := h
  rcases h1 with rfl | rfl <;> exact ⟨rfl, rfl⟩
 split at h
 ·
  rename_i h1
  subst h1
  simp only [Bool.and_eq_true, uS, lL] at h
  obtain ⟨⟨c1, c2⟩, rfl, a1, a2⟩ := h
  refine ⟨?_, rfl⟩
  show (bG (numW a)).map _ = _
  grind [kO]
 grind
theorem vS {l r : List Nd} {m : Nat} (h : skip m l = some r) : ∃ t, l = t ++ r ∧ skip m t = some [] := by
 induction l generalizing m with
 | nil =>
  cases m with
  | zero => rw [cG] at h; cases h; exact ⟨[], rfl, rfl⟩
  | succ m => cases h
 | cons n l ih =>
  cases m with
  | zero => rw [cG] at h; cases h; exact ⟨[], rfl, rfl⟩
  | succ m =>
   obtain ⟨t, h1, h2⟩ := ih (m := m + n.c.toNat) h
   exact ⟨n :: t, by rw [h1]; rfl, h2⟩
theorem aP3 {n : Nd} (h : bL n = true) (hk : n.k ≠ 1) : gV (wlN n) = false := by
 unfold wlN
 split
 ·
  rfl
 ·
  split
  ·
   rfl
  ·
   rfl
theorem aP4 (q : Rq) : gV (wlR q) = false := by
 unfold wlR
 repeat' split
 all_goals rfl
theorem bJ3 : ∀ (f : Nat), (∀ t rest, skip 1 t = some [] → (∀ n ∈ t, bL n = true) → 2 * t.length ≤ f → rdN f (dM (t.length + 1) 1 t ++ rest) = (some t, rest)) ∧
  (∀ ts c rest, skip c ts = some [] → (∀ n ∈ ts, bL n = true) → 2 * ts.length + 1 ≤ f → rdK f (dM (ts.length + 1) c ts ++ ([wEnd] :: rest)) = (some (ts, (c : Int)), rest))
 | 0 => ⟨fun t rest h _ hf => (by
   have : t = [] := List.eq_nil_of_length_eq_zero (by omega)
   subst this; cases h), fun ts c rest _ _ hf => by omega⟩
 | f + 1 => by
  obtain ⟨ihN, ihK⟩ := bJ3 f
  have z0 : ∀ f (x : List Nd), dM f 0 x = [] := fun f x => by cases f <;> cases x <;> rfl
  refine ⟨fun t rest h hn hf => ?_, fun ts c rest h hn hf => ?_⟩
  ·
   cases t with
   | nil => cases h
   | cons n ts =>
    have hnn := hn n List.mem_cons_self
    have hn' : ∀ x ∈ ts, bL x = true := fun x hx => hn x (List.mem_cons_of_mem _ hx)
    have h' : skip (0 + n.c.toNat) ts = some [] := h
    rw [Nat.zero_add] at h'
    obtain ⟨c1, c2, c3, c4⟩ := dK hnn
    simp only [List.length_cons, dM]
    by_cases hk : n.k = 1
    ·
     rw [if_pos hk]
     rw [c3 hk] at h'
     have : ts = [] := by
      cases ts with
      | nil => rfl
      | cons a b => grind [skip, cG]
     subst this
     have hq : eL n.q = true ∧ n.n = 0 := by
      unfold bL at hnn
      rw [if_pos hk] at hnn
      simp only [Bool.and_eq_true, beq_iff_eq] at hnn
      exact ⟨hnn.2.2, hnn.2.1⟩
     simp only [List.cons_append, List.nil_append, rdN, bJ1 hq.1]
     obtain ⟨k, a, c, q⟩ := n
     simp only at hk hq c3
     rw [hk, hq.2, c3 hk]
    ·
     rw [if_neg hk]
     obtain ⟨e1, e2⟩ := bJ2 hnn hk
     have := ihK ts n.c.toNat rest h' hn' (by grind)
     simp only [List.cons_append, List.append_assoc, List.nil_append, rdN, e2, e1, this]
     have : ((n.c.toNat : Nat) : Int) = n.c := by omega
     rw [this]
  ·
   cases c with
   | zero =>
    rw [cG] at h; cases h
    rw [z0]
    simp only [List.nil_append, rdK, List.headD_cons, show gV [wEnd] = true from rfl, if_true, List.tail_cons]; rfl
   | succ c =>
    rw [Nat.add_comm, eS] at h
    cases h1 : skip 1 ts with
    | none => grind
    | some r =>
     rw [h1] at h
     have h2 : skip c r = some [] := h
     obtain ⟨t, rfl, ht⟩ := vS h1
     have hnt : ∀ x ∈ t, bL x = true := fun x hx => hn x (List.mem_append_left _ hx)
     have hnr : ∀ x ∈ r, bL x = true := fun x hx => hn x (List.mem_append_right _ hx)
     have ht1 : 1 ≤ t.length := by
      cases t with
      | nil => cases ht
      | cons _ _ => simp
     simp only [List.length_append] at hf
     have e : dM ((t ++ r).length + 1) (c + 1) (t ++ r) = dM (t.length + 1) 1 t ++ dM (r.length + 1) c r := by
      rw [Nat.add_comm c 1, nF _ 1 c (t ++ r) r (Nat.lt_succ_self _) h1 hn _ h2, fU _ 1 t r [] (Nat.lt_succ_self _) ht hnt,
       eY (t.length + 1) 1 t [] (by omega) ht hnt ((t ++ r).length + 1) (by simp), eY (r.length + 1) c r [] (by omega) h2 hnr ((t ++ r).length + 1) (by simp)]
     rw [e, List.append_assoc]
     have a1 := ihN t (dM (r.length + 1) c r ++ [wEnd] :: rest) ht hnt (by omega)
     have a2 := ihK r c rest h2 hnr (by omega)
     have hne : gV ((dM (t.length + 1) 1 t ++ (dM (r.length + 1) c r ++ [wEnd] :: rest)).headD []) = false := by
      cases t with
      | nil => cases ht
      | cons n t =>
       simp only [List.length_cons, dM]
       split
       ·
        exact aP4 _
       ·
        rename_i hk; exact aP3 (hnt n List.mem_cons_self) hk
     simp only [rdK]
     rw [hne]
     simp only [Bool.false_eq_true, if_false, a1, a2]
     have : ((c : Nat) : Int) + 1 = ((c + 1 : Nat) : Int) := by omega
     rw [this]
theorem tN : ∀ (f m : Nat) (l : List Nd), l.length < f → skip m l = some [] → (∀ n ∈ l, bL n = true) → l.length ≤ (dM f m l).length
 | 0, _, _, h, _, _ => by omega
 | f + 1, m, [], _, _, _ => by simp
 | f + 1, 0, n :: l, _, h, _ => by rw [cG] at h; cases h
 | f + 1, m + 1, n :: l, hf, h, hn => by
  have h' : skip (m + n.c.toNat) l = some [] := h
  have hn' : ∀ y ∈ l, bL y = true := fun y hy => hn y (List.mem_cons_of_mem _ hy)
  have hl : l.length < f := by simpa using hf
  obtain ⟨c1, c2, c3, c4⟩ := dK (hn n List.mem_cons_self)
  simp only [dM]
  split
  ·
   rename_i hk
   rw [c3 hk] at h'
   have := tN f m l hl (by simpa using h') hn'
   simp only [List.length_cons]; omega
  ·
   rw [Nat.add_comm, eS] at h'
   cases hs : skip n.c.toNat l with
   | none => rw [hs] at h'; cases h'
   | some r1 =>
    rw [hs] at h'
    have h2 : skip m r1 = some [] := h'
    obtain ⟨t, rfl, ht⟩ := vS hs
    simp only [List.length_append] at hl
    have hnt : ∀ x ∈ t, bL x = true := fun x hx => hn' x (List.mem_append_left _ hx)
    have a1 := tN f _ t (by omega) ht hnt
    have a2 := tN f m r1 (by omega) h2 (fun x hx => hn' x (List.mem_append_right _ hx))
    rw [Option.getD_some, fU f _ t r1 [] (by simp; omega) ht hnt]
    simp only [List.length_cons, List.length_append]; omega
theorem bS2 {t : List Nd} (h : IsTree t) (rest : List (List aE)) : rdT (aP2 t ++ rest) = (some t, rest) := by
 have := tN (t.length + 1) 1 t (by omega) h.skip h.node
 exact (bJ3 _).1 t rest h.skip h.node (by simp only [aP2, List.length_append]; omega)
theorem nG {r : Pr} (h : iF r = true) : (0 ≤ r.g ∧ r.g ≤ 1099511627776) ∧ IsTree r.t ∧ eD r.a = true ∧ (gJ r.b).isSome = true ∧ (gJ r.c).isSome = true := by
 unfold iF at h
 simp only [Bool.and_eq_true, lL] at h
 obtain ⟨h1, h2, h3, ⟨h4, h5⟩, h6⟩ := h
 rw [gC] at h5
 exact ⟨⟨h4, h5⟩, kL h6, h1, h2, h3⟩
theorem bS3 {r : Pr} (h : iF r = true) (rest : List (List aE)) : rdR (jC r ++ rest) = (some r, rest) := by
 obtain ⟨⟨g0, g1⟩, ht, -⟩ := nG h
 show rdR ([wRule, r.a, r.b, r.c, numW r.g] :: (aP2 r.t ++ rest)) = _
 unfold rdR
 simp only
 rw [if_pos ⟨rfl, rfl⟩]
 have : bG (wd [wRule, r.a, r.b, r.c, numW r.g] 4) = some r.g := kO g0 g1
 rw [this]
 simp only
 rw [bS2 ht]; rfl
theorem aI1 : ∀ (l a : List Pr) (f : Nat), (∀ r ∈ l, iF r = true) → l.length < f → kE f (l.flatMap jC) a = (some (a ++ l), [])
 | [], a, f, _, hf => by
  obtain ⟨g, rfl⟩ : ∃ g, f = g + 1 := ⟨f - 1, by simp at hf; omega⟩
  simp [kE]
 | r :: l, a, f, h, hf => by
  obtain ⟨g, rfl⟩ : ∃ g, f = g + 1 := ⟨f - 1, by simp at hf; omega⟩
  simp only [List.flatMap_cons, kE]
  rw [if_neg (by simp [jC]), bS3 (h r List.mem_cons_self)]
  simp only
  rw [aI1 l (a ++ [r]) g (fun x hx => h x (List.mem_cons_of_mem _ hx)) (by simp at hf; omega)]
  simp
theorem aU0 : ∀ l : List Pr, l.length ≤ (l.flatMap jC).length
 | [] => by simp
 | r :: l => by have := aU0 l; simp [jC] at this ⊢; omega
theorem aB2 {p : Po} (h : eX p = true) : (1 ≤ p.v ∧ p.v ≤ 1099511627776) ∧ p.r.length ≤ 16 ∧ eD p.n = true ∧ ∀ r ∈ p.r, iF r = true := by
 unfold eX at h
 simp only [Bool.and_eq_true, lL, decide_eq_true_eq, List.all_eq_true] at h
 obtain ⟨h1, ⟨h2, h3⟩, h4, h5, -⟩ := h
 rw [gC] at h3
 exact ⟨⟨h2, h3⟩, h4, h1, h5⟩
theorem bS4 {p : Po} (h : eX p = true) : rdP (oY p) = (some p, []) := by
 obtain ⟨⟨v0, v1⟩, -, -, hr⟩ := aB2 h
 show rdP ([wPolicy, p.n, numW p.v] :: p.r.flatMap jC) = _
 unfold rdP
 simp only
 rw [if_pos ⟨rfl, rfl⟩]
 have : bG (wd [wPolicy, p.n, numW p.v] 2) = some p.v := kO (by omega) v1
 rw [this]
 simp only
 rw [aI1 p.r [] _ hr (by have := aU0 p.r; omega)]; rfl
theorem bA0 {p : Po} (h : wV p = 0) : dpE (rO p) = 0 ∧ dpO (rO p) = p ∧ dpL (rO p) = 0 := by
 have hv : eX p = true := by
  unfold wV at h
  split at h
  ·
   assumption
  ·
   cases h
 have he : lF (oY p) = 0 := by unfold wV at h; rw [if_pos hv] at h; exact h
 have hb : rO p = pR (oY p) := by unfold rO; rw [if_pos hv]
 obtain ⟨h1, h2⟩ := bR8 he
 have hr := bS4 hv
 rw [hb]
 have hE : dpE (pR (oY p)) = 0 := by unfold dpE; rw [if_neg (by rw [h1]; simp), h2, hr]; simp only; rw [if_pos hv]
 exact ⟨hE, by unfold dpO; rw [if_pos hE, h2, hr]; rfl, by unfold dpL; rw [if_neg (by rw [h1]; simp), h2, hr]⟩
end Go.Pl

namespace Go.Pl
open Go Go.Hl

theorem aU1 : ∀ (l : List Nd) (m : Nat) (v : Int), skip m l = some [] → (∀ n ∈ l, bL n = true) → pP l m v = some (0, v + lv l)
 | [], 0, v, _, _ => by simp [pP, lv]
 | [], m + 1, v, h, _ => by cases h
 | n :: l, 0, v, h, _ => by grind [cG]
 | n :: l, m + 1, v, h, hn => by
  have h' : skip (m + n.c.toNat) l = some [] := h
  have hnn := hn n List.mem_cons_self
  obtain ⟨c1, c2, c3, c4⟩ := dK hnn
  have e : ((m + 1 : Nat) : Int) + (n.c - 1) = ((m + n.c.toNat : Nat) : Int) := by omega
  rw [pP, if_neg (by omega), if_pos hnn, e, aU1 l _ _ h' (fun x hx => hn x (List.mem_cons_of_mem _ hx)), lv]
  grind
theorem vT {l : List Nd} (h : IsTree l) : dF l = true := by
 unfold dF
 have := aU1 l 1 0 h.skip h.node
 rw [show ((1 : Nat) : Int) = 1 from rfl] at this
 rw [this]
 have := h.lv
 simp [h.ne, h.len]
 omega
def leB (a b : List Bool) : Prop := a.length = b.length ∧ ∀ i, a.getD i false = true → b.getD i false = true
theorem jF {x y : Bool} {a b : List Bool} : leB (x :: a) (y :: b) ↔ (x = true → y = true) ∧ leB a b := by
 constructor
 ·
  rintro ⟨h1, h2⟩
  exact ⟨fun h => by have := h2 0; grind, by grind, fun i h => by have := h2 (i + 1); grind⟩
 ·
  rintro ⟨h1, h2, h3⟩
  refine ⟨by grind, fun i h => ?_⟩
  cases i with
  | zero => grind
  | succ i => simp_all
theorem aU2 : ∀ {a b : List Bool}, leB a b → cnt a ≤ cnt b
 | [], [], _ => Nat.le_refl _
 | [], _ :: _, h => by simp [leB] at h
 | _ :: _, [], h => by simp [leB] at h
 | x :: a, y :: b, h => by
  obtain ⟨h1, h2⟩ := jF.1 h
  have := aU2 h2
  grind [cnt]
theorem aI2 : ∀ {a b : List Bool} {n : Nat}, leB a b → leB (a.take n) (b.take n)
 | [], [], n, _ => by grind
 | [], _ :: _, _, h => by simp [leB] at h
 | _ :: _, [], _, h => by simp [leB] at h
 | x :: a, y :: b, 0, h => by simp [leB]
 | x :: a, y :: b, n + 1, h => by
  obtain ⟨h1, h2⟩ := jF.1 h
  simp only [List.take_succ_cons]
  exact jF.2 ⟨h1, aI2 h2⟩
theorem aI3 : ∀ {a b : List Bool} {n : Nat}, leB a b → leB (a.drop n) (b.drop n)
 | a, b, 0, h => by grind
 | [], [], n + 1, _ => by grind
 | [], _ :: _, _ + 1, h => by simp [leB] at h
 | _ :: _, [], _ + 1, h => by simp [leB] at h
 | x :: a, y :: b, n + 1, h => by
  simp only [List.drop_succ_cons]
  exact aI3 (jF.1 h).2
theorem aP5 {n : Nd} {a b : List Bool} (h : leB a b) (hh : gT n a = true) : gT n b = true := by
 have h1 := aU2 h
 have h2 := bH5 b
 have h3 := h.1
 unfold gT at hh ⊢
 split at hh
 ·
  grind
 grind
theorem aI4 {T : Nat} {a b : List Bool} (h : ∀ i, a.getD i false = true → b.getD i false = true) : ∀ l : List Nd, leB (evS T a l) (evS T b l)
 | [] => by simp [evS, leB]
 | n :: l => by
  have ih := aI4 (T := T) h l
  simp only [evS]
  split
  ·
   grind [jF]
  ·
   exact jF.2 ⟨aP5 (aI2 ih), aI3 ih⟩
theorem bA1 {l : List Nd} {a b : List Bool} (h : ∀ i, a.getD i false = true → b.getD i false = true) (he : gU l a = true) : gU l b = true := by
 unfold gU at he ⊢
 simp only [Bool.and_eq_true] at he ⊢
 refine ⟨he.1, ?_⟩
 have := aI4 (T := lv l) h l
 revert this he
 cases evS (lv l) a l with
 | nil => grind
 | cons x es =>
  cases evS (lv l) b l with
  | nil => grind [leB]
  | cons y bs => grind [jF]
theorem bS5 (n : Nat) (x : Bool) : cnt (List.replicate n x) = if x then n else 0 := by
 induction n with
 | zero => cases x <;> rfl
 | succ n ih =>
  rw [List.replicate_succ]
  cases x
  all_goals simp_all [cnt, List.filter_cons, id, if_true, List.length_cons]
theorem aU3 {T : Nat} {tr : List Bool} {x : Bool} : ∀ (l : List Nd) (m : Nat), skip m l = some [] → (∀ n ∈ l, bL n = true) → (∀ i, T - lv l ≤ i → i < T → tr.getD i false = x) → lv l ≤ T → evS T tr l = List.replicate m x
 | [], 0, _, _, _, _ => rfl
 | [], m + 1, h, _, _, _ => by cases h
 | n :: l, 0, h, _, _, _ => by grind [cG]
 | n :: l, m + 1, h, hn, ht, hT => by
  have h' : skip (m + n.c.toNat) l = some [] := h
  have hnn := hn n List.mem_cons_self
  obtain ⟨c1, c2, c3, c4⟩ := dK hnn
  have hlv : lv (n :: l) = (if n.k = 1 then 1 else 0) + lv l := rfl
  have ih := aU3 (x := x) l _ h' (fun y hy => hn y (List.mem_cons_of_mem _ hy)) (fun i h1 h2 => ht i (by grind) h2) (by grind)
  rw [evS, ih]
  split
  ·
   grind
  ·
   rename_i hk
   have hc := c4 hk
   have e1 : (List.replicate (m + n.c.toNat) x).take n.c.toNat = List.replicate n.c.toNat x := by rw [List.take_replicate]; congr 1; omega
   have e2 : (List.replicate (m + n.c.toNat) x).drop n.c.toNat = List.replicate m x := by rw [List.drop_replicate]; congr 1; omega
   rw [e1, e2, List.replicate_succ]
   congr 1
   unfold gT
   rw [bS5, List.length_replicate]
   have hN : n.k = 4 → 1 ≤ n.n ∧ n.n ≤ n.c := fun hk4 => by simp_all [bL, if_neg, if_pos, Bool.and_eq_true, lL]
   have hK : n.k = 2 ∨ n.k = 3 ∨ n.k = 4 := by
    unfold bL at hnn
    rw [if_neg hk] at hnn
    split at hnn
    ·
     grind
    ·
     grind
   rcases hK with hk2 | hk3 | hk4
   ·
    grind
   all_goals grind
theorem qE {l : List Nd} (h : IsTree l) {tr : List Bool} {x : Bool} (ht : ∀ i, i < lv l → tr.getD i false = x) : gU l tr = x := by
 unfold gU
 rw [vT h, aU3 l 1 h.skip h.node (fun i _ h2 => ht i h2) (Nat.le_refl _)]
 rfl

end Go.Pl

namespace Go.Pl
open Go Go.Hl

def uni (l : List (Nat × Nat)) : List (Nat × Nat) := l.eraseDups
def vU (f : Nat → List (Nat × Nat)) : Nat → Nat → Nat × Nat → List (Nat × Nat)
 | 0, _, p => [p]
 | c + 1, n, p => uni ((f n).flatMap fun q => vU f c (n + q.1) (p.1 + q.1, p.2 + q.2))
def pos : Nat → Nat → List (Nat × Nat)
 | 0, _ => [(1, 1)]
 | d + 1, n => uni ((1, 1) :: if n ≤ 8 then (List.range 3).flatMap fun c => vU (pos d) (c + 1) (n + 1) (1, 0) else [])
theorem oB {l : List (Nat × Nat)} {p : Nat × Nat} : p ∈ uni l ↔ p ∈ l := by unfold uni; simp_all
theorem yP {f : Nat → List (Nat × Nat)} : ∀ {c n : Nat} {p q r : Nat × Nat}, q ∈ vU f c n p → r ∈ f (n + (q.1 - p.1)) → p.1 ≤ q.1 → (q.1 + r.1, q.2 + r.2) ∈ vU f (c + 1) n p
 | 0, n, p, q, r, hq, hr, _ => by simp_all [vU, List.mem_singleton, Nat.sub_self, Nat.add_zero, oB, List.mem_flatMap]
 | c + 1, n, p, q, r, hq, hr, hpq => by
  unfold vU at hq ⊢
  rw [oB, List.mem_flatMap] at hq ⊢
  obtain ⟨s, hs, hq⟩ := hq
  have hle : p.1 + s.1 ≤ q.1 := by
   have key : ∀ (c n : Nat) (p q : Nat × Nat), q ∈ vU f c n p → p.1 ≤ q.1 := by
    intro c
    induction c with
    | zero => simp_all [vU, List.mem_singleton, Nat.le_refl]
    | succ c ih =>
     grind [vU, oB]
   exact key _ _ _ _ hq
  refine ⟨s, hs, yP hq ?_ hle⟩
  grind
structure Made (d n : Nat) (t : List Nd) : Prop where
 skip : skip 1 t = some []
 node : ∀ n ∈ t, bL n = true
 pos : (t.length, lv t) ∈ pos d n
theorem bS6 {t : List Nd} (h : Made 3 0 t) : IsTree t := by
 have hb : ∀ p ∈ pos 3 0, 1 ≤ p.1 ∧ p.1 ≤ 60 ∧ p.2 ≤ 16 := by decide +kernel
 obtain ⟨h1, h2, h3⟩ := hb _ h.pos
 exact ⟨h1, h2, h.skip, h.node, h3⟩
theorem yQ {d n : Nat} {q : Rq} (h : eL q = true) : Made d n [⟨1, 0, 0, q⟩] := by
 refine ⟨rfl, fun x hx => ?_, ?_⟩
 ·
  simp only [List.mem_singleton] at hx
  subst hx
  unfold bL
  rw [if_pos rfl, h]; rfl
 ·
  cases d with
  | zero => simp [pos, lv]
  | succ d => rw [pos, oB]; exact List.mem_cons_self
structure MadeK (d n k : Nat) (ts : List Nd) : Prop where
 skip : skip k ts = some []
 node : ∀ n ∈ ts, bL n = true
 pos : (1 + ts.length, lv ts) ∈ vU (pos d) k (n + 1) (1, 0)
theorem MadeK.zero (d n : Nat) : MadeK d n 0 [] := ⟨rfl, by simp, by simp [vU, lv]⟩
theorem MadeK.next {d n k : Nat} {ts t : List Nd} (h : MadeK d n k ts) (ht : Made d (n + 1 + ts.length) t) : MadeK d n (k + 1) (ts ++ t) := by
 refine ⟨?_, fun x hx => ?_, ?_⟩
 ·
  rw [eS, jU ts t [] k h.skip]; exact ht.skip
 ·
  rcases List.mem_append.1 hx with hx | hx
  ·
   exact h.node x hx
  ·
   exact ht.node x hx
 ·
  have := yP (r := (t.length, lv t)) h.pos (by
   rw [show n + 1 + (1 + ts.length - 1) = n + 1 + ts.length from by omega]; exact ht.pos) (by simp)
  grind [qZ, Nat.add_assoc]
theorem MadeK.fin {d n : Nat} {ts : List Nd} {x : Nd} {c : Nat} (h : MadeK d n c ts) (hn : n ≤ 8) (hx : bL x = true) (hk : x.k ≠ 1) (hc : x.c = c) (h1 : 1 ≤ c) (h3 : c ≤ 3) : Made (d + 1) n (x :: ts) := by
 refine ⟨?_, fun y hy => ?_, ?_⟩
 ·
  show Pl.skip (0 + x.c.toNat) ts = some []
  rw [hc, Nat.zero_add]; exact h.skip
 ·
  rcases List.mem_cons.1 hy with rfl | hy
  ·
   grind
  ·
   exact h.node y hy
 ·
  rw [Pl.pos, oB]
  refine List.mem_cons_of_mem _ ?_
  rw [if_pos hn, List.mem_flatMap]
  refine ⟨c - 1, List.mem_range.2 (by omega), ?_⟩
  rw [show c - 1 + 1 = c from by omega]
  have := h.pos
  simp_all [lv, if_neg, List.length_cons, Nat.add_comm]

end Go.Pl

namespace Go.Pl
open Go Go.Hl

structure Ms where
 n : aE
 v : Int
 r : List Pr
 o : List Nat
 d : Bool
theorem bJ4 : ∀ (f : Nat), (∀ ls t r, rdN f ls = (some t, r) → r.length < ls.length) ∧ (∀ ls p r, rdK f ls = (some p, r) → r.length < ls.length)
 | 0 => ⟨fun ls t r h => (by simp only [rdN] at h; cases h), fun ls p r h => (by simp only [rdK] at h; cases h)⟩
 | f + 1 => by
  obtain ⟨ihN, ihK⟩ := bJ4 f
  refine ⟨fun ls t r h => ?_, fun ls p r h => ?_⟩
  ·
   cases ls with
   | nil => simp only [rdN] at h; cases h
   | cons w rest =>
    simp only [rdN] at h
    split at h
    ·
     cases h; simp
    ·
     split at h
     ·
      cases h
     ·
      cases hk : rdK f rest with
      | mk o r' =>
       rw [hk] at h
       cases o with
       | none => cases h
       | some p =>
        cases h
        have := ihK _ _ _ hk
        simp only [List.length_cons]; omega
  ·
   simp only [rdK] at h
   split at h
   ·
    rename_i he
    cases h
    cases ls with
    | nil => simp [gV] at he
    | cons w rest => simp
   ·
    cases h1 : rdN f ls with
    | mk o r1 =>
     rw [h1] at h
     cases o with
     | none => cases h
     | some t =>
      simp only at h
      cases h2 : rdK f r1 with
      | mk o2 r2 =>
       rw [h2] at h
       cases o2 with
       | none => cases h
       | some q =>
        cases h
        have a := ihN _ _ _ h1
        have b := ihK _ _ _ h2
        omega
theorem innR_c {w : List aE} {n : Nd} (h : jE w = some n) : n.c = 0 ∧ gV w = false := by
 refine ⟨?_, ?_⟩
 ·
  unfold jE at h
  split at h
  ·
   cases h; rfl
  split at h
  ·
   cases h; rfl
  split at h
  ·
   cases hv : bG (wd w 1) with
   | none => rw [hv] at h; cases h
   | some m => rw [hv] at h; cases h; rfl
  ·
   cases h
 ·
  cases he : gV w with
  | false => rfl
  | true => rw [yO he] at h; cases h
end Go.Pl

namespace Go.Pl
open Go Go.Hl

theorem vV {w : aE} (h : eD w = true) : 1 ≤ w.length ∧ w.length ≤ 64 := by
 cases w with
 | nil => cases h
 | cons c r =>
  simp_all [eD, Bool.and_eq_true, decide_eq_true_eq]
def bJ5 (p : Po) : Prop := eX p = true ∧ p.r.length ≤ 2 ∧ ∀ r ∈ p.r, r.b.length ≤ 80 ∧ r.c.length ≤ 80 ∧ r.t.length ≤ 40
end Go.Pl

namespace Go.Pl
open Go Go.Hl

def yR (ns im : aE) (r : Pr) : Bool := lG r.b ns && lG r.c im
def bJ6 (p : Po) (ns im : aE) : Int := if eX p then match p.r.findIdx? (yR ns im) with | some i => (i : Int) | none => -1 else -1
theorem bJ7 {p : Po} {ns im : aE} (hp : eX p = false) : bJ6 p ns im = -1 := by
 unfold bJ6; rw [if_neg (by rw [hp]; simp)]
def aI5 (n : Int) : Nd := ⟨1, 0, 0, ⟨1, n, 0, []⟩⟩
def awT : List Nd := [⟨4, 2, 3, rq0⟩, aI5 1, aI5 2, aI5 3]
def awP : Po := ⟨[112], 1, [⟨[114], [112, 114, 111, 100, 47, 42, 42], [42], 5, awT⟩]⟩
theorem bZ5 : dF awT = true := by decide
theorem bZ6 : eX awP = true := by decide +kernel
theorem bJ8 : gU awT [true, false, true] = true := by decide
theorem bJ9 : gU awT [true] = false := by decide
theorem kQ : (gN awT).length = 3 := by decide
theorem qF : (rJ awT 0).length = 3 := by decide
theorem bZ7 : bJ6 awP [112, 114, 111, 100, 47, 101, 117] [119, 101, 98] = 0 := by decide +kernel
end Go.Pl

namespace Go.Pl
open Go Go.Hl
theorem bEq {c d : UInt8} (h : ((c.toNat : Int) == (d.toNat : Int)) = true) : c = d := by
 have h1 := eq_of_beq h
 exact UInt8.toNat_inj.1 (by omega)
theorem bNe {c d : UInt8} (h : ((c.toNat : Int) == (d.toNat : Int)) = false) : c ≠ d := by
 intro e; subst e; simp at h
theorem aI6 {l : List UInt8} {c : UInt8} (h : ¬ dB l c < 0) : c ∈ l := by
 unfold dB at h
 cases e : l.findIdx? (· == c) with
 | none => rw [e] at h; simp at h
 | some i =>
  obtain ⟨hi, h1, _⟩ := List.findIdx?_eq_some_iff_getElem.1 e
  have := eq_of_beq h1
  rw [← this]; exact List.getElem_mem hi
theorem sY {l : List UInt8} {c : UInt8} (h : dB l c < 0) : c ∉ l := by
 unfold dB at h
 cases e : l.findIdx? (· == c) with
 | none =>
  intro hc
  have := List.findIdx?_eq_none_iff.1 e c hc
  simp at this
 | some i => rw [e] at h; simp only at h; omega
theorem aI7 {p : aE} (h : p.length < 1 ∨ 200 < p.length) : gJ p = none := by unfold gJ; rw [if_pos h]
theorem aU4 {p : aE} (h1 : 1 ≤ p.length) (h2 : p.length ≤ 200) : gJ p = patP p := by unfold gJ; rw [if_neg (by omega)]
end Go.Pl

namespace Go.Proofs.YtlldglbooaefhaaDoor
open Go Go.Hl Go.Pl
set_option maxRecDepth 10000
set_option maxHeartbeats 16000000

theorem aI8 (p : aE) : mP Tryd.prog 53 [.str p] (fun u v => u = .slc (((gJ p).getD []).map Pt.cv) ∧ v = .bool (gJ p).isSome) := by
 refine FW Tryd.func53 ?_
 refine R0 ?_
 refine aC fun K hK => ?_
 refine aC fun K hK => Rg ?_
 iterate 4 refine S0 ?_
 refine aH 8 rfl (fun h1_8 => ?_) (fun h1_8 => ?_)
 ·
  have F := h1_8
  iterate 9 refine SF ?_
  refine T2 (hK _ _ _ ?_)
  clear hK K
  refine CT rfl ?_
  refine R0 ?_
  refine aF (RT Tryd.results53 ?_)
  have hn : gJ p = none := aI7 (by simp at h1_8; omega)
  refine bE [] (.slc []) (.bool false) ?_ ⟨by rw [hn]; rfl, by rw [hn]; rfl⟩
  simp [HV.close, HV.closeL, CV.denil, CV.denilL, HV.norm, HV.toC, HV.toCL]
 have F := h1_8
 iterate 5 refine SF ?_
 refine aH 12 rfl (fun h1_12 => ?_) (fun h1_12 => ?_)
 ·
  have F := aI h1_8 h1_12
  iterate 4 refine SF ?_
  refine T2 (hK _ _ _ ?_)
  clear hK K
  refine CT rfl ?_
  refine R0 ?_
  refine aF (RT Tryd.results53 ?_)
  have hn : gJ p = none := aI7 (by simp at h1_12; omega)
  refine bE [] (.slc []) (.bool false) ?_ ⟨by rw [hn]; rfl, by rw [hn]; rfl⟩
  simp [HV.close, HV.closeL, CV.denil, CV.denilL, HV.norm, HV.toC, HV.toCL]
 have F := aI h1_8 h1_12
 refine SF ?_
 refine aX (g := some (14, false)) rfl rfl fun K' hK' => T6 ?_
 refine C2 (pZ p 0) ?_
 rintro u rfl
 refine AX (hK' _ _ ?_)
 clear hK' K'
 iterate 2 refine SF ?_
 refine aH 17 rfl (fun h1_17 => ?_) (fun h1_17 => ?_)
 ·
  simp only [h1_17]
  refine T2 (hK _ _ _ ?_)
  clear hK K
  refine CT rfl ?_
  refine R0 ?_
  refine aF (RT Tryd.results53 ?_)
  have hn : gJ p = none := by
   rw [aU4 (by simp at h1_8; omega) (by simp at h1_12; omega)]
   exact iQ p.length p (Nat.le_refl _) (aI6 (by simpa using h1_17))
  refine bE [] (.slc []) (.bool false) ?_ ⟨by rw [hn]; rfl, by rw [hn]; rfl⟩
  simp [HV.close, HV.closeL, CV.denil, CV.denilL, HV.norm, HV.toC, HV.toCL]
 simp only [h1_17]
 refine T2 (hK _ _ _ ?_)
 clear hK K
 refine CF rfl ?_
 refine aJ ?_
 refine T0 (hK _ _ _ ?_)
 clear hK K
 have hpv := aU4 (p := p) (by simp at h1_8; omega) (by simp at h1_12; omega)
 have hl : p.length ≤ 200 := by simp at h1_12; omega
 have hz0 : (0 : UInt8) ∉ p := sY (by simpa using h1_17)
 have hz : ∀ (i : Nat) (h : i < p.length), p[i] ≠ 0 := fun i h e => hz0 (e ▸ List.getElem_mem h)
 clear h1_8 h1_12 h1_17
 refine R0 ?_
 refine aC fun K hK => ?_
 refine R0 ?_
 refine aK ?_
 refine uP 4 0 120 2 rfl rfl rfl rfl ?_
 refine bN (α := {y : Nat × List Pt // PatSt p y.1 y.2}) (fun y => (fin [(0, .c (.str p)), (4, .own 68 y.1.2.length), (5, .c (.int .i64 y.1.1))], fob [(68, .row 120 2 (y.1.2.map Pt.cv))])) 100 (fun y => p.length - y.1.1) ⟨(0, []), PatSt.init p⟩ (fF) ?_
 rintro ⟨⟨i, out⟩, hst⟩
 simp only at hst
 have hi := hst.1
 have ho := hst.2.2.1
 refine aC fun K hK => ?_
 refine aC fun K hK => Rg ?_
 iterate 4 refine S0 ?_
 refine T2 (hK _ _ _ ?_)
 clear hK K
 refine aG (b := decide ((i : Int) < p.length)) rfl (fun hb => ?_) (fun hb => ?_)
 ·
  have hlt : i < p.length := by simpa using hb
  clear hb
  have hgd : p.getD i 0 = p[i] := by simp [hlt]
  have hw1 : IntKind.i64.wrap ((i : Int) + 1) = ((i + 1 : Nat) : Int) := by rw [IntWalk.i64_in _ (by omega)]; rfl
  have hw2 : IntKind.i64.wrap (((i + 1 : Nat) : Int) + 1) = ((i + 2 : Nat) : Int) := by rw [IntWalk.i64_in _ (by omega)]; rfl
  refine aJ ?_
  refine T0 (hK _ _ _ ?_)
  clear hK K
  refine aC fun K hK => ?_
  refine aK ?_
  refine aK ?_
  refine aC fun K hK => Rg ?_
  iterate 5 refine S0 ?_ (e := fun _ h_ => by simp only [sH, ↓sP, sA, tyS, simprocAttr, Int.natCast_nonneg, Int.ofNat_lt, hlt, hgd]; exact AX h_)
  refine T2 (hK _ _ _ ?_)
  clear hK K
  refine aG (b := ((p[i].toNat : Int) == 92)) rfl (fun hb => ?_) (fun hb => ?_)
  ·
   have h92 : p[i] = 92 := bEq (d := 92) hb
   clear hb
   have F := hw1
   refine RF ?_
   refine aC fun K hK => ?_
   refine aC fun K hK => Rg ?_
   iterate 4 refine S0 ?_
   refine T2 (hK _ _ _ ?_)
   clear hK K
   refine aG (b := (((i + 1 : Nat) : Int) == ((p.length : Nat) : Int))) rfl (fun hb => ?_) (fun hb => ?_)
   ·
    have hie : i + 1 = p.length := by have := eq_of_beq hb; omega
    refine R0 ?_
    refine aF (RT Tryd.results53 ?_)
    have hn : gJ p = none := by rw [hpv]; exact hst.bad (aY1 hlt h92 hie)
    refine bE [] (.slc []) (.bool false) ?_ ⟨by rw [hn]; rfl, by rw [hn]; rfl⟩
    simp [HV.close, HV.closeL, CV.denil, CV.denilL, HV.norm, HV.toC, HV.toCL]
   have hi1 : i + 1 < p.length := by
    have : ¬ i + 1 = p.length := by rintro e; rw [e] at hb; simp at hb
    omega
   clear hb
   have hg1 : p.getD (i + 1) 0 = p[i + 1] := by simp [hi1]
   refine aJ ?_
   refine T0 (hK _ _ _ ?_)
   clear hK K
   refine Rg ?_
   have F := aI @Int.natCast_nonneg (aI @Int.ofNat_lt (aI hi1 (aI hg1 (aI @List.length_append.{0} @List.length_map.{0,0}))))
   iterate 8 refine SF ?_
   refine T2 (hK _ _ _ ?_)
   clear hK K
   refine aM (by kernel_rfl) ?_
   refine TQ hw2 ?_
   refine ⟨⟨(i + 2, out ++ [⟨0, p[i + 1]⟩]), hst.step (k := 2) (by omega) (by omega) (by simp) (bF7 hi1 h92 (hz (i + 1) hi1))⟩, aN (by omega) ?_ ?_, ?_⟩
   ·
    simp [bA, upd_at, fin_at, HV.men]
   ·
    simp only [aZ, List.map_append]
    exact ⟨rfl, by omega, trivial, trivial⟩
   show p.length - (i + 2) < p.length - i
   omega
  have h92 : p[i] ≠ 92 := bNe (d := 92) hb
  clear hb
  refine aC fun K hK => Rg ?_
  iterate 5 refine S0 ?_ (e := fun _ h_ => by simp only [sH, ↓sP, sA, tyS, simprocAttr, Int.natCast_nonneg, Int.ofNat_lt, hlt, hgd]; exact AX h_)
  refine T2 (hK _ _ _ ?_)
  clear hK K
  refine aG (b := ((p[i].toNat : Int) == 63)) rfl (fun hb => ?_) (fun hb => ?_)
  ·
   have h63 : p[i] = 63 := bEq (d := 63) hb
   clear hb
   refine Rg ?_
   have F := aI @List.length_append.{0} @List.length_map.{0,0}
   iterate 5 refine SF ?_
   refine T2 (hK _ _ _ ?_)
   clear hK K
   refine aM (by kernel_rfl) ?_
   refine TQ hw1 ?_
   refine ⟨⟨(i + 1, out ++ [⟨1, 0⟩]), hst.step (k := 1) (by omega) (by omega) (by simp) (bY9 hlt h63)⟩, aN (by omega) ?_ ?_, ?_⟩
   ·
    simp [bA, upd_at, fin_at, HV.men]
   ·
    simp only [aZ, List.map_append]
    exact ⟨rfl, by omega, trivial, trivial⟩
   show p.length - (i + 1) < p.length - i
   omega
  have h63 : p[i] ≠ 63 := bNe (d := 63) hb
  clear hb
  by_cases h42 : p[i] = 42
  ·
   by_cases hi1 : i + 1 < p.length
   ·
    by_cases h43 : p[i + 1] = 42
    ·
     have hd42 : ((p[i].toNat : Int) == 42) = true := by rw [h42]; rfl
     have hg1 : p.getD (i + 1) 0 = p[i + 1] := by simp [hi1]
     have hd43 : ((p[i + 1].toNat : Int) == 42) = true := by rw [h43]; rfl
     refine aC fun K hK => Rg ?_
     iterate 19 refine S0 ?_ (e := fun _ h_ => by simp only [sH, ↓sP, sA, tyS, simprocAttr, Int.natCast_nonneg, Int.ofNat_lt, hlt, hgd, hw1, hi1, hg1, hd42, hd43, decide_true]; exact AX h_)
     refine T2 (hK _ _ _ ?_)
     clear hK K
     refine CT rfl ?_
     have F := hw1
     refine RF ?_
     refine Rg ?_
     have F := aI @List.length_append.{0} @List.length_map.{0,0}
     iterate 5 refine SF ?_
     refine T2 (hK _ _ _ ?_)
     clear hK K
     refine aM (by kernel_rfl) ?_
     refine TQ hw2 ?_
     refine ⟨⟨(i + 2, out ++ [⟨3, 0⟩]), hst.step (k := 2) (by omega) (by omega) (by simp) (bQ1 hi1 h42 h43)⟩, aN (by omega) ?_ ?_, ?_⟩
     ·
      simp [bA, upd_at, fin_at, HV.men]
     ·
      simp only [aZ, List.map_append]
      exact ⟨rfl, by omega, trivial, trivial⟩
     show p.length - (i + 2) < p.length - i
     omega
    have hd42 : ((p[i].toNat : Int) == 42) = true := by rw [h42]; rfl
    have hg1 : p.getD (i + 1) 0 = p[i + 1] := by simp [hi1]
    have hd43 : ((p[i + 1].toNat : Int) == 42) = false := by rw [show (42 : Int) = ((42 : UInt8).toNat : Int) from rfl, bR2]; simpa using h43
    refine aC fun K hK => Rg ?_
    iterate 19 refine S0 ?_ (e := fun _ h_ => by simp only [sH, ↓sP, sA, tyS, simprocAttr, Int.natCast_nonneg, Int.ofNat_lt, hlt, hgd, hw1, hi1, hg1, hd42, hd43, decide_true]; exact AX h_)
    refine T2 (hK _ _ _ ?_)
    clear hK K
    refine CF rfl ?_
    refine aC fun K hK => Rg ?_
    iterate 5 refine S0 ?_ (e := fun _ h_ => by simp only [sH, ↓sP, sA, tyS, simprocAttr, Int.natCast_nonneg, Int.ofNat_lt, hlt, hgd, hd42]; exact AX h_)
    refine T2 (hK _ _ _ ?_)
    clear hK K
    refine CT rfl ?_
    refine Rg ?_
    have F := aI @List.length_append.{0} @List.length_map.{0,0}
    iterate 5 refine SF ?_
    refine T2 (hK _ _ _ ?_)
    clear hK K
    refine aM (by kernel_rfl) ?_
    refine TQ hw1 ?_
    refine ⟨⟨(i + 1, out ++ [⟨2, 0⟩]), hst.step (k := 1) (by omega) (by omega) (by simp) (bF8 hlt h42 fun _ => h43)⟩, aN (by omega) ?_ ?_, ?_⟩
    ·
     simp [bA, upd_at, fin_at, HV.men]
    ·
     simp only [aZ, List.map_append]
     exact ⟨rfl, by omega, trivial, trivial⟩
    show p.length - (i + 1) < p.length - i
    omega
   have hd42 : ((p[i].toNat : Int) == 42) = true := by rw [h42]; rfl
   have hdi : decide (((i + 1 : Nat) : Int) < ((p.length : Nat) : Int)) = false := by simp; omega
   refine aC fun K hK => Rg ?_
   iterate 19 refine S0 ?_ (e := fun _ h_ => by simp only [sH, ↓sP, sA, tyS, simprocAttr, Int.natCast_nonneg, hdi, hlt, hgd, hw1, hd42]; exact AX h_)
   refine T2 (hK _ _ _ ?_)
   clear hK K
   refine CF rfl ?_
   refine aC fun K hK => Rg ?_
   iterate 5 refine S0 ?_ (e := fun _ h_ => by simp only [sH, ↓sP, sA, tyS, simprocAttr, Int.natCast_nonneg, Int.ofNat_lt, hlt, hgd, hd42]; exact AX h_)
   refine T2 (hK _ _ _ ?_)
   clear hK K
   refine CT rfl ?_
   refine Rg ?_
   have F := aI @List.length_append.{0} @List.length_map.{0,0}
   iterate 5 refine SF ?_
   refine T2 (hK _ _ _ ?_)
   clear hK K
   refine aM (by kernel_rfl) ?_
   refine TQ hw1 ?_
   refine ⟨⟨(i + 1, out ++ [⟨2, 0⟩]), hst.step (k := 1) (by omega) (by omega) (by simp) (bF8 hlt h42 fun h => absurd h hi1)⟩, aN (by omega) ?_ ?_, ?_⟩
   ·
    simp [bA, upd_at, fin_at, HV.men]
   ·
    simp only [aZ, List.map_append]
    exact ⟨rfl, by omega, trivial, trivial⟩
   show p.length - (i + 1) < p.length - i
   omega
  have hd42 : ((p[i].toNat : Int) == 42) = false := by rw [show (42 : Int) = ((42 : UInt8).toNat : Int) from rfl, bR2]; simpa using h42
  refine aC fun K hK => Rg ?_
  iterate 19 refine S0 ?_ (e := fun _ h_ => by simp only [sH, ↓sP, sA, tyS, simprocAttr, Int.natCast_nonneg, Int.ofNat_lt, hlt, hgd, hw1, hd42]; exact AX h_)
  refine T2 (hK _ _ _ ?_)
  clear hK K
  refine CF rfl ?_
  refine aC fun K hK => Rg ?_
  iterate 5 refine S0 ?_ (e := fun _ h_ => by simp only [sH, ↓sP, sA, tyS, simprocAttr, Int.natCast_nonneg, Int.ofNat_lt, hlt, hgd, hd42]; exact AX h_)
  refine T2 (hK _ _ _ ?_)
  clear hK K
  refine CF rfl ?_
  refine Rg ?_
  iterate 8 refine S0 ?_ (e := fun _ h_ => by simp only [sH, ↓sP, sA, tyS, simprocAttr, Int.natCast_nonneg, Int.ofNat_lt, hlt, hgd, List.length_append, List.length_map]; exact AX h_)
  refine T2 (hK _ _ _ ?_)
  clear hK K
  refine aM (by kernel_rfl) ?_
  refine TQ hw1 ?_
  refine ⟨⟨(i + 1, out ++ [⟨0, p[i]⟩]), hst.step (k := 1) (by omega) (by omega) (by simp) (bZ0 hlt (hz i hlt) h92 h63 h42)⟩, aN (by omega) ?_ ?_, ?_⟩
  ·
   simp [bA, upd_at, fin_at, HV.men]
  ·
   simp only [aZ, List.map_append]
   exact ⟨rfl, by omega, trivial, trivial⟩
  show p.length - (i + 1) < p.length - i
  omega
 refine bB (T3 ?_)
 clear hK K
 refine AX (hK _ _ _ ?_)
 clear hK K
 have hei : i = p.length := by simp at hb; omega
 have hfin : gJ p = some out := by rw [hpv]; exact hst.fin hei
 refine R0 ?_
 refine aF (RT Tryd.results53 ?_)
 refine bE [68] (.slc (out.map Pt.cv)) (.bool true) ?_ ⟨by rw [hfin]; rfl, by rw [hfin]; rfl⟩
 simp [HV.close, fob_at, upd_at, HV.norm, HV.toC, HV.closeL, HV.toCL, CV.denil, denilL_Pt]


end Go.Proofs.YtlldglbooaefhaaDoor

namespace Go.Pl
open Go Go.Hl
def qG (c : UInt8) (l : aE) : aE := match l.findIdx? (· == c) with | some i => l.take i | none => l
def vW (c : UInt8) (l : aE) : aE := match l.findIdx? (· == c) with | some i => l.drop (i + 1) | none => []
def tI (c : UInt8) (l : aE) : Bool := (l.findIdx? (· == c)).isSome
theorem qH {c : UInt8} {l : aE} {i : Nat} (h : dB l c = (i : Int)) : i < l.length ∧ qG c l = l.take i ∧ vW c l = l.drop (i + 1) ∧ tI c l = true := by
 unfold dB at h
 cases e : l.findIdx? (· == c) with
 | none => grind
 | some j =>
  grind [List.findIdx?_eq_some_iff_getElem, qG, vW, tI]
theorem qI {c : UInt8} {l : aE} (h : dB l c < 0) : qG c l = l ∧ vW c l = [] ∧ tI c l = false := by grind [dB, qG, vW, tI]
theorem yS (c : UInt8) (l : aE) : aR c l = if tI c l then qG c l :: aR c (vW c l) else [qG c l] := by
 by_cases h : dB l c < 0
 all_goals grind [qI, mN, dS, qH]
theorem aI9 {c : UInt8} {l : aE} (h : tI c l = true) : (vW c l).length < l.length := by
 by_cases h0 : dB l c < 0
 ·
  simp_all [qI]
 ·
  obtain ⟨i, hi, hil, _⟩ := dS h0
  rw [(qH hi).2.2.1]; grind
def PathSt (p : aE) (m : Bool) (s : aE) : Prop := s.length ≤ 200 ∧ (aR 47 p).all jR = if m then (aR 47 s).all jR else true
theorem PathSt.step {p s : aE} (h : PathSt p true s) (hg : jR (qG 47 s) = true) : PathSt p (tI 47 s) (vW 47 s) := by
 refine ⟨?_, ?_⟩
 ·
  cases hf : tI 47 s with
  | true => have := aI9 hf; have := h.1; omega
  | false =>
   by_cases h0 : dB s 47 < 0
   all_goals grind [qI, dS, qH]
 ·
  rw [h.2, if_pos rfl, yS 47 s]
  grind
theorem PathSt.bad {p s : aE} (h : PathSt p true s) (hg : jR (qG 47 s) = false) : (aR 47 p).all jR = false := by
 rw [h.2, if_pos rfl, yS 47 s]
 grind
theorem bK0 {p : aE} (h1 : 1 ≤ p.length) (h2 : p.length ≤ 200) (h0 : (0 : UInt8) ∉ p) : jS p = (aR 47 p).all jR := by grind [jS]
theorem yT {p : aE} (h : p.length < 1 ∨ 200 < p.length) : jS p = false := by grind [jS, decide_eq_false]
theorem aP6 {p : aE} (h : (0 : UInt8) ∈ p) : jS p = false := by
 unfold jS; grind
theorem vX {w : aE} (h : w = [] ∨ w = [46] ∨ w = [46, 46]) : jR w = false := by
 rcases h with h | h | h <;> subst h <;> rfl
theorem bA2 {w : aE} (h1 : w ≠ []) (h2 : w ≠ [46]) (h3 : w ≠ [46, 46]) : jR w = true := by grind [jR]
end Go.Pl

namespace Go.Proofs.YtlldglbooaefhaaDoor
open Go Go.Hl Go.Pl
set_option maxRecDepth 10000
set_option maxHeartbeats 16000000

theorem bK1 (l : aE) (c : UInt8) (hl : l.length < 2 ^ 40) : aA3 Tryd.prog 92 [.str l, .str [c]] (fun u v x => u = .str (qG c l) ∧ v = .str (vW c l) ∧ x = .bool (tI c l)) := by
 refine FW Tryd.func92 ?_
 refine R0 ?_
 refine aC fun K hK => ?_
 refine aC fun K hK => Rg ?_
 iterate 2 refine S0 ?_
 refine HS rfl rfl fun K' hK' => T5 ?_
 refine C2 (aO6 l c) ?_
 rintro u rfl
 refine AX (hK' _ _ ?_)
 clear hK' K'
 refine S0 ?_
 refine T2 (hK _ _ _ ?_)
 clear hK K
 refine R0 ?_
 refine aG (b := decide ((0 : Int) ≤ dB l c)) rfl (fun hb => ?_) (fun hb => ?_)
 ·
  have hn : ¬ dB l c < 0 := by simp at hb; omega
  obtain ⟨i, hi, hil, hsp⟩ := dS hn
  obtain ⟨_, c1, c2, c3⟩ := qH hi
  have htd : List.take (l.length - (i + 1)) (List.drop (i + 1) l) = List.drop (i + 1) l := List.take_of_length_le (by simp)
  have hil1 : i + 1 ≤ l.length := hil
  have hil0 : i ≤ l.length := by omega
  rw [hi]
  refine aC fun K hK => QR ?_
  have F := aI @Int.natCast_nonneg (aI @Int.ofNat_le (aI @Int.sub_zero (aI @Nat.sub_zero (aI @List.drop_zero.{0} (aI hil0 (aI hil1 (aI htd (show IntKind.i64.wrap ((i : Int) + 1) = ((i + 1 : Nat) : Int) from by rw [IntWalk.i64_in _ (by omega)]; rfl))))))))
  iterate 12 refine SF ?_
  refine T2 (hK _ _ _ ?_)
  clear hK K
  refine aF (RT Tryd.results92 ?_)
  exact iZ [] (.str (l.take i)) (.str (l.drop (i + 1))) (.bool true) rfl ⟨by rw [c1], by rw [c2], by rw [c3]⟩
 have hn : dB l c < 0 := by simp at hb; omega
 obtain ⟨c1, c2, c3⟩ := qI hn
 refine aJ ?_
 refine T0 (hK _ _ _ ?_)
 clear hK K
 refine aC fun K hK => Rg ?_
 iterate 4 refine S0 ?_
 refine T2 (hK _ _ _ ?_)
 clear hK K
 refine aF (RT Tryd.results92 ?_)
 exact iZ [] (.str l) (.str []) (.bool false) rfl ⟨by rw [c1], by rw [c2], by rw [c3]⟩


theorem bS7 (l : aE) (c : UInt8) (hl : l.length < 2 ^ 40) : aA3 Tryd.prog 79 [.str l, .str [c]] (fun u v x => u = .str (qG c l) ∧ v = .str (vW c l) ∧ x = .bool (tI c l)) := by
 refine FW Tryd.func79 ?_
 refine R0 ?_
 refine aC fun K hK => Rg ?_
 iterate 2 refine S0 ?_
 refine HS rfl rfl fun K' hK' => T5 ?_
 refine oV (args := [_, _]) (bK1 l c hl) ⟨rfl, rfl, rfl, rfl⟩ ?_
 rintro u v x ⟨rfl, rfl, rfl⟩
 refine AX (hK' _ _ ?_)
 clear hK' K'
 iterate 6 refine S0 ?_
 refine T2 (hK _ _ _ ?_)
 clear hK K
 refine aF (RT Tryd.results79 ?_)
 exact iZ [] _ _ _ rfl ⟨rfl, rfl, rfl⟩


theorem aU5 (p : aE) : cF Tryd.prog 35 [.str p] (fun v => v = .bool (gJ p).isSome) := by
 refine FW Tryd.func35 ?_
 refine R0 ?_
 refine aC fun K hK => Rg ?_
 refine S0 ?_
 refine HS rfl rfl fun K' hK' => T5 ?_
 refine D1 (aI8 p) ?_
 rintro u v ⟨rfl, rfl⟩
 refine AX (hK' _ _ ?_)
 clear hK' K'
 iterate 5 refine S0 ?_
 refine T2 (hK _ _ _ ?_)
 clear hK K
 refine R0 ?_
 refine aF (RT Tryd.results35 ?_)
 exact aL [] _ rfl rfl



theorem aU6 (p : aE) : cF Tryd.prog 62 [.str p] (fun v => v = .bool (jS p)) := by
 refine FW Tryd.func62 ?_
 refine R0 ?_
 refine aC fun K hK => ?_
 refine aC fun K hK => Rg ?_
 iterate 4 refine S0 ?_
 refine aH 7 rfl (fun h1_7 => ?_) (fun h1_7 => ?_)
 ·
  have F := h1_7
  iterate 9 refine SF ?_
  refine T2 (hK _ _ _ ?_)
  clear hK K
  refine CT rfl ?_
  refine R0 ?_
  refine aF (RT Tryd.results62 ?_)
  exact aL [] (.bool false) rfl (by rw [yT (by simp at h1_7; omega)])
 have F := h1_7
 iterate 5 refine SF ?_
 refine aH 11 rfl (fun h1_11 => ?_) (fun h1_11 => ?_)
 ·
  clear F
  have F := aI h1_7 h1_11
  iterate 4 refine SF ?_
  refine T2 (hK _ _ _ ?_)
  clear hK K
  refine CT rfl ?_
  refine R0 ?_
  refine aF (RT Tryd.results62 ?_)
  exact aL [] (.bool false) rfl (by rw [yT (by simp at h1_11; omega)])
 clear F
 have F := aI h1_7 h1_11
 refine SF ?_
 refine aX (g := some (13, false)) rfl rfl fun K' hK' => T6 ?_
 refine C2 (pZ p 0) ?_
 rintro u rfl
 refine AX (hK' _ _ ?_)
 clear hK' K'
 iterate 2 refine SF ?_
 refine aH 16 rfl (fun h1_16 => ?_) (fun h1_16 => ?_)
 ·
  simp only [h1_16]
  refine T2 (hK _ _ _ ?_)
  clear hK K
  refine CT rfl ?_
  refine R0 ?_
  refine aF (RT Tryd.results62 ?_)
  exact aL [] (.bool false) rfl (by rw [aP6 (aI6 (by simpa using h1_16))])
 simp only [h1_16]
 refine T2 (hK _ _ _ ?_)
 clear hK K
 refine CF rfl ?_
 refine aJ ?_
 refine T0 (hK _ _ _ ?_)
 clear hK K
 refine aC fun K hK => ?_
 have hl : p.length ≤ 200 := by simp at h1_11; omega
 have hpv := bK0 (p := p) (by simp at h1_7; omega) hl (sY (by simpa using h1_16))
 clear h1_7 h1_11 h1_16
 refine R0 ?_
 refine aK ?_
 refine bN (α := {y : Bool × aE // PathSt p y.1 y.2}) (fun y => (fin [(0, .c (.str y.1.2)), (3, .c (.bool y.1.1))], fob [])) 100 (fun y => if y.1.1 then y.1.2.length + 1 else 0) ⟨(true, p), hl, by simp⟩ (fF) ?_
 rintro ⟨⟨m, s⟩, hst⟩
 simp only at hst
 have hs := hst.1
 refine aC fun K hK => ?_
 refine R0 ?_
 refine aG (b := m) rfl (fun hb => ?_) (fun hb => ?_)
 ·
  subst hb
  refine aJ ?_
  refine T0 (hK _ _ _ ?_)
  clear hK K
  refine aK ?_
  refine R0 ?_
  refine aC fun K hK => Rg ?_
  refine S0 ?_
  refine HS rfl rfl fun K' hK' => T5 ?_
  refine oV (args := [_, _]) (bS7 s 47 (by omega)) ⟨rfl, rfl, rfl, rfl⟩ ?_
  rintro u v x ⟨rfl, rfl, rfl⟩
  refine AX (hK' _ _ ?_)
  clear hK' K'
  iterate 7 refine S0 ?_
  refine T2 (hK _ _ _ ?_)
  clear hK K
  refine aC fun K hK => Rg ?_
  iterate 3 refine S0 ?_
  refine aH 26 rfl (fun h7_26 => ?_) (fun h7_26 => ?_)
  ·
   clear F
   have F := h7_26
   iterate 7 refine SF ?_
   refine T2 (hK _ _ _ ?_)
   clear hK K
   refine CT rfl ?_
   refine R0 ?_
   refine aF (RT Tryd.results62 ?_)
   have hg : jR (qG 47 s) = false := vX (.inl (eq_of_beq h7_26))
   exact aL [] (.bool false) rfl (by rw [hpv, hst.bad hg])
  clear F
  have F := h7_26
  iterate 4 refine SF ?_
  refine aH 29 rfl (fun h7_29 => ?_) (fun h7_29 => ?_)
  ·
   clear F
   have F := aI h7_26 h7_29
   iterate 3 refine SF ?_
   refine T2 (hK _ _ _ ?_)
   clear hK K
   refine CT rfl ?_
   refine R0 ?_
   refine aF (RT Tryd.results62 ?_)
   have hg : jR (qG 47 s) = false := vX (.inr (.inl (eq_of_beq h7_29)))
   exact aL [] (.bool false) rfl (by rw [hpv, hst.bad hg])
  clear F
  have F := aI h7_26 h7_29
  iterate 3 refine SF ?_
  refine aH 33 rfl (fun h7_33 => ?_) (fun h7_33 => ?_)
  ·
   simp only [h7_33]
   refine T2 (hK _ _ _ ?_)
   clear hK K
   refine CT rfl ?_
   refine R0 ?_
   refine aF (RT Tryd.results62 ?_)
   have hg : jR (qG 47 s) = false := vX (.inr (.inr (eq_of_beq h7_33)))
   exact aL [] (.bool false) rfl (by rw [hpv, hst.bad hg])
  simp only [h7_33]
  refine T2 (hK _ _ _ ?_)
  clear hK K
  refine CF rfl ?_
  refine aJ (T3 ?_)
  have hg : jR (qG 47 s) = true := bA2 (by simpa using h7_26) (by simpa using h7_29) (by simpa using h7_33)
  refine ⟨⟨(tI 47 s, vW 47 s), hst.step hg⟩, fF, ?_⟩
  show (if tI 47 s = true then (vW 47 s).length + 1 else 0) < if true = true then s.length + 1 else 0
  rw [if_pos rfl]
  split
  ·
   rename_i h
   have := aI9 h
   omega
  omega
 subst hb
 refine bB (T3 ?_)
 clear hK K
 refine AX (hK _ _ _ ?_)
 clear hK K
 refine R0 ?_
 refine aF (RT Tryd.results62 ?_)
 exact aL [] (.bool true) rfl (by rw [hpv, hst.2]; rfl)


end Go.Proofs.YtlldglbooaefhaaDoor

namespace Go.Proofs.YtlldglbooaefhaaDoor
open Go Go.Hl Go.Pl
set_option maxRecDepth 10000
set_option maxHeartbeats 16000000

theorem cI0 : lst [] = cH := by funext j; simp [lst, cH]

theorem bS8 (x : Pt) (c : UInt8) : cD0 Tryd.prog 80 120 x.cv [u8 c] (fun v => v = .bool (c == x.c)) := by
 show HFn _ _ [.c (u8 c), .ptr 0 0] 1 _ _
 refine bO (args := [.c (u8 c), .ptr 0 0]) Tryd.func80 rfl (by kernel_rfl) (xT _ _ [u8 c]) (Nat.le_of_ble_eq_true rfl) ?_
 refine R0 ?_
 refine aC fun K hK => Rg ?_
 have F := aI @Pt.get_c @bR2
 iterate 5 refine SF ?_
 refine T2 (hK _ _ _ ?_)
 clear hK K
 refine aF (RT Tryd.results80 ?_)
 refine aN3 [] (.bool (c == x.c)) x.cv rfl rfl (by simp [HV.close, HV.norm, HV.toC, Pt.denil]) (by simp) rfl rfl


theorem bA3 (x : Pt) (hk : x.k = 0) : HGe Tryd.prog 63 [.c x.cv] [] (fun r os => r = .clo 80 [.ptr 0 0] ∧ os = [.box 120 (.c x.cv)]) := by
 show HFn _ _ [.c x.cv] 0 (lst []) _
 rw [cI0]
 refine bO (args := [.c x.cv]) Tryd.func63 rfl (by kernel_rfl) (iP [x.cv]) (Nat.le_of_ble_eq_true rfl) ?_
 have hd0 : ((x.k : Int) == 0) = true := by rw [hk]; rfl
 have F := aI @Pt.cells (aI @Pt.isAgg @Pt.getAll)
 refine RF ?_
 refine aC fun K hK => ?_
 have F := @Pt.get_k
 refine RF ?_
 refine aK ?_
 have F := hd0
 refine RF ?_
 refine CT rfl ?_
 refine R0 ?_
 refine aF (RT Tryd.results63 ?_)
 refine dW [] [0] (.clo 80 [.ptr 0 0]) [.box 120 (.c x.cv)] rfl ?_ ?_ rfl (by simp) (by simp) (by simp) ⟨rfl, rfl⟩
 ·
  simp [HV.men, HV.menL]
 refine ⟨⟨by simp [HO.men, HV.men], by simp, .box 120 (.c x.cv), rfl, ?_⟩, trivial⟩
 simp [fE, HV.close, HV.norm, HV.toC, Pt.denil, HO.ren, HV.ren]


theorem bA4 (x : Pt) (hk : x.k = 3) : cF Tryd.prog 63 [x.cv] (fun v => v = .fn 81) := by
 refine FW Tryd.func63 ?_
 have hd0 : ((x.k : Int) == 0) = false := by rw [hk]; rfl
 have hd3 : ((x.k : Int) == 3) = true := by rw [hk]; rfl
 have F := aI @Pt.cells (aI @Pt.isAgg @Pt.getAll)
 refine RF ?_
 refine aC fun K hK => ?_
 have F := @Pt.get_k
 refine RF ?_
 refine aK ?_
 have F := hd0
 refine RF ?_
 refine CF rfl ?_
 have F := hd3
 refine RF ?_
 refine CT rfl ?_
 refine R0 ?_
 refine aF (RT Tryd.results63 ?_)
 exact aL [] (.fn 81) rfl rfl


theorem yU (x : Pt) (hk : x.k = 1 ∨ x.k = 2) : cF Tryd.prog 63 [x.cv] (fun v => v = .fn 82) := by
 refine FW Tryd.func63 ?_
 have hd0 : ((x.k : Int) == 0) = false := by rcases hk with h | h <;> rw [h] <;> rfl
 have hd3 : ((x.k : Int) == 3) = false := by rcases hk with h | h <;> rw [h] <;> rfl
 have F := aI @Pt.cells (aI @Pt.isAgg @Pt.getAll)
 refine RF ?_
 refine aC fun K hK => ?_
 have F := @Pt.get_k
 refine RF ?_
 refine aK ?_
 have F := hd0
 refine RF ?_
 refine CF rfl ?_
 have F := hd3
 refine RF ?_
 refine CF rfl ?_
 refine aJ ?_
 refine T0 (hK _ _ _ ?_)
 clear hK K
 refine R0 ?_
 refine aF (RT Tryd.results63 ?_)
 exact aL [] (.fn 82) rfl rfl


end Go.Proofs.YtlldglbooaefhaaDoor

namespace Go.Pl
open Go Go.Hl
theorem bA5 {p : aE} {ps : List Pt} (h : gJ p = some ps) : ps.length ≤ 200 ∧ ∀ x ∈ ps, x.k ≤ 3 := by
 unfold gJ at h
 split at h
 ·
  cases h
 ·
  rename_i hl
  obtain ⟨h1, h2⟩ := aS6 p.length p ps (Nat.le_refl _) h
  grind
theorem aJ0 {p s : aE} (h : gJ p = none) : lG p s = false := by unfold lG; rw [h]
theorem aJ1 {p s : aE} (h : jS s = false) : lG p s = false := by grind [lG]
theorem aJ2 {p s : aE} {ps : List Pt} (h : gJ p = some ps) (hs : jS s = true) : lG p s = mD ps s ps.length s.length := by grind [lG]
theorem bA6 {s : aE} (h : jS s = true) : s.length ≤ 200 := by simp_all [jS, Bool.and_eq_true, decide_eq_true_eq]
def bW (n : Nat) (f : Nat → Bool) : List CV := (tab n f).map bC1
theorem aT (n : Nat) (f : Nat → Bool) : (bW n f).length = n := by simp [bW, lI]
theorem aU {n : Nat} {f : Nat → Bool} {i : Nat} (h : i < n) : nth (bW n f) i = .bool (f i) := bR0 h
theorem bA7 (n : Nat) : List.replicate n (CV.bool false) = bW n (fun _ => false) := by
 unfold bW; rw [← aZ1]; simp [bC1]
theorem vY (n : Nat) (f : Nat → Bool) (i : Nat) (b : Bool) : (bW n f).set i (.bool b) = bW n (fun j => if j = i then b else f j) := by
 unfold bW
 rw [← bQ9, List.map_set]; rfl
theorem gW (n : Nat) (f : Nat → Bool) : CV.denilL (bW n f) = bW n f := cB (fun x => by simp [bC1, CV.denil]) _
theorem bA8 {n : Nat} {ps : List Pt} {s : aE} : (bW n (fun _ => false)).set 0 (.bool true) = bW n (fun j => if j = 0 then true else false) := vY _ _ _ _
theorem gX {n : Nat} {ps : List Pt} {s : aE} {k : Nat} {b : Bool} (hb : b = (mD ps s k 0 && (prt ps k).long)) : (bW n (fun _ => false)).set 0 (.bool b) = bW n (nxt ps s k 0) := by
 rw [vY, hb]
 congr 1
 grind [bH1]
theorem fI {n : Nat} {ps : List Pt} {s : aE} {k i : Nat} {b : Bool} (hb : b = mD ps s (k + 1) (i + 1)) : (bW n (nxt ps s k i)).set (i + 1) (.bool b) = bW n (nxt ps s k (i + 1)) := by simp_all [vY, bH2]
theorem tO {ps : List Pt} {s : aE} {k : Nat} : bW (s.length + 1) (nxt ps s k s.length) = bW (s.length + 1) (mD ps s (k + 1)) := by
 unfold bW; rw [bR1]
theorem bK2 {ps : List Pt} {s : aE} : bW (s.length + 1) (fun j => if j = 0 then true else false) = bW (s.length + 1) (mD ps s 0) := by
 unfold bW; rw [bH3]
theorem bS9 {ps : List Pt} {k : Nat} (h : k < ps.length) : prt ps k = ps[k] := by simp [prt, h]
end Go.Pl
