/- Plain Lean: the rows of Match as the walks see them. By an AI agent. -/
import Derived.Test.YtlldglbooaefhaaDoorPl28c
import Derived.Test.YtlldglbooaefhaaDoorHvV1
import Derived.Test.YtlldglbooaefhaaDoorHlCl
set_option linter.unusedSimpArgs false
set_option linter.unusedVariables false
set_option linter.defProp false
namespace Go.Pl
open Go Go.Hl

theorem sT : ∀ (a : aE) (c : UInt8) (n k : Nat), dA (a ++ [c]) n = some k → ∃ k', dA a n = some k' ∧ mS c = true ∧ k = 10 * k' + (c.toNat - 48)
 | [], c, n, k, h => by
  simp only [List.nil_append, dA] at h
  split at h
  ·
   rename_i hc; cases h; exact ⟨n, rfl, hc, rfl⟩
  ·
   cases h
 | b :: a, c, n, k, h => by
  simp only [List.cons_append, dA] at h ⊢
  split at h
  ·
   rename_i hb; rw [if_pos hb]; exact sT a c _ k h
  ·
   cases h
theorem aT5 : ∀ (m : Nat) (s : aE) (k : Nat), s.length ≤ m → s ≠ [] → (1 < s.length → s.head? ≠ some 48) → dA s 0 = some k → Lib.decDigits k = s
 | 0, s, _, hm, h0, _, _ => absurd (List.eq_nil_of_length_eq_zero (by omega)) h0
 | m + 1, s, k, hm, h0, h1, h => by
  obtain ⟨a, c, rfl⟩ : ∃ a c, s = a ++ [c] := ⟨s.dropLast, s.getLast h0, (List.dropLast_concat_getLast h0).symm⟩
  obtain ⟨k', hk', hc, rfl⟩ := sT a c 0 k h
  simp only [mS, Bool.and_eq_true, decide_eq_true_eq] at hc
  have hcc : UInt8.ofNat (48 + (c.toNat - 48)) = c := by
   refine UInt8.toNat_inj.1 ?_
   rw [UInt8.toNat_ofNat']; omega
  by_cases ha : a = []
  ·
   subst ha
   simp only [dA, Option.some.injEq] at hk'
   subst hk'
   rw [Lib.decDigits_one (by omega)]
   grind
  ·
   have hlen : 1 < (a ++ [c]).length := by
    have := List.length_pos_iff.2 ha
    simp; omega
   have hh : (a ++ [c]).head? = a.head? := by
    cases a with
    | nil => grind
    | cons x a => rfl
   have ih := aT5 m a k' (by grind) ha (fun _ => by grind) hk'
   have hk0 : k' ≠ 0 := by
    rintro rfl
    rw [Lib.decDigits_one (by omega)] at ih
    have := h1 hlen
    rw [hh, ← ih] at this
    exact this rfl
   rw [Lib.decDigits, dif_neg (by omega), show (10 * k' + (c.toNat - 48)) / 10 = k' from by omega, ih, show 48 + (10 * k' + (c.toNat - 48)) % 10 = 48 + (c.toNat - 48) from by omega, hcc]
theorem kR {s : aE} {n : Int} (h : bH s = some n) : numW n = s := by
 have hr := aO1 h
 unfold bH at h
 split at h
 ·
  cases h
 ·
  rename_i hb
  have hb' : gB s = false := by simpa using hb
  simp only [gB, Bool.or_eq_false_iff, decide_eq_false_iff_not, Bool.and_eq_false_iff, beq_eq_false_iff_ne] at hb'
  split at h
  ·
   rename_i k hk
   split at h
   ·
    cases h
   ·
    cases h
    rw [aH8 hr.1]
    refine aT5 s.length s _ (Nat.le_refl _) (fun e => by grind) (fun hl => ?_) (by grind)
    grind [List.head?_eq_getElem?]
  grind
theorem bR6 {w : List aE} (h : w.length = 1) : w = [wd w 0] := by
 match w, h with
 | [a], _ => rfl
theorem bY7 {w : List aE} (h : w.length = 2) : w = [wd w 0, wd w 1] := by
 match w, h with
 | [a, b], _ => rfl
theorem cD9 {w : List aE} (h : w.length = 3) : w = [wd w 0, wd w 1, wd w 2] := by
 match w, h with
 | [a, b, c], _ => rfl
theorem cH3 {w : List aE} (h : w.length = 5) : w = [wd w 0, wd w 1, wd w 2, wd w 3, wd w 4] := by
 match w, h with
 | [a, b, c, d, e], _ => rfl

theorem bI2 {w : List aE} {q : Rq} (h : eU w = some q) : wlR q = w := by
 have num : ∀ {k : Int} {nm : aE}, (∀ n : Int, wlR ⟨k, n, 0, []⟩ = [nm, numW n]) → w.length = 2 ∧ wd w 0 = nm → (bH (wd w 1)).map (⟨k, ·, 0, []⟩) = some q → wlR q = w := by
  intro k nm h1 h2 h3
  cases hv : bH (wd w 1) with
  | none => grind
  | some n =>
   grind [kR, bY7]
 unfold eU at h
 split at h
 ·
  rename_i h1; exact num (fun n => rfl) h1 h
 split at h
 ·
  rename_i h1; cases h; rw [bY7 h1.1, h1.2]; rfl
 split at h
 ·
  rename_i h1; exact num (fun n => rfl) h1 h
 split at h
 ·
  rename_i h1
  split at h
  ·
   rename_i n m hn hm
   cases h
   show [fI, numW n, numW m] = w
   grind [kR, cD9]
  grind
 split at h
 ·
  rename_i h1; exact num (fun n => rfl) h1 h
 split at h
 ·
  rename_i h1; exact num (fun n => rfl) h1 h
 split at h
 ·
  rename_i h1; exact num (fun n => rfl) h1 h
 split at h
 ·
  rename_i h1; cases h; rw [bR6 h1.1, h1.2]; rfl
 grind
theorem bI3 {w : List aE} {n : Nd} (h : jE w = some n) (c : Int) : wlN { n with c := c } = w ∧ n.k ≠ 1 := by
 unfold jE at h
 split at h
 ·
  rename_i h1; cases h; exact ⟨by rw [bR6 h1.1, h1.2]; rfl, by decide⟩
 split at h
 ·
  rename_i h1; cases h; exact ⟨by rw [bR6 h1.1, h1.2]; rfl, by decide⟩
 split at h
 ·
  rename_i h1
  cases hv : bH (wd w 1) with
  | none => grind
  | some m =>
   rw [hv] at h; cases h
   refine ⟨?_, by grind⟩
   show [dB, numW m] = w
   grind [kR, bY7]
 grind
theorem jS : ∀ (t x r : List Nd) (m : Nat), skip m t = some r → skip m (t ++ x) = some (r ++ x)
 | t, x, r, 0, h => by grind [cE]
 | [], x, r, m + 1, h => by cases h
 | n :: t, x, r, m + 1, h => by
  have h' : skip (m + n.c.toNat) t = some r := h
  exact jS t x r _ h'
theorem fU : ∀ (f m : Nat) (t x r : List Nd), (t ++ x).length < f → skip m t = some r → (∀ n ∈ t, bK n = true) → dN f m (t ++ x) = dN f m t
 | 0, _, _, _, _, h, _, _ => by omega
 | f + 1, 0, t, x, r, _, _, _ => by cases t <;> cases x <;> rfl
 | f + 1, m + 1, [], x, r, _, h, _ => by cases h
 | f + 1, m + 1, n :: t, x, r, hf, h, hn => by
  have h' : skip (m + n.c.toNat) t = some r := h
  have hn' : ∀ y ∈ t, bK y = true := fun y hy => hn y (List.mem_cons_of_mem _ hy)
  have hl : (t ++ x).length < f := by simpa using hf
  obtain ⟨c1, c2, c3, c4⟩ := cU (hn n List.mem_cons_self)
  simp only [List.cons_append, dN]
  split
  ·
   rename_i hk
   rw [c3 hk] at h'
   rw [fU f m t x r hl (by grind) hn']
  ·
   rw [Nat.add_comm, eD] at h'
   cases hs : skip n.c.toNat t with
   | none => grind
   | some r1 =>
    rw [hs] at h'
    have h2 : skip m r1 = some r := h'
    obtain ⟨j, _, hj, _, _⟩ := gJ t _ _ hs
    have hr1 := qB hs
    rw [fU f _ t x r1 hl hs hn', jS t x r1 _ hs, Option.getD_some, Option.getD_some,
     fU f m r1 x r (by grind) h2 (fun y hy => hn' y (by grind))]
theorem yI {w : List aE} (h : gV w = true) : w = [wEnd] := by
 unfold gV at h
 simp only [Bool.and_eq_true, beq_iff_eq] at h
 rw [bR6 h.1, h.2]
theorem bI4 : ∀ (f : Nat), (∀ ls t r, rdN f ls = (some t, r) → (∀ n ∈ t, bK n = true) → skip 1 t = some [] ∧ ls = dN (t.length + 1) 1 t ++ r) ∧
  (∀ ls ts c r, rdK f ls = (some (ts, c), r) → (∀ n ∈ ts, bK n = true) → 0 ≤ c ∧ skip c.toNat ts = some [] ∧ ls = dN (ts.length + 1) c.toNat ts ++ ([wEnd] :: r))
 | 0 => ⟨fun ls t r h _ => (by grind [rdN]), fun ls ts c r h _ => (by grind [rdK])⟩
 | f + 1 => by
  obtain ⟨ihN, ihK⟩ := bI4 f
  have z0 : ∀ f (x : List Nd), dN f 0 x = [] := fun f x => by cases f <;> cases x <;> rfl
  refine ⟨fun ls t r h hn => ?_, fun ls ts c r h hn => ?_⟩
  ·
   cases ls with
   | nil => grind [rdN]
   | cons w rest =>
    simp only [rdN] at h
    split at h
    ·
     rename_i q hq
     cases h
     refine ⟨rfl, ?_⟩
     simp only [List.length_singleton, dN]
     rw [if_pos trivial, bI2 hq]; grind
    ·
     split at h
     ·
      cases h
     ·
      rename_i n hin
      cases hk : rdK f rest with
      | mk o r' =>
       rw [hk] at h
       cases o with
       | none => cases h
       | some p =>
        obtain ⟨ts, c⟩ := p
        simp only [Prod.mk.injEq, Option.some.injEq] at h
        obtain ⟨rfl, rfl⟩ := h
        obtain ⟨g1, g2, g3⟩ := ihK _ _ _ _ hk fun x hx => hn x (List.mem_cons_of_mem _ hx)
        obtain ⟨e1, e2⟩ := bI3 hin c
        refine ⟨?_, ?_⟩
        ·
         show skip (0 + c.toNat) ts = some []
         rw [Nat.zero_add]; exact g2
        ·
         simp only [List.length_cons, dN]
         rw [if_neg e2, e1, g3]
         simp [z0]
  ·
   simp only [rdK] at h
   split at h
   ·
    rename_i he
    cases h
    cases ls with
    | nil => simp [gV] at he
    | cons w rest =>
     have := yI he
     simp only [List.headD_cons] at this
     subst this
     exact ⟨by omega, rfl, rfl⟩
   ·
    cases h1 : rdN f ls with
    | mk o r1 =>
     rw [h1] at h
     cases o with
     | none => cases h
     | some t =>
      simp only at h
      cases h2 : rdK f r1 with
      | mk o2 r2 =>
       rw [h2] at h
       cases o2 with
       | none => cases h
       | some p =>
        obtain ⟨ts2, c2⟩ := p
        simp only [Prod.mk.injEq, Option.some.injEq] at h
        obtain ⟨⟨rfl, rfl⟩, rfl⟩ := h
        obtain ⟨a1, a2⟩ := ihN _ _ _ h1 fun x hx => hn x (List.mem_append_left _ hx)
        have hn2 : ∀ n ∈ ts2, bK n = true := fun x hx => hn x (List.mem_append_right _ hx)
        obtain ⟨b1, b2, b3⟩ := ihK _ _ _ _ h2 hn2
        have e : (c2 + 1).toNat = 1 + c2.toNat := by omega
        have s1 := jS t ts2 [] 1 a1
        rw [List.nil_append] at s1
        refine ⟨by omega, ?_, ?_⟩
        ·
         rw [e, eD, s1]; exact b2
        ·
         rw [a2, b3, e, mY ((t ++ ts2).length + 1) 1 c2.toNat (t ++ ts2) ts2 (Nat.lt_succ_self _) s1 hn _ b2,
          fU _ 1 t ts2 [] (Nat.lt_succ_self _) a1 (fun x hx => hn x (List.mem_append_left _ hx)),
          eY (t.length + 1) 1 t [] (by omega) a1 (fun x hx => hn x (List.mem_append_left _ hx)) ((t ++ ts2).length + 1) (by simp),
          eY (ts2.length + 1) _ ts2 [] (by omega) b2 hn2 ((t ++ ts2).length + 1) (by simp)]
         simp
theorem bR7 {ls r : List (List aE)} {x : Pr} (h : rdR ls = (some x, r)) (hv : dH x.t = true) : ls = jC x ++ r ∧ r.length < ls.length := by
 cases ls with
 | nil => grind [rdR]
 | cons w rest =>
  simp only [rdR] at h
  split at h
  ·
   rename_i h1
   split at h
   ·
    cases h
   ·
    rename_i g hg
    cases ht : rdT rest with
    | mk o r' =>
     rw [ht] at h
     cases o with
     | none => cases h
     | some t =>
      simp only [Prod.mk.injEq, Option.some.injEq] at h
      obtain ⟨rfl, rfl⟩ := h
      obtain ⟨-, g2⟩ := (bI4 _).1 _ _ _ ht (kL hv).node
      have hw := cH3 h1.1
      rw [h1.2] at hw
      refine ⟨?_, ?_⟩
      ·
       show w :: rest = ([wRule, wd w 1, wd w 2, wd w 3, numW g] :: aO9 t) ++ r'
       rw [kR hg, ← hw, g2]; rfl
      grind
  grind
theorem aI0 : ∀ (f : Nat) (ls : List (List aE)) (a l : List Pr) (r : List (List aE)), kE f ls a = (some l, r) → (∀ x ∈ l, dH x.t = true) → ∃ m, l = a ++ m ∧ ls = m.flatMap jC ∧ r = []
 | 0, ls, a, l, r, h, _ => by grind [kE]
 | f + 1, ls, a, l, r, h, hv => by
  simp only [kE] at h
  split at h
  ·
   simp_all
  ·
   cases hr : rdR ls with
   | mk o r1 =>
    rw [hr] at h
    cases o with
    | none => cases h
    | some x =>
     obtain ⟨m, rfl, hm, hr0⟩ := aI0 f r1 (a ++ [x]) l r h hv
     obtain ⟨g1, g2⟩ := bR7 hr (hv x (by simp))
     grind
theorem bR8 {ls r : List (List aE)} {p : Po} (h : rdP ls = (some p, r)) (hv : eX p = true) : ls = oV p := by
 have ht : ∀ x ∈ p.r, dH x.t = true := fun x hx => by simp_all [eX, Bool.and_eq_true, List.all_eq_true, iG]
 cases ls with
 | nil => grind [rdP]
 | cons w rest =>
  simp only [rdP] at h
  split at h
  ·
   rename_i h1
   split at h
   ·
    cases h
   ·
    rename_i v hg
    cases hr : kE (rest.length + 1) rest [] with
    | mk o r' =>
     rw [hr] at h
     cases o with
     | none => cases h
     | some l =>
      simp only [Prod.mk.injEq, Option.some.injEq] at h
      obtain ⟨rfl, rfl⟩ := h
      obtain ⟨m, rfl, hm, -⟩ := aI0 _ _ _ _ _ hr ht
      have hw := cD9 h1.1
      rw [h1.2] at hw
      show w :: rest = [wPolicy, wd w 1, numW v] :: _
      rw [kR hg, ← hw, hm]
  grind
theorem bI5 {b : aE} (h : iA b = 0) : lD (eZ b) = 0 ∧ pQ (eZ b) = b := by
 have hO : eZ b = (fP b).getD [] := by unfold eZ; grind
 unfold iA at h
 split at h
 ·
  cases h
 ·
  rename_i hb
  cases hv : fP b with
  | none => grind
  | some ls =>
   rw [hv] at h hO
   simp only at h
   split at h
   ·
    cases h
   ·
    rename_i hl
    rw [hO, Option.getD_some]
    by_cases hne : b = []
    ·
     grind [fP, lD, gK, pQ]
    ·
     have hlast : ∃ m, b = m ++ [10] := by
      unfold fP at hv
      rw [if_neg hne] at hv
      split at hv
      ·
       grind [mT]
      ·
       grind
     obtain ⟨m, rfl⟩ := hlast
     rw [yH] at hv
     cases hu : (aR 10 m).mapM unL with
     | none => grind [wP]
     | some ls' =>
      rw [bH5 hu] at hv
      split at hv
      ·
       rename_i hall
       cases hv
       have hd := aY9 hu
       have hE : lD ls = 0 := by simp_all [aR9, List.all_eq_true, if_neg]
       grind [zZ]
      grind
theorem bY8 {b : aE} {p : Po} {r : List (List aE)} (h0 : iA b = 0) (h : rdP (eZ b) = (some p, r)) : (wQ p = 0 ∧ rM p = b) ↔ eX p = true := by
 constructor
 ·
  grind [wQ]
 ·
  intro hv
  have hl := bR8 h hv
  obtain ⟨e1, e2⟩ := bI5 h0
  simp_all [wQ, rM, if_pos]
end Go.Pl

namespace Go.Pl
open Go Go.Hl

theorem nX {n a b : Int} : inB n a b = true ↔ a ≤ n ∧ n ≤ b := by unfold inB; simp
theorem bI6 {q : Rq} (h : eL q = true) : eU (wlR q) = some q := by
 obtain ⟨k, n, m, t⟩ := q
 have hv : ∀ {a b : Int}, inB n a b = true → 0 ≤ a → b ≤ 1099511627776 → bH (numW n) = some n := fun h h1 h2 => by grind [nX, kQ]
 unfold eL at h
 simp only at h
 split at h
 ·
  rename_i h1
  simp only [Bool.and_eq_true, beq_iff_eq] at h
  obtain ⟨h2, rfl, rfl⟩ := h
  have hn := hv h2 (by omega) (by omega)
  rcases h1 with rfl | rfl | rfl
  ·
   show (bH (numW n)).map _ = _; grind
  ·
   show (bH (numW n)).map _ = _; grind
  ·
   show (bH (numW n)).map _ = _; grind
 split at h
 ·
  rename_i h1
  subst h1
  simp only [Bool.and_eq_true, beq_iff_eq] at h
  obtain ⟨h2, h3, rfl⟩ := h
  have hn := hv h2 (by omega) (by omega)
  rw [nX] at h3
  have hm : bH (numW m) = some m := kQ (by omega) (by omega)
  show (match bH (numW n), bH (numW m) with | some n, some m => some (⟨4, n, m, []⟩ : Rq) | _, _ => none) = _
  grind
 split at h
 ·
  rename_i h1
  subst h1
  simp only [Bool.and_eq_true, beq_iff_eq] at h
  obtain ⟨-, rfl, rfl⟩ := h
  rfl
 split at h
 ·
  rename_i h1
  subst h1
  simp only [Bool.and_eq_true, beq_iff_eq] at h
  obtain ⟨h2, rfl, rfl⟩ := h
  have hn := hv h2 (by omega) (by omega)
  show (bH (numW n)).map _ = _; grind
 split at h
 ·
  rename_i h1
  subst h1
  simp only [Bool.and_eq_true, beq_iff_eq] at h
  obtain ⟨h2, rfl, rfl⟩ := h
  have hn := hv h2 (by omega) (by rw [gD]; omega)
  show (bH (numW n)).map _ = _; grind
 split at h
 ·
  rename_i h1
  subst h1
  simp only [Bool.and_eq_true, beq_iff_eq] at h
  obtain ⟨rfl, rfl, rfl⟩ := h
  rfl
 grind
theorem bI7 {n : Nd} (h : bK n = true) (hk : n.k ≠ 1) : jE (wlN n) = some { n with c := 0 } ∧ eU (wlN n) = none := by
 obtain ⟨k, a, c, q⟩ := n
 unfold bK at h
 simp only at h hk
 rw [if_neg hk] at h
 split at h
 ·
  rename_i h1
  simp only [Bool.and_eq_true, beq_iff_eq, uR] at h
  obtain ⟨-, rfl, rfl⟩ := h
  rcases h1 with rfl | rfl <;> exact ⟨rfl, rfl⟩
 split at h
 ·
  rename_i h1
  subst h1
  simp only [Bool.and_eq_true, uR, nX] at h
  obtain ⟨⟨c1, c2⟩, rfl, a1, a2⟩ := h
  refine ⟨?_, rfl⟩
  show (bH (numW a)).map _ = _
  grind [kQ]
 grind
theorem oW {l r : List Nd} {m : Nat} (h : skip m l = some r) : ∃ t, l = t ++ r ∧ skip m t = some [] := by
 induction l generalizing m with
 | nil =>
  cases m with
  | zero => rw [cE] at h; cases h; exact ⟨[], rfl, rfl⟩
  | succ m => cases h
 | cons n l ih =>
  cases m with
  | zero => rw [cE] at h; cases h; exact ⟨[], rfl, rfl⟩
  | succ m =>
   obtain ⟨t, h1, h2⟩ := ih (m := m + n.c.toNat) h
   exact ⟨n :: t, by rw [h1]; rfl, h2⟩
theorem aP0 {n : Nd} (h : bK n = true) (hk : n.k ≠ 1) : gV (wlN n) = false := by
 unfold wlN
 split
 ·
  rfl
 ·
  split
  ·
   rfl
  ·
   rfl
theorem aP1 (q : Rq) : gV (wlR q) = false := by
 unfold wlR
 repeat' split
 all_goals rfl
theorem bI8 : ∀ (f : Nat), (∀ t rest, skip 1 t = some [] → (∀ n ∈ t, bK n = true) → 2 * t.length ≤ f → rdN f (dN (t.length + 1) 1 t ++ rest) = (some t, rest)) ∧
  (∀ ts c rest, skip c ts = some [] → (∀ n ∈ ts, bK n = true) → 2 * ts.length + 1 ≤ f → rdK f (dN (ts.length + 1) c ts ++ ([wEnd] :: rest)) = (some (ts, (c : Int)), rest))
 | 0 => ⟨fun t rest h _ hf => (by
   have : t = [] := List.eq_nil_of_length_eq_zero (by omega)
   subst this; cases h), fun ts c rest _ _ hf => by omega⟩
 | f + 1 => by
  obtain ⟨ihN, ihK⟩ := bI8 f
  have z0 : ∀ f (x : List Nd), dN f 0 x = [] := fun f x => by cases f <;> cases x <;> rfl
  refine ⟨fun t rest h hn hf => ?_, fun ts c rest h hn hf => ?_⟩
  ·
   cases t with
   | nil => cases h
   | cons n ts =>
    have hnn := hn n List.mem_cons_self
    have hn' : ∀ x ∈ ts, bK x = true := fun x hx => hn x (List.mem_cons_of_mem _ hx)
    have h' : skip (0 + n.c.toNat) ts = some [] := h
    rw [Nat.zero_add] at h'
    obtain ⟨c1, c2, c3, c4⟩ := cU hnn
    simp only [List.length_cons, dN]
    by_cases hk : n.k = 1
    ·
     rw [if_pos hk]
     rw [c3 hk] at h'
     have : ts = [] := by
      cases ts with
      | nil => rfl
      | cons a b => grind [skip, cE]
     subst this
     have hq : eL n.q = true ∧ n.n = 0 := by
      unfold bK at hnn
      rw [if_pos hk] at hnn
      simp only [Bool.and_eq_true, beq_iff_eq] at hnn
      exact ⟨hnn.2.2, hnn.2.1⟩
     simp only [List.cons_append, List.nil_append, rdN, bI6 hq.1]
     obtain ⟨k, a, c, q⟩ := n
     simp only at hk hq c3
     rw [hk, hq.2, c3 hk]
    ·
     rw [if_neg hk]
     obtain ⟨e1, e2⟩ := bI7 hnn hk
     have := ihK ts n.c.toNat rest h' hn' (by grind)
     simp only [List.cons_append, List.append_assoc, List.nil_append, rdN, e2, e1, this]
     have : ((n.c.toNat : Nat) : Int) = n.c := by omega
     rw [this]
  ·
   cases c with
   | zero =>
    rw [cE] at h; cases h
    rw [z0]
    simp only [List.nil_append, rdK, List.headD_cons, show gV [wEnd] = true from rfl, if_true, List.tail_cons]; rfl
   | succ c =>
    rw [Nat.add_comm, eD] at h
    cases h1 : skip 1 ts with
    | none => grind
    | some r =>
     rw [h1] at h
     have h2 : skip c r = some [] := h
     obtain ⟨t, rfl, ht⟩ := oW h1
     have hnt : ∀ x ∈ t, bK x = true := fun x hx => hn x (List.mem_append_left _ hx)
     have hnr : ∀ x ∈ r, bK x = true := fun x hx => hn x (List.mem_append_right _ hx)
     have ht1 : 1 ≤ t.length := by
      cases t with
      | nil => cases ht
      | cons _ _ => simp
     simp only [List.length_append] at hf
     have e : dN ((t ++ r).length + 1) (c + 1) (t ++ r) = dN (t.length + 1) 1 t ++ dN (r.length + 1) c r := by
      rw [Nat.add_comm c 1, mY _ 1 c (t ++ r) r (Nat.lt_succ_self _) h1 hn _ h2, fU _ 1 t r [] (Nat.lt_succ_self _) ht hnt,
       eY (t.length + 1) 1 t [] (by omega) ht hnt ((t ++ r).length + 1) (by simp), eY (r.length + 1) c r [] (by omega) h2 hnr ((t ++ r).length + 1) (by simp)]
     rw [e, List.append_assoc]
     have a1 := ihN t (dN (r.length + 1) c r ++ [wEnd] :: rest) ht hnt (by omega)
     have a2 := ihK r c rest h2 hnr (by omega)
     have hne : gV ((dN (t.length + 1) 1 t ++ (dN (r.length + 1) c r ++ [wEnd] :: rest)).headD []) = false := by
      cases t with
      | nil => cases ht
      | cons n t =>
       simp only [List.length_cons, dN]
       split
       ·
        exact aP1 _
       ·
        rename_i hk; exact aP0 (hnt n List.mem_cons_self) hk
     simp only [rdK]
     rw [hne]
     simp only [Bool.false_eq_true, if_false, a1, a2]
     have : ((c : Nat) : Int) + 1 = ((c + 1 : Nat) : Int) := by omega
     rw [this]
theorem tM : ∀ (f m : Nat) (l : List Nd), l.length < f → skip m l = some [] → (∀ n ∈ l, bK n = true) → l.length ≤ (dN f m l).length
 | 0, _, _, h, _, _ => by omega
 | f + 1, m, [], _, _, _ => by simp
 | f + 1, 0, n :: l, _, h, _ => by rw [cE] at h; cases h
 | f + 1, m + 1, n :: l, hf, h, hn => by
  have h' : skip (m + n.c.toNat) l = some [] := h
  have hn' : ∀ y ∈ l, bK y = true := fun y hy => hn y (List.mem_cons_of_mem _ hy)
  have hl : l.length < f := by simpa using hf
  obtain ⟨c1, c2, c3, c4⟩ := cU (hn n List.mem_cons_self)
  simp only [dN]
  split
  ·
   rename_i hk
   rw [c3 hk] at h'
   have := tM f m l hl (by simpa using h') hn'
   simp only [List.length_cons]; omega
  ·
   rw [Nat.add_comm, eD] at h'
   cases hs : skip n.c.toNat l with
   | none => rw [hs] at h'; cases h'
   | some r1 =>
    rw [hs] at h'
    have h2 : skip m r1 = some [] := h'
    obtain ⟨t, rfl, ht⟩ := oW hs
    simp only [List.length_append] at hl
    have hnt : ∀ x ∈ t, bK x = true := fun x hx => hn' x (List.mem_append_left _ hx)
    have a1 := tM f _ t (by omega) ht hnt
    have a2 := tM f m r1 (by omega) h2 (fun x hx => hn' x (List.mem_append_right _ hx))
    rw [Option.getD_some, fU f _ t r1 [] (by simp; omega) ht hnt]
    simp only [List.length_cons, List.length_append]; omega
theorem bR9 {t : List Nd} (h : IsTree t) (rest : List (List aE)) : rdT (aO9 t ++ rest) = (some t, rest) := by
 have := tM (t.length + 1) 1 t (by omega) h.skip h.node
 exact (bI8 _).1 t rest h.skip h.node (by simp only [aO9, List.length_append]; omega)
theorem mZ {r : Pr} (h : iG r = true) : (0 ≤ r.g ∧ r.g ≤ 1099511627776) ∧ IsTree r.t ∧ eC r.a = true ∧ (gL r.b).isSome = true ∧ (gL r.c).isSome = true := by
 unfold iG at h
 simp only [Bool.and_eq_true, nX] at h
 obtain ⟨h1, h2, h3, ⟨h4, h5⟩, h6⟩ := h
 rw [gD] at h5
 exact ⟨⟨h4, h5⟩, kL h6, h1, h2, h3⟩
theorem bS0 {r : Pr} (h : iG r = true) (rest : List (List aE)) : rdR (jC r ++ rest) = (some r, rest) := by
 obtain ⟨⟨g0, g1⟩, ht, -⟩ := mZ h
 show rdR ([wRule, r.a, r.b, r.c, numW r.g] :: (aO9 r.t ++ rest)) = _
 unfold rdR
 simp only
 rw [if_pos ⟨rfl, rfl⟩]
 have : bH (wd [wRule, r.a, r.b, r.c, numW r.g] 4) = some r.g := kQ g0 g1
 rw [this]
 simp only
 rw [bR9 ht]; rfl
theorem aI1 : ∀ (l a : List Pr) (f : Nat), (∀ r ∈ l, iG r = true) → l.length < f → kE f (l.flatMap jC) a = (some (a ++ l), [])
 | [], a, f, _, hf => by
  obtain ⟨g, rfl⟩ : ∃ g, f = g + 1 := ⟨f - 1, by simp at hf; omega⟩
  simp [kE]
 | r :: l, a, f, h, hf => by
  obtain ⟨g, rfl⟩ : ∃ g, f = g + 1 := ⟨f - 1, by simp at hf; omega⟩
  simp only [List.flatMap_cons, kE]
  rw [if_neg (by simp [jC]), bS0 (h r List.mem_cons_self)]
  simp only
  rw [aI1 l (a ++ [r]) g (fun x hx => h x (List.mem_cons_of_mem _ hx)) (by simp at hf; omega)]
  simp
theorem aT6 : ∀ l : List Pr, l.length ≤ (l.flatMap jC).length
 | [] => by simp
 | r :: l => by have := aT6 l; simp [jC] at this ⊢; omega
theorem aA9 {p : Po} (h : eX p = true) : (1 ≤ p.v ∧ p.v ≤ 1099511627776) ∧ p.r.length ≤ 16 ∧ eC p.n = true ∧ ∀ r ∈ p.r, iG r = true := by
 unfold eX at h
 simp only [Bool.and_eq_true, nX, decide_eq_true_eq, List.all_eq_true] at h
 obtain ⟨h1, ⟨h2, h3⟩, h4, h5, -⟩ := h
 rw [gD] at h3
 exact ⟨⟨h2, h3⟩, h4, h1, h5⟩
theorem bS1 {p : Po} (h : eX p = true) : rdP (oV p) = (some p, []) := by
 obtain ⟨⟨v0, v1⟩, -, -, hr⟩ := aA9 h
 show rdP ([wPolicy, p.n, numW p.v] :: p.r.flatMap jC) = _
 unfold rdP
 simp only
 rw [if_pos ⟨rfl, rfl⟩]
 have : bH (wd [wPolicy, p.n, numW p.v] 2) = some p.v := kQ (by omega) v1
 rw [this]
 simp only
 rw [aI1 p.r [] _ hr (by have := aT6 p.r; omega)]; rfl
theorem aZ4 {p : Po} (h : wQ p = 0) : dpE (rM p) = 0 ∧ dpO (rM p) = p ∧ dpL (rM p) = 0 := by
 have hv : eX p = true := by
  unfold wQ at h
  split at h
  ·
   assumption
  ·
   cases h
 have he : lD (oV p) = 0 := by unfold wQ at h; rw [if_pos hv] at h; exact h
 have hb : rM p = pQ (oV p) := by unfold rM; rw [if_pos hv]
 obtain ⟨h1, h2⟩ := bR5 he
 have hr := bS1 hv
 rw [hb]
 have hE : dpE (pQ (oV p)) = 0 := by unfold dpE; rw [if_neg (by rw [h1]; simp), h2, hr]; simp only; rw [if_pos hv]
 exact ⟨hE, by unfold dpO; rw [if_pos hE, h2, hr]; rfl, by unfold dpL; rw [if_neg (by rw [h1]; simp), h2, hr]⟩
end Go.Pl

namespace Go.Pl
open Go Go.Hl

theorem aT7 : ∀ (l : List Nd) (m : Nat) (v : Int), skip m l = some [] → (∀ n ∈ l, bK n = true) → pO l m v = some (0, v + lv l)
 | [], 0, v, _, _ => by simp [pO, lv]
 | [], m + 1, v, h, _ => by cases h
 | n :: l, 0, v, h, _ => by grind [cE]
 | n :: l, m + 1, v, h, hn => by
  have h' : skip (m + n.c.toNat) l = some [] := h
  have hnn := hn n List.mem_cons_self
  obtain ⟨c1, c2, c3, c4⟩ := cU hnn
  have e : ((m + 1 : Nat) : Int) + (n.c - 1) = ((m + n.c.toNat : Nat) : Int) := by omega
  rw [pO, if_neg (by omega), if_pos hnn, e, aT7 l _ _ h' (fun x hx => hn x (List.mem_cons_of_mem _ hx)), lv]
  grind
theorem nA {l : List Nd} (h : IsTree l) : dH l = true := by
 unfold dH
 have := aT7 l 1 0 h.skip h.node
 rw [show ((1 : Nat) : Int) = 1 from rfl] at this
 rw [this]
 have := h.lv
 simp [h.ne, h.len]
 omega
theorem aI2 {T : Nat} {tr : List Bool} {t0 r : List Nd} (hT : lv (t0 ++ r) ≤ T) : ∀ (t : List Nd) (m : Nat), (∃ p, t0 = p ++ t) → skip m t = some [] → (∀ n ∈ t, bK n = true) →
  (evS T tr (t ++ r)).take m = evS (lv t0) (tr.drop (T - lv (t0 ++ r))) t
 | [], 0, _, _, _ => by simp [evS]
 | [], m + 1, _, h, _ => by cases h
 | n :: t, 0, _, h, _ => by grind [cE]
 | n :: t, m + 1, hp, h, hn => by
  have h' : skip (m + n.c.toNat) t = some [] := h
  have hnn := hn n List.mem_cons_self
  have hn' : ∀ y ∈ t, bK y = true := fun y hy => hn y (List.mem_cons_of_mem _ hy)
  obtain ⟨c1, c2, c3, c4⟩ := cU hnn
  have ih := aI2 (tr := tr) hT t _ (by obtain ⟨p, hp⟩ := hp; exact ⟨p ++ [n], by grind⟩) h' hn'
  simp only [List.cons_append, evS]
  split
  ·
   rename_i hk
   rw [c3 hk] at ih
   rw [List.take_succ_cons]
   congr 1
   ·
    rw [List.getD_eq_getElem?_getD, List.getD_eq_getElem?_getD, List.getElem?_drop]
    congr 2
    obtain ⟨p, rfl⟩ := hp
    grind [gI, lv]
  ·
   grind [hlen, tL, lv, List.drop_take]
theorem aZ5 {l : List Nd} (h : IsTree l) {i j : Nat} (hi : i < l.length) (hj : j = aft l i) : IsTree ((l.drop i).take (j - i)) ∧ ∀ tr : List Bool, iF ((l.drop i).take (j - i)) (tr.drop (lv (l.take i))) = kP l tr i := by
 obtain ⟨a1, a2, a3⟩ := gC h hi
 subst hj
 obtain ⟨t, ht, ht2⟩ := oW a3
 have hlen : t.length = aft l i - i := by
  have := congrArg List.length ht
  simp only [List.length_drop, List.length_append] at this; omega
 have e : (l.drop i).take (aft l i - i) = t := by
  rw [ht, ← hlen, List.take_left']; rfl
 rw [e]
 have hn : ∀ n ∈ t, bK n = true := fun n hx => h.node n (List.mem_of_mem_drop (show n ∈ l.drop i by grind))
 have hlv := lH l i
 rw [ht, gI] at hlv
 have hT : IsTree t := ⟨by grind, by rw [hlen]; have := h.len; omega, ht2, hn, by have := h.lv; omega⟩
 refine ⟨hT, fun tr => ?_⟩
 unfold iF kP
 rw [nA hT, Bool.true_and, ht]
 have hp := aI2 (T := lv l) (tr := tr) (t0 := t) (r := l.drop (aft l i)) (by rw [gI]; omega) t 1 ⟨[], rfl⟩ ht2 hn
 rw [gI, show lv l - (lv t + lv (l.drop (aft l i))) = lv (l.take i) from by omega] at hp
 rw [← hp]
 cases evS (lv l) tr (t ++ l.drop (aft l i)) <;> rfl
end Go.Pl

namespace Go.Pl
open Go Go.Hl

def uni (l : List (Nat × Nat)) : List (Nat × Nat) := l.eraseDups
def vR (f : Nat → List (Nat × Nat)) : Nat → Nat → Nat × Nat → List (Nat × Nat)
 | 0, _, p => [p]
 | c + 1, n, p => uni ((f n).flatMap fun q => vR f c (n + q.1) (p.1 + q.1, p.2 + q.2))
def pos : Nat → Nat → List (Nat × Nat)
 | 0, _ => [(1, 1)]
 | d + 1, n => uni ((1, 1) :: if n ≤ 8 then (List.range 3).flatMap fun c => vR (pos d) (c + 1) (n + 1) (1, 0) else [])
theorem nY {l : List (Nat × Nat)} {p : Nat × Nat} : p ∈ uni l ↔ p ∈ l := by unfold uni; simp_all
theorem yJ {f : Nat → List (Nat × Nat)} : ∀ {c n : Nat} {p q r : Nat × Nat}, q ∈ vR f c n p → r ∈ f (n + (q.1 - p.1)) → p.1 ≤ q.1 → (q.1 + r.1, q.2 + r.2) ∈ vR f (c + 1) n p
 | 0, n, p, q, r, hq, hr, _ => by simp_all [vR, List.mem_singleton, Nat.sub_self, Nat.add_zero, nY, List.mem_flatMap]
 | c + 1, n, p, q, r, hq, hr, hpq => by
  unfold vR at hq ⊢
  rw [nY, List.mem_flatMap] at hq ⊢
  obtain ⟨s, hs, hq⟩ := hq
  have hle : p.1 + s.1 ≤ q.1 := by
   have key : ∀ (c n : Nat) (p q : Nat × Nat), q ∈ vR f c n p → p.1 ≤ q.1 := by
    intro c
    induction c with
    | zero => simp_all [vR, List.mem_singleton, Nat.le_refl]
    | succ c ih =>
     grind [vR, nY]
   exact key _ _ _ _ hq
  refine ⟨s, hs, yJ hq ?_ hle⟩
  grind
structure Made (d n : Nat) (t : List Nd) : Prop where
 skip : skip 1 t = some []
 node : ∀ n ∈ t, bK n = true
 pos : (t.length, lv t) ∈ pos d n
theorem bS2 {t : List Nd} (h : Made 3 0 t) : IsTree t := by
 have hb : ∀ p ∈ pos 3 0, 1 ≤ p.1 ∧ p.1 ≤ 60 ∧ p.2 ≤ 16 := by decide +kernel
 obtain ⟨h1, h2, h3⟩ := hb _ h.pos
 exact ⟨h1, h2, h.skip, h.node, h3⟩
theorem yK {d n : Nat} {q : Rq} (h : eL q = true) : Made d n [⟨1, 0, 0, q⟩] := by
 refine ⟨rfl, fun x hx => ?_, ?_⟩
 ·
  simp only [List.mem_singleton] at hx
  subst hx
  unfold bK
  rw [if_pos rfl, h]; rfl
 ·
  cases d with
  | zero => simp [pos, lv]
  | succ d => rw [pos, nY]; exact List.mem_cons_self
structure MadeK (d n k : Nat) (ts : List Nd) : Prop where
 skip : skip k ts = some []
 node : ∀ n ∈ ts, bK n = true
 pos : (1 + ts.length, lv ts) ∈ vR (pos d) k (n + 1) (1, 0)
theorem MadeK.zero (d n : Nat) : MadeK d n 0 [] := ⟨rfl, by simp, by simp [vR, lv]⟩
theorem MadeK.next {d n k : Nat} {ts t : List Nd} (h : MadeK d n k ts) (ht : Made d (n + 1 + ts.length) t) : MadeK d n (k + 1) (ts ++ t) := by
 refine ⟨?_, fun x hx => ?_, ?_⟩
 ·
  rw [eD, jS ts t [] k h.skip]; exact ht.skip
 ·
  rcases List.mem_append.1 hx with hx | hx
  ·
   exact h.node x hx
  ·
   exact ht.node x hx
 ·
  have := yJ (r := (t.length, lv t)) h.pos (by
   rw [show n + 1 + (1 + ts.length - 1) = n + 1 + ts.length from by omega]; exact ht.pos) (by simp)
  grind [gI, Nat.add_assoc]
theorem MadeK.fin {d n : Nat} {ts : List Nd} {x : Nd} {c : Nat} (h : MadeK d n c ts) (hn : n ≤ 8) (hx : bK x = true) (hk : x.k ≠ 1) (hc : x.c = c) (h1 : 1 ≤ c) (h3 : c ≤ 3) : Made (d + 1) n (x :: ts) := by
 refine ⟨?_, fun y hy => ?_, ?_⟩
 ·
  show Pl.skip (0 + x.c.toNat) ts = some []
  rw [hc, Nat.zero_add]; exact h.skip
 ·
  rcases List.mem_cons.1 hy with rfl | hy
  ·
   grind
  ·
   exact h.node y hy
 ·
  rw [Pl.pos, nY]
  refine List.mem_cons_of_mem _ ?_
  rw [if_pos hn, List.mem_flatMap]
  refine ⟨c - 1, List.mem_range.2 (by omega), ?_⟩
  rw [show c - 1 + 1 = c from by omega]
  have := h.pos
  simp_all [lv, if_neg, List.length_cons, Nat.add_comm]

end Go.Pl

namespace Go.Pl
open Go Go.Hl

structure Ms where
 n : aE
 v : Int
 r : List Pr
 o : List Nat
 d : Bool
theorem bI9 : ∀ (f : Nat), (∀ ls t r, rdN f ls = (some t, r) → r.length < ls.length) ∧ (∀ ls p r, rdK f ls = (some p, r) → r.length < ls.length)
 | 0 => ⟨fun ls t r h => (by simp only [rdN] at h; cases h), fun ls p r h => (by simp only [rdK] at h; cases h)⟩
 | f + 1 => by
  obtain ⟨ihN, ihK⟩ := bI9 f
  refine ⟨fun ls t r h => ?_, fun ls p r h => ?_⟩
  ·
   cases ls with
   | nil => simp only [rdN] at h; cases h
   | cons w rest =>
    simp only [rdN] at h
    split at h
    ·
     cases h; simp
    ·
     split at h
     ·
      cases h
     ·
      cases hk : rdK f rest with
      | mk o r' =>
       rw [hk] at h
       cases o with
       | none => cases h
       | some p =>
        cases h
        have := ihK _ _ _ hk
        simp only [List.length_cons]; omega
  ·
   simp only [rdK] at h
   split at h
   ·
    rename_i he
    cases h
    cases ls with
    | nil => simp [gV] at he
    | cons w rest => simp
   ·
    cases h1 : rdN f ls with
    | mk o r1 =>
     rw [h1] at h
     cases o with
     | none => cases h
     | some t =>
      simp only at h
      cases h2 : rdK f r1 with
      | mk o2 r2 =>
       rw [h2] at h
       cases o2 with
       | none => cases h
       | some q =>
        cases h
        have a := ihN _ _ _ h1
        have b := ihK _ _ _ h2
        omega
theorem innR_c {w : List aE} {n : Nd} (h : jE w = some n) : n.c = 0 ∧ gV w = false := by
 refine ⟨?_, ?_⟩
 ·
  unfold jE at h
  split at h
  ·
   cases h; rfl
  split at h
  ·
   cases h; rfl
  split at h
  ·
   cases hv : bH (wd w 1) with
   | none => rw [hv] at h; cases h
   | some m => rw [hv] at h; cases h; rfl
  ·
   cases h
 ·
  cases he : gV w with
  | false => rfl
  | true => rw [yI he] at h; cases h
end Go.Pl

namespace Go.Pl
open Go Go.Hl

theorem vS {w : aE} (h : eC w = true) : 1 ≤ w.length ∧ w.length ≤ 64 := by
 cases w with
 | nil => cases h
 | cons c r =>
  simp_all [eC, Bool.and_eq_true, decide_eq_true_eq]
def bJ0 (p : Po) : Prop := eX p = true ∧ p.r.length ≤ 2 ∧ ∀ r ∈ p.r, r.b.length ≤ 80 ∧ r.c.length ≤ 80 ∧ r.t.length ≤ 40
end Go.Pl

namespace Go.Pl
open Go Go.Hl

def yL (ns im : aE) (r : Pr) : Bool := lE r.b ns && lE r.c im
def bJ1 (p : Po) (ns im : aE) : Int := if eX p then match p.r.findIdx? (yL ns im) with | some i => (i : Int) | none => -1 else -1
theorem bJ2 {p : Po} {ns im : aE} (hp : eX p = false) : bJ1 p ns im = -1 := by
 unfold bJ1; rw [if_neg (by rw [hp]; simp)]
def aI3 (n : Int) : Nd := ⟨1, 0, 0, ⟨1, n, 0, []⟩⟩
def awT : List Nd := [⟨4, 2, 3, rq0⟩, aI3 1, aI3 2, aI3 3]
def awP : Po := ⟨[112], 1, [⟨[114], [112, 114, 111, 100, 47, 42, 42], [42], 5, awT⟩]⟩
theorem bY9 : dH awT = true := by decide
theorem bZ0 : eX awP = true := by decide +kernel
theorem bJ3 : iF awT [true, false, true] = true := by decide
theorem bJ4 : iF awT [true] = false := by decide
theorem kS : (iN awT).length = 3 := by decide
theorem qD : (oS awT 0).length = 3 := by decide
theorem bZ1 : bJ1 awP [112, 114, 111, 100, 47, 101, 117] [119, 101, 98] = 0 := by decide +kernel
end Go.Pl

namespace Go.Pl
open Go Go.Hl
theorem bEq {c d : UInt8} (h : ((c.toNat : Int) == (d.toNat : Int)) = true) : c = d := by
 have h1 := eq_of_beq h
 exact UInt8.toNat_inj.1 (by omega)
theorem bNe {c d : UInt8} (h : ((c.toNat : Int) == (d.toNat : Int)) = false) : c ≠ d := by
 intro e; subst e; simp at h
theorem aI4 {l : List UInt8} {c : UInt8} (h : ¬ dD l c < 0) : c ∈ l := by
 unfold dD at h
 cases e : l.findIdx? (· == c) with
 | none => rw [e] at h; simp at h
 | some i =>
  obtain ⟨hi, h1, _⟩ := List.findIdx?_eq_some_iff_getElem.1 e
  have := eq_of_beq h1
  rw [← this]; exact List.getElem_mem hi
theorem sU {l : List UInt8} {c : UInt8} (h : dD l c < 0) : c ∉ l := by
 unfold dD at h
 cases e : l.findIdx? (· == c) with
 | none =>
  intro hc
  have := List.findIdx?_eq_none_iff.1 e c hc
  simp at this
 | some i => rw [e] at h; simp only at h; omega
theorem aI5 {p : aE} (h : p.length < 1 ∨ 200 < p.length) : gL p = none := by unfold gL; rw [if_pos h]
theorem aT8 {p : aE} (h1 : 1 ≤ p.length) (h2 : p.length ≤ 200) : gL p = patP p := by unfold gL; rw [if_neg (by omega)]
end Go.Pl

namespace Go.Proofs.YtlldglbooaefhaaDoor
open Go Go.Hl Go.Pl
set_option maxRecDepth 10000
set_option maxHeartbeats 16000000

theorem aI6 (p : aE) : mL Tryd.prog 53 [.str p] (fun u v => u = .slc (((gL p).getD []).map Pt.cv) ∧ v = .bool (gL p).isSome) := by
 refine FW Tryd.func53 ?_
 refine R0 ?_
 refine aC fun K hK => ?_
 refine aC fun K hK => Rg ?_
 iterate 4 refine S0 ?_
 refine aH 8 rfl (fun h1_8 => ?_) (fun h1_8 => ?_)
 ·
  have F := h1_8
  iterate 9 refine SF ?_
  refine T2 (hK _ _ _ ?_)
  clear hK K
  refine CT rfl ?_
  refine R0 ?_
  refine aF (RT Tryd.results53 ?_)
  have hn : gL p = none := aI5 (by simp at h1_8; omega)
  refine bF [] (.slc []) (.bool false) ?_ ⟨by rw [hn]; rfl, by rw [hn]; rfl⟩
  simp [HV.close, HV.closeL, CV.denil, CV.denilL, HV.norm, HV.toC, HV.toCL]
 have F := h1_8
 iterate 5 refine SF ?_
 refine aH 12 rfl (fun h1_12 => ?_) (fun h1_12 => ?_)
 ·
  have F := aI h1_8 h1_12
  iterate 4 refine SF ?_
  refine T2 (hK _ _ _ ?_)
  clear hK K
  refine CT rfl ?_
  refine R0 ?_
  refine aF (RT Tryd.results53 ?_)
  have hn : gL p = none := aI5 (by simp at h1_12; omega)
  refine bF [] (.slc []) (.bool false) ?_ ⟨by rw [hn]; rfl, by rw [hn]; rfl⟩
  simp [HV.close, HV.closeL, CV.denil, CV.denilL, HV.norm, HV.toC, HV.toCL]
 have F := aI h1_8 h1_12
 refine SF ?_
 refine aW (g := some (14, false)) rfl rfl fun K' hK' => T6 ?_
 refine C2 (pY p 0) ?_
 rintro u rfl
 refine AX (hK' _ _ ?_)
 clear hK' K'
 iterate 2 refine SF ?_
 refine aH 17 rfl (fun h1_17 => ?_) (fun h1_17 => ?_)
 ·
  simp only [h1_17]
  refine T2 (hK _ _ _ ?_)
  clear hK K
  refine CT rfl ?_
  refine R0 ?_
  refine aF (RT Tryd.results53 ?_)
  have hn : gL p = none := by
   rw [aT8 (by simp at h1_8; omega) (by simp at h1_12; omega)]
   exact iR p.length p (Nat.le_refl _) (aI4 (by simpa using h1_17))
  refine bF [] (.slc []) (.bool false) ?_ ⟨by rw [hn]; rfl, by rw [hn]; rfl⟩
  simp [HV.close, HV.closeL, CV.denil, CV.denilL, HV.norm, HV.toC, HV.toCL]
 simp only [h1_17]
 refine T2 (hK _ _ _ ?_)
 clear hK K
 refine CF rfl ?_
 refine aJ ?_
 refine T0 (hK _ _ _ ?_)
 clear hK K
 have hpv := aT8 (p := p) (by simp at h1_8; omega) (by simp at h1_12; omega)
 have hl : p.length ≤ 200 := by simp at h1_12; omega
 have hz0 : (0 : UInt8) ∉ p := sU (by simpa using h1_17)
 have hz : ∀ (i : Nat) (h : i < p.length), p[i] ≠ 0 := fun i h e => hz0 (e ▸ List.getElem_mem h)
 clear h1_8 h1_12 h1_17
 refine R0 ?_
 refine aC fun K hK => ?_
 refine R0 ?_
 refine aK ?_
 refine uO 4 0 120 2 rfl rfl rfl rfl ?_
 refine bO (α := {y : Nat × List Pt // PatSt p y.1 y.2}) (fun y => (fin [(0, .c (.str p)), (4, .own 68 y.1.2.length), (5, .c (.int .i64 y.1.1))], fob [(68, .row 120 2 (y.1.2.map Pt.cv))])) 100 (fun y => p.length - y.1.1) ⟨(0, []), PatSt.init p⟩ (fF) ?_
 rintro ⟨⟨i, out⟩, hst⟩
 simp only at hst
 have hi := hst.1
 have ho := hst.2.2.1
 refine aC fun K hK => ?_
 refine aC fun K hK => Rg ?_
 iterate 4 refine S0 ?_
 refine T2 (hK _ _ _ ?_)
 clear hK K
 refine aG (b := decide ((i : Int) < p.length)) rfl (fun hb => ?_) (fun hb => ?_)
 ·
  have hlt : i < p.length := by simpa using hb
  clear hb
  have hgd : p.getD i 0 = p[i] := by simp [hlt]
  have hw1 : IntKind.i64.wrap ((i : Int) + 1) = ((i + 1 : Nat) : Int) := by rw [IntWalk.i64_in _ (by omega)]; rfl
  have hw2 : IntKind.i64.wrap (((i + 1 : Nat) : Int) + 1) = ((i + 2 : Nat) : Int) := by rw [IntWalk.i64_in _ (by omega)]; rfl
  refine aJ ?_
  refine T0 (hK _ _ _ ?_)
  clear hK K
  refine aC fun K hK => ?_
  refine aK ?_
  refine aK ?_
  refine aC fun K hK => Rg ?_
  iterate 5 refine S0 ?_ (e := fun _ h_ => by simp only [sH, ↓sP, sA, tyS, simprocAttr, Int.natCast_nonneg, Int.ofNat_lt, hlt, hgd]; exact AX h_)
  refine T2 (hK _ _ _ ?_)
  clear hK K
  refine aG (b := ((p[i].toNat : Int) == 92)) rfl (fun hb => ?_) (fun hb => ?_)
  ·
   have h92 : p[i] = 92 := bEq (d := 92) hb
   clear hb
   have F := hw1
   refine RF ?_
   refine aC fun K hK => ?_
   refine aC fun K hK => Rg ?_
   iterate 4 refine S0 ?_
   refine T2 (hK _ _ _ ?_)
   clear hK K
   refine aG (b := (((i + 1 : Nat) : Int) == ((p.length : Nat) : Int))) rfl (fun hb => ?_) (fun hb => ?_)
   ·
    have hie : i + 1 = p.length := by have := eq_of_beq hb; omega
    refine R0 ?_
    refine aF (RT Tryd.results53 ?_)
    have hn : gL p = none := by rw [hpv]; exact hst.bad (aX4 hlt h92 hie)
    refine bF [] (.slc []) (.bool false) ?_ ⟨by rw [hn]; rfl, by rw [hn]; rfl⟩
    simp [HV.close, HV.closeL, CV.denil, CV.denilL, HV.norm, HV.toC, HV.toCL]
   have hi1 : i + 1 < p.length := by
    have : ¬ i + 1 = p.length := by rintro e; rw [e] at hb; simp at hb
    omega
   clear hb
   have hg1 : p.getD (i + 1) 0 = p[i + 1] := by simp [hi1]
   refine aJ ?_
   refine T0 (hK _ _ _ ?_)
   clear hK K
   refine Rg ?_
   have F := aI @Int.natCast_nonneg (aI @Int.ofNat_lt (aI hi1 (aI hg1 (aI @List.length_append.{0} @List.length_map.{0,0}))))
   iterate 8 refine SF ?_
   refine T2 (hK _ _ _ ?_)
   clear hK K
   refine aL (by kernel_rfl) ?_
   refine TQ hw2 ?_
   refine ⟨⟨(i + 2, out ++ [⟨0, p[i + 1]⟩]), hst.step (k := 2) (by omega) (by omega) (by simp) (bF3 hi1 h92 (hz (i + 1) hi1))⟩, aN (by omega) ?_ ?_, ?_⟩
   ·
    simp [bB, upd_at, fin_at, HV.men]
   ·
    simp only [bA, List.map_append]
    exact ⟨rfl, by omega, trivial, trivial⟩
   show p.length - (i + 2) < p.length - i
   omega
  have h92 : p[i] ≠ 92 := bNe (d := 92) hb
  clear hb
  refine aC fun K hK => Rg ?_
  iterate 5 refine S0 ?_ (e := fun _ h_ => by simp only [sH, ↓sP, sA, tyS, simprocAttr, Int.natCast_nonneg, Int.ofNat_lt, hlt, hgd]; exact AX h_)
  refine T2 (hK _ _ _ ?_)
  clear hK K
  refine aG (b := ((p[i].toNat : Int) == 63)) rfl (fun hb => ?_) (fun hb => ?_)
  ·
   have h63 : p[i] = 63 := bEq (d := 63) hb
   clear hb
   refine Rg ?_
   have F := aI @List.length_append.{0} @List.length_map.{0,0}
   iterate 5 refine SF ?_
   refine T2 (hK _ _ _ ?_)
   clear hK K
   refine aL (by kernel_rfl) ?_
   refine TQ hw1 ?_
   refine ⟨⟨(i + 1, out ++ [⟨1, 0⟩]), hst.step (k := 1) (by omega) (by omega) (by simp) (bY3 hlt h63)⟩, aN (by omega) ?_ ?_, ?_⟩
   ·
    simp [bB, upd_at, fin_at, HV.men]
   ·
    simp only [bA, List.map_append]
    exact ⟨rfl, by omega, trivial, trivial⟩
   show p.length - (i + 1) < p.length - i
   omega
  have h63 : p[i] ≠ 63 := bNe (d := 63) hb
  clear hb
  by_cases h42 : p[i] = 42
  ·
   by_cases hi1 : i + 1 < p.length
   ·
    by_cases h43 : p[i + 1] = 42
    ·
     have hd42 : ((p[i].toNat : Int) == 42) = true := by rw [h42]; rfl
     have hg1 : p.getD (i + 1) 0 = p[i + 1] := by simp [hi1]
     have hd43 : ((p[i + 1].toNat : Int) == 42) = true := by rw [h43]; rfl
     refine aC fun K hK => Rg ?_
     iterate 19 refine S0 ?_ (e := fun _ h_ => by simp only [sH, ↓sP, sA, tyS, simprocAttr, Int.natCast_nonneg, Int.ofNat_lt, hlt, hgd, hw1, hi1, hg1, hd42, hd43, decide_true]; exact AX h_)
     refine T2 (hK _ _ _ ?_)
     clear hK K
     refine CT rfl ?_
     have F := hw1
     refine RF ?_
     refine Rg ?_
     have F := aI @List.length_append.{0} @List.length_map.{0,0}
     iterate 5 refine SF ?_
     refine T2 (hK _ _ _ ?_)
     clear hK K
     refine aL (by kernel_rfl) ?_
     refine TQ hw2 ?_
     refine ⟨⟨(i + 2, out ++ [⟨3, 0⟩]), hst.step (k := 2) (by omega) (by omega) (by simp) (bP8 hi1 h42 h43)⟩, aN (by omega) ?_ ?_, ?_⟩
     ·
      simp [bB, upd_at, fin_at, HV.men]
     ·
      simp only [bA, List.map_append]
      exact ⟨rfl, by omega, trivial, trivial⟩
     show p.length - (i + 2) < p.length - i
     omega
    have hd42 : ((p[i].toNat : Int) == 42) = true := by rw [h42]; rfl
    have hg1 : p.getD (i + 1) 0 = p[i + 1] := by simp [hi1]
    have hd43 : ((p[i + 1].toNat : Int) == 42) = false := by rw [show (42 : Int) = ((42 : UInt8).toNat : Int) from rfl, bQ9]; simpa using h43
    refine aC fun K hK => Rg ?_
    iterate 19 refine S0 ?_ (e := fun _ h_ => by simp only [sH, ↓sP, sA, tyS, simprocAttr, Int.natCast_nonneg, Int.ofNat_lt, hlt, hgd, hw1, hi1, hg1, hd42, hd43, decide_true]; exact AX h_)
    refine T2 (hK _ _ _ ?_)
    clear hK K
    refine CF rfl ?_
    refine aC fun K hK => Rg ?_
    iterate 5 refine S0 ?_ (e := fun _ h_ => by simp only [sH, ↓sP, sA, tyS, simprocAttr, Int.natCast_nonneg, Int.ofNat_lt, hlt, hgd, hd42]; exact AX h_)
    refine T2 (hK _ _ _ ?_)
    clear hK K
    refine CT rfl ?_
    refine Rg ?_
    have F := aI @List.length_append.{0} @List.length_map.{0,0}
    iterate 5 refine SF ?_
    refine T2 (hK _ _ _ ?_)
    clear hK K
    refine aL (by kernel_rfl) ?_
    refine TQ hw1 ?_
    refine ⟨⟨(i + 1, out ++ [⟨2, 0⟩]), hst.step (k := 1) (by omega) (by omega) (by simp) (bF4 hlt h42 fun _ => h43)⟩, aN (by omega) ?_ ?_, ?_⟩
    ·
     simp [bB, upd_at, fin_at, HV.men]
    ·
     simp only [bA, List.map_append]
     exact ⟨rfl, by omega, trivial, trivial⟩
    show p.length - (i + 1) < p.length - i
    omega
   have hd42 : ((p[i].toNat : Int) == 42) = true := by rw [h42]; rfl
   have hdi : decide (((i + 1 : Nat) : Int) < ((p.length : Nat) : Int)) = false := by simp; omega
   refine aC fun K hK => Rg ?_
   iterate 19 refine S0 ?_ (e := fun _ h_ => by simp only [sH, ↓sP, sA, tyS, simprocAttr, Int.natCast_nonneg, hdi, hlt, hgd, hw1, hd42]; exact AX h_)
   refine T2 (hK _ _ _ ?_)
   clear hK K
   refine CF rfl ?_
   refine aC fun K hK => Rg ?_
   iterate 5 refine S0 ?_ (e := fun _ h_ => by simp only [sH, ↓sP, sA, tyS, simprocAttr, Int.natCast_nonneg, Int.ofNat_lt, hlt, hgd, hd42]; exact AX h_)
   refine T2 (hK _ _ _ ?_)
   clear hK K
   refine CT rfl ?_
   refine Rg ?_
   have F := aI @List.length_append.{0} @List.length_map.{0,0}
   iterate 5 refine SF ?_
   refine T2 (hK _ _ _ ?_)
   clear hK K
   refine aL (by kernel_rfl) ?_
   refine TQ hw1 ?_
   refine ⟨⟨(i + 1, out ++ [⟨2, 0⟩]), hst.step (k := 1) (by omega) (by omega) (by simp) (bF4 hlt h42 fun h => absurd h hi1)⟩, aN (by omega) ?_ ?_, ?_⟩
   ·
    simp [bB, upd_at, fin_at, HV.men]
   ·
    simp only [bA, List.map_append]
    exact ⟨rfl, by omega, trivial, trivial⟩
   show p.length - (i + 1) < p.length - i
   omega
  have hd42 : ((p[i].toNat : Int) == 42) = false := by rw [show (42 : Int) = ((42 : UInt8).toNat : Int) from rfl, bQ9]; simpa using h42
  refine aC fun K hK => Rg ?_
  iterate 19 refine S0 ?_ (e := fun _ h_ => by simp only [sH, ↓sP, sA, tyS, simprocAttr, Int.natCast_nonneg, Int.ofNat_lt, hlt, hgd, hw1, hd42]; exact AX h_)
  refine T2 (hK _ _ _ ?_)
  clear hK K
  refine CF rfl ?_
  refine aC fun K hK => Rg ?_
  iterate 5 refine S0 ?_ (e := fun _ h_ => by simp only [sH, ↓sP, sA, tyS, simprocAttr, Int.natCast_nonneg, Int.ofNat_lt, hlt, hgd, hd42]; exact AX h_)
  refine T2 (hK _ _ _ ?_)
  clear hK K
  refine CF rfl ?_
  refine Rg ?_
  iterate 8 refine S0 ?_ (e := fun _ h_ => by simp only [sH, ↓sP, sA, tyS, simprocAttr, Int.natCast_nonneg, Int.ofNat_lt, hlt, hgd, List.length_append, List.length_map]; exact AX h_)
  refine T2 (hK _ _ _ ?_)
  clear hK K
  refine aL (by kernel_rfl) ?_
  refine TQ hw1 ?_
  refine ⟨⟨(i + 1, out ++ [⟨0, p[i]⟩]), hst.step (k := 1) (by omega) (by omega) (by simp) (bY4 hlt (hz i hlt) h92 h63 h42)⟩, aN (by omega) ?_ ?_, ?_⟩
  ·
   simp [bB, upd_at, fin_at, HV.men]
  ·
   simp only [bA, List.map_append]
   exact ⟨rfl, by omega, trivial, trivial⟩
  show p.length - (i + 1) < p.length - i
  omega
 refine bD (T3 ?_)
 clear hK K
 refine AX (hK _ _ _ ?_)
 clear hK K
 have hei : i = p.length := by simp at hb; omega
 have hfin : gL p = some out := by rw [hpv]; exact hst.fin hei
 refine R0 ?_
 refine aF (RT Tryd.results53 ?_)
 refine bF [68] (.slc (out.map Pt.cv)) (.bool true) ?_ ⟨by rw [hfin]; rfl, by rw [hfin]; rfl⟩
 simp [HV.close, fob_at, upd_at, HV.norm, HV.toC, HV.closeL, HV.toCL, CV.denil, denilL_Pt]


end Go.Proofs.YtlldglbooaefhaaDoor

namespace Go.Pl
open Go Go.Hl
def qE (c : UInt8) (l : aE) : aE := match l.findIdx? (· == c) with | some i => l.take i | none => l
def vT (c : UInt8) (l : aE) : aE := match l.findIdx? (· == c) with | some i => l.drop (i + 1) | none => []
def tF (c : UInt8) (l : aE) : Bool := (l.findIdx? (· == c)).isSome
theorem qF {c : UInt8} {l : aE} {i : Nat} (h : dD l c = (i : Int)) : i < l.length ∧ qE c l = l.take i ∧ vT c l = l.drop (i + 1) ∧ tF c l = true := by
 unfold dD at h
 cases e : l.findIdx? (· == c) with
 | none => grind
 | some j =>
  grind [List.findIdx?_eq_some_iff_getElem, qE, vT, tF]
theorem qG {c : UInt8} {l : aE} (h : dD l c < 0) : qE c l = l ∧ vT c l = [] ∧ tF c l = false := by grind [dD, qE, vT, tF]
theorem yM (c : UInt8) (l : aE) : aR c l = if tF c l then qE c l :: aR c (vT c l) else [qE c l] := by
 by_cases h : dD l c < 0
 all_goals grind [qG, mJ, dT, qF]
theorem aI7 {c : UInt8} {l : aE} (h : tF c l = true) : (vT c l).length < l.length := by
 by_cases h0 : dD l c < 0
 ·
  simp_all [qG]
 ·
  obtain ⟨i, hi, hil, _⟩ := dT h0
  rw [(qF hi).2.2.1]; grind
def PathSt (p : aE) (m : Bool) (s : aE) : Prop := s.length ≤ 200 ∧ (aR 47 p).all jQ = if m then (aR 47 s).all jQ else true
theorem PathSt.step {p s : aE} (h : PathSt p true s) (hg : jQ (qE 47 s) = true) : PathSt p (tF 47 s) (vT 47 s) := by
 refine ⟨?_, ?_⟩
 ·
  cases hf : tF 47 s with
  | true => have := aI7 hf; have := h.1; omega
  | false =>
   by_cases h0 : dD s 47 < 0
   all_goals grind [qG, dT, qF]
 ·
  rw [h.2, if_pos rfl, yM 47 s]
  grind
theorem PathSt.bad {p s : aE} (h : PathSt p true s) (hg : jQ (qE 47 s) = false) : (aR 47 p).all jQ = false := by
 rw [h.2, if_pos rfl, yM 47 s]
 grind
theorem bJ5 {p : aE} (h1 : 1 ≤ p.length) (h2 : p.length ≤ 200) (h0 : (0 : UInt8) ∉ p) : jR p = (aR 47 p).all jQ := by grind [jR]
theorem yN {p : aE} (h : p.length < 1 ∨ 200 < p.length) : jR p = false := by grind [jR, decide_eq_false]
theorem aP2 {p : aE} (h : (0 : UInt8) ∈ p) : jR p = false := by
 unfold jR; grind
theorem vU {w : aE} (h : w = [] ∨ w = [46] ∨ w = [46, 46]) : jQ w = false := by
 rcases h with h | h | h <;> subst h <;> rfl
theorem aZ6 {w : aE} (h1 : w ≠ []) (h2 : w ≠ [46]) (h3 : w ≠ [46, 46]) : jQ w = true := by grind [jQ]
end Go.Pl

namespace Go.Proofs.YtlldglbooaefhaaDoor
open Go Go.Hl Go.Pl
set_option maxRecDepth 10000
set_option maxHeartbeats 16000000

theorem bJ6 (l : aE) (c : UInt8) (hl : l.length < 2 ^ 40) : aA1 Tryd.prog 92 [.str l, .str [c]] (fun u v x => u = .str (qE c l) ∧ v = .str (vT c l) ∧ x = .bool (tF c l)) := by
 refine FW Tryd.func92 ?_
 refine R0 ?_
 refine aC fun K hK => ?_
 refine aC fun K hK => Rg ?_
 iterate 2 refine S0 ?_
 refine HS rfl rfl fun K' hK' => T5 ?_
 refine C2 (aO2 l c) ?_
 rintro u rfl
 refine AX (hK' _ _ ?_)
 clear hK' K'
 refine S0 ?_
 refine T2 (hK _ _ _ ?_)
 clear hK K
 refine R0 ?_
 refine aG (b := decide ((0 : Int) ≤ dD l c)) rfl (fun hb => ?_) (fun hb => ?_)
 ·
  have hn : ¬ dD l c < 0 := by simp at hb; omega
  obtain ⟨i, hi, hil, hsp⟩ := dT hn
  obtain ⟨_, c1, c2, c3⟩ := qF hi
  have htd : List.take (l.length - (i + 1)) (List.drop (i + 1) l) = List.drop (i + 1) l := List.take_of_length_le (by simp)
  have hil1 : i + 1 ≤ l.length := hil
  have hil0 : i ≤ l.length := by omega
  rw [hi]
  refine aC fun K hK => QR ?_
  have F := aI @Int.natCast_nonneg (aI @Int.ofNat_le (aI @Int.sub_zero (aI @Nat.sub_zero (aI @List.drop_zero.{0} (aI hil0 (aI hil1 (aI htd (show IntKind.i64.wrap ((i : Int) + 1) = ((i + 1 : Nat) : Int) from by rw [IntWalk.i64_in _ (by omega)]; rfl))))))))
  iterate 12 refine SF ?_
  refine T2 (hK _ _ _ ?_)
  clear hK K
  refine aF (RT Tryd.results92 ?_)
  exact iZ [] (.str (l.take i)) (.str (l.drop (i + 1))) (.bool true) rfl ⟨by rw [c1], by rw [c2], by rw [c3]⟩
 have hn : dD l c < 0 := by simp at hb; omega
 obtain ⟨c1, c2, c3⟩ := qG hn
 refine aJ ?_
 refine T0 (hK _ _ _ ?_)
 clear hK K
 refine aC fun K hK => Rg ?_
 iterate 4 refine S0 ?_
 refine T2 (hK _ _ _ ?_)
 clear hK K
 refine aF (RT Tryd.results92 ?_)
 exact iZ [] (.str l) (.str []) (.bool false) rfl ⟨by rw [c1], by rw [c2], by rw [c3]⟩


theorem bS3 (l : aE) (c : UInt8) (hl : l.length < 2 ^ 40) : aA1 Tryd.prog 79 [.str l, .str [c]] (fun u v x => u = .str (qE c l) ∧ v = .str (vT c l) ∧ x = .bool (tF c l)) := by
 refine FW Tryd.func79 ?_
 refine R0 ?_
 refine aC fun K hK => Rg ?_
 iterate 2 refine S0 ?_
 refine HS rfl rfl fun K' hK' => T5 ?_
 refine oR (args := [_, _]) (bJ6 l c hl) ⟨rfl, rfl, rfl, rfl⟩ ?_
 rintro u v x ⟨rfl, rfl, rfl⟩
 refine AX (hK' _ _ ?_)
 clear hK' K'
 iterate 6 refine S0 ?_
 refine T2 (hK _ _ _ ?_)
 clear hK K
 refine aF (RT Tryd.results79 ?_)
 exact iZ [] _ _ _ rfl ⟨rfl, rfl, rfl⟩


theorem aT9 (p : aE) : cH Tryd.prog 35 [.str p] (fun v => v = .bool (gL p).isSome) := by
 refine FW Tryd.func35 ?_
 refine R0 ?_
 refine aC fun K hK => Rg ?_
 refine S0 ?_
 refine HS rfl rfl fun K' hK' => T5 ?_
 refine D1 (aI6 p) ?_
 rintro u v ⟨rfl, rfl⟩
 refine AX (hK' _ _ ?_)
 clear hK' K'
 iterate 5 refine S0 ?_
 refine T2 (hK _ _ _ ?_)
 clear hK K
 refine R0 ?_
 refine aF (RT Tryd.results35 ?_)
 exact aM [] _ rfl rfl



theorem aU0 (p : aE) : cH Tryd.prog 62 [.str p] (fun v => v = .bool (jR p)) := by
 refine FW Tryd.func62 ?_
 refine R0 ?_
 refine aC fun K hK => ?_
 refine aC fun K hK => Rg ?_
 iterate 4 refine S0 ?_
 refine aH 7 rfl (fun h1_7 => ?_) (fun h1_7 => ?_)
 ·
  have F := h1_7
  iterate 9 refine SF ?_
  refine T2 (hK _ _ _ ?_)
  clear hK K
  refine CT rfl ?_
  refine R0 ?_
  refine aF (RT Tryd.results62 ?_)
  exact aM [] (.bool false) rfl (by rw [yN (by simp at h1_7; omega)])
 have F := h1_7
 iterate 5 refine SF ?_
 refine aH 11 rfl (fun h1_11 => ?_) (fun h1_11 => ?_)
 ·
  clear F
  have F := aI h1_7 h1_11
  iterate 4 refine SF ?_
  refine T2 (hK _ _ _ ?_)
  clear hK K
  refine CT rfl ?_
  refine R0 ?_
  refine aF (RT Tryd.results62 ?_)
  exact aM [] (.bool false) rfl (by rw [yN (by simp at h1_11; omega)])
 clear F
 have F := aI h1_7 h1_11
 refine SF ?_
 refine aW (g := some (13, false)) rfl rfl fun K' hK' => T6 ?_
 refine C2 (pY p 0) ?_
 rintro u rfl
 refine AX (hK' _ _ ?_)
 clear hK' K'
 iterate 2 refine SF ?_
 refine aH 16 rfl (fun h1_16 => ?_) (fun h1_16 => ?_)
 ·
  simp only [h1_16]
  refine T2 (hK _ _ _ ?_)
  clear hK K
  refine CT rfl ?_
  refine R0 ?_
  refine aF (RT Tryd.results62 ?_)
  exact aM [] (.bool false) rfl (by rw [aP2 (aI4 (by simpa using h1_16))])
 simp only [h1_16]
 refine T2 (hK _ _ _ ?_)
 clear hK K
 refine CF rfl ?_
 refine aJ ?_
 refine T0 (hK _ _ _ ?_)
 clear hK K
 refine aC fun K hK => ?_
 have hl : p.length ≤ 200 := by simp at h1_11; omega
 have hpv := bJ5 (p := p) (by simp at h1_7; omega) hl (sU (by simpa using h1_16))
 clear h1_7 h1_11 h1_16
 refine R0 ?_
 refine aK ?_
 refine bO (α := {y : Bool × aE // PathSt p y.1 y.2}) (fun y => (fin [(0, .c (.str y.1.2)), (3, .c (.bool y.1.1))], fob [])) 100 (fun y => if y.1.1 then y.1.2.length + 1 else 0) ⟨(true, p), hl, by simp⟩ (fF) ?_
 rintro ⟨⟨m, s⟩, hst⟩
 simp only at hst
 have hs := hst.1
 refine aC fun K hK => ?_
 refine R0 ?_
 refine aG (b := m) rfl (fun hb => ?_) (fun hb => ?_)
 ·
  subst hb
  refine aJ ?_
  refine T0 (hK _ _ _ ?_)
  clear hK K
  refine aK ?_
  refine R0 ?_
  refine aC fun K hK => Rg ?_
  refine S0 ?_
  refine HS rfl rfl fun K' hK' => T5 ?_
  refine oR (args := [_, _]) (bS3 s 47 (by omega)) ⟨rfl, rfl, rfl, rfl⟩ ?_
  rintro u v x ⟨rfl, rfl, rfl⟩
  refine AX (hK' _ _ ?_)
  clear hK' K'
  iterate 7 refine S0 ?_
  refine T2 (hK _ _ _ ?_)
  clear hK K
  refine aC fun K hK => Rg ?_
  iterate 3 refine S0 ?_
  refine aH 26 rfl (fun h7_26 => ?_) (fun h7_26 => ?_)
  ·
   clear F
   have F := h7_26
   iterate 7 refine SF ?_
   refine T2 (hK _ _ _ ?_)
   clear hK K
   refine CT rfl ?_
   refine R0 ?_
   refine aF (RT Tryd.results62 ?_)
   have hg : jQ (qE 47 s) = false := vU (.inl (eq_of_beq h7_26))
   exact aM [] (.bool false) rfl (by rw [hpv, hst.bad hg])
  clear F
  have F := h7_26
  iterate 4 refine SF ?_
  refine aH 29 rfl (fun h7_29 => ?_) (fun h7_29 => ?_)
  ·
   clear F
   have F := aI h7_26 h7_29
   iterate 3 refine SF ?_
   refine T2 (hK _ _ _ ?_)
   clear hK K
   refine CT rfl ?_
   refine R0 ?_
   refine aF (RT Tryd.results62 ?_)
   have hg : jQ (qE 47 s) = false := vU (.inr (.inl (eq_of_beq h7_29)))
   exact aM [] (.bool false) rfl (by rw [hpv, hst.bad hg])
  clear F
  have F := aI h7_26 h7_29
  iterate 3 refine SF ?_
  refine aH 33 rfl (fun h7_33 => ?_) (fun h7_33 => ?_)
  ·
   simp only [h7_33]
   refine T2 (hK _ _ _ ?_)
   clear hK K
   refine CT rfl ?_
   refine R0 ?_
   refine aF (RT Tryd.results62 ?_)
   have hg : jQ (qE 47 s) = false := vU (.inr (.inr (eq_of_beq h7_33)))
   exact aM [] (.bool false) rfl (by rw [hpv, hst.bad hg])
  simp only [h7_33]
  refine T2 (hK _ _ _ ?_)
  clear hK K
  refine CF rfl ?_
  refine aJ (T3 ?_)
  have hg : jQ (qE 47 s) = true := aZ6 (by simpa using h7_26) (by simpa using h7_29) (by simpa using h7_33)
  refine ⟨⟨(tF 47 s, vT 47 s), hst.step hg⟩, fF, ?_⟩
  show (if tF 47 s = true then (vT 47 s).length + 1 else 0) < if true = true then s.length + 1 else 0
  rw [if_pos rfl]
  split
  ·
   rename_i h
   have := aI7 h
   omega
  omega
 subst hb
 refine bD (T3 ?_)
 clear hK K
 refine AX (hK _ _ _ ?_)
 clear hK K
 refine R0 ?_
 refine aF (RT Tryd.results62 ?_)
 exact aM [] (.bool true) rfl (by rw [hpv, hst.2]; rfl)


end Go.Proofs.YtlldglbooaefhaaDoor

namespace Go.Proofs.YtlldglbooaefhaaDoor
open Go Go.Hl Go.Pl
set_option maxRecDepth 10000
set_option maxHeartbeats 16000000

theorem cH4 : lst [] = cI := by funext j; simp [lst, cI]

theorem bS4 (x : Pt) (c : UInt8) : cC4 Tryd.prog 80 120 x.cv [u8 c] (fun v => v = .bool (c == x.c)) := by
 show HFn _ _ [.c (u8 c), .ptr 0 0] 1 _ _
 refine bP (args := [.c (u8 c), .ptr 0 0]) Tryd.func80 rfl (by kernel_rfl) (xO _ _ [u8 c]) (Nat.le_of_ble_eq_true rfl) ?_
 refine R0 ?_
 refine aC fun K hK => Rg ?_
 have F := aI @Pt.get_c @bQ9
 iterate 5 refine SF ?_
 refine T2 (hK _ _ _ ?_)
 clear hK K
 refine aF (RT Tryd.results80 ?_)
 refine aM9 [] (.bool (c == x.c)) x.cv rfl rfl (by simp [HV.close, HV.norm, HV.toC, Pt.denil]) (by simp) rfl rfl


theorem aZ7 (x : Pt) (hk : x.k = 0) : HGe Tryd.prog 63 [.c x.cv] [] (fun r os => r = .clo 80 [.ptr 0 0] ∧ os = [.box 120 (.c x.cv)]) := by
 show HFn _ _ [.c x.cv] 0 (lst []) _
 rw [cH4]
 refine bP (args := [.c x.cv]) Tryd.func63 rfl (by kernel_rfl) (iQ [x.cv]) (Nat.le_of_ble_eq_true rfl) ?_
 have hd0 : ((x.k : Int) == 0) = true := by rw [hk]; rfl
 have F := aI @Pt.cells (aI @Pt.isAgg @Pt.getAll)
 refine RF ?_
 refine aC fun K hK => ?_
 have F := @Pt.get_k
 refine RF ?_
 refine aK ?_
 have F := hd0
 refine RF ?_
 refine CT rfl ?_
 refine R0 ?_
 refine aF (RT Tryd.results63 ?_)
 refine dX [] [0] (.clo 80 [.ptr 0 0]) [.box 120 (.c x.cv)] rfl ?_ ?_ rfl (by simp) (by simp) (by simp) ⟨rfl, rfl⟩
 ·
  simp [HV.men, HV.menL]
 refine ⟨⟨by simp [HO.men, HV.men], by simp, .box 120 (.c x.cv), rfl, ?_⟩, trivial⟩
 simp [fG, HV.close, HV.norm, HV.toC, Pt.denil, HO.ren, HV.ren]


theorem aZ8 (x : Pt) (hk : x.k = 3) : cH Tryd.prog 63 [x.cv] (fun v => v = .fn 81) := by
 refine FW Tryd.func63 ?_
 have hd0 : ((x.k : Int) == 0) = false := by rw [hk]; rfl
 have hd3 : ((x.k : Int) == 3) = true := by rw [hk]; rfl
 have F := aI @Pt.cells (aI @Pt.isAgg @Pt.getAll)
 refine RF ?_
 refine aC fun K hK => ?_
 have F := @Pt.get_k
 refine RF ?_
 refine aK ?_
 have F := hd0
 refine RF ?_
 refine CF rfl ?_
 have F := hd3
 refine RF ?_
 refine CT rfl ?_
 refine R0 ?_
 refine aF (RT Tryd.results63 ?_)
 exact aM [] (.fn 81) rfl rfl


theorem yO (x : Pt) (hk : x.k = 1 ∨ x.k = 2) : cH Tryd.prog 63 [x.cv] (fun v => v = .fn 82) := by
 refine FW Tryd.func63 ?_
 have hd0 : ((x.k : Int) == 0) = false := by rcases hk with h | h <;> rw [h] <;> rfl
 have hd3 : ((x.k : Int) == 3) = false := by rcases hk with h | h <;> rw [h] <;> rfl
 have F := aI @Pt.cells (aI @Pt.isAgg @Pt.getAll)
 refine RF ?_
 refine aC fun K hK => ?_
 have F := @Pt.get_k
 refine RF ?_
 refine aK ?_
 have F := hd0
 refine RF ?_
 refine CF rfl ?_
 have F := hd3
 refine RF ?_
 refine CF rfl ?_
 refine aJ ?_
 refine T0 (hK _ _ _ ?_)
 clear hK K
 refine R0 ?_
 refine aF (RT Tryd.results63 ?_)
 exact aM [] (.fn 82) rfl rfl


end Go.Proofs.YtlldglbooaefhaaDoor

namespace Go.Pl
open Go Go.Hl
theorem aZ9 {p : aE} {ps : List Pt} (h : gL p = some ps) : ps.length ≤ 200 ∧ ∀ x ∈ ps, x.k ≤ 3 := by
 unfold gL at h
 split at h
 ·
  cases h
 ·
  rename_i hl
  obtain ⟨h1, h2⟩ := aS2 p.length p ps (Nat.le_refl _) h
  grind
theorem aI8 {p s : aE} (h : gL p = none) : lE p s = false := by unfold lE; rw [h]
theorem aI9 {p s : aE} (h : jR s = false) : lE p s = false := by grind [lE]
theorem aJ0 {p s : aE} {ps : List Pt} (h : gL p = some ps) (hs : jR s = true) : lE p s = mD ps s ps.length s.length := by grind [lE]
theorem bA0 {s : aE} (h : jR s = true) : s.length ≤ 200 := by simp_all [jR, Bool.and_eq_true, decide_eq_true_eq]
def bX (n : Nat) (f : Nat → Bool) : List CV := (tab n f).map bC1
theorem aT (n : Nat) (f : Nat → Bool) : (bX n f).length = n := by simp [bX, lG]
theorem aU {n : Nat} {f : Nat → Bool} {i : Nat} (h : i < n) : nth (bX n f) i = .bool (f i) := bQ7 h
theorem bA1 (n : Nat) : List.replicate n (CV.bool false) = bX n (fun _ => false) := by
 unfold bX; rw [← aY4]; simp [bC1]
theorem vV (n : Nat) (f : Nat → Bool) (i : Nat) (b : Bool) : (bX n f).set i (.bool b) = bX n (fun j => if j = i then b else f j) := by
 unfold bX
 rw [← bQ6, List.map_set]; rfl
theorem gW (n : Nat) (f : Nat → Bool) : CV.denilL (bX n f) = bX n f := bV (fun x => by simp [bC1, CV.denil]) _
theorem bA2 {n : Nat} {ps : List Pt} {s : aE} : (bX n (fun _ => false)).set 0 (.bool true) = bX n (fun j => if j = 0 then true else false) := vV _ _ _ _
theorem gX {n : Nat} {ps : List Pt} {s : aE} {k : Nat} {b : Bool} (hb : b = (mD ps s k 0 && (prt ps k).long)) : (bX n (fun _ => false)).set 0 (.bool b) = bX n (nxt ps s k 0) := by
 rw [vV, hb]
 congr 1
 grind [bG7]
theorem fJ {n : Nat} {ps : List Pt} {s : aE} {k i : Nat} {b : Bool} (hb : b = mD ps s (k + 1) (i + 1)) : (bX n (nxt ps s k i)).set (i + 1) (.bool b) = bX n (nxt ps s k (i + 1)) := by simp_all [vV, bG8]
theorem tN {ps : List Pt} {s : aE} {k : Nat} : bX (s.length + 1) (nxt ps s k s.length) = bX (s.length + 1) (mD ps s (k + 1)) := by
 unfold bX; rw [bQ8]
theorem bJ7 {ps : List Pt} {s : aE} : bX (s.length + 1) (fun j => if j = 0 then true else false) = bX (s.length + 1) (mD ps s 0) := by
 unfold bX; rw [bG9]
theorem bS5 {ps : List Pt} {k : Nat} (h : k < ps.length) : prt ps k = ps[k] := by simp [prt, h]
end Go.Pl
