/- The lines of a root document, and its encoded form (11.2), in plain Lean. By an AI agent. -/
import Derived.Test.YtenbfeemmpjdhaaGreatDoorPl02g
import Derived.Test.YtenbfeemmpjdhaaGreatDoorPl02e
import Derived.Test.YtenbfeemmpjdhaaGreatDoorPl11h
import Derived.Test.YtenbfeemmpjdhaaGreatDoorHyTz
import Derived.Lib.ItoaLen
import Derived.Test.YtenbfeemmpjdhaaGreatDoorPl18e
import Derived.Test.YtenbfeemmpjdhaaGreatDoorHySb
set_option linter.unusedSimpArgs false
set_option linter.unusedVariables false
set_option linter.defProp false
namespace Go.Pl
open Go Go.Hl

theorem sF (c : UInt8) : ∀ m : aK, aT c (m ++ [c]) = aT c m ++ [[]]
 | [] => by simp [aT]
 | b :: m => by
  have ih := sF c m
  simp only [List.cons_append]
  rw [aT, aT]
  by_cases h : b = c
  ·
   rw [if_pos h, if_pos h, ih]; rfl
  ·
   rw [if_neg h, if_neg h, ih]
   cases hs : aT c m with
   | nil => exact absurd hs (bX c m)
   | cons x xs => rfl
theorem mI {c : UInt8} : ∀ {l : aK}, l ≠ [] → (aT c l).getLast (bX c l) = [] → ∃ m, l = m ++ [c]
 | [], h, _ => absurd rfl h
 | b :: l, _, hl => by
  by_cases h : b = c
  ·
   subst h
   have hs : aT b (b :: l) = [] :: aT b l := by rw [aT, if_pos rfl]
   cases l with
   | nil => exact ⟨[], rfl⟩
   | cons d l =>
    have : (aT b (d :: l)).getLast (bX b _) = [] := by
     simp only [hs] at hl
     rw [List.getLast_cons (bX b _)] at hl
     exact hl
    obtain ⟨m, hm⟩ := mI (l := d :: l) (by simp) this
    exact ⟨b :: m, by rw [hm]; rfl⟩
  ·
   cases hs : aT c l with
   | nil => exact absurd hs (bX c l)
   | cons x xs =>
    have hs2 : aT c (b :: l) = (b :: x) :: xs := by rw [aT, if_neg h, hs]
    simp only [hs2] at hl
    cases xs with
    | nil => simp at hl
    | cons y ys =>
     have hne : l ≠ [] := by rintro rfl; simp [aT] at hs
     have : (aT c l).getLast (bX c l) = [] := by
      simp only [hs]
      rw [List.getLast_cons (by simp)] at hl ⊢
      exact hl
     obtain ⟨m, hm⟩ := mI hne this
     exact ⟨b :: m, by rw [hm]; rfl⟩
def gP (c : UInt8) : List aK → aK
 | [] => []
 | w :: l => w ++ l.flatMap fun v => c :: v
theorem mJ (c : UInt8) : ∀ l : aK, gP c (aT c l) = l
 | [] => rfl
 | b :: l => by
  have ih := mJ c l
  rw [aT]
  cases hs : aT c l with
  | nil => exact absurd hs (bX c l)
  | cons x xs =>
   rw [hs] at ih
   simp only [gP] at ih
   split
   ·
    rename_i h
    subst h
    simp only [gP, List.nil_append, List.flatMap_cons, List.cons_append]
    rw [ih]
   ·
    simp only [gP, List.cons_append]
    rw [ih]
theorem sG {c : UInt8} : ∀ {w : aK}, (∀ b ∈ w, b ≠ c) → aT c w = [w]
 | [], _ => rfl
 | b :: w, h => by
  rw [aT, if_neg (h b List.mem_cons_self), sG fun x hx => h x (List.mem_cons_of_mem _ hx)]
theorem vM {c : UInt8} {r : aK} : ∀ {w : aK}, (∀ b ∈ w, b ≠ c) → aT c (w ++ c :: r) = w :: aT c r
 | [], _ => by simp only [List.nil_append]; rw [aT, if_pos rfl]
 | b :: w, h => by
  simp only [List.cons_append]
  rw [aT, if_neg (h b List.mem_cons_self), vM fun x hx => h x (List.mem_cons_of_mem _ hx)]
theorem mK {c : UInt8} : ∀ {l : List aK}, l ≠ [] → (∀ w ∈ l, ∀ b ∈ w, b ≠ c) → aT c (gP c l) = l
 | [], h, _ => absurd rfl h
 | [w], _, h => by simp only [gP, List.flatMap_nil, List.append_nil]; exact sG (h w List.mem_cons_self)
 | w :: v :: l, _, h => by
  have ih := mK (c := c) (l := v :: l) (by simp) fun x hx => h x (List.mem_cons_of_mem _ hx)
  have e : gP c (w :: v :: l) = w ++ c :: gP c (v :: l) := by simp [gP]
  rw [e, vM (h w List.mem_cons_self), ih]
theorem aQ0 (c : UInt8) (m : aK) : ((aT c m).flatMap fun r => r ++ [c]) = m ++ [c] := by
 have h := mJ c m
 cases hs : aT c m with
 | nil => exact absurd hs (bX c m)
 | cons x xs =>
  rw [hs] at h
  simp only [gP] at h
  rw [← h]
  have key : ∀ (x : aK) (xs : List aK), (List.flatMap (fun r => r ++ [c]) (x :: xs)) = (x ++ xs.flatMap fun v => c :: v) ++ [c] := by
   intro x xs
   induction xs generalizing x with
   | nil => simp
   | cons y ys ih =>
    rw [List.flatMap_cons, ih y]
    simp
  exact key x xs

set_option maxRecDepth 20000 in
theorem aK7 {c : UInt8} (h : valH c < 16) : lJ (valH c) = c := by
 have key : ∀ n : Fin 256, valH (UInt8.ofNat n.1) < 16 → lJ (valH (UInt8.ofNat n.1)) = UInt8.ofNat n.1 := by decide
 have := key ⟨c.toNat, c.toNat_lt⟩
 simp only [UInt8.ofNat_toNat] at this
 exact this h
set_option maxRecDepth 20000 in
theorem yN {n : Nat} (h : n < 16) : valH (lJ n) = n := by
 have key : ∀ n : Fin 16, valH (lJ n.1) = n.1 := by decide
 exact key ⟨n, h⟩
theorem bK7 {x y : UInt8} (h : okH x y = true) : gL (byteH x y) = [37, x, y] := by
 simp only [okH, Bool.and_eq_true, decide_eq_true_eq, Bool.not_eq_true'] at h
 obtain ⟨⟨h1, h2⟩, h3⟩ := h
 unfold gL
 rw [h3, rB h1 h2]
 have e1 : (16 * valH x + valH y) / 16 = valH x := by omega
 have e2 : (16 * valH x + valH y) % 16 = valH y := by omega
 simp only [Bool.false_eq_true, if_false, e1, e2, aK7 h1, aK7 h2]
theorem vN {c : UInt8} (h : bS c = true) : gL c = [c] := by unfold gL; rw [h]; rfl
theorem aD2 : ∀ (n : Nat) {s w : aK}, s.length ≤ n → unB s = some w → bW w = s
 | 0, s, w, hn, h => by
  have : s = [] := List.eq_nil_of_length_eq_zero (by omega)
  subst this
  simp only [unB, Option.some.injEq] at h
  subst h; rfl
 | n + 1, [], w, _, h => by
  simp only [unB, Option.some.injEq] at h
  subst h; rfl
 | n + 1, c :: l, w, hn, h => by
  simp only [List.length_cons] at hn
  by_cases hp : bS c = true
  ·
   rw [nC hp, Option.map_eq_some_iff] at h
   obtain ⟨w', h', rfl⟩ := h
   have ih := aD2 n (by omega) h'
   simp only [bW, List.flatMap_cons] at ih ⊢
   rw [vN hp, ih]; rfl
  ·
   have hp : bS c = false := by simpa using hp
   by_cases hc : c = 37
   ·
    subst hc
    match l, h with
    | [], h => rw [tB hp (.inr (by simp))] at h; cases h
    | [x], h => rw [tB hp (.inr (by simp))] at h; cases h
    | x :: y :: l', h =>
     by_cases ho : okH x y = true
     ·
      rw [aD0 ho, Option.map_eq_some_iff] at h
      obtain ⟨w', h', rfl⟩ := h
      have ih := aD2 n (by simp only [List.length_cons] at hn; omega) h'
      simp only [bW, List.flatMap_cons] at ih ⊢
      rw [bK7 ho, ih]; rfl
     ·
      rw [sD (by simpa using ho)] at h; cases h
   ·
    rw [tB hp (.inl hc)] at h; cases h
theorem bS1 {s w : aK} (h : unW s = some w) : fV w = s := by
 unfold unW at h
 split at h
 ·
  rename_i hs; cases h; rw [hs]; rfl
 ·
  split at h
  ·
   cases h
  ·
   rename_i h1 h2
   have := aD2 _ (Nat.le_refl _) h
   unfold fV
   rw [if_neg (cA3 h2 h), this]
theorem yO : ∀ w : aK, unB (bW w) = some w
 | [] => rfl
 | c :: w => by
  have ih := yO w
  have e : bW (c :: w) = gL c ++ bW w := by simp [bW]
  rw [e]
  by_cases hp : bS c = true
  ·
   rw [vN hp]
   simp only [List.cons_append, List.nil_append]
   rw [nC hp, ih]; rfl
  ·
   have hp : bS c = false := by simpa using hp
   have hlt := c.toNat_lt
   have h1 : valH (lJ (c.toNat / 16)) = c.toNat / 16 := yN (by omega)
   have h2 : valH (lJ (c.toNat % 16)) = c.toNat % 16 := yN (by omega)
   have hb : byteH (lJ (c.toNat / 16)) (lJ (c.toNat % 16)) = c := by
    unfold byteH
    rw [h1, h2, Nat.div_add_mod]
    exact UInt8.ofNat_toNat
   have ho : okH (lJ (c.toNat / 16)) (lJ (c.toNat % 16)) = true := by
    simp only [okH, hb, hp, h1, h2, Bool.and_eq_true, decide_eq_true_eq, Bool.not_false, and_true]
    omega
   have e2 : gL c = [37, lJ (c.toNat / 16), lJ (c.toNat % 16)] := by unfold gL; rw [hp]; rfl
   rw [e2]
   simp only [List.cons_append, List.nil_append]
   rw [aD0 ho, ih, hb]; rfl
theorem rC {c b : UInt8} (h : b ∈ gL c) : b ≠ 10 ∧ b ≠ 32 ∧ b ≠ 126 := by
 unfold gL at h
 split at h
 ·
  rename_i hp
  simp only [List.mem_singleton] at h
  subst h
  refine ⟨?_, ?_, ?_⟩ <;> (rintro rfl; revert hp; decide)
 ·
  have key : ∀ n : Nat, lJ n ≠ 10 ∧ lJ n ≠ 32 ∧ lJ n ≠ 126 := by
   intro n
   unfold lJ
   rcases Nat.lt_or_ge n 16 with hn | hn
   ·
    have : ∀ n : Fin 16, ([48, 49, 50, 51, 52, 53, 54, 55, 56, 57, 65, 66, 67, 68, 69, 70] : List UInt8).getD n.1 0 ≠ 10 ∧ ([48, 49, 50, 51, 52, 53, 54, 55, 56, 57, 65, 66, 67, 68, 69, 70] : List UInt8).getD n.1 0 ≠ 32 ∧ ([48, 49, 50, 51, 52, 53, 54, 55, 56, 57, 65, 66, 67, 68, 69, 70] : List UInt8).getD n.1 0 ≠ 126 := by decide
    exact this ⟨n, hn⟩
   ·
    rw [List.getD_eq_getElem?_getD, List.getElem?_eq_none (by simpa using hn)]
    decide
  simp only [List.mem_cons, List.not_mem_nil, or_false] at h
  rcases h with rfl | rfl | rfl
  ·
   decide
  ·
   exact key _
  ·
   exact key _
theorem rD {w : aK} {b : UInt8} (h : b ∈ fV w) : b ≠ 10 ∧ b ≠ 32 := by
 unfold fV at h
 split at h
 ·
  simp only [List.mem_singleton] at h; subst h; decide
 ·
  obtain ⟨c, _, hc⟩ := List.mem_flatMap.1 h
  exact ⟨(rC hc).1, (rC hc).2.1⟩
theorem bK8 (w : aK) : unW (fV w) = some w := by
 unfold fV
 split
 ·
  rename_i h; subst h; rfl
 ·
  rename_i h
  have hne : bW w ≠ [] := by
   intro he
   have := aJ8 w
   rw [he] at this
   exact h (List.eq_nil_of_length_eq_zero (by simpa using this))
  have h126 : bW w ≠ [126] := by
   intro he
   have hm : (126 : UInt8) ∈ bW w := by rw [he]; simp
   obtain ⟨c, _, hc⟩ := List.mem_flatMap.1 hm
   exact (rC hc).2.2 rfl
  unfold unW
  rw [if_neg h126, if_neg hne, yO]

theorem nF {α β : Type} {f : α → Option β} : ∀ {l : List α} {m : List β}, l.mapM f = some m → (∀ {g : β → α}, (∀ x y, f x = some y → g y = x) → m.map g = l) ∧ m.length = l.length
 | [], m, h => by
  simp only [List.mapM_nil] at h
  cases h
  exact ⟨fun _ => rfl, rfl⟩
 | a :: l, m, h => by
  rw [List.mapM_cons] at h
  cases ha : f a with
  | none => rw [ha] at h; cases h
  | some b =>
   rw [ha] at h
   cases hl : l.mapM f with
   | none => rw [hl] at h; cases h
   | some m' =>
    rw [hl] at h
    cases h
    obtain ⟨h1, h2⟩ := nF hl
    exact ⟨fun hg => by rw [List.map_cons, hg _ _ ha, h1 hg], by simp [h2]⟩
theorem yP (l : List aK) : fH l = gP 32 (l.map fV) := by
 cases l with
 | nil => rfl
 | cons w l => simp [fH, gP, List.flatMap_map]
theorem bS2 {r : aK} {ws : List aK} (h : unL r = some ws) : fH ws = r := by
 have := (nF h).1 (g := fV) fun x y h => bS1 h
 rw [yP, this, mJ]
theorem yQ : ∀ l : List aK, (l.map fV).mapM unW = some l
 | [] => rfl
 | w :: l => by rw [List.map_cons, List.mapM_cons, bK8, yQ l]; rfl
theorem bK9 {l : List aK} (h : l ≠ []) : unL (fH l) = some l := by
 unfold unL
 rw [yP, mK (by simpa using h) (by
  intro w hw b hb
  obtain ⟨v, _, rfl⟩ := List.mem_map.1 hw
  exact (rD hb).2), yQ]
theorem bB1 {l : List aK} {b : UInt8} (h : b ∈ fH l) : b ≠ 10 := by
 cases l with
 | nil => simp at h
 | cons w l =>
  simp only [fH, List.mem_append, List.mem_flatMap] at h
  rcases h with h | ⟨v, _, h⟩
  ·
   exact (rD h).1
  ·
   rcases List.mem_cons.1 h with rfl | h
   ·
    decide
   ·
    exact (rD h).1
theorem bB2 {ls : List (List aK)} (h : ls ≠ []) : eL ls = gP 10 (ls.map fH) ++ [10] := by
 cases ls with
 | nil => exact absurd rfl h
 | cons l ls =>
  have key : ∀ (l : List aK) (ls : List (List aK)), eL (l :: ls) = gP 10 ((l :: ls).map fH) ++ [10] := by
   intro l ls
   induction ls generalizing l with
   | nil => simp [eL, gP, vH]
   | cons k ls ih =>
    have := ih k
    have e : eL (l :: k :: ls) = vH l ++ eL (k :: ls) := by simp [eL]
    rw [e, this]
    simp [gP, vH]
  exact key l ls
theorem rE (m : aK) : fU (m ++ [10]) = (aT 10 m).mapM unR := by
 have hs := sF 10 m
 unfold fU
 rw [if_neg (by simp), if_pos]
 ·
  simp only [hs, List.dropLast_concat]
 ·
  simp only [hs]
  simp
theorem bB3 {ls : List (List aK)} (h : ∀ l ∈ ls, okL l = true) : fU (eL ls) = some ls := by
 by_cases hne : ls = []
 ·
  subst hne; simp [fU]
 ·
  rw [bB2 hne, rE, mK (by simpa using hne) (by
   intro w hw b hb
   obtain ⟨l, _, rfl⟩ := List.mem_map.1 hw
   exact bB1 hb)]
  clear hne
  induction ls with
  | nil => rfl
  | cons l ls ih =>
   have hl := h l List.mem_cons_self
   have hr : unR (fH l) = some l := by
    unfold unR
    rw [bK9 ((iT l).1 hl).1]
    simp only [hl, if_true]
   rw [List.map_cons, List.mapM_cons, hr, ih fun x hx => h x (List.mem_cons_of_mem _ hx)]
   rfl

theorem bL0 {rs : List aK} {ls : List (List aK)} (h : rs.mapM unL = some ls) : rs.mapM unR = if ls.all okL then some ls else none := by
 induction rs generalizing ls with
 | nil => simp only [List.mapM_nil] at h; cases h; rfl
 | cons r rs ih =>
  rw [List.mapM_cons] at h
  cases hr : unL r with
  | none => rw [hr] at h; cases h
  | some l =>
   rw [hr] at h
   cases hl : rs.mapM unL with
   | none => rw [hl] at h; cases h
   | some m =>
    rw [hl] at h
    cases h
    rw [List.mapM_cons, ih hl]
    unfold unR
    rw [hr]
    simp only [List.all_cons]
    by_cases h1 : okL l = true
    ·
     simp only [h1, if_true, Bool.true_and]
     by_cases h2 : m.all okL = true
     ·
      simp only [h2, if_true]; rfl
     ·
      simp only [h2]; rfl
    ·
     have h1 : okL l = false := by simpa using h1
     simp only [h1, Bool.false_and, Bool.false_eq_true, if_false]; rfl
theorem wR {rs : List aK} (h : rs.mapM unL = none) : rs.mapM unR = none := by
 induction rs with
 | nil => simp at h
 | cons r rs ih =>
  rw [List.mapM_cons] at h ⊢
  cases hr : unL r with
  | none => unfold unR; rw [hr]; rfl
  | some l =>
   rw [hr] at h
   have : rs.mapM unL = none := by
    cases hl : rs.mapM unL with
    | none => rfl
    | some m => rw [hl] at h; cases h
   rw [ih this]
   cases unR r <;> rfl
theorem bB4 {m : aK} {ls : List (List aK)} (h : (aT 10 m).mapM unL = some ls) : eL ls = m ++ [10] := by
 have h1 := (nF h).1 (g := fH) fun x y h => bS2 h
 have h2 := aQ0 10 m
 rw [← h1] at h2
 rw [← h2]
 simp only [eL, List.flatMap_map]
 rfl
theorem bB5 {b : aK} (hb : ¬ 262144 < b.length) (hne : b ≠ []) (h : b.getD (b.length - 1) 0 ≠ 10) : eB b = 2 := by
 have : fU b = none := by
  unfold fU
  rw [if_neg hne, if_neg]
  intro hl
  obtain ⟨m, rfl⟩ := mI hne hl
  simp at h
 unfold eB
 rw [if_neg hb, this]
theorem bB6 {m : aK} (hb : ¬ 262144 < (m ++ [10]).length) (h : (aT 10 m).mapM unL = none) : eB (m ++ [10]) = 2 := by
 unfold eB
 rw [if_neg hb, rE, wR h]
theorem bL1 {m : aK} {ls : List (List aK)} (hb : ¬ 262144 < (m ++ [10]).length) (h : (aT 10 m).mapM unL = some ls) : (iN ls = 0 → eB (m ++ [10]) = 0 ∧ gT (m ++ [10]) = ls) ∧ (iN ls ≠ 0 → eB (m ++ [10]) = 2) := by
 have hd := bB4 h
 have hv := bL0 h
 rw [← rE] at hv
 by_cases hk : ls.all okL = true
 ·
  rw [if_pos hk] at hv
  have hE : eB (m ++ [10]) = if 1000 < ls.length then 2 else 0 := by unfold eB; rw [if_neg hb, hv]
  by_cases hl : 1000 < ls.length
  ·
   rw [if_pos hl] at hE
   exact ⟨fun he => absurd (he.symm.trans (qZ hl)) (by decide), fun _ => hE⟩
  ·
   rw [if_neg hl] at hE
   have he : iN ls = 0 := by
    rw [aC8 (by omega) (by simpa using hk), hd, if_neg hb]
   exact ⟨fun _ => ⟨hE, by unfold gT; rw [if_pos hE, hv]; rfl⟩, fun hn => absurd he hn⟩
 ·
  rw [if_neg hk] at hv
  have hE : eB (m ++ [10]) = 2 := by unfold eB; rw [if_neg hb, hv]
  refine ⟨fun he => ?_, fun _ => hE⟩
  exfalso
  apply hk
  unfold iN at he
  split at he
  ·
   cases he
  ·
   split at he
   ·
    rename_i l hf
    have := List.find?_some hf
    exact absurd he (aV0 (by simpa using this))
   ·
    rename_i hf
    rw [List.find?_eq_none] at hf
    rw [List.all_eq_true]
    intro l hl
    simpa using hf l hl
def lsT (rows : List aK) (i : Nat) : List (List aK) := (rows.take i).map fun r => (unL r).getD []
theorem bL2 {rows : List aK} {i : Nat} (h : i < rows.length) : lsT rows (i + 1) = lsT rows i ++ [(unL rows[i]).getD []] := by
 simp only [lsT, List.take_succ_eq_append_getElem h, List.map_append, List.map_cons, List.map_nil]
theorem aQ1 {rows : List aK} {i : Nat} (h : i ≤ rows.length) : (lsT rows i).length = i := by
 simp only [lsT, List.length_map, List.length_take]; omega
theorem bL3 {r : aK} {i : Nat} (h : i < (aT 32 r).length) (h2 : (unW (aT 32 r)[i]).isSome = false) : unL r = none :=
 nD (List.getElem_mem h) (by simpa using h2)
theorem bS3 {r : aK} (h : aK3 r (aT 32 r).length) : unL r = some (wsT r (aT 32 r).length) := by
 unfold aK3 at h
 rw [List.take_length] at h
 unfold unL
 rw [pY [] h]
 simp only [wsT, List.take_length]
theorem bS4 {rows : List aK} (h : ∀ r ∈ rows.take rows.length, (unL r).isSome = true) : rows.mapM unL = some (lsT rows rows.length) := by
 rw [List.take_length] at h
 rw [pY [] h]
 simp only [lsT, List.take_length]
theorem bL4 {rows : List aK} {n : Nat} (h : ∀ r ∈ rows, r.length < n) : ∀ l ∈ lsT rows rows.length, l.length < n + 1 := by
 intro l hl
 simp only [lsT, List.take_length, List.mem_map] at hl
 obtain ⟨r, hr, rfl⟩ := hl
 have h1 := h r hr
 cases hu : unL r with
 | none => simp
 | some ws =>
  have := (nF hu).2
  have h2 := dO 32 r
  simp only [Option.getD_some]
  omega
end Go.Pl

namespace Go.Pl
open Go Go.Hl

def bS5 (h : iM) : aK := gB h.1
def bB7 (d : Dig) : aK := [115, 104, 97, 50, 53, 54, 58] ++ gB d.1
def qB (n : Int) : aK := Lib.itoa n
theorem bL5 {n : Int} (h : 0 ≤ n) : qB n = Lib.decDigits n.natAbs := by unfold qB Lib.itoa; rw [if_neg (by omega)]; congr 1; omega
inductive Av where
 | i (n : Int)
 | l (n : Int)
 | h (x : iM)
 | d (x : Dig)
 | s (w : aK)
def Av.w : Av → aK
 | .i n => qB n
 | .l n => qB n
 | .h x => bS5 x
 | .d x => bB7 x
 | .s w => w
def Av.ok : Av → Prop
 | .i n => -9223372036854775808 ≤ n ∧ n ≤ 9223372036854775807
 | .l n => -9223372036854775808 ≤ n ∧ n ≤ 9223372036854775807
 | _ => True
end Go.Pl

namespace Go.Pl
open Go Go.Hl

def valL (c : UInt8) : Nat := if 48 ≤ c.toNat ∧ c.toNat ≤ 57 then c.toNat - 48 else if 97 ≤ c.toNat ∧ c.toNat ≤ 102 then c.toNat - 87 else 16
theorem aV5 (c : UInt8) : valL c ≤ 16 := by unfold valL; split <;> (try split) <;> omega
def aV6 : List UInt8 := [48, 49, 50, 51, 52, 53, 54, 55, 56, 57, 97, 98, 99, 100, 101, 102]
set_option maxRecDepth 20000 in
theorem mL (c : UInt8) : dT aV6 c = if valL c < 16 then (valL c : Int) else -1 := by
 have h : ∀ n : Fin 256, dT aV6 (UInt8.ofNat n.1) = if valL (UInt8.ofNat n.1) < 16 then (valL (UInt8.ofNat n.1) : Int) else -1 := by decide
 have := h ⟨c.toNat, c.toNat_lt⟩
 simpa only [UInt8.ofNat_toNat] using this
def hX (s : aK) (i : Nat) : UInt8 := s.getD (2 * i) 0
def hY (s : aK) (i : Nat) : UInt8 := s.getD (2 * i + 1) 0
def hB (s : aK) (i : Nat) : UInt8 := UInt8.ofNat (16 * valL (hX s i) + valL (hY s i))
def hOk (s : aK) (i : Nat) : Bool := decide (valL (hX s i) < 16) && decide (valL (hY s i) < 16)
theorem bL6 {s : aK} {i : Nat} (hx : valL (hX s i) < 16) (hy : valL (hY s i) < 16) : (hB s i).toNat = 16 * valL (hX s i) + valL (hY s i) := by
 unfold hB
 rw [UInt8.toNat_ofNat']
 omega
def bO (s : aK) (n : Nat) : Option (List UInt8) := if s.length = 2 * n ∧ (List.range n).all (hOk s) = true then some ((List.range n).map (hB s)) else none
def UhSt (s : aK) (n i : Nat) (l : List UInt8) : Prop := l.length = n ∧ i ≤ n ∧ l.take i = (List.range i).map (hB s) ∧ ∀ j, j < i → hOk s j = true
theorem UhSt.init (s : aK) {n : Nat} {l : List UInt8} (h : l.length = n) : UhSt s n 0 l := ⟨h, Nat.zero_le _, by simp, fun j hj => by omega⟩
theorem UhSt.next {s : aK} {n i : Nat} {l : List UInt8} (h : UhSt s n i l) (hi : i < n) (hk : hOk s i = true) : UhSt s n (i + 1) (l.set i (hB s i)) := by
 obtain ⟨h1, h2, h3, h4⟩ := h
 refine ⟨by simpa using h1, hi, ?_, fun j hj => ?_⟩
 ·
  rw [List.take_succ_eq_append_getElem (by rw [List.length_set]; omega), List.getElem_set_self, List.take_set_of_le (Nat.le_refl _), h3, List.range_succ, List.map_append]
  rfl
 ·
  rcases Nat.lt_or_ge j i with h' | h'
  ·
   exact h4 j h'
  ·
   have : j = i := by omega
   rw [this]; exact hk
theorem UhSt.fin {s : aK} {n : Nat} {l : List UInt8} (h : UhSt s n n l) (hs : s.length = 2 * n) : bO s n = some l := by
 obtain ⟨h1, h2, h3, h4⟩ := h
 unfold bO
 rw [if_pos ⟨hs, by rw [List.all_eq_true]; intro j hj; exact h4 j (List.mem_range.1 hj)⟩, ← h3, List.take_of_length_le (by omega)]
theorem UhSt.bad {s : aK} {n i : Nat} {l : List UInt8} (_ : UhSt s n i l) (hi : i < n) (hk : hOk s i = false) : bO s n = none := by
 unfold bO
 rw [if_neg]
 rintro ⟨_, h⟩
 have := List.all_eq_true.1 h i (List.mem_range.2 hi)
 rw [hk] at this; cases this
theorem oG {s : aK} {n : Nat} (h : s.length ≠ 2 * n) : bO s n = none := by unfold bO; rw [if_neg fun h' => h h'.1]
theorem fB {s : aK} {n : Nat} {l : List UInt8} (h : bO s n = some l) : l.length = n := by
 unfold bO at h
 split at h
 ·
  cases h; simp
 ·
  cases h
theorem bL7 (l : List UInt8) : (l.map u8).all (fun v => v.cells == 1) = true := by simp [List.all_eq_true, u8, CV.cells]
theorem kD (l : List UInt8) : CV.cellsL (l.map u8) = l.length := iF (fun _ => rfl) l
theorem bB8 {l : List UInt8} {i : Nat} (y : UInt8) (h : i < l.length) : CV.setAtL i 1 (.c (.int .u8 (y.toNat : Int))) (l.map u8) = some (((l.set i y).map u8).map .c) := nX (f := u8) (fun _ => rfl) (fun _ _ => rfl) y l i h
def prefB (s p : aK) : Bool := decide (p.length ≤ s.length) && (s.take p.length == p)
def eK (s : aK) : Option iM := match h : bO s 16 with | some l => some ⟨l, fB h⟩ | none => none
def shaW : aK := [115, 104, 97, 50, 53, 54, 58]
def kE (s : aK) : Option Dig := if prefB s shaW then match h : bO (s.drop 7) 32 with | some l => some ⟨l, fB h⟩ | none => none else none
theorem oH {s : aK} {l : List UInt8} (h : bO s 16 = some l) (hl : l.length = 16) : eK s = some ⟨l, hl⟩ := by
 unfold eK
 split
 ·
  rename_i l' h'
  rw [h] at h'; cases h'; rfl
 ·
  rename_i h'
  rw [h] at h'; cases h'
theorem vO {s : aK} (h : bO s 16 = none) : eK s = none := by
 unfold eK
 split
 ·
  rename_i l' h'
  rw [h] at h'; cases h'
 ·
  rfl
theorem rF {s : aK} {l : List UInt8} (hp : prefB s shaW = true) (h : bO (s.drop 7) 32 = some l) (hl : l.length = 32) : kE s = some ⟨l, hl⟩ := by
 unfold kE
 rw [if_pos hp]
 split
 ·
  rename_i l' h'
  rw [h] at h'; cases h'; rfl
 ·
  rename_i h'
  rw [h] at h'; cases h'
theorem kF {s : aK} (h : prefB s shaW = true → bO (s.drop 7) 32 = none) : kE s = none := by
 unfold kE
 split
 ·
  rename_i hp
  split
  ·
   rename_i l' h'
   rw [h hp] at h'; cases h'
  ·
   rfl
 ·
  rfl
theorem bB9 {e : Operand → HV} {K : HV → Prop} {n b : Nat} {d : TyD} : cP { size := n, bytes := b, d := d, z := hf zh } [] e K = K (.c (hf zh)) := by
 simp only [cP, hf, hfill, hlift_some]
 rw [sU]
theorem yR {e : Operand → HV} {K : HV → Prop} {n b : Nat} {d : TyD} : cP { size := n, bytes := b, d := d, z := zd } [] e K = K (.c zd) := by
 simp only [cP, zd, dg, hfill, hlift_some]
 rw [sU]
end Go.Pl

namespace Go.Hl
open Go Go.Pl

section
variable {P : Program} {n k : Nat} {Q : dI} {fr : Fr} {ob : Ob} {nx : Nat}
theorem bS6 {code : Code} (id : Nat) {T : TypeId} {l : List CV} (hb : ob id = some (.box T (.c (.agg [.agg l]))))
  (h : Hw P n k code Q fr (upd ob id (some (.box T (.c (.agg l))))) nx) : Hw P n k code Q fr ob nx := by
 intro c a w hn hk hz hA
 refine h c a w hn hk hz ?_
 obtain ⟨ρ, hA⟩ := hA
 refine ⟨ρ, ⟨fun i o ho => ?_, fun i hi => ?_, hA.s.apart, hA.s.xb⟩, hA.f, hA.mf, fun i o ho => ?_, hA.m0, hA.base, hA.moves, hA.defers, hA.size, hA.xlt⟩
 ·
  by_cases e' : i = id
  ·
   subst e'
   rw [aR] at ho
   cases ho
   obtain ⟨b, cs, e1, e2, e3⟩ := hA.s.objs i _ hb
   refine ⟨b, cs, e1, e2, ?_⟩
   simp only [RepH, RepC, RepL] at e3 ⊢
   obtain ⟨c1, c2, rfl, h1, rfl⟩ := e3
   simpa using h1
  ·
   rw [aV _ _ e'] at ho
   exact hA.s.objs i o ho
 ·
  by_cases e' : i = id
  ·
   subst e'; rw [aR] at hi; cases hi
  ·
   rw [aV _ _ e'] at hi
   exact hA.s.none i hi
 ·
  by_cases e' : i = id
  ·
   subst e'
   rw [aR] at ho
   cases ho
   exact ⟨(hA.mo i _ hb).1, by simp [HO.men, HV.men]⟩
  ·
   rw [aV _ _ e'] at ho
   exact hA.mo i o ho
end

def bW5 (P : Program) (f : FuncId) (args : List CV) (n : Nat) (T : TypeId) (l : List UInt8) (R : CV → List UInt8 → Prop) : Prop :=
 HFn P f (args.map .c ++ [.osl 0 n 0 1 n]) 1 (fob [(0, .box T (.c (.agg (l.map u8))))]) (fun r ob' => ∃ u l', r = .c u ∧ ob' = fob [(0, .box T (.c (.agg (l'.map u8))))] ∧ R u l')
theorem vP (args : List CV) (n : Nat) (T : TypeId) (v : CV) : LocOk 1 (args.map .c ++ [.osl 0 n 0 1 n]) (fob [(0, .box T (.c v))]) := by
 refine ⟨fun j h => ?_, fun id o h => ?_, HV.menL_append.2 ⟨HV.menL_c, by simp [HV.menL, HV.men]⟩⟩
 ·
  have : j = 0 := by omega
  subst this; exact ⟨_, rfl⟩
 ·
  simp only [fob_at, fob_nil] at h
  split at h
  ·
   rename_i e; subst e; cases h; exact ⟨by omega, by simp [HO.men, HV.men]⟩
  ·
   cases h
theorem yS {P : Program} {av : List Nat} {f : FuncId} {ob : Ob} {nid id : Nat} {K : HV → Ob → Prop} {args : List CV} {n : Nat} {T : TypeId} {l : List UInt8} {R : CV → List UInt8 → Prop} (h : bW5 P f args n T l R) (hid : ob id = some (.box T (.c (.agg (l.map u8))))) (hav : id ∉ av) (hfree : Free4 ob nid)
  (hK : ∀ u l', R u l' → K (.c u) (upd ob id (some (.box T (.c (.agg (l'.map u8))))))) : HCall P av f (args.map .c ++ [.osl id n 0 1 n]) ob nid K := by
 have h0 : sub [id] nid 0 = id := rfl
 have hra : ∀ (m : Nat → Nat) (a : List CV) (b : List HV), HV.renL m (a.map .c ++ b) = a.map .c ++ HV.renL m b := by
  intro m a b
  induction a with
  | nil => rfl
  | cons x a ih => simp only [List.map_cons, List.cons_append, HV.renL, HV.ren, ih]
 refine ⟨[id], _, _, _, h, vP args n T _, ⟨by simp, by simpa using hav⟩, by rw [hra]; simp only [HV.renL, HV.ren, h0], fun j o hj => ?_, fun r lob' hR _ => ?_⟩
 ·
  simp only [fob_at, fob_nil] at hj
  split at hj
  ·
   rename_i e; subst e; cases hj; simpa [HO.ren, HV.ren] using hid
  ·
   cases hj
 ·
  obtain ⟨u, l', rfl, rfl, hR⟩ := hR
  have e2 : bD ob [id] nid (fob [(0, .box T (.c (.agg (l'.map u8))))]) = upd ob id (some (.box T (.c (.agg (l'.map u8))))) := by
   funext i
   by_cases e : i = id
   ·
    subst e
    rw [aR]
    simp only [bD, List.findIdx?_cons, beq_self_eq_true, if_true, fob_at, Option.map_some, HO.ren, HV.ren]
   ·
    have e' : (id == i) = false := by simp; exact fun h => e h.symm
    rw [aV _ _ e]
    simp only [bD, List.findIdx?_cons, e', List.findIdx?_nil, Option.map_none]
    simp only [Bool.false_eq_true, if_false]
    split
    ·
     rename_i hr
     have h2 : [id].length + (i - nid) ≠ 0 := by simp
     rw [fob_at, if_neg h2, fob_nil]
     exact (hfree.all i hr.1 hr.2).symm
    ·
     rfl
  rw [e2]
  exact hK u l' hR
theorem nG {ob : Ob} {T : TypeId} {l' : List UInt8} {r : HV} {R : CV → List UInt8 → Prop} (u : CV) (hr : (r.close ob []).norm = .c u) (ho : ob 0 = some (.box T (.c (.agg (l'.map u8))))) (hR : R u l') :
  oS 1 r ob (fun r ob' => ∃ u l', r = .c u ∧ ob' = fob [(0, .box T (.c (.agg (l'.map u8))))] ∧ R u l') := by
 refine ⟨[], id, .c u, _, ⟨u, l', rfl, rfl, hR⟩, hr, fun _ _ => rfl, fun _ _ _ _ h => h, by simp [HV.men], fun j o h => ?_⟩
 simp only [fob_at, fob_nil] at h
 split at h
 ·
  rename_i e
  subst e; cases h
  refine ⟨by omega, by simp [HO.men, HV.men], by simp, _, ho, ?_⟩
  have hd : (CV.agg (l'.map u8)).denil = .agg (l'.map u8) := uV l'
  simp only [HO.ren, HV.ren, HV.close, hd, HV.norm, HV.toC]
 ·
  cases h
end Go.Hl

namespace Go.Proofs.YtenbfeemmpjdhaaGreatDoor
open Go Go.Hl Go.Pl
set_option maxRecDepth 10000
set_option maxHeartbeats 16000000

theorem bS7 (s p : aK) : aW Tryz.prog 179 [.str s, .str p] (fun v => v = .bool (prefB s p)) := by
 refine FW Tryz.func179 ?_
 refine R0 ?_
 refine aB fun K hK => Rg ?_
 have F := aI @Int.natCast_nonneg (aI @Int.ofNat_le (aI @List.drop_zero.{0} @Nat.sub_zero))
 iterate 6 refine SF ?_
 refine aF 9 rfl (fun h1_9 => ?_) (fun h1_9 => ?_)
 ·
  have F := aI @Int.natCast_nonneg (aI @Int.ofNat_le (aI @List.drop_zero.{0} (aI @Nat.sub_zero h1_9)))
  iterate 3 refine SF ?_
  refine bA (g := some (10, true)) rfl rfl fun K' hK' => T6 ?_
  refine ⟨by simp at h1_9; omega, ?_⟩
  refine AX (hK' _ _ ?_)
  clear hK' K'
  iterate 4 refine SF ?_
  refine T2 (hK _ _ _ ?_)
  clear hK K
  refine aD (RT Tryz.results179 ?_)
  have hle : p.length ≤ s.length := by simp at h1_9; omega
  exact aC [] (.bool (s.take p.length == p)) rfl (by unfold prefB; rw [show decide (p.length ≤ s.length) = true from by simpa using hle]; rfl)
 have F := aI @Int.natCast_nonneg (aI @Int.ofNat_le (aI @List.drop_zero.{0} (aI @Nat.sub_zero h1_9)))
 iterate 8 refine SF ?_
 refine T2 (hK _ _ _ ?_)
 clear hK K
 refine aD (RT Tryz.results179 ?_)
 have hle : ¬ p.length ≤ s.length := by simp at h1_9; omega
 exact aC [] (.bool false) rfl (by unfold prefB; rw [show decide (p.length ≤ s.length) = false from by simpa using hle]; rfl)


theorem bS8 (s p : aK) : dF Tryz.prog 160 [.str s, .str p] (fun u v => u = .str (if prefB s p then s.drop p.length else s) ∧ v = .bool (prefB s p)) := by
 refine FW Tryz.func160 ?_
 refine R0 ?_
 refine aB fun K hK => ?_
 refine aB fun K hK => Rg ?_
 iterate 2 refine S0 ?_
 refine HS rfl rfl fun K' hK' => T5 ?_
 refine C2 (bS7 s p) ?_
 rintro u rfl
 refine AX (hK' _ _ ?_)
 clear hK' K'
 refine S0 ?_
 refine T2 (hK _ _ _ ?_)
 clear hK K
 refine aJ (b := !(prefB s p)) rfl (fun hb => ?_) (fun hb => ?_)
 ·
  refine R0 ?_
  refine aD (RT Tryz.results160 ?_)
  have hp : prefB s p = false := by simpa using hb
  exact aM [] (.str s) (.bool false) rfl ⟨by rw [hp]; rfl, by rw [hp]⟩
 refine aG ?_
 refine T0 (hK _ _ _ ?_)
 clear hK K
 have hp : prefB s p = true := by simpa using hb
 have hle : p.length ≤ s.length := by
  unfold prefB at hp
  simp only [Bool.and_eq_true, decide_eq_true_eq] at hp
  exact hp.1
 have htd : List.take (s.length - p.length) (List.drop p.length s) = List.drop p.length s := List.take_of_length_le (by simp)
 refine aB fun K hK => Rg ?_
 have F := aI @Int.natCast_nonneg (aI @Int.ofNat_le (aI hle htd))
 iterate 6 refine SF ?_
 refine T2 (hK _ _ _ ?_)
 clear hK K
 refine aD (RT Tryz.results160 ?_)
 exact aM [] (.str (s.drop p.length)) (.bool true) rfl ⟨by rw [hp]; rfl, by rw [hp]⟩


theorem bL8 (s p : aK) : dF Tryz.prog 129 [.str s, .str p] (fun u v => u = .str (if prefB s p then s.drop p.length else s) ∧ v = .bool (prefB s p)) := by
 refine FW Tryz.func129 ?_
 refine R0 ?_
 refine aB fun K hK => Rg ?_
 iterate 2 refine S0 ?_
 refine HS rfl rfl fun K' hK' => T5 ?_
 refine D2 (bS8 s p) ?_
 rintro u v ⟨rfl, rfl⟩
 refine AX (hK' _ _ ?_)
 clear hK' K'
 iterate 4 refine S0 ?_
 refine T2 (hK _ _ _ ?_)
 clear hK K
 refine aD (RT Tryz.results129 ?_)
 exact aM [] _ _ rfl ⟨rfl, rfl⟩


theorem aK8 (s : aK) (n : Nat) (T : TypeId) (l0 : List UInt8) (h0 : l0.length = n) (hn1 : 1 < n) (hn2 : n < 1000) (hs : s.length < 2 ^ 40) :
  bW5 Tryz.prog 128 [.str s] n T l0 (fun u l' => u = .bool (bO s n).isSome ∧ l'.length = n ∧ ∀ w, bO s n = some w → l' = w) := by
 refine bH Tryz.func128 rfl (by kernel_rfl) (vP [_] _ _ _) (Nat.le_of_ble_eq_true rfl) ?_
 refine R0 ?_
 refine aB fun K hK => ?_
 have hw2 : IntKind.i64.wrap (2 * (n : Int)) = ((2 * n : Nat) : Int) := by rw [IntWalk.i64_in _ (by omega)]; omega
 have hln : (List.take n (l0.map u8)).length = n := by simp [h0]
 refine aB fun K hK => Rg ?_
 have F := aI h0 (aI @bL7 (aI @List.length_map.{0,0} (aI @Nat.zero_le (aI @Nat.le_refl (aI @List.drop_zero.{0} (aI @Nat.sub_zero (aI hln hw2)))))))
 iterate 6 refine SF ?_
 refine T2 (hK _ _ _ ?_)
 clear hK K
 refine aJ (b := (s.length : Int) != ((2 * n : Nat) : Int)) rfl (fun hb => ?_) (fun hb => ?_)
 ·
  refine R0 ?_
  refine aD (RT Tryz.results128 ?_)
  have hv : bO s n = none := oG (by simp at hb; omega)
  exact nG (.bool false) rfl rfl ⟨by rw [hv]; rfl, h0, fun w hw => by rw [hv] at hw; cases hw⟩
 refine aG ?_
 refine T0 (hK _ _ _ ?_)
 clear hK K
 refine aB fun K hK => ?_
 have hlen : s.length = 2 * n := by simp at hb; omega
 clear hb
 have F := aI h0 (aI @bL7 (aI @List.length_map.{0,0} (aI @Nat.zero_le (aI @Nat.le_refl (aI @List.drop_zero.{0} (aI @Nat.sub_zero hln))))))
 refine RF ?_
 refine aH ?_
 refine aU (α := {y : Nat × List UInt8 // UhSt s n y.1 y.2}) (fun y => (fin [(0, .c (.str s)), (1, .osl 0 n 0 1 n), (15, .c (.int .i64 n)), (16, .c (.int .i64 y.1.1))], fob [(0, .box T (.c (.agg (y.1.2.map u8))))])) 100 (fun y => n - y.1.1) ⟨(0, l0), UhSt.init s h0⟩ (fF) ?_
 rintro ⟨⟨i, l⟩, hst⟩
 simp only at hst
 have hi := hst.2.1
 have hll := hst.1
 refine R0 ?_
 refine aB fun K hK => ?_
 refine aJ (b := decide ((i : Int) < (n : Int))) rfl (fun hb => ?_) (fun hb => ?_)
 ·
  have hlt : i < n := by simp at hb; omega
  clear hb
  have hv2 : IntKind.i64.wrap (2 * (i : Int)) = ((2 * i : Nat) : Int) := by rw [IntWalk.i64_in _ (by omega)]; omega
  have hv3 : IntKind.i64.wrap (((2 * i : Nat) : Int) + 1) = ((2 * i + 1 : Nat) : Int) := by rw [IntWalk.i64_in _ (by omega)]; rfl
  have hgx : s.getD (2 * i) 0 = hX s i := rfl
  have hgy : s.getD (2 * i + 1) 0 = hY s i := rfl
  have hl1 : 2 * i < s.length := by omega
  have hl2 : 2 * i + 1 < s.length := by omega
  refine aG ?_
  refine T0 (hK _ _ _ ?_)
  clear hK K
  refine aB fun K hK => ?_
  refine aH ?_
  refine R0 ?_
  refine aB fun K hK => DW [(0, [], []), (1, [], []), (2, [], []), (3, [], []), (5, [], []), (6, [], []), (7, [], []), (8, [], []), (9, [], []), (4, [], [5, 6, 7, 8, 9]), (10, [], []), (11, [], []), (12, [], [])] [0, 0, 2, 7, 15, 0, 0, 64, 192, 480, 1023, 2047, 4095] ?_
  have F := aI @Int.natCast_nonneg (aI @Int.ofNat_lt (aI hv2 (aI hv3 (aI hgx (aI hgy (aI hl1 hl2))))))
  iterate 9 refine WF ?_
  refine aO (g := none) rfl rfl fun K' hK' => T6 ?_
  refine C2 (pZ aV6 (hX s i)) ?_
  rintro u rfl
  refine AX (hK' _ _ ?_)
  clear hK' K'
  refine aO (g := none) rfl rfl fun K' hK' => T6 ?_
  refine C2 (pZ aV6 (hY s i)) ?_
  rintro u rfl
  refine AX (hK' _ _ ?_)
  clear hK' K'
  iterate 2 refine WF ?_
  refine T2 (hK _ _ _ ?_)
  clear hK K
  refine aB fun K hK => ?_
  by_cases hx : valL (hX s i) < 16
  ·
   by_cases hy : valL (hY s i) < 16
   ·
    rw [mL, mL, if_pos hx, if_pos hy]
    have hx0 : decide (((valL (hX s i) : Nat) : Int) < 0) = false := by simp
    have hy0 : decide (((valL (hY s i) : Nat) : Int) < 0) = false := by simp
    have e1 : IntKind.i64.wrap (16 * ((valL (hX s i) : Nat) : Int)) = ((16 * valL (hX s i) : Nat) : Int) := by rw [IntWalk.i64_in _ (by omega)]; omega
    have e2 : IntKind.i64.wrap (((16 * valL (hX s i) : Nat) : Int) + ((valL (hY s i) : Nat) : Int)) = ((16 * valL (hX s i) + valL (hY s i) : Nat) : Int) := by rw [IntWalk.i64_in _ (by omega)]; omega
    have e3 : IntKind.u8.wrap ((16 * valL (hX s i) + valL (hY s i) : Nat) : Int) = ((hB s i).toNat : Int) := by rw [IntWalk.u8_in _ (by omega), bL6 hx hy]
    have hil : i < l.length := by omega
    have hl1' : l.length ≠ 1 := by omega
    refine aB fun K hK => Rg ?_
    have F := aI hx0 hy0
    iterate 6 refine SF ?_
    refine T2 (hK _ _ _ ?_)
    clear hK K
    refine CF rfl ?_
    refine aG ?_
    refine T0 (hK _ _ _ ?_)
    clear hK K
    refine Rg ?_
    iterate 9 refine S0 ?_ (e := fun _ h_ => by simp only [sH, ↓sP, sA, tyS, simprocAttr, e1, e2, e3, Int.natCast_nonneg, Int.ofNat_lt, Nat.le_refl, Nat.sub_zero, Nat.zero_add, Nat.mul_one, hlt, kD, bB8, hil, hl1', and_false, fG]; exact AX h_)
    refine T2 (hK _ _ _ ?_)
    clear hK K
    refine aL (by kernel_rfl) ?_
    refine TQ (bK i) ?_
    refine ⟨⟨(i + 1, l.set i (hB s i)), hst.next hlt (by simp [hOk, hx, hy])⟩, fF, ?_⟩
    show n - (i + 1) < n - i
    omega
   rw [mL, mL, if_pos hx, if_neg hy]
   have hx0 : decide (((valL (hX s i) : Nat) : Int) < 0) = false := by simp
   refine aB fun K hK => Rg ?_
   have F := hx0
   iterate 6 refine SF ?_
   refine T2 (hK _ _ _ ?_)
   clear hK K
   refine CT rfl ?_
   refine R0 ?_
   refine aD (RT Tryz.results128 ?_)
   have hv := hst.bad hlt (by simp [hOk, hx, hy])
   exact nG (.bool false) rfl rfl ⟨by rw [hv]; rfl, hll, fun w hw => by rw [hv] at hw; cases hw⟩
  rw [mL, if_neg hx]
  refine aB fun K hK => Rg ?_
  iterate 6 refine S0 ?_
  refine T2 (hK _ _ _ ?_)
  clear hK K
  refine CT rfl ?_
  refine R0 ?_
  refine aD (RT Tryz.results128 ?_)
  have hv := hst.bad hlt (by simp [hOk, hx])
  exact nG (.bool false) rfl rfl ⟨by rw [hv]; rfl, hll, fun w hw => by rw [hv] at hw; cases hw⟩
 refine aS (T3 ?_)
 clear hK K
 refine AX (hK _ _ _ ?_)
 clear hK K
 refine R0 ?_
 refine aD (RT Tryz.results128 ?_)
 have hin : i = n := by simp at hb; omega
 subst hin
 have hv := hst.fin hlen
 exact nG (.bool true) rfl rfl ⟨by rw [hv]; rfl, hll, fun w hw => by rw [hv] at hw; cases hw; rfl⟩


theorem bL9 (s : aK) (hs : s.length < 2 ^ 40) : dF Tryz.prog 102 [.str s] (fun u v => u = hf ((eK s).getD zh) ∧ v = .bool (eK s).isSome) := by
 refine FW Tryz.func102 ?_
 refine R0 ?_
 refine R0 ?_
 refine aB fun K hK => ?_
 refine aB fun K hK => Rg ?_
 iterate 2 refine S0 ?_
 refine HS rfl rfl fun K' hK' => T5 ?_
 refine yS (args := [_]) (aK8 s 16 66 (List.replicate 16 0) (by simp) (by omega) (by omega) hs) rfl (by simp) ⟨rfl, rfl, rfl, rfl⟩ ?_
 rintro u l' ⟨rfl, hll, hw⟩
 refine AX (hK' _ _ ?_)
 clear hK' K'
 refine S0 ?_
 refine T2 (hK _ _ _ ?_)
 clear hK K
 refine aJ (b := !(bO s 16).isSome) rfl (fun hb => ?_) (fun hb => ?_)
 ·
  have F := aI @zhf_eq (aI @bB9 @hf_setAt)
  refine RF ?_
  refine aD (RT Tryz.results102 ?_)
  have hn : eK s = none := vO (by simpa using hb)
  exact aM [] zhf (.bool false) rfl ⟨by rw [hn]; rfl, by rw [hn]; rfl⟩
 refine aG ?_
 refine T0 (hK _ _ _ ?_)
 clear hK K
 obtain ⟨l, hl⟩ := Option.isSome_iff_exists.1 (show (bO s 16).isSome = true by simpa using hb)
 have := hw l hl
 subst this
 have hv := oH hl hll
 have F := aI @kD (aI hll (aI @hf_setAt @zhf_eq))
 refine RF ?_
 refine aD (RT Tryz.results102 ?_)
 simp only [kD, hll, if_true, Option.map_some]
 refine aM [] (hf (⟨l', hll⟩ : iM)) (.bool true) ?_ ?_
 ·
  simp [HV.close, HV.closeL, HV.norm, HV.toC, HV.toCL, hf, CV.denil, denilL_u8]
 exact ⟨by rw [hv]; rfl, by rw [hv]; rfl⟩


theorem bC0 (s : aK) (hs : s.length < 2 ^ 40) : dF Tryz.prog 103 [.str s] (fun u v => u = dg ((kE s).getD zdg) ∧ v = .bool (kE s).isSome) := by
 refine FW Tryz.func103 ?_
 refine R0 ?_
 refine R0 ?_
 refine aB fun K hK => Rg ?_
 refine S0 ?_
 refine HS rfl rfl fun K' hK' => T5 ?_
 refine D2 (bL8 s shaW) ?_
 rintro u v ⟨rfl, rfl⟩
 refine AX (hK' _ _ ?_)
 clear hK' K'
 iterate 5 refine S0 ?_
 refine T2 (hK _ _ _ ?_)
 clear hK K
 refine aB fun K hK => ?_
 by_cases hp : prefB s shaW = true
 ·
  rw [hp, if_pos rfl, show shaW.length = 7 from rfl]
  refine aB fun K hK => Rg ?_
  iterate 5 refine S0 ?_
  refine bA (g := some (14, false)) rfl rfl fun K' hK' => T5 ?_
  refine yS (args := [_]) (aK8 (s.drop 7) 32 49 (List.replicate 32 0) (by simp) (by omega) (by omega) (by rw [List.length_drop]; omega)) rfl (by simp) ⟨rfl, rfl, rfl, rfl⟩ ?_
  rintro u l' ⟨rfl, hll, hw⟩
  refine AX (hK' _ _ ?_)
  clear hK' K'
  iterate 2 refine S0 ?_
  refine T2 (hK _ _ _ ?_)
  clear hK K
  refine aJ (b := !(bO (s.drop 7) 32).isSome) rfl (fun hb => ?_) (fun hb => ?_)
  ·
   have F := aI @yR @dg_setAt
   refine RF ?_
   refine aD (RT Tryz.results103 ?_)
   have hn : kE s = none := kF (fun _ => by simpa using hb)
   exact aM [] zd (.bool false) rfl ⟨by rw [hn]; rfl, by rw [hn]; rfl⟩
  refine aG ?_
  refine T0 (hK _ _ _ ?_)
  clear hK K
  obtain ⟨l, hl⟩ := Option.isSome_iff_exists.1 (show (bO (s.drop 7) 32).isSome = true by simpa using hb)
  have := hw l hl
  subst this
  have hv := rF hp hl hll
  have F := aI @kD (aI hll @dg_setAt)
  refine RF ?_
  refine aD (RT Tryz.results103 ?_)
  simp only [kD, hll, if_true, Option.map_some]
  refine aM [] (dg (⟨l', hll⟩ : Dig)) (.bool true) ?_ ?_
  ·
   simp [HV.close, HV.closeL, HV.norm, HV.toC, HV.toCL, CV.denil, denilL_u8]
   rfl
  exact ⟨by rw [hv]; rfl, by rw [hv]; rfl⟩
 have hp' : prefB s shaW = false := by simpa using hp
 rw [hp', if_neg (by simp)]
 refine aB fun K hK => Rg ?_
 iterate 8 refine S0 ?_
 refine T2 (hK _ _ _ ?_)
 clear hK K
 refine CT rfl ?_
 have F := aI @yR @dg_setAt
 refine RF ?_
 refine aD (RT Tryz.results103 ?_)
 have hn : kE s = none := kF (fun h => absurd h hp)
 exact aM [] zd (.bool false) rfl ⟨by rw [hn]; rfl, by rw [hn]; rfl⟩

end Go.Proofs.YtenbfeemmpjdhaaGreatDoor

namespace Go.Proofs.YtenbfeemmpjdhaaGreatDoor
open Go Go.Hl Go.Pl
set_option maxRecDepth 10000
set_option maxHeartbeats 16000000

theorem lC (s : aK) : dF Tryz.prog 101 [.str s] (fun u v => u = .int .i64 ((bJ s).getD 0) ∧ v = .bool (bJ s).isSome) := by
 refine FW Tryz.func101 ?_
 refine R0 ?_
 refine aB fun K hK => ?_
 have key : ∀ fr ob nx, eH s = false → Fits 0 fr ob (fin [(0, .c (.str s))]) (fob []) 100 → K fr ob nx := by
  intro fr ob nx hbad hf
  refine hK _ _ _ (bF hf ?_)
  clear hf hK K
  have hlen : s.length ≤ 13 := by
   simp only [eH, Bool.or_eq_false_iff, decide_eq_false_iff_not] at hbad
   omega
  refine R0 ?_
  refine aB fun K hK => ?_
  refine R0 ?_
  refine aH ?_
  refine aU (α := {y : Nat × Nat // DgSt s y.1 y.2}) (fun y => (fin [(0, .c (.str s)), (4, .c (.int .i64 y.1.2)), (5, .c (.int .i64 y.1.1))], fob [])) 200 (fun y => s.length - y.1.1) ⟨(0, 0), DgSt.init s⟩ (fF) ?_
  rintro ⟨⟨i, n⟩, hst⟩
  simp only at hst
  have hi := hst.1
  have hnl := hst.lt hlen
  refine aB fun K hK => ?_
  refine aB fun K hK => Rg ?_
  iterate 4 refine S0 ?_
  refine T2 (hK _ _ _ ?_)
  clear hK K
  refine aJ (b := decide ((i : Int) < s.length)) rfl (fun hb => ?_) (fun hb => ?_)
  ·
   have hlt : i < s.length := by simpa using hb
   clear hb
   have hgd : s.getD i 0 = s[i] := by simp [hlt]
   have hdi := aK6 s[i]
   refine aG ?_
   refine T0 (hK _ _ _ ?_)
   clear hK K
   refine aB fun K hK => ?_
   refine aH ?_
   refine aB fun K hK => ?_
   have key2 : ∀ fr ob nx, iO s[i] = true → Fits 0 fr ob (fin [(0, .c (.str s)), (4, .c (.int .i64 n)), (5, .c (.int .i64 i))]) (fob []) 300 → K fr ob nx := by
    intro fr ob nx hd hf
    refine hK _ _ _ (bF hf ?_)
    clear hf hK K
    have hd2 : 48 ≤ s[i].toNat ∧ s[i].toNat ≤ 57 := by simpa [iO] using hd
    have e1 : IntKind.i64.wrap (10 * (n : Int)) = ((10 * n : Nat) : Int) := by rw [IntWalk.i64_in _ (by omega)]; omega
    have e2 : IntKind.u8.wrap ((s[i].toNat : Int) - 48) = ((s[i].toNat - 48 : Nat) : Int) := by rw [IntWalk.u8_in _ (by omega)]; omega
    have e3 : IntKind.i64.wrap ((s[i].toNat - 48 : Nat) : Int) = ((s[i].toNat - 48 : Nat) : Int) := by rw [IntWalk.i64_in _ (by omega)]
    have e4 : IntKind.i64.wrap (((10 * n : Nat) : Int) + ((s[i].toNat - 48 : Nat) : Int)) = ((10 * n + (s[i].toNat - 48) : Nat) : Int) := by rw [IntWalk.i64_in _ (by omega)]; omega
    refine Rg ?_
    iterate 9 refine S0 ?_ (e := fun _ h_ => by simp only [sH, ↓sP, sA, tyS, simprocAttr, Int.natCast_nonneg, Int.ofNat_lt, hlt, hgd, e1, e2, e3, e4]; exact AX h_)
    refine T2 (hK _ _ _ ?_)
    clear hK K
    refine aL (by kernel_rfl) ?_
    refine TQ (bK i) ?_
    refine ⟨⟨(i + 1, 10 * n + (s[i].toNat - 48)), hst.next hlt hd⟩, fF, ?_⟩
    show s.length - (i + 1) < s.length - i
    omega
   refine aB fun K hK => Rg ?_
   iterate 5 refine S0 ?_ (e := fun _ h_ => by simp only [sH, ↓sP, sA, tyS, simprocAttr, Int.natCast_nonneg, Int.ofNat_lt, hlt, hgd]; exact AX h_)
   refine aF 33 rfl (fun h7_33 => ?_) (fun h7_33 => ?_)
   ·
    iterate 5 refine S0 ?_ (e := fun _ h_ => by simp only [sH, ↓sP, sA, tyS, simprocAttr, Int.natCast_nonneg, Int.ofNat_lt, hlt, hgd, h7_33]; exact AX h_)
    refine T2 (hK _ _ _ ?_)
    clear hK K
    refine CT rfl ?_
    refine R0 ?_
    refine aD (RT Tryz.results101 ?_)
    have hd : iO s[i] = false := by simp only [iO, Bool.and_eq_false_iff, decide_eq_false_iff_not]; simp at h7_33; omega
    have hn := nE (hst.bad hlt hd)
    exact aM [] (.int .i64 0) (.bool false) rfl ⟨by rw [hn]; rfl, by rw [hn]; rfl⟩
   iterate 5 refine S0 ?_ (e := fun _ h_ => by simp only [sH, ↓sP, sA, tyS, simprocAttr, Int.natCast_nonneg, Int.ofNat_lt, hlt, hgd, h7_33]; exact AX h_)
   refine aF 38 rfl (fun h7_38 => ?_) (fun h7_38 => ?_)
   ·
    simp only [h7_38]
    refine T2 (hK _ _ _ ?_)
    clear hK K
    refine CT rfl ?_
    refine R0 ?_
    refine aD (RT Tryz.results101 ?_)
    have hd : iO s[i] = false := by simp only [iO, Bool.and_eq_false_iff, decide_eq_false_iff_not]; simp at h7_38; omega
    have hn := nE (hst.bad hlt hd)
    exact aM [] (.int .i64 0) (.bool false) rfl ⟨by rw [hn]; rfl, by rw [hn]; rfl⟩
   simp only [h7_38]
   refine T2 (hK _ _ _ ?_)
   clear hK K
   refine CF rfl ?_
   refine aG (T3 ?_)
   exact key2 _ _ _ (by simp only [iO, Bool.and_eq_true, decide_eq_true_eq]; simp at h7_33 h7_38; omega) (fF)
  refine aS (T3 ?_)
  clear hK K
  refine AX (hK _ _ _ ?_)
  clear hK K
  refine aB fun K hK => ?_
  have hfin := hst.fin (by simp at hb; omega)
  clear hb
  refine R0 ?_
  refine aJ (b := decide ((1099511627776 : Int) < (n : Int))) rfl (fun hb => ?_) (fun hb => ?_)
  ·
   refine R0 ?_
   refine aD (RT Tryz.results101 ?_)
   have hn := aK5 hfin (by simp at hb; omega)
   exact aM [] (.int .i64 0) (.bool false) rfl ⟨by rw [hn]; rfl, by rw [hn]; rfl⟩
  refine aG ?_
  refine T0 (hK _ _ _ ?_)
  clear hK K
  refine R0 ?_
  refine aD (RT Tryz.results101 ?_)
  have hn := aD1 hbad hfin (by simp at hb; omega)
  exact aM [] (.int .i64 n) (.bool true) rfl ⟨by rw [hn]; rfl, by rw [hn]; rfl⟩
 refine aB fun K hK => Rg ?_
 iterate 4 refine S0 ?_
 refine aF 8 rfl (fun h1_8 => ?_) (fun h1_8 => ?_)
 ·
  have F := h1_8
  iterate 14 refine SF ?_
  refine T2 (hK _ _ _ ?_)
  clear hK K
  refine CT rfl ?_
  refine R0 ?_
  refine aD (RT Tryz.results101 ?_)
  have hn : bJ s = none := mH (by simp only [eH, Bool.or_eq_true, decide_eq_true_eq]; simp at h1_8; left; left; omega)
  exact aM [] (.int .i64 0) (.bool false) rfl ⟨by rw [hn]; rfl, by rw [hn]; rfl⟩
 have F := h1_8
 iterate 5 refine SF ?_
 refine aF 12 rfl (fun h1_12 => ?_) (fun h1_12 => ?_)
 ·
  have F := aI h1_8 h1_12
  iterate 9 refine SF ?_
  refine T2 (hK _ _ _ ?_)
  clear hK K
  refine CT rfl ?_
  refine R0 ?_
  refine aD (RT Tryz.results101 ?_)
  have hn : bJ s = none := mH (by simp only [eH, Bool.or_eq_true, decide_eq_true_eq]; simp at h1_12; left; right; omega)
  exact aM [] (.int .i64 0) (.bool false) rfl ⟨by rw [hn]; rfl, by rw [hn]; rfl⟩
 have F := aI h1_8 h1_12
 iterate 4 refine SF ?_
 refine aF 17 rfl (fun h1_17 => ?_) (fun h1_17 => ?_)
 ·
  have F := aI h1_8 (aI h1_12 h1_17)
  refine SF ?_
  refine bA (g := some (18, true)) rfl rfl fun K' hK' => T6 ?_
  refine ⟨by simp at h1_17; omega, ?_⟩
  refine AX (hK' _ _ ?_)
  clear hK' K'
  iterate 3 refine SF ?_
  refine aF 21 rfl (fun h1_21 => ?_) (fun h1_21 => ?_)
  ·
   simp only [h1_21]
   refine T2 (hK _ _ _ ?_)
   clear hK K
   refine CT rfl ?_
   refine R0 ?_
   refine aD (RT Tryz.results101 ?_)
   have hn : bJ s = none := mH (by
    simp only [eH, Bool.or_eq_true, Bool.and_eq_true, decide_eq_true_eq, beq_iff_eq]
    right
    refine ⟨by simp at h1_17; omega, UInt8.toNat_inj.1 ?_⟩
    simp only [beq_iff_eq] at h1_21
    show (s.getD 0 0).toNat = 48
    omega)
   exact aM [] (.int .i64 0) (.bool false) rfl ⟨by rw [hn]; rfl, by rw [hn]; rfl⟩
  simp only [h1_21]
  refine T2 (hK _ _ _ ?_)
  clear hK K
  refine CF rfl ?_
  refine aG (T3 ?_)
  refine key _ _ _ ?_ (fF)
  simp only [eH, Bool.or_eq_false_iff, Bool.and_eq_false_iff, decide_eq_false_iff_not, beq_eq_false_iff_ne, ne_eq]
  simp only [decide_eq_false_iff_not, decide_eq_true_eq] at h1_8 h1_12
  refine ⟨⟨by omega, by omega⟩, ?_⟩
  first
   | (right; intro h0; rw [h0] at h1_21; simp at h1_21)
   | (left; simp at h1_17; omega)
 have F := aI h1_8 (aI h1_12 h1_17)
 iterate 5 refine SF ?_
 refine T2 (hK _ _ _ ?_)
 clear hK K
 refine CF rfl ?_
 refine aG (T3 ?_)
 refine key _ _ _ ?_ (fF)
 simp only [eH, Bool.or_eq_false_iff, Bool.and_eq_false_iff, decide_eq_false_iff_not, beq_eq_false_iff_ne, ne_eq]
 simp only [decide_eq_false_iff_not, decide_eq_true_eq] at h1_8 h1_12
 refine ⟨⟨by omega, by omega⟩, ?_⟩
 first
  | (right; intro h0; rw [h0] at h1_21; simp at h1_21)
  | (left; simp at h1_17; omega)


theorem iJ (s : aK) : dF Tryz.prog 66 [.str s] (fun u v => u = .int .i64 ((bJ s).getD 0) ∧ v = .bool (bJ s).isSome) := by
 refine FW Tryz.func66 ?_
 refine R0 ?_
 refine aB fun K hK => ?_
 have key : ∀ fr ob nx, eH s = false → Fits 0 fr ob (fin [(0, .c (.str s))]) (fob []) 100 → K fr ob nx := by
  intro fr ob nx hbad hf
  refine hK _ _ _ (bF hf ?_)
  clear hf hK K
  have hlen : s.length ≤ 13 := by
   simp only [eH, Bool.or_eq_false_iff, decide_eq_false_iff_not] at hbad
   omega
  refine R0 ?_
  refine aB fun K hK => ?_
  refine R0 ?_
  refine aH ?_
  refine aU (α := {y : Nat × Nat // DgSt s y.1 y.2}) (fun y => (fin [(0, .c (.str s)), (4, .c (.int .i64 y.1.2)), (5, .c (.int .i64 y.1.1))], fob [])) 200 (fun y => s.length - y.1.1) ⟨(0, 0), DgSt.init s⟩ (fF) ?_
  rintro ⟨⟨i, n⟩, hst⟩
  simp only at hst
  have hi := hst.1
  have hnl := hst.lt hlen
  refine aB fun K hK => ?_
  refine aB fun K hK => Rg ?_
  iterate 4 refine S0 ?_
  refine T2 (hK _ _ _ ?_)
  clear hK K
  refine aJ (b := decide ((i : Int) < s.length)) rfl (fun hb => ?_) (fun hb => ?_)
  ·
   have hlt : i < s.length := by simpa using hb
   clear hb
   have hgd : s.getD i 0 = s[i] := by simp [hlt]
   have hdi := aK6 s[i]
   refine aG ?_
   refine T0 (hK _ _ _ ?_)
   clear hK K
   refine aB fun K hK => ?_
   refine aH ?_
   refine aB fun K hK => ?_
   have key2 : ∀ fr ob nx, iO s[i] = true → Fits 0 fr ob (fin [(0, .c (.str s)), (4, .c (.int .i64 n)), (5, .c (.int .i64 i))]) (fob []) 300 → K fr ob nx := by
    intro fr ob nx hd hf
    refine hK _ _ _ (bF hf ?_)
    clear hf hK K
    have hd2 : 48 ≤ s[i].toNat ∧ s[i].toNat ≤ 57 := by simpa [iO] using hd
    have e1 : IntKind.i64.wrap (10 * (n : Int)) = ((10 * n : Nat) : Int) := by rw [IntWalk.i64_in _ (by omega)]; omega
    have e2 : IntKind.u8.wrap ((s[i].toNat : Int) - 48) = ((s[i].toNat - 48 : Nat) : Int) := by rw [IntWalk.u8_in _ (by omega)]; omega
    have e3 : IntKind.i64.wrap ((s[i].toNat - 48 : Nat) : Int) = ((s[i].toNat - 48 : Nat) : Int) := by rw [IntWalk.i64_in _ (by omega)]
    have e4 : IntKind.i64.wrap (((10 * n : Nat) : Int) + ((s[i].toNat - 48 : Nat) : Int)) = ((10 * n + (s[i].toNat - 48) : Nat) : Int) := by rw [IntWalk.i64_in _ (by omega)]; omega
    refine Rg ?_
    iterate 9 refine S0 ?_ (e := fun _ h_ => by simp only [sH, ↓sP, sA, tyS, simprocAttr, Int.natCast_nonneg, Int.ofNat_lt, hlt, hgd, e1, e2, e3, e4]; exact AX h_)
    refine T2 (hK _ _ _ ?_)
    clear hK K
    refine aL (by kernel_rfl) ?_
    refine TQ (bK i) ?_
    refine ⟨⟨(i + 1, 10 * n + (s[i].toNat - 48)), hst.next hlt hd⟩, fF, ?_⟩
    show s.length - (i + 1) < s.length - i
    omega
   refine aB fun K hK => Rg ?_
   iterate 5 refine S0 ?_ (e := fun _ h_ => by simp only [sH, ↓sP, sA, tyS, simprocAttr, Int.natCast_nonneg, Int.ofNat_lt, hlt, hgd]; exact AX h_)
   refine aF 32 rfl (fun h7_32 => ?_) (fun h7_32 => ?_)
   ·
    iterate 5 refine S0 ?_ (e := fun _ h_ => by simp only [sH, ↓sP, sA, tyS, simprocAttr, Int.natCast_nonneg, Int.ofNat_lt, hlt, hgd, h7_32]; exact AX h_)
    refine T2 (hK _ _ _ ?_)
    clear hK K
    refine CT rfl ?_
    refine R0 ?_
    refine aD (RT Tryz.results66 ?_)
    have hd : iO s[i] = false := by simp only [iO, Bool.and_eq_false_iff, decide_eq_false_iff_not]; simp at h7_32; omega
    have hn := nE (hst.bad hlt hd)
    exact aM [] (.int .i64 0) (.bool false) rfl ⟨by rw [hn]; rfl, by rw [hn]; rfl⟩
   iterate 5 refine S0 ?_ (e := fun _ h_ => by simp only [sH, ↓sP, sA, tyS, simprocAttr, Int.natCast_nonneg, Int.ofNat_lt, hlt, hgd, h7_32]; exact AX h_)
   refine aF 37 rfl (fun h7_37 => ?_) (fun h7_37 => ?_)
   ·
    simp only [h7_37]
    refine T2 (hK _ _ _ ?_)
    clear hK K
    refine CT rfl ?_
    refine R0 ?_
    refine aD (RT Tryz.results66 ?_)
    have hd : iO s[i] = false := by simp only [iO, Bool.and_eq_false_iff, decide_eq_false_iff_not]; simp at h7_37; omega
    have hn := nE (hst.bad hlt hd)
    exact aM [] (.int .i64 0) (.bool false) rfl ⟨by rw [hn]; rfl, by rw [hn]; rfl⟩
   simp only [h7_37]
   refine T2 (hK _ _ _ ?_)
   clear hK K
   refine CF rfl ?_
   refine aG (T3 ?_)
   exact key2 _ _ _ (by simp only [iO, Bool.and_eq_true, decide_eq_true_eq]; simp at h7_32 h7_37; omega) (fF)
  refine aS (T3 ?_)
  clear hK K
  refine AX (hK _ _ _ ?_)
  clear hK K
  refine aB fun K hK => ?_
  have hfin := hst.fin (by simp at hb; omega)
  clear hb
  refine R0 ?_
  refine aJ (b := decide ((1099511627776 : Int) < (n : Int))) rfl (fun hb => ?_) (fun hb => ?_)
  ·
   refine R0 ?_
   refine aD (RT Tryz.results66 ?_)
   have hn := aK5 hfin (by simp at hb; omega)
   exact aM [] (.int .i64 0) (.bool false) rfl ⟨by rw [hn]; rfl, by rw [hn]; rfl⟩
  refine aG ?_
  refine T0 (hK _ _ _ ?_)
  clear hK K
  refine R0 ?_
  refine aD (RT Tryz.results66 ?_)
  have hn := aD1 hbad hfin (by simp at hb; omega)
  exact aM [] (.int .i64 n) (.bool true) rfl ⟨by rw [hn]; rfl, by rw [hn]; rfl⟩
 refine aB fun K hK => Rg ?_
 iterate 3 refine S0 ?_
 refine aF 7 rfl (fun h1_7 => ?_) (fun h1_7 => ?_)
 ·
  have F := h1_7
  iterate 14 refine SF ?_
  refine T2 (hK _ _ _ ?_)
  clear hK K
  refine CT rfl ?_
  refine R0 ?_
  refine aD (RT Tryz.results66 ?_)
  have hs : s = [] := by simpa using h1_7
  subst hs
  exact aM [] (.int .i64 0) (.bool false) rfl ⟨rfl, rfl⟩
 have F := h1_7
 iterate 5 refine SF ?_
 refine aF 11 rfl (fun h1_11 => ?_) (fun h1_11 => ?_)
 ·
  have F := aI h1_7 h1_11
  iterate 9 refine SF ?_
  refine T2 (hK _ _ _ ?_)
  clear hK K
  refine CT rfl ?_
  refine R0 ?_
  refine aD (RT Tryz.results66 ?_)
  have hn : bJ s = none := mH (by simp only [eH, Bool.or_eq_true, decide_eq_true_eq]; simp at h1_11; left; right; omega)
  exact aM [] (.int .i64 0) (.bool false) rfl ⟨by rw [hn]; rfl, by rw [hn]; rfl⟩
 have F := aI h1_7 h1_11
 refine SF ?_
 refine bA (g := some (13, false)) rfl rfl fun K' hK' => T6 ?_
 refine ⟨by have := List.length_pos_iff.2 (show s ≠ [] by simpa using h1_7); omega, ?_⟩
 refine AX (hK' _ _ ?_)
 clear hK' K'
 iterate 2 refine SF ?_
 refine aF 16 rfl (fun h1_16 => ?_) (fun h1_16 => ?_)
 ·
  have F := aI h1_7 (aI h1_11 h1_16)
  iterate 5 refine SF ?_
  refine aF 20 rfl (fun h1_20 => ?_) (fun h1_20 => ?_)
  ·
   simp only [h1_20]
   refine T2 (hK _ _ _ ?_)
   clear hK K
   refine CT rfl ?_
   refine R0 ?_
   refine aD (RT Tryz.results66 ?_)
   have hn : bJ s = none := mH (by
    simp only [eH, Bool.or_eq_true, Bool.and_eq_true, decide_eq_true_eq, beq_iff_eq]
    right
    refine ⟨by simp at h1_20; omega, UInt8.toNat_inj.1 ?_⟩
    simp only [beq_iff_eq] at h1_16
    show (s.getD 0 0).toNat = 48
    omega)
   exact aM [] (.int .i64 0) (.bool false) rfl ⟨by rw [hn]; rfl, by rw [hn]; rfl⟩
  simp only [h1_20]
  refine T2 (hK _ _ _ ?_)
  clear hK K
  refine CF rfl ?_
  refine aG (T3 ?_)
  refine key _ _ _ ?_ (fF)
  have hs := List.length_pos_iff.2 (show s ≠ [] by simpa using h1_7)
  simp only [eH, Bool.or_eq_false_iff, Bool.and_eq_false_iff, decide_eq_false_iff_not, beq_eq_false_iff_ne, ne_eq]
  simp only [decide_eq_false_iff_not, decide_eq_true_eq] at h1_11
  refine ⟨⟨by omega, by omega⟩, ?_⟩
  first
   | (left; simp at h1_20; omega)
   | (right; intro h0; rw [h0] at h1_16; simp at h1_16)
 have F := aI h1_7 (aI h1_11 h1_16)
 iterate 5 refine SF ?_
 refine T2 (hK _ _ _ ?_)
 clear hK K
 refine CF rfl ?_
 refine aG (T3 ?_)
 refine key _ _ _ ?_ (fF)
 have hs := List.length_pos_iff.2 (show s ≠ [] by simpa using h1_7)
 simp only [eH, Bool.or_eq_false_iff, Bool.and_eq_false_iff, decide_eq_false_iff_not, beq_eq_false_iff_ne, ne_eq]
 simp only [decide_eq_false_iff_not, decide_eq_true_eq] at h1_11
 refine ⟨⟨by omega, by omega⟩, ?_⟩
 first
  | (left; simp at h1_20; omega)
  | (right; intro h0; rw [h0] at h1_16; simp at h1_16)


theorem aK9 (c : UInt8) : aW Tryz.prog 131 [.int .u8 c.toNat] (fun v => v = .int .i64 (valH c : Nat)) := by
 refine FW Tryz.func131 ?_
 refine R0 ?_
 refine aB fun K hK => ?_
 refine aB fun K hK => Rg ?_
 iterate 3 refine S0 ?_
 refine aF 4 rfl (fun h1_4 => ?_) (fun h1_4 => ?_)
 ·
  have F := h1_4
  iterate 3 refine SF ?_
  refine aF 7 rfl (fun h1_7 => ?_) (fun h1_7 => ?_)
  ·
   simp only [h1_7]
   refine T2 (hK _ _ _ ?_)
   clear hK K
   refine CT rfl ?_
   have e1 : IntKind.u8.wrap ((c.toNat : Int) - 48) = ((c.toNat - 48 : Nat) : Int) := by simp at h1_4 h1_7; rw [IntWalk.u8_in _ (by omega)]; omega
   have e2 : IntKind.i64.wrap ((c.toNat - 48 : Nat) : Int) = ((c.toNat - 48 : Nat) : Int) := by have := c.toNat_lt; rw [IntWalk.i64_in _ (by omega)]
   refine aB fun K hK => Rg ?_
   have F := aI e1 (aI e2 (aI h1_4 h1_7))
   iterate 4 refine SF ?_
   refine T2 (hK _ _ _ ?_)
   clear hK K
   refine aD (RT Tryz.results131 ?_)
   refine aC [] _ rfl ?_
   simp only [decide_eq_true_eq, decide_eq_false_iff_not] at *
   refine congrArg (CV.int IntKind.i64) ?_
   unfold valH
   split <;> (try split) <;> omega
  simp only [h1_7]
  refine T2 (hK _ _ _ ?_)
  clear hK K
  refine CF rfl ?_
  refine aG ?_
  refine T0 (hK _ _ _ ?_)
  clear hK K
  refine aB fun K hK => ?_
  refine aB fun K hK => Rg ?_
  have F := aI h1_4 h1_7
  iterate 3 refine SF ?_
  refine aF 13 rfl (fun h3_13 => ?_) (fun h3_13 => ?_)
  ·
   have F := aI h1_4 (aI h1_7 h3_13)
   iterate 3 refine SF ?_
   refine aF 16 rfl (fun h3_16 => ?_) (fun h3_16 => ?_)
   ·
    simp only [h3_16]
    refine T2 (hK _ _ _ ?_)
    clear hK K
    refine CT rfl ?_
    have e1 : IntKind.u8.wrap ((c.toNat : Int) - 65) = ((c.toNat - 65 : Nat) : Int) := by simp at h3_13 h3_16; rw [IntWalk.u8_in _ (by omega)]; omega
    have e2 : IntKind.i64.wrap ((c.toNat - 65 : Nat) : Int) = ((c.toNat - 65 : Nat) : Int) := by have := c.toNat_lt; rw [IntWalk.i64_in _ (by omega)]
    have e3 : IntKind.i64.wrap (((c.toNat - 65 : Nat) : Int) + 10) = ((c.toNat - 65 + 10 : Nat) : Int) := by have := c.toNat_lt; rw [IntWalk.i64_in _ (by omega)]; omega
    refine aB fun K hK => Rg ?_
    have F := aI e1 (aI e2 (aI e3 (aI h1_4 (aI h1_7 (aI h3_13 h3_16)))))
    iterate 5 refine SF ?_
    refine T2 (hK _ _ _ ?_)
    clear hK K
    refine aD (RT Tryz.results131 ?_)
    refine aC [] _ rfl ?_
    simp only [decide_eq_true_eq, decide_eq_false_iff_not] at *
    refine congrArg (CV.int IntKind.i64) ?_
    unfold valH
    split <;> (try split) <;> omega
   simp only [h3_16]
   refine T2 (hK _ _ _ ?_)
   clear hK K
   refine CF rfl ?_
   refine aG ?_
   refine T0 (hK _ _ _ ?_)
   clear hK K
   refine R0 ?_
   refine aD (RT Tryz.results131 ?_)
   refine aC [] _ rfl ?_
   simp only [decide_eq_true_eq, decide_eq_false_iff_not] at *
   refine congrArg (CV.int IntKind.i64) ?_
   unfold valH
   split <;> (try split) <;> omega
  have F := aI h1_4 (aI h1_7 h3_13)
  iterate 3 refine SF ?_
  refine T2 (hK _ _ _ ?_)
  clear hK K
  refine CF rfl ?_
  refine aG ?_
  refine T0 (hK _ _ _ ?_)
  clear hK K
  refine R0 ?_
  refine aD (RT Tryz.results131 ?_)
  refine aC [] _ rfl ?_
  simp only [decide_eq_true_eq, decide_eq_false_iff_not] at *
  refine congrArg (CV.int IntKind.i64) ?_
  unfold valH
  split <;> (try split) <;> omega
 have F := h1_4
 iterate 3 refine SF ?_
 refine T2 (hK _ _ _ ?_)
 clear hK K
 refine CF rfl ?_
 refine aG ?_
 refine T0 (hK _ _ _ ?_)
 clear hK K
 refine aB fun K hK => ?_
 refine aB fun K hK => Rg ?_
 iterate 3 refine SF ?_
 refine aF 13 rfl (fun h3_13 => ?_) (fun h3_13 => ?_)
 ·
  have F := aI h1_4 h3_13
  iterate 3 refine SF ?_
  refine aF 16 rfl (fun h3_16 => ?_) (fun h3_16 => ?_)
  ·
   simp only [h3_16]
   refine T2 (hK _ _ _ ?_)
   clear hK K
   refine CT rfl ?_
   have e1 : IntKind.u8.wrap ((c.toNat : Int) - 65) = ((c.toNat - 65 : Nat) : Int) := by simp at h3_13 h3_16; rw [IntWalk.u8_in _ (by omega)]; omega
   have e2 : IntKind.i64.wrap ((c.toNat - 65 : Nat) : Int) = ((c.toNat - 65 : Nat) : Int) := by have := c.toNat_lt; rw [IntWalk.i64_in _ (by omega)]
   have e3 : IntKind.i64.wrap (((c.toNat - 65 : Nat) : Int) + 10) = ((c.toNat - 65 + 10 : Nat) : Int) := by have := c.toNat_lt; rw [IntWalk.i64_in _ (by omega)]; omega
   refine aB fun K hK => Rg ?_
   have F := aI e1 (aI e2 (aI e3 (aI h1_4 (aI h3_13 h3_16))))
   iterate 5 refine SF ?_
   refine T2 (hK _ _ _ ?_)
   clear hK K
   refine aD (RT Tryz.results131 ?_)
   refine aC [] _ rfl ?_
   simp only [decide_eq_true_eq, decide_eq_false_iff_not] at *
   refine congrArg (CV.int IntKind.i64) ?_
   unfold valH
   split <;> (try split) <;> omega
  simp only [h3_16]
  refine T2 (hK _ _ _ ?_)
  clear hK K
  refine CF rfl ?_
  refine aG ?_
  refine T0 (hK _ _ _ ?_)
  clear hK K
  refine R0 ?_
  refine aD (RT Tryz.results131 ?_)
  refine aC [] _ rfl ?_
  simp only [decide_eq_true_eq, decide_eq_false_iff_not] at *
  refine congrArg (CV.int IntKind.i64) ?_
  unfold valH
  split <;> (try split) <;> omega
 have F := aI h1_4 h3_13
 iterate 3 refine SF ?_
 refine T2 (hK _ _ _ ?_)
 clear hK K
 refine CF rfl ?_
 refine aG ?_
 refine T0 (hK _ _ _ ?_)
 clear hK K
 refine R0 ?_
 refine aD (RT Tryz.results131 ?_)
 refine aC [] _ rfl ?_
 simp only [decide_eq_true_eq, decide_eq_false_iff_not] at *
 refine congrArg (CV.int IntKind.i64) ?_
 unfold valH
 split <;> (try split) <;> omega

end Go.Proofs.YtenbfeemmpjdhaaGreatDoor

namespace Go.Pl
open Go Go.Hl

def wd (l : List aK) (i : Nat) : aK := l.getD i []
theorem bN {l : List aK} {i : Nat} (h : i < l.length) : nth (l.map CV.str) i = .str (wd l i) := by
 rw [aN h, wd, List.getD_eq_getElem?_getD, List.getElem?_eq_getElem h]; rfl
def gM (l : List aK) (x : Rt) : Option Rt :=
 if l.length = 3 then match bJ (wd l 1), bJ (wd l 2) with | some a, some b => some { x with v := a, e := b } | _, _ => none else none
def fI (l : List aK) (x : Rt) : Option Rt :=
 if l.length = 3 then match bJ (wd l 2) with | some n => some { x with q := x.q ++ [⟨wd l 1, n⟩] } | none => none else none
def lD (l : List aK) (x : Rt) : Option Rt :=
 if l.length < 6 then none else match bJ (wd l 1), eK (wd l 2), bJ (wd l 4), bJ (wd l 5) with
  | some h, some r, some a, some b => some { x with k := x.k ++ [⟨⟨h, r⟩, wd l 3, l.drop 6, a, b⟩] }
  | _, _, _, _ => none
def lE (l : List aK) (x : Rt) : Option Rt :=
 if l.length = 3 then match kE (wd l 1), bJ (wd l 2) with | some d, some t => some { x with x := x.x ++ [⟨d, t⟩] } | _, _ => none else none
end Go.Pl

namespace Go.Pl
open Go Go.Hl

theorem Ky.get_ph (x : Ky) : CV.getAt 0 1 false x.cv = some (.int .i64 x.p.h) := by simp [Ky.cv, Pk.cv, CV.getAt, CV.getAtL, CV.cells, CV.cellsL, dg_cells, hf_cells, Pk.cells]
theorem Ky.get_pr (x : Ky) : CV.getAt 1 16 true x.cv = some (hf x.p.r) := by simp [Ky.cv, Pk.cv, CV.getAt, CV.getAtL, CV.cells, CV.cellsL, dg_cells, hf_cells, Pk.cells, hf_getAt]
def wQuota : aK := [113, 117, 111, 116, 97]
def wKey : aK := [107, 101, 121]
def wRevoked : aK := [114, 101, 118, 111, 107, 101, 100]
def lnC (l : List aK) : CV := .slc (l.map .str)
theorem bC1 (l : List aK) : (lnC l).denil = lnC l := by simp only [lnC, CV.denil, denilL_str]
theorem yT (l : List (List aK)) : CV.denilL (l.map lnC) = l.map lnC := cB bC1 l
def rG (r : Rt) : List aK := [wRoot, qB r.v, qB r.e]
def qC (q : Qt) : List aK := [wQuota, q.r, qB q.n]
def oI (k : Ky) : List aK := [wKey, qB k.p.h, bS5 k.p.r, k.o, qB k.fr, qB k.un] ++ k.rs
def vQ (x : Rv) : List aK := [wRevoked, bB7 x.k, qB x.t]
def lK (r : Rt) : List (List aK) := [rG r] ++ r.q.map qC ++ r.k.map oI ++ r.x.map vQ
def wS (r : Rt) : aK := if bQ r then qY (lK r) else []
def aL0 (r : Rt) : Int := if bQ r then iN (lK r) else 1
def cG2 (r : Rt) : Prop := (0 ≤ r.v ∧ r.v ≤ eD) ∧ (0 ≤ r.e ∧ r.e ≤ eD) ∧ (∀ q ∈ r.q, 0 ≤ q.n ∧ q.n ≤ 32) ∧ (∀ k ∈ r.k, (0 ≤ k.p.h ∧ k.p.h ≤ 6) ∧ (0 ≤ k.fr ∧ k.fr ≤ eD) ∧ (0 ≤ k.un ∧ k.un ≤ eD)) ∧ ∀ x ∈ r.x, 0 ≤ x.t ∧ x.t ≤ eD
theorem qD {n : Int} (h : inN n = true) : 0 ≤ n ∧ n ≤ eD := by unfold inN at h; simpa using h
theorem nR {r : Rt} (h : bQ r = true) : cG2 r := by
 unfold bQ eJ lG gO at h
 simp only [Bool.and_eq_true, decide_eq_true_eq, List.all_eq_true] at h
 obtain ⟨⟨v1, v2⟩, he, ⟨hq1, -, hq2⟩, ⟨hk1, -, hk2⟩, ⟨hx1, -, hx⟩, hn1, hn2⟩ := h
 refine ⟨⟨by omega, v2⟩, qD he, fun q hq => ?_, fun k hk => ?_, fun x hx => qD (hx1 x hx)⟩
 ·
  have := hq1 q hq
  unfold kU at this
  simp only [Bool.and_eq_true, decide_eq_true_eq] at this
  omega
 ·
  have := hk1 k hk
  unfold uH at this
  simp only [Bool.and_eq_true, decide_eq_true_eq] at this
  obtain ⟨h1, h2, h3, h4, h5, h6, h7⟩ := this
  exact ⟨h1, qD h5, qD h6⟩
theorem aL1 : eD = 1099511627776 := rfl
theorem aV7 {r : Rt} (h : bQ r = true) : (lK r).length < 2 ^ 40 ∧ ∀ l ∈ lK r, l.length < 2 ^ 40 := by
 obtain ⟨⟨⟨q1, q2⟩, ⟨k1, k2⟩, x1⟩, -, -, x2⟩ := jA h
 constructor
 ·
  simp only [lK, List.length_append, List.length_map, List.length_cons, List.length_nil]; omega
 ·
  intro l hl
  simp only [lK, List.mem_append, List.mem_map, List.mem_singleton] at hl
  rcases hl with ((rfl | ⟨q, hq, rfl⟩) | ⟨k, hk, rfl⟩) | ⟨x, hx, rfl⟩
  ·
   simp [rG]
  ·
   simp [qC]
  ·
   have := (k2 k hk).2.1
   simp [oI]; omega
  ·
   simp [vQ]
end Go.Pl
