/- Plain Lean: the lines of a tree, counted; ranges of numbers (28.4). By an AI agent. -/
import Derived.Test.YtlldglbooaefhaaDoorHvV1
import Derived.Test.YtlldglbooaefhaaDoorHvTo
import Derived.Test.YtlldglbooaefhaaDoorHlCl
import Derived.Test.YtlldglbooaefhaaDoorPl03e
import Derived.Shelf.LaysM
import Derived.Shelf.Strconv.Itoa4
import Derived.Test.YtlldglbooaefhaaDoorHlExt
import Derived.Test.YtlldglbooaefhaaDoorHlTlaw
import Derived.Test.YtlldglbooaefhaaDoorPl28c
set_option linter.unusedSimpArgs false
set_option linter.unusedVariables false
set_option linter.defProp false
namespace Go.Proofs.YtlldglbooaefhaaDoor
open Go Go.Hl Go.Pl
set_option maxRecDepth 10000
set_option maxHeartbeats 16000000

theorem aK0 (ls : List (List aE)) (a : Nat) (ha : ls.length < 2 ^ 40) : sK Tryd.prog 77 67 (rdr ls a) [] (fun u x v' => u = ((jF ls a).getD nd0).cv ∧ x = .bool (jF ls a).isSome ∧ v' = rdr ls (if (jF ls a).isSome then a + 1 else a)) := by
 refine bP Tryd.func77 rfl (by kernel_rfl) (cP _ _ _) (Nat.le_of_ble_eq_true rfl) ?_
 refine R0 ?_
 refine R0 ?_
 refine aC fun K hK => ?_
 refine aK ?_
 refine aC fun K hK => Rg ?_
 refine S0 ?_
 refine HS rfl rfl fun K' hK' => T5 ?_
 refine bQ (args := [_, _]) (nC ls a oT ha) rfl (by simp) ⟨rfl, rfl, rfl, rfl⟩ ?_
 rintro u v' ⟨rfl, rfl⟩
 refine AX (hK' _ _ ?_)
 clear hK' K'
 refine S0 ?_
 refine T2 (hK _ _ _ ?_)
 clear hK K
 refine aG (b := isV ls a oT 1) rfl (fun hb => ?_) (fun hb => ?_)
 ·
  have hreq := bL2 hb
  rw [hb]
  refine aC fun K hK => Rg ?_
  iterate 3 refine S0 ?_
  refine T2 (hK _ _ _ ?_)
  clear hK K
  refine aF (RT Tryd.results77 ?_)
  rw [hreq]
  exact bR [] (Nd.cv ⟨2, 0, 0, rq0⟩) (.bool true) (rdr ls (a + 1)) rfl rfl (by simp [HV.close, HV.closeL, rdr, CV.denil, CV.denilL, aQ, HV.norm, HV.toC, HV.toCL]) (by simp) ⟨rfl, rfl, rfl⟩
 have hAll : isV ls a oT 1 = false := hb
 rw [hb]
 simp only [Bool.false_eq_true, if_false]
 clear hb
 refine aC fun K hK => Rg ?_
 refine S0 ?_
 refine HS rfl rfl fun K' hK' => T5 ?_
 refine bQ (args := [_, _]) (nC ls a oU ha) rfl (by simp) ⟨rfl, rfl, rfl, rfl⟩ ?_
 rintro u v' ⟨rfl, rfl⟩
 refine AX (hK' _ _ ?_)
 clear hK' K'
 refine S0 ?_
 refine T2 (hK _ _ _ ?_)
 clear hK K
 refine aG (b := isV ls a oU 1) rfl (fun hb => ?_) (fun hb => ?_)
 ·
  have hreq := bL3 hb
  rw [hb]
  refine aC fun K hK => Rg ?_
  iterate 3 refine S0 ?_
  refine T2 (hK _ _ _ ?_)
  clear hK K
  refine aF (RT Tryd.results77 ?_)
  rw [hreq]
  exact bR [] (Nd.cv ⟨3, 0, 0, rq0⟩) (.bool true) (rdr ls (a + 1)) rfl rfl (by simp [HV.close, HV.closeL, rdr, CV.denil, CV.denilL, aQ, HV.norm, HV.toC, HV.toCL]) (by simp) ⟨rfl, rfl, rfl⟩
 have hAny : isV ls a oU 1 = false := hb
 rw [hb]
 simp only [Bool.false_eq_true, if_false]
 clear hb
 refine aC fun K hK => bE (by kernel_rfl) ?_
 simp only [sR, simprocAttr]
 refine SG0 ?_
 refine bY (g := none) rfl rfl fun K' hK' => ?_
 simp only [sN, ↓hopH.eq_def, sH, ↓sP, sA, tyS, simprocAttr]
 refine AX (hK' _ _ ?_)
 clear hK' K'
 refine bJ (g := none) rfl rfl fun K' hK' => T5 ?_
 refine gO dB ha rfl rfl rfl (by decide) (by simp) ⟨rfl, rfl, rfl, rfl⟩ ?_
 refine AX (hK' _ _ ?_)
 clear hK' K'
 refine SG0 ?_
 refine T2 (hK _ _ _ ?_)
 clear hK K
 refine aG (b := (fK ls a dB).isSome) rfl (fun hb => ?_) (fun hb => ?_)
 ·
  obtain ⟨n, hn⟩ := Option.isSome_iff_exists.1 hb
  have hreq := bT6 hn
  simp only [hn, Option.isSome_some, if_true, Option.getD_some]
  refine aC fun K hK => Rg ?_
  iterate 4 refine S0 ?_
  refine T2 (hK _ _ _ ?_)
  clear hK K
  refine aF (RT Tryd.results77 ?_)
  rw [hreq]
  exact bR [] (Nd.cv ⟨4, n, 0, rq0⟩) (.bool true) (rdr ls (a + 1)) rfl rfl (by simp [HV.close, HV.closeL, rdr, CV.denil, CV.denilL, aQ, HV.norm, HV.toC, HV.toCL]) (by simp) ⟨rfl, rfl, rfl⟩
 have hAt : fK ls a dB = none := by simpa using hb
 have hno := bA8 hAll hAny hAt
 simp only [hAt, Option.isSome_none, Bool.false_eq_true, if_false, Option.getD_none]
 refine aJ ?_
 refine T0 (hK _ _ _ ?_)
 clear hK K
 refine aC fun K hK => Rg ?_
 iterate 3 refine S0 ?_
 refine T2 (hK _ _ _ ?_)
 clear hK K
 refine aF (RT Tryd.results77 ?_)
 rw [hno]
 exact bR [] nd0.cv (.bool false) (rdr ls a) rfl rfl (by simp [HV.close, HV.closeL, rdr, CV.denil, CV.denilL, aQ, HV.norm, HV.toC, HV.toCL]) (by simp) ⟨rfl, rfl, rfl⟩

end Go.Proofs.YtlldglbooaefhaaDoor

namespace Go.Pl
open Go Go.Hl

abbrev Kds := Option (List Nd × Int) × List (List aE)
def pB (ts : List Nd) (k : Int) (x : Kds) : Kds := (x.1.map fun p => (ts ++ p.1, k + p.2), x.2)
def wT (n : Nd) (x : Kds) : Option (List Nd) × List (List aE) := (x.1.map fun p => { n with c := p.2 } :: p.1, x.2)
theorem bL6 (ts us : List Nd) (k j : Int) (x : Kds) : pB ts k (pB us j x) = pB (ts ++ us) (k + j) x := by
 obtain ⟨o, r⟩ := x
 cases o <;> simp [pB, List.append_assoc, Int.add_assoc]
theorem bL7 (x : Kds) : pB [] 0 x = x := by simp_all [pB]
theorem nD {f : Nat} {w : List aE} {r : List (List aE)} {q : Rq} (h : eU w = some q) : rdN (f + 1) (w :: r) = (some [⟨1, 0, 0, q⟩], r) := by simp only [rdN, h]
theorem nE {f : Nat} {w : List aE} {r : List (List aE)} (h : eU w = none) (h2 : jE w = none) : rdN (f + 1) (w :: r) = (none, w :: r) := by simp only [rdN, h, h2]
theorem nZ {f : Nat} {w : List aE} {r : List (List aE)} {n : Nd} (h : eU w = none) (h2 : jE w = some n) : rdN (f + 1) (w :: r) = wT n (rdK f r) := by
 simp only [rdN, h, h2]
 match rdK f r with
 | (none, r') => rfl
 | (some (ts, c), r') => rfl
theorem aB6 {f : Nat} {l : List (List aE)} (h : gV (l.headD []) = true) : rdK (f + 1) l = (some ([], 0), l.tail) := by simp only [rdK, h, if_true]
theorem aP8 {f : Nat} {l r : List (List aE)} (h : gV (l.headD []) = false) (h2 : rdN f l = (none, r)) : rdK (f + 1) l = (none, r) := by simp_all [rdK, Bool.false_eq_true, if_false]
theorem vX {f : Nat} {l r : List (List aE)} {t : List Nd} (h : gV (l.headD []) = false) (h2 : rdN f l = (some t, r)) : rdK (f + 1) l = pB t 1 (rdK f r) := by
 simp only [rdK, h, h2, Bool.false_eq_true, if_false]
 grind [rdK, pB, Int.add_comm]
theorem aB7 : ∀ f, (∀ l, ∃ j, (rdN f l).2 = l.drop j ∧ ∀ t, (rdN f l).1 = some t → t.length + (rdN f l).2.length ≤ l.length) ∧ (∀ l, ∃ j, (rdK f l).2 = l.drop j ∧ ∀ p, (rdK f l).1 = some p → p.1.length + (rdK f l).2.length ≤ l.length)
 | 0 => ⟨fun l => ⟨0, by simp [rdN], fun t h => by simp [rdN] at h⟩, fun l => ⟨0, by simp [rdK], fun t h => by simp [rdK] at h⟩⟩
 | f + 1 => by
  obtain ⟨ihN, ihK⟩ := aB7 f
  refine ⟨fun l => ?_, fun l => ?_⟩
  ·
   match l with
   | [] => simp_all [rdN]
   | w :: r =>
    cases h1 : eU w with
    | some q => rw [nD h1]; exact ⟨1, rfl, fun t h => by grind⟩
    | none =>
     cases h2 : jE w with
     | none => rw [nE h1 h2]; exact ⟨0, rfl, fun t h => by cases h⟩
     | some n =>
      rw [nZ h1 h2]
      obtain ⟨j, hj, hl⟩ := ihK r
      refine ⟨j + 1, hj, fun t h => ?_⟩
      cases hk : (rdK f r).1 with
      | none => simp [wT, hk] at h
      | some p =>
       grind [wT, rdK]
  ·
   cases he : gV (l.headD []) with
   | true =>
    rw [aB6 he]
    exact ⟨1, by simp, fun p h => by grind⟩
   | false =>
    obtain ⟨j, hj, hl⟩ := ihN l
    match h2 : rdN f l with
    | (none, r) =>
     rw [aP8 he h2]
     grind
    | (some t, r) =>
     rw [vX he h2]
     rw [h2] at hj hl
     obtain ⟨i, hi, hl2⟩ := ihK r
     have hj' : r = l.drop j := hj
     have hl' := hl t rfl
     simp only at hl'
     refine ⟨j + i, ?_, fun p h => ?_⟩
     ·
      show (rdK f r).2 = _
      simp_all
     ·
      cases hk : (rdK f r).1 with
      | none => simp [pB, hk] at h
      | some q =>
       grind [pB, rdK]
theorem aU3 (f : Nat) (l : List (List aE)) : ∃ j, j ≤ l.length ∧ (rdN f l).2 = l.drop j := by
 obtain ⟨j, hj, _⟩ := (aB7 f).1 l
 rcases Nat.lt_or_ge l.length j with h | h
 ·
  exact ⟨l.length, Nat.le_refl _, by rw [hj, List.drop_eq_nil_of_le (by omega), List.drop_eq_nil_of_le (Nat.le_refl _)]⟩
 grind
theorem rO {ls : List (List aE)} {a : Nat} (ha : a ≤ ls.length) : gV ((ls.drop a).headD []) = isV ls a wEnd 1 := by
 rcases Nat.lt_or_ge a ls.length with h | h
 ·
  rw [iB h, List.drop_eq_getElem_cons h]; rfl
 ·
  rw [aB1 (by omega), List.drop_eq_nil_of_le h]; rfl
structure KdSt (f : Nat) (ls : List (List aE)) (a : Nat) (nd : Nd) (g : Nat) (ts : List Nd) (k p : Nat) : Prop where
 eq : rdN f (ls.drop a) = wT nd (pB ts k (rdK g (ls.drop p)))
 le : p ≤ ls.length
 fuel : 2 * (ls.length - p) + 2 ≤ g
 lt : g < f
 len : ts.length + (ls.length - p) + 1 ≤ ls.length - a
 kids : k ≤ ts.length
theorem KdSt.init {f : Nat} {ls : List (List aE)} {a : Nat} {nd : Nd} (ha : a < ls.length) (hf : 2 * (ls.length - a) + 1 ≤ f) (h1 : eU ls[a] = none) (h2 : jE ls[a] = some nd) : KdSt f ls a nd (f - 1) [] 0 (a + 1) := by
 obtain ⟨g, rfl⟩ : ∃ g, f = g + 1 := ⟨f - 1, by omega⟩
 refine ⟨?_, by omega, ?_, by omega, by grind, by simp⟩
 all_goals grind [List.drop_eq_getElem_cons, nZ, wT, pB, bL7, Nat.add_sub_cancel]
theorem KdSt.end_ {f : Nat} {ls : List (List aE)} {a : Nat} {nd : Nd} {g : Nat} {ts : List Nd} {k p : Nat} (h : KdSt f ls a nd g ts k p) (he : isV ls p wEnd 1 = true) : p < ls.length ∧ rdN f (ls.drop a) = (some ({ nd with c := (k : Int) } :: ts), ls.drop (p + 1)) := by
 obtain ⟨hp, _, _⟩ := fL he
 obtain ⟨q, rfl⟩ : ∃ q, g = q + 1 := ⟨g - 1, by have := h.fuel; omega⟩
 refine ⟨hp, ?_⟩
 rw [h.eq, aB6 (by rw [rO h.le, he])]
 simp [pB, wT]
theorem KdSt.no {f : Nat} {ls : List (List aE)} {a : Nat} {nd : Nd} {g : Nat} {ts : List Nd} {k p : Nat} (h : KdSt f ls a nd g ts k p) (he : isV ls p wEnd 1 = false) (hn : (rdN (g - 1) (ls.drop p)).1 = none) : rdN f (ls.drop a) = (none, (rdN (g - 1) (ls.drop p)).2) := by
 obtain ⟨q, rfl⟩ : ∃ q, g = q + 1 := ⟨g - 1, by have := h.fuel; omega⟩
 simp only [Nat.add_sub_cancel] at hn ⊢
 rw [h.eq, aP8 (by rw [rO h.le, he]) (r := (rdN q (ls.drop p)).2) (Prod.ext hn rfl)]
 rfl
theorem KdSt.some_ {f : Nat} {ls : List (List aE)} {a : Nat} {nd : Nd} {g : Nat} {ts : List Nd} {k p : Nat} (h : KdSt f ls a nd g ts k p) (he : isV ls p wEnd 1 = false) {t : List Nd} (hs : (rdN (g - 1) (ls.drop p)).1 = some t) :
  KdSt f ls a nd (g - 1) (ts ++ t) (k + 1) (ls.length - (rdN (g - 1) (ls.drop p)).2.length) := by
 obtain ⟨q, rfl⟩ : ∃ q, g = q + 1 := ⟨g - 1, by have := h.fuel; omega⟩
 simp only [Nat.add_sub_cancel] at hs ⊢
 obtain ⟨j, hj, hr⟩ := aU3 q (ls.drop p)
 have hlt : (rdN q (ls.drop p)).snd.length < (ls.drop p).length := (bI9 q).1 (ls.drop p) t (rdN q (ls.drop p)).snd (Prod.ext hs rfl)
 obtain ⟨_, _, hlen⟩ := (aB7 q).1 (ls.drop p)
 have hlen' := hlen t hs
 have hle := h.le
 rw [hr] at hlt hlen'
 simp only [List.length_drop] at hj hlt hlen'
 have hpos : ls.length - (rdN q (ls.drop p)).2.length = p + j := by rw [hr]; simp only [List.length_drop]; omega
 have hfu := h.fuel
 have hfl := h.lt
 have hll := h.len
 have hkk := h.kids
 have ht0 : 1 ≤ t.length ∨ t = [] := by cases t <;> simp
 rw [hpos]
 refine ⟨?_, by omega, by omega, by omega, by grind, ?_⟩
 ·
  rw [h.eq, vX (by rw [rO h.le, he]) (r := (rdN q (ls.drop p)).2) (Prod.ext hs rfl), bL6, hr, List.drop_drop]
  rfl
 ·
  simp only [List.length_append]
  rcases ht0 with h0 | h0
  ·
   omega
  ·
   exfalso
   subst h0
   revert hs
   match q, ls.drop p with
   | 0, l => intro hs; cases hs
   | q + 1, [] => intro hs; cases hs
   | q + 1, w :: r =>
    intro hs
    cases h1 : eU w with
    | some x => rw [nD h1] at hs; cases hs
    | none =>
     cases h2 : jE w with
     | none => rw [nE h1 h2] at hs; cases hs
     | some x =>
      rw [nZ h1 h2] at hs
      cases hk : (rdK q r).1 with
      | none => simp [wT, hk] at hs
      | some y => simp [wT, hk] at hs
end Go.Pl

namespace Go.Proofs.YtlldglbooaefhaaDoor
open Go Go.Hl Go.Pl
set_option maxRecDepth 10000
set_option maxHeartbeats 16000000

def bW6 (ls : List (List aE)) (a n : Nat) (T : List Nd) (X : Option (List Nd) × List (List aE)) (r : HV) (os' : List HO) : Prop :=
 ∃ T' : List Nd, r = .tup [.own 1 T'.length, .c (.bool X.1.isSome)] ∧ os' = [.box 67 (.c (rdr ls (ls.length - X.2.length))), .row 48 7 (T'.map Nd.cv)] ∧ (∀ t, X.1 = some t → T' = T ++ t) ∧ 0 < T'.length ∧ T'.length + X.2.length ≤ n + (ls.length - a)
theorem cE4 (ls : List (List aE)) (a : Nat) (T : List Nd) : lst [.box 67 (.c (rdr ls a)), .row 48 7 (T.map Nd.cv)] = fob [(0, .box 67 (.c (rdr ls a))), (1, .row 48 7 (T.map Nd.cv))] := by
 funext i
 match i with
 | 0 => rfl
 | 1 => rfl
 | i + 2 => simp [lst, fob, upd]
theorem bA9 (n : Nat) (ob : Ob) (e : TypeId) (sz : Nat) (v : CV) (L : List CV) (t : TypeId) : jJ (sub [0, 1] n) ob 0 [.box t (.c v), .row e sz L] = upd (upd ob 0 (some (.box t (.c v)))) 1 (some (.row e sz L)) := rfl
theorem aK1 (n m : Nat) (v : CV) : HV.ren (sub [0, 1] n) (.tup [.own 1 m, .c v]) = .tup [.own 1 m, .c v] := rfl
theorem innR_c {w : List aE} {n : Nd} (h : jE w = some n) : n.c = 0 := by
 unfold jE at h
 split at h
 ·
  cases h; rfl
 split at h
 ·
  cases h; rfl
 split at h
 ·
  cases hn : bH (wd w 1) with
  | none => rw [hn] at h; cases h
  | some x => rw [hn] at h; cases h; rfl
 cases h
theorem oA {ob : Ob} {ls : List (List aE)} {a b n m : Nat} {T T' : List Nd} {L : List CV} {bo : Bool} {X : Option (List Nd) × List (List aE)} (h0 : ob 0 = some (.box 67 (.c (rdr ls b)))) (h1 : ob 1 = some (.row 48 7 L)) (hm : m = T'.length) (hL : L = T'.map Nd.cv) (hb : b = ls.length - X.2.length) (hbo : bo = X.1.isSome)
  (hT : ∀ t, X.1 = some t → T' = T ++ t) (hp : 0 < T'.length) (hl : T'.length + X.2.length ≤ n + (ls.length - a)) :
  lM 2 (.tup [.own 1 m, .c (.bool bo)]) ob (fun r ob' => ∃ os', ob' = lst os' ∧ (2 ≤ os'.length ∧ os'.length ≤ 2 + 4) ∧ bW6 ls a n T X r os') := by
 subst hb hbo hm hL
 exact dX [] [] (.tup [.own 1 T'.length, .c (.bool X.1.isSome)]) [.box 67 (.c (rdr ls (ls.length - X.2.length))), .row 48 7 (T'.map Nd.cv)] rfl (by simp [HV.men, HV.menL]) ⟨⟨by simp [HO.men, HV.men], by simp, _, h0, by simp [HO.close, HV.close, HO.ren, HV.ren, HV.norm, fG, HV.toC, rdr, CV.denil, CV.denilL, aQ]⟩, ⟨by simp [HO.men], by simp, _, h1, rfl⟩, trivial⟩ rfl List.nodup_nil (by simp) (by simp) ⟨T', rfl, rfl, hT, hp, hl⟩

theorem bT7 (f : Nat) : ∀ (ls : List (List aE)) (a : Nat) (T : List Nd), a ≤ ls.length → 2 * (ls.length - a) + 1 ≤ f → 0 < T.length → ls.length < 2 ^ 39 → T.length + (ls.length - a) < 2 ^ 39 →
  HGe Tryd.prog 60 [.ptr 0 0, .own 1 T.length] [.box 67 (.c (rdr ls a)), .row 48 7 (T.map Nd.cv)] (bW6 ls a T.length T (rdN f (ls.drop a))) := by
 induction f using Nat.strongRecOn with
 | ind f ih => ?_
 intro ls a T hal hfu hT0 hls hTl
 refine bP (args := [.ptr 0 0, .own 1 T.length]) Tryd.func60 rfl (by kernel_rfl) (fE rfl (by simp [eE, HO.men, HV.men, HV.menL]) (by simp [HV.menL, HV.men])) (Nat.le_of_ble_eq_true rfl) ?_
 show Hw _ _ 2 _ _ _ (lst _) 2
 rw [cE4]
 refine R0 ?_
 refine aC fun K hK => ?_
 refine aC fun K hK => Rg ?_
 refine S0 ?_
 refine HS rfl rfl fun K' hK' => T5 ?_
 refine dP (args := []) (aJ9 ls a (by omega)) rfl (by simp) ⟨rfl, rfl, rfl, rfl⟩ ?_
 rintro u x v' ⟨rfl, rfl, rfl⟩
 refine AX (hK' _ _ ?_)
 clear hK' K'
 iterate 6 refine S0 ?_
 refine T2 (hK _ _ _ ?_)
 clear hK K
 refine R0 ?_
 refine aG (b := (jL ls a).isSome) rfl (fun hb => ?_) (fun hb => ?_)
 ·
  obtain ⟨q, hq⟩ := Option.isSome_iff_exists.1 hb
  obtain ⟨hl, hq2⟩ : ∃ h : a < ls.length, eU ls[a] = some q := by
   unfold jL at hq
   split at hq
   ·
    exact ⟨by assumption, hq⟩
   cases hq
  obtain ⟨g, rfl⟩ : ∃ g, f = g + 1 := ⟨f - 1, by omega⟩
  rw [List.drop_eq_getElem_cons hl, nD hq2]
  simp only [hq, Option.isSome_some, if_true, Option.getD_some]
  refine aC fun K hK => Rg ?_
  iterate 7 refine S0 ?_
  refine T2 (hK _ _ _ ?_)
  clear hK K
  refine aF (RT Tryd.results60 ?_)
  exact oA (T' := T ++ [⟨1, 0, 0, q⟩]) rfl rfl (by simp) (by simp) (by simp only [List.length_drop]; omega) rfl (fun t h => by cases h; rfl) (by simp) (by simp only [List.length_append, List.length_cons, List.length_nil, List.length_drop]; omega)
 have hno : jL ls a = none := by simpa using hb
 simp only [hno, Option.isSome_none, Bool.false_eq_true, if_false, Option.getD_none]
 clear hb
 refine aJ ?_
 refine T0 (hK _ _ _ ?_)
 clear hK K
 refine aC fun K hK => Rg ?_
 refine S0 ?_
 refine HS rfl rfl fun K' hK' => T5 ?_
 refine dP (args := []) (aK0 ls a (by omega)) rfl (by simp) ⟨rfl, rfl, rfl, rfl⟩ ?_
 rintro u x v' ⟨rfl, rfl, rfl⟩
 refine AX (hK' _ _ ?_)
 clear hK' K'
 iterate 6 refine S0 ?_
 refine T2 (hK _ _ _ ?_)
 clear hK K
 refine aC fun K hK => ?_
 refine R0 ?_
 refine aG (b := !(jF ls a).isSome) rfl (fun hb => ?_) (fun hb => ?_)
 ·
  have hi : jF ls a = none := by simpa using hb
  have hX : rdN f (ls.drop a) = (none, ls.drop a) := by
   obtain ⟨g, rfl⟩ : ∃ g, f = g + 1 := ⟨f - 1, by omega⟩
   rcases Nat.lt_or_ge a ls.length with hl | hl
   ·
    rw [fM hl] at hno
    unfold jF at hi
    rw [dif_pos hl] at hi
    rw [List.drop_eq_getElem_cons hl, nE hno hi]
   rw [List.drop_eq_nil_of_le hl]; rfl
  rw [hX]
  simp only [hi, Option.isSome_none, Bool.false_eq_true, if_false]
  refine R0 ?_
  refine aF (RT Tryd.results60 ?_)
  exact oA (T' := T) rfl rfl rfl rfl (by simp only [List.length_drop]; omega) rfl (fun t h => by cases h) hT0 (by simp only [List.length_drop]; omega)
 refine aJ ?_
 refine T0 (hK _ _ _ ?_)
 clear hK K
 obtain ⟨nd, hi⟩ : ∃ nd, jF ls a = some nd := by
  cases h : jF ls a with
  | none => rw [h] at hb; simp at hb
  | some nd => exact ⟨nd, rfl⟩
 obtain ⟨hl, hi2⟩ : ∃ h : a < ls.length, jE ls[a] = some nd := by
  unfold jF at hi
  split at hi
  ·
   exact ⟨by assumption, hi⟩
  cases hi
 rw [fM hl] at hno
 have hc0 := innR_c hi2
 have hnd : ({ k := nd.k, n := nd.n, c := 0, q := nd.q } : Nd) = nd := by cases nd; simp only at hc0; rw [hc0]
 have hst := KdSt.init hl hfu hno hi2
 simp only [hi, Option.isSome_some, if_true, Option.getD_some]
 clear hb
 refine R0 ?_
 refine aC fun K hK => Rg ?_
 iterate 5 refine S0 ?_
 refine T2 (hK _ _ _ ?_)
 clear hK K
 refine aC fun K hK => ?_
 refine aK ?_
 refine bO (α := {y : Nat × List Nd × Nat × Nat // KdSt f ls a nd y.1 y.2.1 y.2.2.1 y.2.2.2}) (fun y => (fin [(0, .ptr 0 0), (1, .own 1 (T.length + 1 + y.1.2.1.length)), (10, .c (.int .i64 T.length))], fob [(0, .box 67 (.c (rdr ls y.1.2.2.2))), (1, .row 48 7 ((T ++ { nd with c := (y.1.2.2.1 : Int) } :: y.1.2.1).map Nd.cv))])) 2000 (fun y => y.1.1) ⟨(f - 1, [], 0, a + 1), hst⟩ (aN (by omega) (by simp [bB, fin_at, finA_at, upd_at, HV.men, HV.menL, HV.norm, HV.toC, HV.toCL, hnd]) (by simp [bA, fob_at, upd_at, none0_at, cB, HO.men, HV.men, HV.menL, HV.norm, HV.toC, HV.toCL, hnd])) ?_
 rintro ⟨⟨g, ts, k, p⟩, hΦ⟩
 simp only at hΦ
 refine aC fun K hK => ?_
 refine aC fun K hK => Rg ?_
 refine S0 ?_
 refine HS rfl rfl fun K' hK' => T5 ?_
 refine bQ (args := [_, _]) (nC ls p wEnd (by omega)) rfl (by simp) ⟨rfl, rfl, rfl, rfl⟩ ?_
 rintro u v' ⟨rfl, rfl⟩
 refine AX (hK' _ _ ?_)
 clear hK' K'
 refine S0 ?_
 refine T2 (hK _ _ _ ?_)
 clear hK K
 refine aG (b := !isV ls p wEnd 1) rfl (fun hb => ?_) (fun hb => ?_)
 ·
  have hev : isV ls p wEnd 1 = false := by simpa using hb
  obtain ⟨Tq, hTq⟩ : ∃ Tq, Tq = T ++ { nd with c := (k : Int) } :: ts := ⟨_, rfl⟩
  have hTql : T.length + 1 + ts.length = Tq.length := by rw [hTq]; simp; omega
  have hp1 := hΦ.le
  have hp2 := hΦ.fuel
  have hp3 := hΦ.lt
  have hp4 := hΦ.len
  have hp5 := hΦ.kids
  rw [← hTq, hTql, hev]
  simp only [Bool.false_eq_true, if_false]
  clear hb
  refine aJ ?_
  refine T0 (hK _ _ _ ?_)
  clear hK K
  refine aK ?_
  refine aC fun K hK => ?_
  refine aC fun K hK => Rg ?_
  iterate 2 refine S0 ?_
  refine HS rfl rfl fun K' hK' => T5 ?_
  refine fZ [0, 1] (ih (g - 1) (by omega) ls p Tq hp1 (by omega) (by omega) hls (by omega)) rfl ⟨rfl, rfl, trivial⟩ (by simp) (by simp) ⟨rfl, rfl, rfl, rfl⟩ (by simp [eE, HO.men, HV.men, HV.menL]) (by simp [HV.menL, HV.men]) ?_
  rintro r os' ⟨T', rfl, rfl, h1, h2, h3⟩
  rw [bA9, aK1]
  refine AX (hK' _ _ ?_)
  clear hK' K'
  iterate 5 refine S0 ?_
  refine T2 (hK _ _ _ ?_)
  clear hK K
  refine R0 ?_
  refine aG (b := !(rdN (g - 1) (ls.drop p)).1.isSome) rfl (fun hb => ?_) (fun hb => ?_)
  ·
   have hn2 : (rdN (g - 1) (ls.drop p)).1 = none := by simpa using hb
   rw [hΦ.no hev hn2]
   refine R0 ?_
   refine aF (RT Tryd.results60 ?_)
   exact oA (T' := T') rfl rfl rfl rfl rfl rfl (fun t h => by cases h) h2 (by simp only; omega)
  obtain ⟨t, ht⟩ : ∃ t, (rdN (g - 1) (ls.drop p)).1 = some t := by
   cases h : (rdN (g - 1) (ls.drop p)).1 with
   | none => rw [h] at hb; simp at hb
   | some t => exact ⟨t, rfl⟩
  have hst2 := hΦ.some_ hev ht
  have hT' := h1 t ht
  have hlt : T.length < T'.length := by rw [hT', List.length_append]; omega
  have hge : T'[T.length] = { nd with c := (k : Int) } := by simp [hT', hTq]
  have hw : IntKind.i64.wrap ((k : Int) + 1) = ((k + 1 : Nat) : Int) := IntWalk.i64_in _ (by omega)
  have hmne : (T'.map Nd.cv = []) = False := by simp; intro h; rw [h] at hlt; cases hlt
  clear hb
  refine aJ ?_
  refine T0 (hK _ _ _ ?_)
  clear hK K
  refine Rg ?_
  have F := aI @Int.natCast_nonneg (aI @Int.ofNat_lt (aI hlt (aI (nM hlt) (aI hge (aI hw (aI hmne (aI not_false_eq_true @List.length_map.{0,0})))))))
  iterate 9 refine SF ?_
  refine T4 ?_
  refine ⟨⟨(g - 1, ts ++ t, k + 1, ls.length - (rdN (g - 1) (ls.drop p)).2.length), hst2⟩, ?_, ?_⟩
  ·
   have hrow : (List.map Nd.cv T').set T.length (Nd.cv { nd with c := ((k + 1 : Nat) : Int) }) = List.map Nd.cv (T ++ { nd with c := ((k + 1 : Nat) : Int) } :: (ts ++ t)) := by
    rw [hT', hTq, ← List.map_set]
    simp [List.set_append]
   have hlen : T'.length = T.length + 1 + (ts ++ t).length := by rw [hT', hTq]; simp; omega
   simp only []
   rw [← hrow, ← hlen]
   exact fF
  show g - 1 < g
  omega
 have hev : isV ls p wEnd 1 = true := by simpa using hb
 obtain ⟨hp, hX⟩ := hΦ.end_ hev
 have hp4 := hΦ.len
 rw [hev]
 simp only [if_true]
 refine bD (T3 ?_)
 clear hK K
 refine AX (hK _ _ _ ?_)
 clear hK K
 refine R0 ?_
 refine aF (RT Tryd.results60 ?_)
 rw [hX]
 exact oA (T' := T ++ { nd with c := (k : Int) } :: ts) rfl rfl (by simp; omega) rfl (by simp only [List.length_drop]; omega) rfl (fun t h => by cases h; rfl) (by simp; omega) (by simp only [List.length_append, List.length_cons, List.length_drop]; omega)

end Go.Proofs.YtlldglbooaefhaaDoor

namespace Go.Proofs.YtlldglbooaefhaaDoor
open Go Go.Hl Go.Pl
set_option maxRecDepth 10000
set_option maxHeartbeats 16000000

theorem bB0 (N n : Nat) (ob : Ob) (e : TypeId) (sz : Nat) (v : CV) (L : List CV) (t : TypeId) : jJ (sub [0, N] n) ob 0 [.box t (.c v), .row e sz L] = upd (upd ob 0 (some (.box t (.c v)))) N (some (.row e sz L)) := rfl
theorem yW (N n m : Nat) (v : CV) : HV.ren (sub [0, N] n) (.tup [.own 1 m, .c v]) = .tup [.own N m, .c v] := rfl
theorem bL8 (f : Nat) (ls : List (List aE)) (a : Nat) (hal : a ≤ ls.length) (hfu : 2 * (ls.length - a) + 1 ≤ f) (hls : ls.length < 2 ^ 39) :
  sK Tryd.prog 60 67 (rdr ls a) [.nils] (fun u x v' => ∃ T' : List Nd, u = .slc (T'.map Nd.cv) ∧ x = .bool (rdN f (ls.drop a)).1.isSome ∧ v' = rdr ls (ls.length - (rdN f (ls.drop a)).2.length) ∧ ∀ t, (rdN f (ls.drop a)).1 = some t → T' = t) := by
 refine bP Tryd.func60 rfl (by kernel_rfl) (cP _ _ _) (Nat.le_of_ble_eq_true rfl) ?_
 refine R0 ?_
 refine aC fun K hK => ?_
 refine aC fun K hK => Rg ?_
 refine S0 ?_
 refine HS rfl rfl fun K' hK' => T5 ?_
 refine dP (args := []) (aJ9 ls a (by omega)) rfl (by simp) ⟨rfl, rfl, rfl, rfl⟩ ?_
 rintro u x v' ⟨rfl, rfl, rfl⟩
 refine AX (hK' _ _ ?_)
 clear hK' K'
 iterate 6 refine S0 ?_
 refine T2 (hK _ _ _ ?_)
 clear hK K
 refine R0 ?_
 refine aG (b := (jL ls a).isSome) rfl (fun hb => ?_) (fun hb => ?_)
 ·
  obtain ⟨q, hq⟩ := Option.isSome_iff_exists.1 hb
  obtain ⟨hl, hq2⟩ : ∃ h : a < ls.length, eU ls[a] = some q := by
   unfold jL at hq
   split at hq
   ·
    exact ⟨by assumption, hq⟩
   cases hq
  obtain ⟨g, rfl⟩ : ∃ g, f = g + 1 := ⟨f - 1, by omega⟩
  rw [List.drop_eq_getElem_cons hl, nD hq2]
  simp only [hq, Option.isSome_some, if_true, Option.getD_some]
  refine aC fun K hK => Rg ?_
  iterate 7 refine S0 ?_
  refine T2 (hK _ _ _ ?_)
  clear hK K
  refine aF (RT Tryd.results60 ?_)
  exact bR [61] (.slc [Nd.cv ⟨1, 0, 0, q⟩]) (.bool true) (rdr ls (a + 1)) (by simp [HV.close, HV.closeL, HO.close, fob_at, upd_at, CV.denil, CV.denilL, denilL_Nd, HV.norm, HV.toC, HV.toCL]) rfl (by simp [HV.close, HV.closeL, rdr, CV.denil, CV.denilL, aQ, HV.norm, HV.toC, HV.toCL]) (by simp) ⟨[⟨1, 0, 0, q⟩], rfl, rfl, by simp only [List.length_drop]; congr 1; omega, fun t h => by cases h; rfl⟩
 have hno : jL ls a = none := by simpa using hb
 simp only [hno, Option.isSome_none, Bool.false_eq_true, if_false, Option.getD_none]
 clear hb
 refine aJ ?_
 refine T0 (hK _ _ _ ?_)
 clear hK K
 refine aC fun K hK => Rg ?_
 refine S0 ?_
 refine HS rfl rfl fun K' hK' => T5 ?_
 refine dP (args := []) (aK0 ls a (by omega)) rfl (by simp) ⟨rfl, rfl, rfl, rfl⟩ ?_
 rintro u x v' ⟨rfl, rfl, rfl⟩
 refine AX (hK' _ _ ?_)
 clear hK' K'
 iterate 6 refine S0 ?_
 refine T2 (hK _ _ _ ?_)
 clear hK K
 refine aC fun K hK => ?_
 refine R0 ?_
 refine aG (b := !(jF ls a).isSome) rfl (fun hb => ?_) (fun hb => ?_)
 ·
  have hi : jF ls a = none := by simpa using hb
  have hX : rdN f (ls.drop a) = (none, ls.drop a) := by
   obtain ⟨g, rfl⟩ : ∃ g, f = g + 1 := ⟨f - 1, by omega⟩
   rcases Nat.lt_or_ge a ls.length with hl | hl
   ·
    rw [fM hl] at hno
    unfold jF at hi
    rw [dif_pos hl] at hi
    rw [List.drop_eq_getElem_cons hl, nE hno hi]
   rw [List.drop_eq_nil_of_le hl]; rfl
  rw [hX]
  simp only [hi, Option.isSome_none, Bool.false_eq_true, if_false]
  refine R0 ?_
  refine aF (RT Tryd.results60 ?_)
  exact bR [] (.slc []) (.bool false) (rdr ls a) (by simp [HV.close, HV.closeL, HO.close, fob_at, upd_at, CV.denil, CV.denilL, denilL_Nd, HV.norm, HV.toC, HV.toCL]) rfl (by simp [HV.close, HV.closeL, rdr, CV.denil, CV.denilL, aQ, HV.norm, HV.toC, HV.toCL]) (by simp) (by refine ⟨[], rfl, rfl, ?_⟩; first | exact (by simp only [List.length_drop]; congr 1; omega) | exact ⟨by simp only [List.length_drop]; congr 1; omega, fun t h => by cases h⟩)
 refine aJ ?_
 refine T0 (hK _ _ _ ?_)
 clear hK K
 obtain ⟨nd, hi⟩ : ∃ nd, jF ls a = some nd := by
  cases h : jF ls a with
  | none => rw [h] at hb; simp at hb
  | some nd => exact ⟨nd, rfl⟩
 obtain ⟨hl, hi2⟩ : ∃ h : a < ls.length, jE ls[a] = some nd := by
  unfold jF at hi
  split at hi
  ·
   exact ⟨by assumption, hi⟩
  cases hi
 rw [fM hl] at hno
 have hc0 := innR_c hi2
 have hnd : ({ k := nd.k, n := nd.n, c := 0, q := nd.q } : Nd) = nd := by cases nd; simp only at hc0; rw [hc0]
 have hst := KdSt.init hl hfu hno hi2
 simp only [hi, Option.isSome_some, if_true, Option.getD_some]
 clear hb
 refine R0 ?_
 refine aC fun K hK => Rg ?_
 iterate 5 refine S0 ?_
 refine T2 (hK _ _ _ ?_)
 clear hK K
 refine aC fun K hK => ?_
 refine aK ?_
 refine bO (α := {y : Nat × List Nd × Nat × Nat // KdSt f ls a nd y.1 y.2.1 y.2.2.1 y.2.2.2}) (fun y => (fin [(0, .ptr 0 0), (1, .own 109 (1 + y.1.2.1.length)), (10, .c (.int .i64 0))], fob [(0, .box 67 (.c (rdr ls y.1.2.2.2))), (109, .row 48 7 (({ nd with c := (y.1.2.2.1 : Int) } :: y.1.2.1).map Nd.cv))])) 2000 (fun y => y.1.1) ⟨(f - 1, [], 0, a + 1), hst⟩ (aN (by omega) (by simp [bB, fin_at, finA_at, upd_at, HV.men, HV.menL, HV.norm, HV.toC, HV.toCL, hnd]) (by simp [bA, fob_at, upd_at, none0_at, cB, HO.men, HV.men, HV.menL, HV.norm, HV.toC, HV.toCL, hnd])) ?_
 rintro ⟨⟨g, ts, k, p⟩, hΦ⟩
 simp only at hΦ
 refine aC fun K hK => ?_
 refine aC fun K hK => Rg ?_
 refine S0 ?_
 refine HS rfl rfl fun K' hK' => T5 ?_
 refine bQ (args := [_, _]) (nC ls p wEnd (by omega)) rfl (by simp) ⟨rfl, rfl, rfl, rfl⟩ ?_
 rintro u v' ⟨rfl, rfl⟩
 refine AX (hK' _ _ ?_)
 clear hK' K'
 refine S0 ?_
 refine T2 (hK _ _ _ ?_)
 clear hK K
 refine aG (b := !isV ls p wEnd 1) rfl (fun hb => ?_) (fun hb => ?_)
 ·
  have hev : isV ls p wEnd 1 = false := by simpa using hb
  obtain ⟨Tq, hTq⟩ : ∃ Tq, Tq = { nd with c := (k : Int) } :: ts := ⟨_, rfl⟩
  have hTql : 1 + ts.length = Tq.length := by rw [hTq]; simp; omega
  have hp1 := hΦ.le
  have hp2 := hΦ.fuel
  have hp3 := hΦ.lt
  have hp4 := hΦ.len
  have hp5 := hΦ.kids
  have hTm : Nd.cv { nd with c := (k : Int) } :: List.map Nd.cv ts = List.map Nd.cv Tq := by rw [hTq]; rfl
  rw [hTm, hTql, hev]
  simp only [Bool.false_eq_true, if_false]
  clear hb
  refine aJ ?_
  refine T0 (hK _ _ _ ?_)
  clear hK K
  refine aK ?_
  refine aC fun K hK => ?_
  refine aC fun K hK => Rg ?_
  iterate 2 refine S0 ?_
  refine HS rfl rfl fun K' hK' => T5 ?_
  refine fZ [0, 109] (bT7 (g - 1) ls p Tq hp1 (by omega) (by omega) hls (by omega)) rfl ⟨rfl, rfl, trivial⟩ (by simp) (by simp) ⟨rfl, rfl, rfl, rfl⟩ (by simp [eE, HO.men, HV.men, HV.menL]) (by simp [HV.menL, HV.men]) ?_
  rintro r os' ⟨T', rfl, rfl, h1, h2, h3⟩
  rw [bB0, yW]
  refine AX (hK' _ _ ?_)
  clear hK' K'
  iterate 5 refine S0 ?_
  refine T2 (hK _ _ _ ?_)
  clear hK K
  refine R0 ?_
  refine aG (b := !(rdN (g - 1) (ls.drop p)).1.isSome) rfl (fun hb => ?_) (fun hb => ?_)
  ·
   have hn2 : (rdN (g - 1) (ls.drop p)).1 = none := by simpa using hb
   rw [hΦ.no hev hn2]
   refine R0 ?_
   refine aF (RT Tryd.results60 ?_)
   exact bR [109] (.slc (T'.map Nd.cv)) (.bool false) (rdr ls (ls.length - (rdN (g - 1) (ls.drop p)).2.length)) (by simp [HV.close, HV.closeL, HO.close, fob_at, upd_at, CV.denil, CV.denilL, denilL_Nd, HV.norm, HV.toC, HV.toCL]) rfl (by simp [HV.close, HV.closeL, rdr, CV.denil, CV.denilL, aQ, HV.norm, HV.toC, HV.toCL]) (by simp) (by refine ⟨T', rfl, rfl, ?_⟩; first | exact rfl | exact ⟨rfl, fun t h => by cases h⟩)
  obtain ⟨t, ht⟩ : ∃ t, (rdN (g - 1) (ls.drop p)).1 = some t := by
   cases h : (rdN (g - 1) (ls.drop p)).1 with
   | none => rw [h] at hb; simp at hb
   | some t => exact ⟨t, rfl⟩
  have hst2 := hΦ.some_ hev ht
  have hT' := h1 t ht
  have hlt : 0 < T'.length := by rw [hT', List.length_append]; omega
  have hge : T'[0] = { nd with c := (k : Int) } := by simp [hT', hTq]
  have hw : IntKind.i64.wrap ((k : Int) + 1) = ((k + 1 : Nat) : Int) := IntWalk.i64_in _ (by omega)
  have hmne : (T'.map Nd.cv = []) = False := by simp; intro h; rw [h] at hlt; cases hlt
  clear hb
  refine aJ ?_
  refine T0 (hK _ _ _ ?_)
  clear hK K
  refine Rg ?_
  have F := aI @Int.natCast_nonneg (aI @Int.ofNat_lt (aI hlt (aI (nM hlt) (aI hge (aI hw (aI hmne (aI not_false_eq_true @List.length_map.{0,0})))))))
  iterate 9 refine SF ?_
  refine T4 ?_
  refine ⟨⟨(g - 1, ts ++ t, k + 1, ls.length - (rdN (g - 1) (ls.drop p)).2.length), hst2⟩, ?_, ?_⟩
  ·
   have hrow : (List.map Nd.cv T').set 0 (Nd.cv { nd with c := ((k + 1 : Nat) : Int) }) = List.map Nd.cv ({ nd with c := ((k + 1 : Nat) : Int) } :: (ts ++ t)) := by
    rw [hT', hTq, ← List.map_set]
    simp
   have hlen : T'.length = 1 + (ts ++ t).length := by rw [hT', hTq]; simp; omega
   simp only []
   rw [← hrow, ← hlen]
   exact fF
  show g - 1 < g
  omega
 have hev : isV ls p wEnd 1 = true := by simpa using hb
 obtain ⟨hp, hX⟩ := hΦ.end_ hev
 have hp4 := hΦ.len
 rw [hev]
 simp only [if_true]
 refine bD (T3 ?_)
 clear hK K
 refine AX (hK _ _ _ ?_)
 clear hK K
 refine R0 ?_
 refine aF (RT Tryd.results60 ?_)
 rw [hX]
 exact bR [109] (.slc (({ nd with c := (k : Int) } :: ts).map Nd.cv)) (.bool true) (rdr ls (p + 1)) (by simp [show 1 + ts.length = ts.length + 1 from by omega, HV.close, HV.closeL, HO.close, fob_at, upd_at, CV.denil, CV.denilL, denilL_Nd, HV.norm, HV.toC, HV.toCL]) rfl (by simp [HV.close, HV.closeL, rdr, CV.denil, CV.denilL, aQ, HV.norm, HV.toC, HV.toCL]) (by simp) ⟨_, rfl, rfl, by simp only [List.length_drop]; congr 1; omega, fun t h => by cases h; rfl⟩

end Go.Proofs.YtlldglbooaefhaaDoor

namespace Go.Pl
open Go Go.Hl

theorem bZ7 {ls : List (List aE)} {a : Nat} (ha : a ≤ ls.length) (h : isV ls a wRule 5 = false) : rdR (ls.drop a) = (none, ls.drop a) := by
 rcases Nat.lt_or_ge a ls.length with hl | hl
 ·
  rw [iB hl] at h
  rw [List.drop_eq_getElem_cons hl]
  simp_all [rdR, if_neg]
 ·
  rw [List.drop_eq_nil_of_le hl]; rfl
theorem bT8 {ls : List (List aE)} {a : Nat} (hl : a < ls.length) (h1 : ls[a].length = 5) (h2 : wd ls[a] 0 = wRule) (hn : bH (wd ls[a] 4) = none) : rdR (ls.drop a) = (none, ls.drop a) := by
 rw [List.drop_eq_getElem_cons hl]
 simp_all [rdR, if_pos]
theorem bL9 {ls : List (List aE)} {a : Nat} (hl : a < ls.length) (h1 : ls[a].length = 5) (h2 : wd ls[a] 0 = wRule) {g : Int} (hn : bH (wd ls[a] 4) = some g) :
  rdR (ls.drop a) = ((rdT (ls.drop (a + 1))).1.map fun t => ⟨wd ls[a] 1, wd ls[a] 2, wd ls[a] 3, g, t⟩, (rdT (ls.drop (a + 1))).2) := by
 rw [List.drop_eq_getElem_cons hl]
 simp only [rdR]
 grind
theorem aB8 (ls : List (List aE)) : ∃ j, j ≤ ls.length ∧ (rdR ls).2 = ls.drop j ∧ ∀ p, (rdR ls).1 = some p → 1 ≤ j := by
 match ls with
 | [] => exact ⟨0, by simp, rfl, fun p h => by cases h⟩
 | w :: r =>
  simp only [rdR]
  split
  ·
   cases bH (wd w 4) with
   | none => exact ⟨0, by simp, rfl, fun p h => by cases h⟩
   | some g =>
    obtain ⟨j, hj, h2⟩ := aU3 (2 * r.length + 2) r
    simp only [rdT]
    match hm : rdN (2 * r.length + 2) r with
    | (none, r') => rw [hm] at h2; exact ⟨j + 1, by grind, h2, fun p h => by cases h⟩
    | (some t, r') => rw [hm] at h2; exact ⟨j + 1, by grind, h2, fun p h => by omega⟩
  ·
   exact ⟨0, by simp, rfl, fun p h => by cases h⟩
abbrev Rls := Option (List Pr) × List (List aE)
structure RsSt (ls : List (List aE)) (X : Rls) (acc : List Pr) (p : Nat) : Prop where
 eq : X = kE (ls.length - p + 1) (ls.drop p) acc
 le : p ≤ ls.length
 len : acc.length ≤ p
theorem yX : ∀ (f g : Nat) (ls : List (List aE)) (acc : List Pr), ls.length < f → f ≤ g → kE g ls acc = kE f ls acc
 | 0, _, _, _, h, _ => by omega
 | f + 1, g, ls, acc, h, hg => by
  obtain ⟨q, rfl⟩ : ∃ q, g = q + 1 := ⟨g - 1, by omega⟩
  simp only [kE]
  split
  ·
   rfl
  ·
   obtain ⟨j, hj, h2, h3⟩ := aB8 ls
   match hm : rdR ls with
   | (none, r) => rfl
   | (some x, r) =>
    rw [hm] at h2 h3
    have h4 := h3 x rfl
    simp only at h2
    exact yX f q r _ (by rw [h2, List.length_drop]; omega) (by omega)
theorem RsSt.done {ls : List (List aE)} {X : Rls} {acc : List Pr} {p : Nat} (h : RsSt ls X acc p) (hp : ¬ p < ls.length) : p = ls.length ∧ X = (some acc, []) := by
 have h1 := h.le
 refine ⟨by omega, ?_⟩
 rw [h.eq, List.drop_eq_nil_of_le (by omega), kE, if_pos rfl]
theorem RsSt.no {ls : List (List aE)} {X : Rls} {acc : List Pr} {p : Nat} (h : RsSt ls X acc p) (hp : p < ls.length) (hn : (rdR (ls.drop p)).1 = none) : X = (none, (rdR (ls.drop p)).2) := by
 rw [h.eq, kE, if_neg (by simp_all)]
 grind
theorem RsSt.some_ {ls : List (List aE)} {X : Rls} {acc : List Pr} {p : Nat} (h : RsSt ls X acc p) (hp : p < ls.length) {x : Pr} (hs : (rdR (ls.drop p)).1 = some x) :
  RsSt ls X (acc ++ [x]) (ls.length - (rdR (ls.drop p)).2.length) ∧ p < ls.length - (rdR (ls.drop p)).2.length := by
 obtain ⟨j, hj, h2, h3⟩ := aB8 (ls.drop p)
 have h4 := h3 x hs
 rw [List.length_drop] at hj
 have hlen := h.len
 have hpos : ls.length - (rdR (ls.drop p)).2.length = p + j := by rw [h2]; simp only [List.length_drop]; omega
 rw [hpos]
 refine ⟨⟨?_, by omega, by grind⟩, by omega⟩
 rw [h.eq, kE, if_neg (by grind)]
 grind [rdR, List.drop_drop, yX, List.length_drop]
theorem bZ8 {ls : List (List aE)} (h : isV ls 0 wPolicy 3 = false) : rdP ls = (none, ls) := by
 match ls with
 | [] => rfl
 | w :: r =>
  simp_all [iB, rdP, if_neg]
theorem bT9 {ls : List (List aE)} (hl : 0 < ls.length) (h1 : ls[0].length = 3) (h2 : wd ls[0] 0 = wPolicy) (hn : bH (wd ls[0] 2) = none) : rdP ls = (none, ls) := by
 match ls, hl with
 | w :: r, _ =>
  simp_all [List.getElem_cons_zero, rdP, if_pos]
theorem bM0 {ls : List (List aE)} (hl : 0 < ls.length) (h1 : ls[0].length = 3) (h2 : wd ls[0] 0 = wPolicy) {v : Int} (hn : bH (wd ls[0] 2) = some v) :
  ∃ X : Rls, rdP ls = (X.1.map fun l => ⟨wd ls[0] 1, v, l⟩, X.2) ∧ RsSt ls X [] 1 := by
 match ls, hl with
 | w :: r, _ =>
  simp only [List.getElem_cons_zero] at h1 h2 hn ⊢
  refine ⟨kE (r.length + 1) r [], ?_, ⟨by simp, by simp, by simp⟩⟩
  simp only [rdP]
  grind
end Go.Pl

namespace Go.Proofs.YtlldglbooaefhaaDoor
open Go Go.Hl Go.Pl
set_option maxRecDepth 10000
set_option maxHeartbeats 16000000

def pr0 : Pr := ⟨[], [], [], 0, []⟩

theorem bB1 (ls : List (List aE)) (a : Nat) (hal : a ≤ ls.length) (hls : ls.length < 2 ^ 39) :
  sK Tryd.prog 46 67 (rdr ls a) [] (fun u x v' => ∃ q : Pr, u = q.cv ∧ x = .bool (rdR (ls.drop a)).1.isSome ∧ v' = rdr ls (ls.length - (rdR (ls.drop a)).2.length) ∧ ∀ p, (rdR (ls.drop a)).1 = some p → q = p) := by
 refine bP Tryd.func46 rfl (by kernel_rfl) (cP _ _ _) (Nat.le_of_ble_eq_true rfl) ?_
 refine R0 ?_
 refine aC fun K hK => ?_
 refine aC fun K hK => Rg ?_
 refine S0 ?_
 refine HS rfl rfl fun K' hK' => T5 ?_
 refine bQ (args := [_, _]) (yV ls a 5 wRule (by omega)) rfl (by simp) ⟨rfl, rfl, rfl, rfl⟩ ?_
 rintro u v' ⟨rfl, rfl⟩
 refine AX (hK' _ _ ?_)
 clear hK' K'
 refine S0 ?_
 refine T2 (hK _ _ _ ?_)
 clear hK K
 refine aG (b := !isV ls a wRule 5) rfl (fun hb => ?_) (fun hb => ?_)
 ·
  have hX := bZ7 hal (show isV ls a wRule 5 = false by simpa using hb)
  refine aC fun K hK => Rg ?_
  iterate 3 refine S0 ?_
  refine T2 (hK _ _ _ ?_)
  clear hK K
  refine aF (RT Tryd.results46 ?_)
  rw [hX]
  exact bR [] pr0.cv (.bool false) (rdr ls a) rfl rfl (by simp [HV.close, HV.closeL, rdr, CV.denil, CV.denilL, aQ, HV.norm, HV.toC, HV.toCL]) (by simp) (by refine ⟨pr0, rfl, rfl, ?_⟩; first | exact (by simp only [List.length_drop]; congr 1; omega) | exact ⟨by simp only [List.length_drop]; congr 1; omega, fun t h => by cases h⟩)
 refine aJ ?_
 refine T0 (hK _ _ _ ?_)
 clear hK K
 obtain ⟨hl, hl1, hl2⟩ := fL (show isV ls a wRule 5 = true by simpa using hb)
 have h1 : 1 < ls[a].length := by omega
 have h2 : 2 < ls[a].length := by omega
 have h3 : 3 < ls[a].length := by omega
 have hw : IntKind.i64.wrap ((a : Int) + 1) = ((a + 1 : Nat) : Int) := IntWalk.i64_in _ (by omega)
 clear hb
 refine aC fun K hK => QR ?_
 iterate 11 refine S0 ?_ (e := fun _ h_ => by simp only [sH, ↓sP, sA, tyS, simprocAttr, rdr, Int.natCast_nonneg, Int.ofNat_lt, hl, aY hl, kT]; exact AX h_)
 refine T2 (hK _ _ _ ?_)
 clear hK K
 refine aC fun K hK => Rg ?_
 refine S0 ?_
 refine HS rfl rfl fun K' hK' => T5 ?_
 refine dP (args := [_]) (kV ls a 4 hl (by omega)) rfl (by simp) ⟨rfl, rfl, rfl, rfl⟩ ?_
 rintro u x v' ⟨rfl, rfl, rfl⟩
 refine AX (hK' _ _ ?_)
 clear hK' K'
 iterate 5 refine S0 ?_
 refine T2 (hK _ _ _ ?_)
 clear hK K
 refine aC fun K hK => ?_
 refine R0 ?_
 refine aG (b := !(bH (wd ls[a] 4)).isSome) rfl (fun hb => ?_) (fun hb => ?_)
 ·
  have hX := bT8 hl hl1 hl2 (show bH (wd ls[a] 4) = none by simpa using hb)
  refine aC fun K hK => Rg ?_
  iterate 3 refine S0 ?_
  refine T2 (hK _ _ _ ?_)
  clear hK K
  refine aF (RT Tryd.results46 ?_)
  rw [hX]
  exact bR [] pr0.cv (.bool false) (rdr ls a) rfl rfl (by simp [HV.close, HV.closeL, rdr, CV.denil, CV.denilL, aQ, HV.norm, HV.toC, HV.toCL]) (by simp) (by refine ⟨pr0, rfl, rfl, ?_⟩; first | exact (by simp only [List.length_drop]; congr 1; omega) | exact ⟨by simp only [List.length_drop]; congr 1; omega, fun t h => by cases h⟩)
 refine aJ ?_
 refine T0 (hK _ _ _ ?_)
 clear hK K
 obtain ⟨g, hg⟩ : ∃ g, bH (wd ls[a] 4) = some g := by
  cases h : bH (wd ls[a] 4) with
  | none => rw [h] at hb; simp at hb
  | some g => exact ⟨g, rfl⟩
 have hX := bL9 hl hl1 hl2 hg
 clear hb
 simp only [hg, Option.getD_some]
 have hN : sK Tryd.prog 60 67 (rdr ls (a + 1)) [.nils] (fun u x v' => ∃ T' : List Nd, u = .slc (T'.map Nd.cv) ∧ x = .bool (rdT (ls.drop (a + 1))).1.isSome ∧ v' = rdr ls (ls.length - (rdT (ls.drop (a + 1))).2.length) ∧ ∀ t, (rdT (ls.drop (a + 1))).1 = some t → T' = t) := bL8 (2 * (ls.drop (a + 1)).length + 2) ls (a + 1) hl (by simp only [List.length_drop]; omega) hls
 refine aC fun K hK => Rg ?_
 iterate 8 refine S0 ?_ (e := fun _ h_ => by simp only [sH, ↓sP, sA, tyS, simprocAttr, rdr, hw]; exact AX h_)
 refine T2 (hK _ _ _ ?_)
 clear hK K
 refine aC fun K hK => bE (by kernel_rfl) ?_
 simp only [sR, simprocAttr]
 refine SG0 ?_
 refine sG (g := none) rfl rfl fun K' hK' => ?_
 simp only [sN, ↓hopH.eq_def, sH, ↓sP, sA, tyS, simprocAttr]
 refine dP (args := [_]) hN rfl (by simp) ⟨rfl, rfl, rfl, rfl⟩ ?_
 rintro u x v' ⟨T', rfl, rfl, rfl, hT⟩
 refine AX (hK' _ _ ?_)
 clear hK' K'
 iterate 5 refine SG0 ?_
 refine T2 (hK _ _ _ ?_)
 clear hK K
 refine aC fun K hK => DW [(0, [], []), (1, [], []), (2, [], []), (3, [], []), (4, [], []), (5, [], []), (6, [], []), (7, [], []), (8, [], []), (9, [], []), (10, [], []), (11, [], []), (12, [], []), (13, [], [12]), (14, [], [])] [0, 1, 3, 0, 8, 24, 0, 64, 192, 0, 0, 2047, 0, 4095, 16383] ?_
 iterate 15 refine W0 ?_ (e := fun _ h_ => by simp only [sH, ↓sP, sA, tyS, simprocAttr, lsC, Int.one_nonneg, vO h1, vO h2, vO h3, hl1]; exact AX h_)
 refine T2 (hK _ _ _ ?_)
 clear hK K
 refine aF (RT Tryd.results46 ?_)
 rw [hX]
 exact bR [] (Pr.cv ⟨wd ls[a] 1, wd ls[a] 2, wd ls[a] 3, g, T'⟩) (.bool (rdT (ls.drop (a + 1))).1.isSome) (rdr ls (ls.length - (rdT (ls.drop (a + 1))).2.length)) (by simp [HV.close, HV.closeL, Pr.cv, CV.denil, CV.denilL, denilL_Nd, HV.norm, HV.toC, HV.toCL]) rfl (by simp [HV.close, HV.closeL, rdr, CV.denil, CV.denilL, aQ, HV.norm, HV.toC, HV.toCL]) (by simp) ⟨_, rfl, by simp, rfl, fun p h => by
  cases h4 : (rdT (ls.drop (a + 1))).1 with
  | none => simp [h4] at h
  | some t => simp [h4] at h; rw [← h, hT t h4]⟩


theorem bM1 (ls : List (List aE)) (hls : ls.length < 2 ^ 39) :
  sK Tryd.prog 23 67 (rdr ls 0) [] (fun u x v' => ∃ q : Po, u = q.cv ∧ x = .bool (rdP ls).1.isSome ∧ v' = rdr ls (ls.length - (rdP ls).2.length) ∧ ∀ p, (rdP ls).1 = some p → q = p) := by
 refine bP Tryd.func23 rfl (by kernel_rfl) (cP _ _ _) (Nat.le_of_ble_eq_true rfl) ?_
 refine R0 ?_
 refine aC fun K hK => ?_
 refine aC fun K hK => Rg ?_
 refine S0 ?_
 refine HS rfl rfl fun K' hK' => T5 ?_
 refine bQ (args := [_, _]) (yV ls 0 3 wPolicy (by omega)) rfl (by simp) ⟨rfl, rfl, rfl, rfl⟩ ?_
 rintro u v' ⟨rfl, rfl⟩
 refine AX (hK' _ _ ?_)
 clear hK' K'
 refine S0 ?_
 refine T2 (hK _ _ _ ?_)
 clear hK K
 refine aG (b := !isV ls 0 wPolicy 3) rfl (fun hb => ?_) (fun hb => ?_)
 ·
  have hX := bZ8 (show isV ls 0 wPolicy 3 = false by simpa using hb)
  refine aC fun K hK => Rg ?_
  iterate 3 refine S0 ?_
  refine T2 (hK _ _ _ ?_)
  clear hK K
  refine aF (RT Tryd.results23 ?_)
  rw [hX]
  exact bR [] po0.cv (.bool false) (rdr ls 0) (by simp [HV.close, HV.closeL, HO.close, fob_at, upd_at, po0, Po.cv, CV.denil, CV.denilL, denilL_Pr, HV.norm, HV.toC, HV.toCL]) rfl (by simp [HV.close, HV.closeL, rdr, CV.denil, CV.denilL, aQ, HV.norm, HV.toC, HV.toCL]) (by simp) (by refine ⟨po0, rfl, rfl, ?_⟩; first | exact (by simp only [List.length_drop]; congr 1; omega) | exact rfl | exact ⟨by simp, fun t h => by cases h⟩)
 refine aJ ?_
 refine T0 (hK _ _ _ ?_)
 clear hK K
 obtain ⟨hl, hl1, hl2⟩ := fL (show isV ls 0 wPolicy 3 = true by simpa using hb)
 have h1 : 1 < ls[0].length := by omega
 clear hb
 refine aC fun K hK => Rg ?_
 refine S0 ?_
 refine HS rfl rfl fun K' hK' => T5 ?_
 refine dP (args := [_]) (kV ls 0 2 hl (by omega)) rfl (by simp) ⟨rfl, rfl, rfl, rfl⟩ ?_
 rintro u x v' ⟨rfl, rfl, rfl⟩
 refine AX (hK' _ _ ?_)
 clear hK' K'
 iterate 5 refine S0 ?_
 refine T2 (hK _ _ _ ?_)
 clear hK K
 refine aC fun K hK => ?_
 refine R0 ?_
 refine aG (b := !(bH (wd ls[0] 2)).isSome) rfl (fun hb => ?_) (fun hb => ?_)
 ·
  have hX := bT9 hl hl1 hl2 (show bH (wd ls[0] 2) = none by simpa using hb)
  refine aC fun K hK => Rg ?_
  iterate 3 refine S0 ?_
  refine T2 (hK _ _ _ ?_)
  clear hK K
  refine aF (RT Tryd.results23 ?_)
  rw [hX]
  exact bR [] po0.cv (.bool false) (rdr ls 0) (by simp [HV.close, HV.closeL, HO.close, fob_at, upd_at, po0, Po.cv, CV.denil, CV.denilL, denilL_Pr, HV.norm, HV.toC, HV.toCL]) rfl (by simp [HV.close, HV.closeL, rdr, CV.denil, CV.denilL, aQ, HV.norm, HV.toC, HV.toCL]) (by simp) (by refine ⟨po0, rfl, rfl, ?_⟩; first | exact (by simp only [List.length_drop]; congr 1; omega) | exact rfl | exact ⟨by simp, fun t h => by cases h⟩)
 refine aJ ?_
 refine T0 (hK _ _ _ ?_)
 clear hK K
 obtain ⟨v, hv⟩ : ∃ v, bH (wd ls[0] 2) = some v := by
  cases h : bH (wd ls[0] 2) with
  | none => rw [h] at hb; simp at hb
  | some v => exact ⟨v, rfl⟩
 obtain ⟨X, hX, hst⟩ := bM0 hl hl1 hl2 hv
 clear hb
 simp only [hv, Option.getD_some]
 refine aC fun K hK => Rg ?_
 iterate 12 refine S0 ?_ (e := fun _ h_ => by simp only [sH, ↓sP, sA, tyS, simprocAttr, rdr, hl, aY hl, lsC, vO h1, Int.one_nonneg, hl1, Int.natCast_pos]; exact AX h_)
 refine T2 (hK _ _ _ ?_)
 clear hK K
 refine aC fun K hK => ?_
 refine aC fun K hK => Rg ?_
 iterate 8 refine S0 ?_ (e := fun _ h_ => by simp only [sH, ↓sP, sA, tyS, simprocAttr, rdr]; exact AX h_)
 refine T2 (hK _ _ _ ?_)
 clear hK K
 refine aK ?_
 refine zW 97 2 54 5 rfl rfl rfl rfl ?_
 refine bO (α := {y : List Pr × Nat // RsSt ls X y.1 y.2}) (fun y => (fin [(0, .ptr 0 0), (2, .ptr 1 0), (6, .ptr 97 0)], fob [(0, .box 67 (.c (rdr ls y.1.2))), (1, .box 25 (.c (.agg [.str [], .int .i64 0, .nils]))), (97, .box 25 (.agg [.c (.str (wd ls[0] 1)), .c (.int .i64 v), .own 137 y.1.1.length])), (137, .row 54 5 (y.1.1.map Pr.cv))])) 2000 (fun y => ls.length - y.1.2) ⟨([], 1), hst⟩ (aN (by omega) (by simp [bB, fin_at, finA_at, upd_at, HV.men, HV.menL, HV.norm, HV.toC, HV.toCL, rdr, show IntKind.i64.wrap 1 = 1 from rfl]) (by simp [bA, fob_at, upd_at, none0_at, cB, HO.men, HV.men, HV.menL, HV.norm, HV.toC, HV.toCL, rdr, show IntKind.i64.wrap 1 = 1 from rfl])) ?_
 rintro ⟨⟨acc, p⟩, hΦ⟩
 simp only at hΦ
 refine aC fun K hK => ?_
 refine aC fun K hK => QR ?_
 iterate 10 refine S0 ?_ (e := fun _ h_ => by simp only [sH, ↓sP, sA, tyS, simprocAttr, rdr]; exact AX h_)
 refine T2 (hK _ _ _ ?_)
 clear hK K
 refine aG (b := decide ((p : Int) < ls.length)) rfl (fun hb => ?_) (fun hb => ?_)
 ·
  have hp : p < ls.length := by simpa using hb
  have hp1 := hΦ.le
  have hp2 := hΦ.len
  clear hb
  refine aJ ?_
  refine T0 (hK _ _ _ ?_)
  clear hK K
  refine aK ?_
  refine aC fun K hK => Rg ?_
  refine S0 ?_
  refine HS rfl rfl fun K' hK' => T5 ?_
  refine dP (args := []) (bB1 ls p hp1 hls) rfl (by simp) ⟨rfl, rfl, rfl, rfl⟩ ?_
  rintro u x v' ⟨q, rfl, rfl, rfl, hq⟩
  refine AX (hK' _ _ ?_)
  clear hK' K'
  iterate 6 refine S0 ?_
  refine T2 (hK _ _ _ ?_)
  clear hK K
  refine aC fun K hK => ?_
  refine R0 ?_
  refine aG (b := !(rdR (ls.drop p)).1.isSome) rfl (fun hb => ?_) (fun hb => ?_)
  ·
   have hno : (rdR (ls.drop p)).1 = none := by simpa using hb
   have hXn := hΦ.no hp hno
   refine aC fun K hK => Rg ?_
   iterate 3 refine S0 ?_
   refine T2 (hK _ _ _ ?_)
   clear hK K
   refine aF (RT Tryd.results23 ?_)
   rw [hX, hXn]
   exact bR [] po0.cv (.bool false) (rdr ls (ls.length - (rdR (ls.drop p)).2.length)) (by simp [HV.close, HV.closeL, HO.close, fob_at, upd_at, po0, Po.cv, CV.denil, CV.denilL, denilL_Pr, HV.norm, HV.toC, HV.toCL]) rfl (by simp [HV.close, HV.closeL, rdr, CV.denil, CV.denilL, aQ, HV.norm, HV.toC, HV.toCL]) (by simp) (by refine ⟨po0, rfl, rfl, ?_⟩; first | exact (by simp only [List.length_drop]; congr 1; omega) | exact rfl | exact ⟨by simp, fun t h => by cases h⟩)
  obtain ⟨x, hx⟩ : ∃ x, (rdR (ls.drop p)).1 = some x := by
   cases h : (rdR (ls.drop p)).1 with
   | none => rw [h] at hb; simp at hb
   | some x => exact ⟨x, rfl⟩
  obtain ⟨hst2, hlt2⟩ := hΦ.some_ hp hx
  obtain rfl := hq x hx
  clear hb
  refine aJ ?_
  refine T0 (hK _ _ _ ?_)
  clear hK K
  refine Rg ?_
  iterate 7 refine S0 ?_
  refine T4 ?_
  refine ⟨⟨(acc ++ [q], ls.length - (rdR (ls.drop p)).2.length), hst2⟩, aN (by omega) (by simp [bB, fin_at, finA_at, upd_at, HV.men, HV.menL, HV.norm, HV.toC, HV.toCL, List.map_append]) (by simp [bA, fob_at, upd_at, none0_at, cB, HO.men, HV.men, HV.menL, HV.norm, HV.toC, HV.toCL, List.map_append]), ?_⟩
  show ls.length - (ls.length - (rdR (ls.drop p)).2.length) < ls.length - p
  omega
 have hp : ¬ p < ls.length := by simpa using hb
 obtain ⟨rfl, hXs⟩ := hΦ.done hp
 refine bD (T3 ?_)
 clear hK K
 refine AX (hK _ _ _ ?_)
 clear hK K
 refine aC fun K hK => Rg ?_
 iterate 3 refine S0 ?_
 refine T2 (hK _ _ _ ?_)
 clear hK K
 refine aF (RT Tryd.results23 ?_)
 rw [hX, hXs]
 refine ⟨rfl, ?_⟩
 exact bR [137] (Po.cv ⟨wd ls[0] 1, v, acc⟩) (.bool true) (rdr ls ls.length) (by simp [HV.close, HV.closeL, HO.close, fob_at, upd_at, po0, Po.cv, CV.denil, CV.denilL, denilL_Pr, HV.norm, HV.toC, HV.toCL]) rfl (by simp [HV.close, HV.closeL, rdr, CV.denil, CV.denilL, aQ, HV.norm, HV.toC, HV.toCL]) (by simp) (by exact ⟨_, rfl, rfl, by simp, fun p h => by cases h; rfl⟩)

end Go.Proofs.YtlldglbooaefhaaDoor

namespace Go.Proofs.YtlldglbooaefhaaDoor
open Go Go.Hl Go.Pl Go.RowKit Go.Shelf
set_option maxRecDepth 100000

def bU0 : Go.Shelf.Ren := ⟨fun | 173 => 36 | 246 => 54 | 283 => 65 | 284 => 66 | 285 => 67 | 286 => 68 | 129 => 84 | 317 => 83 | 318 => 85 | 319 => 86 | 320 => 87 | 337 => 93 | 338 => 94 | n => n, fun | 2 => 2 | 3 => 3 | 9 => 9 | 4 => 4 | 171 => 123 | 0 => 0 | 53 => 124 | 37 => 29 | 5 => 5 | 173 => 127 | 212 => 141 | 51 => 142 | 20 => 20 | 213 => 143 | 46 => 111 | 232 => 156 | 233 => 157 | n => n, fun | 17 => 1 | 18 => 4 | 19 => 5 | n => n⟩
theorem bZ9 : Go.Proofs.LaysM.n173 Tryd.prog bU0 := {
  mixed := by kernel_rfl
  f129 := Tryd.func84.trans (congrArg some (by kernel_rfl))
  f173 := Tryd.func36.trans (congrArg some (by kernel_rfl))
  f246 := Tryd.func54.trans (congrArg some (by kernel_rfl))
  f283 := Tryd.func65.trans (congrArg some (by kernel_rfl))
  f284 := Tryd.func66.trans (congrArg some (by kernel_rfl))
  f285 := Tryd.func67.trans (congrArg some (by kernel_rfl))
  f286 := Tryd.func68.trans (congrArg some (by kernel_rfl))
  f317 := Tryd.func83.trans (congrArg some (by kernel_rfl))
  f318 := Tryd.func85.trans (congrArg some (by kernel_rfl))
  f319 := Tryd.func86.trans (congrArg some (by kernel_rfl))
  f320 := Tryd.func87.trans (congrArg some (by kernel_rfl))
  f337 := Tryd.func93.trans (congrArg some (by kernel_rfl))
  f338 := Tryd.func94.trans (congrArg some (by kernel_rfl))
  t0 := Tryd.underlying0
  a0 := Tryd.isAgg0
  z0 := Tryd.sizeOf0
  v0 := Tryd.zeroValue0
  t2 := Tryd.underlying2
  a2 := Tryd.isAgg2
  z2 := Tryd.sizeOf2
  v2 := Tryd.zeroValue2
  t3 := Tryd.underlying3
  a3 := Tryd.isAgg3
  z3 := Tryd.sizeOf3
  v3 := Tryd.zeroValue3
  t4 := Tryd.underlying4
  a4 := Tryd.isAgg4
  z4 := Tryd.sizeOf4
  v4 := Tryd.zeroValue4
  t5 := Tryd.underlying5
  a5 := Tryd.isAgg5
  z5 := Tryd.sizeOf5
  v5 := Tryd.zeroValue5
  t9 := Tryd.underlying9
  a9 := Tryd.isAgg9
  z9 := Tryd.sizeOf9
  v9 := Tryd.zeroValue9
  t20 := Tryd.underlying20
  a20 := Tryd.isAgg20
  z20 := Tryd.sizeOf20
  v20 := Tryd.zeroValue20
  t37 := Tryd.underlying29
  a37 := Tryd.isAgg29
  z37 := Tryd.sizeOf29
  v37 := Tryd.zeroValue29
  t46 := Tryd.underlying111
  a46 := Tryd.isAgg111
  z46 := Tryd.sizeOf111
  v46 := Tryd.zeroValue111
  t51 := Tryd.underlying142
  a51 := Tryd.isAgg142
  z51 := Tryd.sizeOf142
  v51 := Tryd.zeroValue142
  t53 := Tryd.underlying124
  a53 := Tryd.isAgg124
  z53 := Tryd.sizeOf124
  v53 := Tryd.zeroValue124
  t171 := Tryd.underlying123
  a171 := Tryd.isAgg123
  z171 := Tryd.sizeOf123
  v171 := Tryd.zeroValue123
  t173 := Tryd.underlying127
  a173 := Tryd.isAgg127
  z173 := Tryd.sizeOf127
  v173 := Tryd.zeroValue127
  t212 := Tryd.underlying141
  a212 := Tryd.isAgg141
  z212 := Tryd.sizeOf141
  v212 := Tryd.zeroValue141
  t213 := Tryd.underlying143
  a213 := Tryd.isAgg143
  z213 := Tryd.sizeOf143
  t232 := Tryd.underlying156
  a232 := Tryd.isAgg156
  z232 := Tryd.sizeOf156
  v232 := Tryd.zeroValue156
  t233 := Tryd.underlying157
  a233 := Tryd.isAgg157
  z233 := Tryd.sizeOf157
  v233 := Tryd.zeroValue157
  g17 := by kernel_rfl
  g18 := by kernel_rfl
  g19 := by kernel_rfl
  i0 := by kernel_rfl
  i2 := by kernel_rfl
  i3 := by kernel_rfl
  i4 := by kernel_rfl
  i5 := by kernel_rfl
  i9 := by kernel_rfl
  i20 := by kernel_rfl
  i37 := by kernel_rfl
  i46 := by kernel_rfl
  i51 := by kernel_rfl
  i53 := by kernel_rfl
  i171 := by kernel_rfl
  i173 := by kernel_rfl
  i212 := by kernel_rfl
  i232 := by kernel_rfl
  i233 := by kernel_rfl
  m17 := by kernel_rfl
  m18 := by kernel_rfl
  m19 := by kernel_rfl }

theorem aB9 : Tryd.prog.globalNamed "internal/strconv.uint64pow10" = some 1 := by kernel_rfl
def tabs : kN := [(1, Lib.pow10Tab.map fun z => Value.int .u64 z)]
theorem bB2 (n : Int) (h : -9223372036854775808 ≤ n ∧ n ≤ 9223372036854775807) : mO Tryd.prog 36 tabs [.int .i64 n, .int .i64 10] (fun v => v = .str (numW n)) :=
  aN7 (by kernel_rfl) aB9 (List.mem_cons_self) (fun w hw => Any.strconv_FormatInt_10 bZ9 n h.1 h.2 w hw)
end Go.Proofs.YtlldglbooaefhaaDoor

namespace Go.Proofs.YtlldglbooaefhaaDoor
open Go Go.Hl Go.Pl
set_option maxRecDepth 10000
set_option maxHeartbeats 16000000



theorem vY (n : Int) (hn : -9223372036854775808 ≤ n ∧ n ≤ 9223372036854775807) : mO Tryd.prog 19 tabs [.int .i64 n] (fun v => v = .str (numW n)) := by
 refine bP (args := [.c (.int .i64 n)]) Tryd.func19 rfl (by kernel_rfl) (eW tabs [.int .i64 n]) (Nat.le_of_ble_eq_true rfl) ?_
 refine R0 ?_
 refine aC fun K hK => Rg ?_
 refine S0 ?_
 refine HS rfl rfl fun K' hK' => T5 ?_
 refine cZ (args := [_, _]) 0 (bB2 n hn) (fH _ 0) (by simp) ⟨rfl, rfl, rfl, rfl⟩ ?_
 rintro u rfl
 refine AX (hK' _ _ ?_)
 clear hK' K'
 refine S0 ?_
 refine T2 (hK _ _ _ ?_)
 clear hK K
 refine aF (RT Tryd.results19 ?_)
 exact cG [] (.str _) rfl (fH _ 0) (by simp) rfl

end Go.Proofs.YtlldglbooaefhaaDoor

namespace Go.Proofs.YtlldglbooaefhaaDoor
open Go Go.Hl Go.Pl
set_option maxRecDepth 10000
set_option maxHeartbeats 16000000

def cE5 (n : Int) : Prop := -9223372036854775808 ≤ n ∧ n ≤ 9223372036854775807

theorem bM2 (q : Rq) (hn : cE5 q.n) (hm : cE5 q.m) : mO Tryd.prog 37 tabs [q.cv] (fun v => v = lsC (wlR q)) := by
 refine bP (args := [.c q.cv]) Tryd.func37 rfl (by kernel_rfl) (eW tabs [q.cv]) (Nat.le_of_ble_eq_true rfl) ?_
 unfold eF
 refine R0 ?_
 refine aC fun K hK => Rg ?_
 iterate 2 refine S0 ?_
 refine HS rfl rfl fun K' hK' => T5 ?_
 refine cZ (args := [_]) 0 (vY q.n hn) rfl (by simp) ⟨rfl, rfl, rfl, rfl⟩ ?_
 rintro u rfl
 refine AX (hK' _ _ ?_)
 clear hK' K'
 refine S0 ?_
 refine T2 (hK _ _ _ ?_)
 clear hK K
 refine aC fun K hK => ?_
 refine R0 ?_
 refine aK ?_
 refine R0 ?_
 refine aG (b := (q.k == 1)) rfl (fun hb => ?_) (fun hb => ?_)
 ·
  have hk : q.k = 1 := by simpa using hb
  clear hb
  refine R0 ?_
  refine aF (RT Tryd.results37 ?_)
  exact cG [45] (lsC (wlR q)) (by rw [show wlR q = [dK, numW q.n] from by simp [wlR, *]]; simp [lsC, HV.close, fob_at, upd_at, HV.norm, HV.toC, HV.closeL, HV.toCL, CV.denil]; rfl) rfl (by simp) rfl
 have hk1 : ¬ q.k = 1 := by simpa using hb
 clear hb
 refine R0 ?_
 refine aG (b := (q.k == 2)) rfl (fun hb => ?_) (fun hb => ?_)
 ·
  have hk : q.k = 2 := by simpa using hb
  clear hb
  refine aC fun K hK => Rg ?_
  iterate 4 refine S0 ?_
  refine T2 (hK _ _ _ ?_)
  clear hK K
  refine aF (RT Tryd.results37 ?_)
  exact cG [57] (lsC (wlR q)) (by rw [show wlR q = [dZ, q.t] from by simp [wlR, *]]; simp [lsC, HV.close, fob_at, upd_at, HV.norm, HV.toC, HV.closeL, HV.toCL, CV.denil]; rfl) rfl (by simp) rfl
 have hk2 : ¬ q.k = 2 := by simpa using hb
 clear hb
 refine R0 ?_
 refine aG (b := (q.k == 3)) rfl (fun hb => ?_) (fun hb => ?_)
 ·
  have hk : q.k = 3 := by simpa using hb
  clear hb
  refine R0 ?_
  refine aF (RT Tryd.results37 ?_)
  exact cG [61] (lsC (wlR q)) (by rw [show wlR q = [dQ, numW q.n] from by simp [wlR, *]]; simp [lsC, HV.close, fob_at, upd_at, HV.norm, HV.toC, HV.closeL, HV.toCL, CV.denil]; rfl) rfl (by simp) rfl
 have hk3 : ¬ q.k = 3 := by simpa using hb
 clear hb
 refine R0 ?_
 refine aG (b := (q.k == 4)) rfl (fun hb => ?_) (fun hb => ?_)
 ·
  have hk : q.k = 4 := by simpa using hb
  clear hb
  refine aC fun K hK => Rg ?_
  iterate 3 refine S0 ?_
  refine HS rfl rfl fun K' hK' => T5 ?_
  refine cZ (args := [_]) 0 (vY q.m hm) rfl (by simp) ⟨rfl, rfl, rfl, rfl⟩ ?_
  rintro u rfl
  refine AX (hK' _ _ ?_)
  clear hK' K'
  iterate 2 refine S0 ?_
  refine T2 (hK _ _ _ ?_)
  clear hK K
  refine aF (RT Tryd.results37 ?_)
  exact cG [81] (lsC (wlR q)) (by rw [show wlR q = [fI, numW q.n, numW q.m] from by simp [wlR, *]]; simp [lsC, HV.close, fob_at, upd_at, HV.norm, HV.toC, HV.closeL, HV.toCL, CV.denil]; rfl) rfl (by simp) rfl
 have hk4 : ¬ q.k = 4 := by simpa using hb
 clear hb
 refine R0 ?_
 refine aG (b := (q.k == 5)) rfl (fun hb => ?_) (fun hb => ?_)
 ·
  have hk : q.k = 5 := by simpa using hb
  clear hb
  refine R0 ?_
  refine aF (RT Tryd.results37 ?_)
  exact cG [77] (lsC (wlR q)) (by rw [show wlR q = [gE, numW q.n] from by simp [wlR, *]]; simp [lsC, HV.close, fob_at, upd_at, HV.norm, HV.toC, HV.closeL, HV.toCL, CV.denil]; rfl) rfl (by simp) rfl
 have hk5 : ¬ q.k = 5 := by simpa using hb
 clear hb
 refine R0 ?_
 refine aG (b := (q.k == 6)) rfl (fun hb => ?_) (fun hb => ?_)
 ·
  have hk : q.k = 6 := by simpa using hb
  clear hb
  refine R0 ?_
  refine aF (RT Tryd.results37 ?_)
  exact cG [85] (lsC (wlR q)) (by rw [show wlR q = [kD, numW q.n] from by simp [wlR, *]]; simp [lsC, HV.close, fob_at, upd_at, HV.norm, HV.toC, HV.closeL, HV.toCL, CV.denil]; rfl) rfl (by simp) rfl
 have hk6 : ¬ q.k = 6 := by simpa using hb
 clear hb
 refine R0 ?_
 refine aG (b := (q.k == 7)) rfl (fun hb => ?_) (fun hb => ?_)
 ·
  have hk : q.k = 7 := by simpa using hb
  clear hb
  refine R0 ?_
  refine aF (RT Tryd.results37 ?_)
  exact cG [93] (lsC (wlR q)) (by rw [show wlR q = [lI, numW q.n] from by simp [wlR, *]]; simp [lsC, HV.close, fob_at, upd_at, HV.norm, HV.toC, HV.closeL, HV.toCL, CV.denil]; rfl) rfl (by simp) rfl
 have hk7 : ¬ q.k = 7 := by simpa using hb
 clear hb
 refine aJ ?_
 refine T0 (hK _ _ _ ?_)
 clear hK K
 refine R0 ?_
 refine aF (RT Tryd.results37 ?_)
 exact cG [89] (lsC (wlR q)) (by rw [show wlR q = [jB] from by simp [wlR, *]]; simp [lsC, HV.close, fob_at, upd_at, HV.norm, HV.toC, HV.closeL, HV.toCL, CV.denil]; rfl) rfl (by simp) rfl

end Go.Proofs.YtlldglbooaefhaaDoor

namespace Go.Pl
open Go Go.Hl

theorem aU4 {n : Nd} (h : bK n = true) (h1 : n.k ≠ 1) (h2 : n.k ≠ 2) (h3 : n.k ≠ 3) : n.k = 4 := by simp_all [bK, if_neg]
theorem bM3 {q : Rq} (h : eL q = true) : (0 ≤ q.n ∧ q.n ≤ 1099511627776) ∧ (0 ≤ q.m ∧ q.m ≤ 1099511627776) := by
 unfold eL inB at h
 repeat' split at h
 all_goals first
  | cases h; done
  | (simp only [Bool.and_eq_true, decide_eq_true_eq, beq_iff_eq] at h; (try rw [gD] at h); omega)
theorem bU1 {n : Nd} (h : bK n = true) (h1 : n.k = 1) : eL n.q = true := by simp_all [bK, if_pos, Bool.and_eq_true]
theorem bU2 {n : Nd} (h : bK n = true) (h1 : n.k = 4) : 1 ≤ n.n ∧ n.n ≤ 60 := by
 unfold bK inB at h
 grind
theorem aK2 {l : List Nd} (ht : IsTree l) {i : Nat} (hi : i < l.length) (hk : l[i].k = 1) : aft l i = i + 1 := by
 obtain ⟨_, _, c3, _⟩ := cU (ht.node _ (List.getElem_mem hi))
 refine aA7 hi ?_
 rw [List.drop_eq_getElem_cons hi]
 simp_all [skip, cE]
theorem qI {l : List Nd} (ht : IsTree l) {i : Nat} (hi : i < l.length) : bW l l[i].c.toNat (i + 1) = aft l i := by
 obtain ⟨h1, h2, h3⟩ := gM ht hi l[i].c.toNat (Nat.le_refl _)
 simp_all [gC, Nat.sub_self, cE, congrArg, List.length, Option.some.inj, List.length_drop]
theorem rP {l : List Nd} (ht : IsTree l) : ∀ (m : Nat) (i : Nat) (hi : i < l.length), l.length - i ≤ m → (jD l i).length ≤ 2 * (aft l i - i) ∧ ∀ k, k ≤ l[i].c.toNat → l[i].k ≠ 1 → (dU l i k).length ≤ 2 * (bW l k (i + 1) - (i + 1))
 | 0, i, hi, hm => by omega
 | m + 1, i, hi, hm => by
  have hkids : ∀ k, k ≤ l[i].c.toNat → l[i].k ≠ 1 → (dU l i k).length ≤ 2 * (bW l k (i + 1) - (i + 1)) := by
   intro k
   induction k with
   | zero => grind [lJ]
   | succ k ih =>
    intro hk hn
    have h1 := ih (by omega) hn
    have hlt := gU ht hi (k := k) (by omega)
    obtain ⟨_, _, h3⟩ := gM ht hi k (by omega)
    have h4 := (rP ht m (bW l k (i + 1)) hlt (by omega)).1
    grind [gC, qC, List.length_append, dV]
  refine ⟨?_, hkids⟩
  by_cases hk : l[i].k = 1
  ·
   grind [vQ, aK2]
  ·
   have h1 := hkids _ (Nat.le_refl _) hk
   obtain ⟨_, _, h3⟩ := gM ht hi _ (Nat.le_refl l[i].c.toNat)
   grind [qI, sS, List.length_cons, List.length_append, List.length_nil]
theorem aK3 {l : List Nd} (ht : IsTree l) {i k : Nat} (hi : i < l.length) (hk : k ≤ l[i].c.toNat) (hn : l[i].k ≠ 1) : (dU l i k).length ≤ 2 * (bW l k (i + 1) - (i + 1)) := (rP ht _ i hi (Nat.le_refl _)).2 k hk hn
theorem bM4 {l : List Nd} (ht : IsTree l) {i : Nat} (hi : i < l.length) : (jD l i).length ≤ 2 * (aft l i - i) := (rP ht _ i hi (Nat.le_refl _)).1
end Go.Pl
