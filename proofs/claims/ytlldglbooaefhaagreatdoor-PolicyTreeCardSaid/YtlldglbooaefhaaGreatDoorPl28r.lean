/- Plain Lean: the lines of a policy, counted (28.4). By an AI agent. -/
import Derived.Test.YtlldglbooaefhaaGreatDoorHzU1
import Derived.Test.YtlldglbooaefhaaGreatDoorHzTq
import Derived.Test.YtlldglbooaefhaaGreatDoorHzSb
import Derived.Shelf.LaysM
import Derived.Shelf.Strconv.Itoa4
import Derived.Test.YtlldglbooaefhaaGreatDoorPl02e
import Derived.Test.YtlldglbooaefhaaGreatDoorHlTlaw
import Derived.Test.YtlldglbooaefhaaGreatDoorPl11q
import Derived.Test.YtlldglbooaefhaaGreatDoorHzTz
import Derived.Test.YtlldglbooaefhaaGreatDoorPl28k
set_option linter.unusedSimpArgs false
set_option linter.unusedVariables false
set_option linter.defProp false
namespace Go.Proofs.YtlldglbooaefhaaGreatDoor
open Go Go.Hl Go.Pl
set_option maxRecDepth 10000
set_option maxHeartbeats 16000000

theorem bC0 (N n : Nat) (ob : Ob) (e : TypeId) (sz : Nat) (v : CV) (L : List CV) (t : TypeId) : lP (sub [0, N] n) ob 0 [.box t (.c v), .row e sz L] = upd (upd ob 0 (some (.box t (.c v)))) N (some (.row e sz L)) := rfl
theorem zH (N n m : Nat) (v : CV) : HV.ren (sub [0, N] n) (.tup [.own 1 m, .c v]) = .tup [.own N m, .c v] := rfl
theorem bN0 (f : Nat) (ls : List (List aE)) (a : Nat) (hal : a ≤ ls.length) (hfu : 2 * (ls.length - a) + 1 ≤ f) (hls : ls.length < 2 ^ 39) :
  tC Tryz.prog 108 94 (rdr ls a) [.nils] (fun u x v' => ∃ T' : List Nd, u = .slc (T'.map Nd.cv) ∧ x = .bool (rdN f (ls.drop a)).1.isSome ∧ v' = rdr ls (ls.length - (rdN f (ls.drop a)).2.length) ∧ ∀ t, (rdN f (ls.drop a)).1 = some t → T' = t) := by
 refine bT Tryz.func108 rfl (by kernel_rfl) (cY _ _ _) (Nat.le_of_ble_eq_true rfl) ?_
 refine R0 ?_
 refine aC fun K hK => ?_
 refine aC fun K hK => Rg ?_
 refine S0 ?_
 refine HS rfl rfl fun K' hK' => T5 ?_
 refine dS (args := []) (aK9 ls a (by omega)) rfl (by simp) ⟨rfl, rfl, rfl, rfl⟩ ?_
 rintro u x v' ⟨rfl, rfl, rfl⟩
 refine AX (hK' _ _ ?_)
 clear hK' K'
 refine AU ?_
 refine T2 (hK _ _ _ ?_)
 clear hK K
 refine R0 ?_
 refine aH (b := (jU ls a).isSome) rfl (fun hb => ?_) (fun hb => ?_)
 ·
  obtain ⟨q, hq⟩ := Option.isSome_iff_exists.1 hb
  obtain ⟨hl, hq2⟩ : ∃ h : a < ls.length, eR ls[a] = some q := by
   unfold jU at hq
   split at hq
   ·
    exact ⟨by assumption, hq⟩
   cases hq
  obtain ⟨g, rfl⟩ : ∃ g, f = g + 1 := ⟨f - 1, by omega⟩
  rw [List.drop_eq_getElem_cons hl, nK hq2]
  simp only [hq, Option.isSome_some, if_true, Option.getD_some]
  refine AU ?_
  refine aF (RT Tryz.results108 ?_)
  exact bO [61] (.slc [Nd.cv ⟨1, 0, 0, q⟩]) (.bool true) (rdr ls (a + 1)) (by simp [HV.close, HV.closeL, HO.close, fob_at, upd_at, CV.denil, CV.denilL, denilL_Nd, HV.norm, HV.toC, HV.toCL]) rfl (by simp [HV.close, HV.closeL, rdr, CV.denil, CV.denilL, aP, HV.norm, HV.toC, HV.toCL]) (by simp) ⟨[⟨1, 0, 0, q⟩], rfl, rfl, by simp only [List.length_drop]; congr 1; omega, fun t h => by cases h; rfl⟩
 have hno : jU ls a = none := by simpa using hb
 simp only [hno, Option.isSome_none, Bool.false_eq_true, if_false, Option.getD_none]
 clear hb
 refine aJ ?_
 refine T0 (hK _ _ _ ?_)
 clear hK K
 refine aC fun K hK => Rg ?_
 refine S0 ?_
 refine HS rfl rfl fun K' hK' => T5 ?_
 refine dS (args := []) (aL0 ls a (by omega)) rfl (by simp) ⟨rfl, rfl, rfl, rfl⟩ ?_
 rintro u x v' ⟨rfl, rfl, rfl⟩
 refine AX (hK' _ _ ?_)
 clear hK' K'
 refine AU ?_
 refine T2 (hK _ _ _ ?_)
 clear hK K
 refine aC fun K hK => ?_
 refine R0 ?_
 refine aH (b := !(jO ls a).isSome) rfl (fun hb => ?_) (fun hb => ?_)
 ·
  have hi : jO ls a = none := by simpa using hb
  have hX : rdN f (ls.drop a) = (none, ls.drop a) := by
   obtain ⟨g, rfl⟩ : ∃ g, f = g + 1 := ⟨f - 1, by omega⟩
   rcases Nat.lt_or_ge a ls.length with hl | hl
   ·
    rw [fO hl] at hno
    unfold jO at hi
    rw [dif_pos hl] at hi
    rw [List.drop_eq_getElem_cons hl, nL hno hi]
   rw [List.drop_eq_nil_of_le hl]; rfl
  rw [hX]
  simp only [hi, Option.isSome_none, Bool.false_eq_true, if_false]
  refine R0 ?_
  refine aF (RT Tryz.results108 ?_)
  exact bO [] (.slc []) (.bool false) (rdr ls a) (by simp [HV.close, HV.closeL, HO.close, fob_at, upd_at, CV.denil, CV.denilL, denilL_Nd, HV.norm, HV.toC, HV.toCL]) rfl (by simp [HV.close, HV.closeL, rdr, CV.denil, CV.denilL, aP, HV.norm, HV.toC, HV.toCL]) (by simp) (by refine ⟨[], rfl, rfl, ?_⟩; first | exact (by simp only [List.length_drop]; congr 1; omega) | exact ⟨by simp only [List.length_drop]; congr 1; omega, fun t h => by cases h⟩)
 refine aJ ?_
 refine T0 (hK _ _ _ ?_)
 clear hK K
 obtain ⟨nd, hi⟩ : ∃ nd, jO ls a = some nd := by
  cases h : jO ls a with
  | none => rw [h] at hb; simp at hb
  | some nd => exact ⟨nd, rfl⟩
 obtain ⟨hl, hi2⟩ : ∃ h : a < ls.length, jM ls[a] = some nd := by
  unfold jO at hi
  split at hi
  ·
   exact ⟨by assumption, hi⟩
  cases hi
 rw [fO hl] at hno
 have hc0 := innR_c hi2
 have hnd : ({ k := nd.k, n := nd.n, c := 0, q := nd.q } : Nd) = nd := by cases nd; simp only at hc0; rw [hc0]
 have hst := KdSt.init hl hfu hno hi2
 simp only [hi, Option.isSome_some, if_true, Option.getD_some]
 clear hb
 refine R0 ?_
 refine RS ?_
 iterate 5 refine S0 ?_
 refine RE ?_
 refine aC fun K hK => ?_
 refine aK ?_
 refine bE (α := {y : Nat × List Nd × Nat × Nat // KdSt f ls a nd y.1 y.2.1 y.2.2.1 y.2.2.2}) (fun y => (fin [(0, .ptr 0 0), (1, .own 109 (1 + y.1.2.1.length)), (10, .c (.int .i64 0))], fob [(0, .box 94 (.c (rdr ls y.1.2.2.2))), (109, .row 40 7 (({ nd with c := (y.1.2.2.1 : Int) } :: y.1.2.1).map Nd.cv))])) 2000 (fun y => y.1.1) ⟨(f - 1, [], 0, a + 1), hst⟩ (aN (by omega) (by simp [aZ, fin_at, finA_at, upd_at, HV.men, HV.menL, HV.norm, HV.toC, HV.toCL, hnd]) (by simp [aW, fob_at, upd_at, none0_at, bY, HO.men, HV.men, HV.menL, HV.norm, HV.toC, HV.toCL, hnd])) ?_
 rintro ⟨⟨g, ts, k, p⟩, hΦ⟩
 simp only at hΦ
 refine aC fun K hK => ?_
 refine aC fun K hK => Rg ?_
 refine S0 ?_
 refine HS rfl rfl fun K' hK' => T5 ?_
 refine bZ (args := [_, _]) (nJ ls p wEnd (by omega)) rfl (by simp) ⟨rfl, rfl, rfl, rfl⟩ ?_
 rintro u v' ⟨rfl, rfl⟩
 refine AX (hK' _ _ ?_)
 clear hK' K'
 refine S0 ?_
 refine T2 (hK _ _ _ ?_)
 clear hK K
 refine aH (b := !isV ls p wEnd 1) rfl (fun hb => ?_) (fun hb => ?_)
 ·
  have hev : isV ls p wEnd 1 = false := by simpa using hb
  obtain ⟨Tq, hTq⟩ : ∃ Tq, Tq = { nd with c := (k : Int) } :: ts := ⟨_, rfl⟩
  have hTql : 1 + ts.length = Tq.length := by rw [hTq]; simp; omega
  have hp1 := hΦ.le
  have hp2 := hΦ.fuel
  have hp3 := hΦ.lt
  have hp4 := hΦ.len
  have hp5 := hΦ.kids
  have hTm : Nd.cv { nd with c := (k : Int) } :: List.map Nd.cv ts = List.map Nd.cv Tq := by rw [hTq]; rfl
  rw [hTm, hTql, hev]
  simp only [Bool.false_eq_true, if_false]
  clear hb
  refine aJ ?_
  refine T0 (hK _ _ _ ?_)
  clear hK K
  refine aK ?_
  refine aC fun K hK => ?_
  refine aC fun K hK => Rg ?_
  refine AU ?_
  refine HS rfl rfl fun K' hK' => T5 ?_
  refine kD [0, 109] (bU3 (g - 1) ls p Tq hp1 (by omega) (by omega) hls (by omega)) rfl ⟨rfl, rfl, trivial⟩ (by simp) (by simp) ⟨rfl, rfl, rfl, rfl⟩ (by simp [fX, HO.men, HV.men, HV.menL]) (by simp [HV.menL, HV.men]) ?_
  rintro r os' ⟨T', rfl, rfl, h1, h2, h3⟩
  rw [bC0, zH]
  refine AX (hK' _ _ ?_)
  clear hK' K'
  refine AU ?_
  refine T2 (hK _ _ _ ?_)
  clear hK K
  refine R0 ?_
  refine aH (b := !(rdN (g - 1) (ls.drop p)).1.isSome) rfl (fun hb => ?_) (fun hb => ?_)
  ·
   have hn2 : (rdN (g - 1) (ls.drop p)).1 = none := by simpa using hb
   rw [hΦ.no hev hn2]
   refine R0 ?_
   refine aF (RT Tryz.results108 ?_)
   exact bO [109] (.slc (T'.map Nd.cv)) (.bool false) (rdr ls (ls.length - (rdN (g - 1) (ls.drop p)).2.length)) (by simp [HV.close, HV.closeL, HO.close, fob_at, upd_at, CV.denil, CV.denilL, denilL_Nd, HV.norm, HV.toC, HV.toCL]) rfl (by simp [HV.close, HV.closeL, rdr, CV.denil, CV.denilL, aP, HV.norm, HV.toC, HV.toCL]) (by simp) (by refine ⟨T', rfl, rfl, ?_⟩; first | exact rfl | exact ⟨rfl, fun t h => by cases h⟩)
  obtain ⟨t, ht⟩ : ∃ t, (rdN (g - 1) (ls.drop p)).1 = some t := by
   cases h : (rdN (g - 1) (ls.drop p)).1 with
   | none => rw [h] at hb; simp at hb
   | some t => exact ⟨t, rfl⟩
  have hst2 := hΦ.some_ hev ht
  have hT' := h1 t ht
  have hlt : 0 < T'.length := by rw [hT', List.length_append]; omega
  have hge : T'[0] = { nd with c := (k : Int) } := by simp [hT', hTq]
  have hw : IntKind.i64.wrap ((k : Int) + 1) = ((k + 1 : Nat) : Int) := IntWalk.i64_in _ (by omega)
  have hmne : (T'.map Nd.cv = []) = False := by simp; intro h; rw [h] at hlt; cases hlt
  clear hb
  refine aJ ?_
  refine T0 (hK _ _ _ ?_)
  clear hK K
  refine Rg ?_
  have F := aI @Int.natCast_nonneg (aI @Int.ofNat_lt (aI hlt (aI (nM hlt) (aI hge (aI hw (aI hmne (aI not_false_eq_true @List.length_map.{0,0})))))))
  refine AU ?_
  refine T4 ?_
  refine ⟨⟨(g - 1, ts ++ t, k + 1, ls.length - (rdN (g - 1) (ls.drop p)).2.length), hst2⟩, ?_, ?_⟩
  ·
   have hrow : (List.map Nd.cv T').set 0 (Nd.cv { nd with c := ((k + 1 : Nat) : Int) }) = List.map Nd.cv ({ nd with c := ((k + 1 : Nat) : Int) } :: (ts ++ t)) := by
    rw [hT', hTq, ← List.map_set]
    simp
   have hlen : T'.length = 1 + (ts ++ t).length := by rw [hT', hTq]; simp; omega
   simp only []
   rw [← hrow, ← hlen]
   exact fF
  show g - 1 < g
  omega
 have hev : isV ls p wEnd 1 = true := by simpa using hb
 obtain ⟨hp, hX⟩ := hΦ.end_ hev
 have hp4 := hΦ.len
 rw [hev]
 simp only [if_true]
 refine aY (T3 ?_)
 clear hK K
 refine AX (hK _ _ _ ?_)
 clear hK K
 refine R0 ?_
 refine aF (RT Tryz.results108 ?_)
 rw [hX]
 exact bO [109] (.slc (({ nd with c := (k : Int) } :: ts).map Nd.cv)) (.bool true) (rdr ls (p + 1)) (by simp [show 1 + ts.length = ts.length + 1 from by omega, HV.close, HV.closeL, HO.close, fob_at, upd_at, CV.denil, CV.denilL, denilL_Nd, HV.norm, HV.toC, HV.toCL]) rfl (by simp [HV.close, HV.closeL, rdr, CV.denil, CV.denilL, aP, HV.norm, HV.toC, HV.toCL]) (by simp) ⟨_, rfl, rfl, by simp only [List.length_drop]; congr 1; omega, fun t h => by cases h; rfl⟩

end Go.Proofs.YtlldglbooaefhaaGreatDoor

namespace Go.Pl
open Go Go.Hl

theorem cA0 {ls : List (List aE)} {a : Nat} (ha : a ≤ ls.length) (h : isV ls a wRule 5 = false) : rdR (ls.drop a) = (none, ls.drop a) := by
 rcases Nat.lt_or_ge a ls.length with hl | hl
 ·
  rw [gW hl] at h
  rw [List.drop_eq_getElem_cons hl]
  simp only [rdR]
  rw [if_neg (by rintro ⟨h1, h2⟩; simp [h1, h2] at h)]
 ·
  rw [List.drop_eq_nil_of_le hl]; rfl
theorem bU4 {ls : List (List aE)} {a : Nat} (hl : a < ls.length) (h1 : ls[a].length = 5) (h2 : wd ls[a] 0 = wRule) (hn : bG (wd ls[a] 4) = none) : rdR (ls.drop a) = (none, ls.drop a) := by
 rw [List.drop_eq_getElem_cons hl]
 simp only [rdR]
 rw [if_pos ⟨h1, h2⟩, hn]
theorem bN1 {ls : List (List aE)} {a : Nat} (hl : a < ls.length) (h1 : ls[a].length = 5) (h2 : wd ls[a] 0 = wRule) {g : Int} (hn : bG (wd ls[a] 4) = some g) :
  rdR (ls.drop a) = ((rdT (ls.drop (a + 1))).1.map fun t => ⟨wd ls[a] 1, wd ls[a] 2, wd ls[a] 3, g, t⟩, (rdT (ls.drop (a + 1))).2) := by
 rw [List.drop_eq_getElem_cons hl]
 simp only [rdR]
 rw [if_pos ⟨h1, h2⟩, hn]
 match rdT (ls.drop (a + 1)) with
 | (none, r) => rfl
 | (some t, r) => rfl
theorem aC9 (ls : List (List aE)) : ∃ j, j ≤ ls.length ∧ (rdR ls).2 = ls.drop j ∧ ∀ p, (rdR ls).1 = some p → 1 ≤ j := by
 match ls with
 | [] => exact ⟨0, by simp, rfl, fun p h => by cases h⟩
 | w :: r =>
  simp only [rdR]
  split
  ·
   cases bG (wd w 4) with
   | none => exact ⟨0, by simp, rfl, fun p h => by cases h⟩
   | some g =>
    obtain ⟨j, hj, h2⟩ := aV5 (2 * r.length + 2) r
    simp only [rdT]
    match hm : rdN (2 * r.length + 2) r with
    | (none, r') => rw [hm] at h2; exact ⟨j + 1, by simp; omega, h2, fun p h => by cases h⟩
    | (some t, r') => rw [hm] at h2; exact ⟨j + 1, by simp; omega, h2, fun p h => by omega⟩
  ·
   exact ⟨0, by simp, rfl, fun p h => by cases h⟩
abbrev Rls := Option (List Pr) × List (List aE)
structure RsSt (ls : List (List aE)) (X : Rls) (acc : List Pr) (p : Nat) : Prop where
 eq : X = jT (ls.length - p + 1) (ls.drop p) acc
 le : p ≤ ls.length
 len : acc.length ≤ p
theorem zI : ∀ (f g : Nat) (ls : List (List aE)) (acc : List Pr), ls.length < f → f ≤ g → jT g ls acc = jT f ls acc
 | 0, _, _, _, h, _ => by omega
 | f + 1, g, ls, acc, h, hg => by
  obtain ⟨q, rfl⟩ : ∃ q, g = q + 1 := ⟨g - 1, by omega⟩
  simp only [jT]
  split
  ·
   rfl
  ·
   obtain ⟨j, hj, h2, h3⟩ := aC9 ls
   match hm : rdR ls with
   | (none, r) => rfl
   | (some x, r) =>
    rw [hm] at h2 h3
    have h4 := h3 x rfl
    simp only at h2
    exact zI f q r _ (by rw [h2, List.length_drop]; omega) (by omega)
theorem RsSt.done {ls : List (List aE)} {X : Rls} {acc : List Pr} {p : Nat} (h : RsSt ls X acc p) (hp : ¬ p < ls.length) : p = ls.length ∧ X = (some acc, []) := by
 have h1 := h.le
 refine ⟨by omega, ?_⟩
 rw [h.eq, List.drop_eq_nil_of_le (by omega), jT, if_pos rfl]
theorem RsSt.no {ls : List (List aE)} {X : Rls} {acc : List Pr} {p : Nat} (h : RsSt ls X acc p) (hp : p < ls.length) (hn : (rdR (ls.drop p)).1 = none) : X = (none, (rdR (ls.drop p)).2) := by
 rw [h.eq, jT, if_neg (by intro e; have := congrArg List.length e; simp at this; omega)]
 match hm : rdR (ls.drop p) with
 | (none, r) => rfl
 | (some x, r) => rw [hm] at hn; cases hn
theorem RsSt.some_ {ls : List (List aE)} {X : Rls} {acc : List Pr} {p : Nat} (h : RsSt ls X acc p) (hp : p < ls.length) {x : Pr} (hs : (rdR (ls.drop p)).1 = some x) :
  RsSt ls X (acc ++ [x]) (ls.length - (rdR (ls.drop p)).2.length) ∧ p < ls.length - (rdR (ls.drop p)).2.length := by
 obtain ⟨j, hj, h2, h3⟩ := aC9 (ls.drop p)
 have h4 := h3 x hs
 rw [List.length_drop] at hj
 have hlen := h.len
 have hpos : ls.length - (rdR (ls.drop p)).2.length = p + j := by rw [h2]; simp only [List.length_drop]; omega
 rw [hpos]
 refine ⟨⟨?_, by omega, by simp; omega⟩, by omega⟩
 rw [h.eq, jT, if_neg (by intro e; have := congrArg List.length e; simp at this; omega)]
 match hm : rdR (ls.drop p) with
 | (none, r) => rw [hm] at hs; cases hs
 | (some y, r) =>
  rw [hm] at hs h2
  cases hs
  simp only at h2
  subst h2
  rw [List.drop_drop]
  exact zI _ _ _ _ (by rw [List.length_drop]; omega) (by omega)
theorem cA1 {ls : List (List aE)} (h : isV ls 0 wPolicy 3 = false) : rdP ls = (none, ls) := by
 match ls with
 | [] => rfl
 | w :: r =>
  rw [gW (by simp)] at h
  simp only [rdP]
  rw [if_neg (by rintro ⟨h1, h2⟩; simp [h1, h2] at h)]
theorem bU5 {ls : List (List aE)} (hl : 0 < ls.length) (h1 : ls[0].length = 3) (h2 : wd ls[0] 0 = wPolicy) (hn : bG (wd ls[0] 2) = none) : rdP ls = (none, ls) := by
 match ls, hl with
 | w :: r, _ =>
  simp only [List.getElem_cons_zero] at h1 h2 hn
  simp only [rdP]
  rw [if_pos ⟨h1, h2⟩, hn]
theorem bN2 {ls : List (List aE)} (hl : 0 < ls.length) (h1 : ls[0].length = 3) (h2 : wd ls[0] 0 = wPolicy) {v : Int} (hn : bG (wd ls[0] 2) = some v) :
  ∃ X : Rls, rdP ls = (X.1.map fun l => ⟨wd ls[0] 1, v, l⟩, X.2) ∧ RsSt ls X [] 1 := by
 match ls, hl with
 | w :: r, _ =>
  simp only [List.getElem_cons_zero] at h1 h2 hn ⊢
  refine ⟨jT (r.length + 1) r [], ?_, ⟨by simp, by simp, by simp⟩⟩
  simp only [rdP]
  rw [if_pos ⟨h1, h2⟩, hn]
  match jT (r.length + 1) r [] with
  | (none, r') => rfl
  | (some l, r') => rfl
end Go.Pl

namespace Go.Proofs.YtlldglbooaefhaaGreatDoor
open Go Go.Hl Go.Pl
set_option maxRecDepth 10000
set_option maxHeartbeats 16000000

def pr0 : Pr := ⟨[], [], [], 0, []⟩

theorem bC2 (ls : List (List aE)) (a : Nat) (hal : a ≤ ls.length) (hls : ls.length < 2 ^ 39) :
  tC Tryz.prog 90 94 (rdr ls a) [] (fun u x v' => ∃ q : Pr, u = q.cv ∧ x = .bool (rdR (ls.drop a)).1.isSome ∧ v' = rdr ls (ls.length - (rdR (ls.drop a)).2.length) ∧ ∀ p, (rdR (ls.drop a)).1 = some p → q = p) := by
 refine bT Tryz.func90 rfl (by kernel_rfl) (cY _ _ _) (Nat.le_of_ble_eq_true rfl) ?_
 refine R0 ?_
 refine aC fun K hK => ?_
 refine aC fun K hK => Rg ?_
 refine S0 ?_
 refine HS rfl rfl fun K' hK' => T5 ?_
 refine bZ (args := [_, _]) (zG ls a 5 wRule (by omega)) rfl (by simp) ⟨rfl, rfl, rfl, rfl⟩ ?_
 rintro u v' ⟨rfl, rfl⟩
 refine AX (hK' _ _ ?_)
 clear hK' K'
 refine S0 ?_
 refine T2 (hK _ _ _ ?_)
 clear hK K
 refine aH (b := !isV ls a wRule 5) rfl (fun hb => ?_) (fun hb => ?_)
 ·
  have hX := cA0 hal (show isV ls a wRule 5 = false by simpa using hb)
  refine AU ?_
  refine aF (RT Tryz.results90 ?_)
  rw [hX]
  exact bO [] pr0.cv (.bool false) (rdr ls a) rfl rfl (by simp [HV.close, HV.closeL, rdr, CV.denil, CV.denilL, aP, HV.norm, HV.toC, HV.toCL]) (by simp) (by refine ⟨pr0, rfl, rfl, ?_⟩; first | exact (by simp only [List.length_drop]; congr 1; omega) | exact ⟨by simp only [List.length_drop]; congr 1; omega, fun t h => by cases h⟩)
 refine aJ ?_
 refine T0 (hK _ _ _ ?_)
 clear hK K
 obtain ⟨hl, hl1, hl2⟩ := fN (show isV ls a wRule 5 = true by simpa using hb)
 have h1 : 1 < ls[a].length := by omega
 have h2 : 2 < ls[a].length := by omega
 have h3 : 3 < ls[a].length := by omega
 have hw : IntKind.i64.wrap ((a : Int) + 1) = ((a + 1 : Nat) : Int) := IntWalk.i64_in _ (by omega)
 clear hb
 refine aC fun K hK => QR ?_
 iterate 11 refine S0 ?_ (e := fun _ h_ => by simp only [sH, ↓sP, sA, tyS, simprocAttr, rdr, Int.natCast_nonneg, Int.ofNat_lt, hl, bA hl, lD]; exact AX h_)
 refine T2 (hK _ _ _ ?_)
 clear hK K
 refine aC fun K hK => Rg ?_
 refine S0 ?_
 refine HS rfl rfl fun K' hK' => T5 ?_
 refine dS (args := [_]) (lF ls a 4 hl (by omega)) rfl (by simp) ⟨rfl, rfl, rfl, rfl⟩ ?_
 rintro u x v' ⟨rfl, rfl, rfl⟩
 refine AX (hK' _ _ ?_)
 clear hK' K'
 refine AU ?_
 refine T2 (hK _ _ _ ?_)
 clear hK K
 refine aC fun K hK => ?_
 refine R0 ?_
 refine aH (b := !(bG (wd ls[a] 4)).isSome) rfl (fun hb => ?_) (fun hb => ?_)
 ·
  have hX := bU4 hl hl1 hl2 (show bG (wd ls[a] 4) = none by simpa using hb)
  refine AU ?_
  refine aF (RT Tryz.results90 ?_)
  rw [hX]
  exact bO [] pr0.cv (.bool false) (rdr ls a) rfl rfl (by simp [HV.close, HV.closeL, rdr, CV.denil, CV.denilL, aP, HV.norm, HV.toC, HV.toCL]) (by simp) (by refine ⟨pr0, rfl, rfl, ?_⟩; first | exact (by simp only [List.length_drop]; congr 1; omega) | exact ⟨by simp only [List.length_drop]; congr 1; omega, fun t h => by cases h⟩)
 refine aJ ?_
 refine T0 (hK _ _ _ ?_)
 clear hK K
 obtain ⟨g, hg⟩ : ∃ g, bG (wd ls[a] 4) = some g := by
  cases h : bG (wd ls[a] 4) with
  | none => rw [h] at hb; simp at hb
  | some g => exact ⟨g, rfl⟩
 have hX := bN1 hl hl1 hl2 hg
 clear hb
 simp only [hg, Option.getD_some]
 have hN : tC Tryz.prog 108 94 (rdr ls (a + 1)) [.nils] (fun u x v' => ∃ T' : List Nd, u = .slc (T'.map Nd.cv) ∧ x = .bool (rdT (ls.drop (a + 1))).1.isSome ∧ v' = rdr ls (ls.length - (rdT (ls.drop (a + 1))).2.length) ∧ ∀ t, (rdT (ls.drop (a + 1))).1 = some t → T' = t) := bN0 (2 * (ls.drop (a + 1)).length + 2) ls (a + 1) hl (by simp only [List.length_drop]; omega) hls
 refine RS ?_
 iterate 8 refine S0 ?_ (e := fun _ h_ => by simp only [sH, ↓sP, sA, tyS, simprocAttr, rdr, hw]; exact AX h_)
 refine RE ?_
 refine aC fun K hK => bB (by kernel_rfl) ?_
 simp only [sR, simprocAttr]
 refine SG0 ?_
 refine aG3 (g := none) rfl rfl fun K' hK' => ?_
 simp only [sN, ↓hopH.eq_def, sH, ↓sP, sA, tyS, simprocAttr]
 refine dS (args := [_]) hN rfl (by simp) ⟨rfl, rfl, rfl, rfl⟩ ?_
 rintro u x v' ⟨T', rfl, rfl, rfl, hT⟩
 refine AX (hK' _ _ ?_)
 clear hK' K'
 iterate 5 refine SG0 ?_
 refine T2 (hK _ _ _ ?_)
 clear hK K
 refine aC fun K hK => DW [(0, [], []), (1, [], []), (2, [], []), (3, [], []), (4, [], []), (5, [], []), (6, [], []), (7, [], []), (8, [], []), (9, [], []), (10, [], []), (11, [], []), (12, [], []), (13, [], [12]), (14, [], [])] [0, 1, 3, 0, 8, 24, 0, 64, 192, 0, 0, 2047, 0, 4095, 16383] ?_
 iterate 15 refine W0 ?_ (e := fun _ h_ => by simp only [sH, ↓sP, sA, tyS, simprocAttr, lsC, Int.one_nonneg, vY h1, vY h2, vY h3, hl1]; exact AX h_)
 refine T2 (hK _ _ _ ?_)
 clear hK K
 refine aF (RT Tryz.results90 ?_)
 rw [hX]
 exact bO [] (Pr.cv ⟨wd ls[a] 1, wd ls[a] 2, wd ls[a] 3, g, T'⟩) (.bool (rdT (ls.drop (a + 1))).1.isSome) (rdr ls (ls.length - (rdT (ls.drop (a + 1))).2.length)) (by simp [HV.close, HV.closeL, Pr.cv, CV.denil, CV.denilL, denilL_Nd, HV.norm, HV.toC, HV.toCL]) rfl (by simp [HV.close, HV.closeL, rdr, CV.denil, CV.denilL, aP, HV.norm, HV.toC, HV.toCL]) (by simp) ⟨_, rfl, by simp, rfl, fun p h => by
  cases h4 : (rdT (ls.drop (a + 1))).1 with
  | none => simp [h4] at h
  | some t => simp [h4] at h; rw [← h, hT t h4]⟩


theorem bN3 (ls : List (List aE)) (hls : ls.length < 2 ^ 39) :
  tC Tryz.prog 63 94 (rdr ls 0) [] (fun u x v' => ∃ q : Po, u = q.cv ∧ x = .bool (rdP ls).1.isSome ∧ v' = rdr ls (ls.length - (rdP ls).2.length) ∧ ∀ p, (rdP ls).1 = some p → q = p) := by
 refine bT Tryz.func63 rfl (by kernel_rfl) (cY _ _ _) (Nat.le_of_ble_eq_true rfl) ?_
 refine R0 ?_
 refine aC fun K hK => ?_
 refine aC fun K hK => Rg ?_
 refine S0 ?_
 refine HS rfl rfl fun K' hK' => T5 ?_
 refine bZ (args := [_, _]) (zG ls 0 3 wPolicy (by omega)) rfl (by simp) ⟨rfl, rfl, rfl, rfl⟩ ?_
 rintro u v' ⟨rfl, rfl⟩
 refine AX (hK' _ _ ?_)
 clear hK' K'
 refine S0 ?_
 refine T2 (hK _ _ _ ?_)
 clear hK K
 refine aH (b := !isV ls 0 wPolicy 3) rfl (fun hb => ?_) (fun hb => ?_)
 ·
  have hX := cA1 (show isV ls 0 wPolicy 3 = false by simpa using hb)
  refine AU ?_
  refine aF (RT Tryz.results63 ?_)
  rw [hX]
  exact bO [] po0.cv (.bool false) (rdr ls 0) (by simp [HV.close, HV.closeL, HO.close, fob_at, upd_at, po0, Po.cv, CV.denil, CV.denilL, denilL_Pr, HV.norm, HV.toC, HV.toCL]) rfl (by simp [HV.close, HV.closeL, rdr, CV.denil, CV.denilL, aP, HV.norm, HV.toC, HV.toCL]) (by simp) (by refine ⟨po0, rfl, rfl, ?_⟩; first | exact (by simp only [List.length_drop]; congr 1; omega) | exact rfl | exact ⟨by simp, fun t h => by cases h⟩)
 refine aJ ?_
 refine T0 (hK _ _ _ ?_)
 clear hK K
 obtain ⟨hl, hl1, hl2⟩ := fN (show isV ls 0 wPolicy 3 = true by simpa using hb)
 have h1 : 1 < ls[0].length := by omega
 clear hb
 refine aC fun K hK => Rg ?_
 refine S0 ?_
 refine HS rfl rfl fun K' hK' => T5 ?_
 refine dS (args := [_]) (lF ls 0 2 hl (by omega)) rfl (by simp) ⟨rfl, rfl, rfl, rfl⟩ ?_
 rintro u x v' ⟨rfl, rfl, rfl⟩
 refine AX (hK' _ _ ?_)
 clear hK' K'
 refine AU ?_
 refine T2 (hK _ _ _ ?_)
 clear hK K
 refine aC fun K hK => ?_
 refine R0 ?_
 refine aH (b := !(bG (wd ls[0] 2)).isSome) rfl (fun hb => ?_) (fun hb => ?_)
 ·
  have hX := bU5 hl hl1 hl2 (show bG (wd ls[0] 2) = none by simpa using hb)
  refine AU ?_
  refine aF (RT Tryz.results63 ?_)
  rw [hX]
  exact bO [] po0.cv (.bool false) (rdr ls 0) (by simp [HV.close, HV.closeL, HO.close, fob_at, upd_at, po0, Po.cv, CV.denil, CV.denilL, denilL_Pr, HV.norm, HV.toC, HV.toCL]) rfl (by simp [HV.close, HV.closeL, rdr, CV.denil, CV.denilL, aP, HV.norm, HV.toC, HV.toCL]) (by simp) (by refine ⟨po0, rfl, rfl, ?_⟩; first | exact (by simp only [List.length_drop]; congr 1; omega) | exact rfl | exact ⟨by simp, fun t h => by cases h⟩)
 refine aJ ?_
 refine T0 (hK _ _ _ ?_)
 clear hK K
 obtain ⟨v, hv⟩ : ∃ v, bG (wd ls[0] 2) = some v := by
  cases h : bG (wd ls[0] 2) with
  | none => rw [h] at hb; simp at hb
  | some v => exact ⟨v, rfl⟩
 obtain ⟨X, hX, hst⟩ := bN2 hl hl1 hl2 hv
 clear hb
 simp only [hv, Option.getD_some]
 refine RS ?_
 iterate 12 refine S0 ?_ (e := fun _ h_ => by simp only [sH, ↓sP, sA, tyS, simprocAttr, rdr, hl, bA hl, lsC, vY h1, Int.one_nonneg, hl1, Int.natCast_pos]; exact AX h_)
 refine RE ?_
 refine aC fun K hK => ?_
 refine RS ?_
 iterate 8 refine S0 ?_ (e := fun _ h_ => by simp only [sH, ↓sP, sA, tyS, simprocAttr, rdr]; exact AX h_)
 refine RE ?_
 refine aK ?_
 refine aA4 97 2 54 5 rfl rfl rfl rfl ?_
 refine bE (α := {y : List Pr × Nat // RsSt ls X y.1 y.2}) (fun y => (fin [(0, .ptr 0 0), (2, .ptr 1 0), (6, .ptr 97 0)], fob [(0, .box 94 (.c (rdr ls y.1.2))), (1, .box 45 (.c (.agg [.str [], .int .i64 0, .nils]))), (97, .box 45 (.agg [.c (.str (wd ls[0] 1)), .c (.int .i64 v), .own 137 y.1.1.length])), (137, .row 54 5 (y.1.1.map Pr.cv))])) 2000 (fun y => ls.length - y.1.2) ⟨([], 1), hst⟩ (aN (by omega) (by simp [aZ, fin_at, finA_at, upd_at, HV.men, HV.menL, HV.norm, HV.toC, HV.toCL, rdr, show IntKind.i64.wrap 1 = 1 from rfl]) (by simp [aW, fob_at, upd_at, none0_at, bY, HO.men, HV.men, HV.menL, HV.norm, HV.toC, HV.toCL, rdr, show IntKind.i64.wrap 1 = 1 from rfl])) ?_
 rintro ⟨⟨acc, p⟩, hΦ⟩
 simp only at hΦ
 refine aC fun K hK => ?_
 refine aC fun K hK => QR ?_
 iterate 10 refine S0 ?_ (e := fun _ h_ => by simp only [sH, ↓sP, sA, tyS, simprocAttr, rdr]; exact AX h_)
 refine T2 (hK _ _ _ ?_)
 clear hK K
 refine aH (b := decide ((p : Int) < ls.length)) rfl (fun hb => ?_) (fun hb => ?_)
 ·
  have hp : p < ls.length := by simpa using hb
  have hp1 := hΦ.le
  have hp2 := hΦ.len
  clear hb
  refine aJ ?_
  refine T0 (hK _ _ _ ?_)
  clear hK K
  refine aK ?_
  refine aC fun K hK => Rg ?_
  refine S0 ?_
  refine HS rfl rfl fun K' hK' => T5 ?_
  refine dS (args := []) (bC2 ls p hp1 hls) rfl (by simp) ⟨rfl, rfl, rfl, rfl⟩ ?_
  rintro u x v' ⟨q, rfl, rfl, rfl, hq⟩
  refine AX (hK' _ _ ?_)
  clear hK' K'
  refine AU ?_
  refine T2 (hK _ _ _ ?_)
  clear hK K
  refine aC fun K hK => ?_
  refine R0 ?_
  refine aH (b := !(rdR (ls.drop p)).1.isSome) rfl (fun hb => ?_) (fun hb => ?_)
  ·
   have hno : (rdR (ls.drop p)).1 = none := by simpa using hb
   have hXn := hΦ.no hp hno
   refine AU ?_
   refine aF (RT Tryz.results63 ?_)
   rw [hX, hXn]
   exact bO [] po0.cv (.bool false) (rdr ls (ls.length - (rdR (ls.drop p)).2.length)) (by simp [HV.close, HV.closeL, HO.close, fob_at, upd_at, po0, Po.cv, CV.denil, CV.denilL, denilL_Pr, HV.norm, HV.toC, HV.toCL]) rfl (by simp [HV.close, HV.closeL, rdr, CV.denil, CV.denilL, aP, HV.norm, HV.toC, HV.toCL]) (by simp) (by refine ⟨po0, rfl, rfl, ?_⟩; first | exact (by simp only [List.length_drop]; congr 1; omega) | exact rfl | exact ⟨by simp, fun t h => by cases h⟩)
  obtain ⟨x, hx⟩ : ∃ x, (rdR (ls.drop p)).1 = some x := by
   cases h : (rdR (ls.drop p)).1 with
   | none => rw [h] at hb; simp at hb
   | some x => exact ⟨x, rfl⟩
  obtain ⟨hst2, hlt2⟩ := hΦ.some_ hp hx
  obtain rfl := hq x hx
  clear hb
  refine aJ ?_
  refine T0 (hK _ _ _ ?_)
  clear hK K
  refine Rg ?_
  refine AU ?_
  refine T4 ?_
  refine ⟨⟨(acc ++ [q], ls.length - (rdR (ls.drop p)).2.length), hst2⟩, aN (by omega) (by simp [aZ, fin_at, finA_at, upd_at, HV.men, HV.menL, HV.norm, HV.toC, HV.toCL, List.map_append]) (by simp [aW, fob_at, upd_at, none0_at, bY, HO.men, HV.men, HV.menL, HV.norm, HV.toC, HV.toCL, List.map_append]), ?_⟩
  show ls.length - (ls.length - (rdR (ls.drop p)).2.length) < ls.length - p
  omega
 have hp : ¬ p < ls.length := by simpa using hb
 obtain ⟨rfl, hXs⟩ := hΦ.done hp
 refine aY (T3 ?_)
 clear hK K
 refine AX (hK _ _ _ ?_)
 clear hK K
 refine AU ?_
 refine aF (RT Tryz.results63 ?_)
 rw [hX, hXs]
 refine ⟨rfl, ?_⟩
 exact bO [137] (Po.cv ⟨wd ls[0] 1, v, acc⟩) (.bool true) (rdr ls ls.length) (by simp [HV.close, HV.closeL, HO.close, fob_at, upd_at, po0, Po.cv, CV.denil, CV.denilL, denilL_Pr, HV.norm, HV.toC, HV.toCL]) rfl (by simp [HV.close, HV.closeL, rdr, CV.denil, CV.denilL, aP, HV.norm, HV.toC, HV.toCL]) (by simp) (by exact ⟨_, rfl, rfl, by simp, fun p h => by cases h; rfl⟩)

end Go.Proofs.YtlldglbooaefhaaGreatDoor

namespace Go.Proofs.YtlldglbooaefhaaGreatDoor
open Go Go.Hl Go.Pl Go.RowKit Go.Shelf
set_option maxRecDepth 100000

def bU6 : Go.Shelf.Ren := ⟨fun | 173 => 77 | 246 => 102 | 283 => 117 | 284 => 118 | 285 => 119 | 286 => 120 | 129 => 137 | 317 => 136 | 318 => 138 | 319 => 139 | 320 => 140 | 337 => 148 | 338 => 149 | n => n, fun | 2 => 2 | 3 => 3 | 9 => 9 | 4 => 4 | 171 => 155 | 0 => 0 | 53 => 116 | 37 => 47 | 5 => 5 | 173 => 158 | 212 => 169 | 51 => 170 | 20 => 20 | 213 => 171 | 46 => 41 | 232 => 184 | 233 => 185 | n => n, fun | 17 => 1 | 18 => 4 | 19 => 5 | n => n⟩
theorem cA2 : Go.Proofs.LaysM.n173 Tryz.prog bU6 := {
  mixed := by kernel_rfl
  f129 := Tryz.func137.trans (congrArg some (by kernel_rfl))
  f173 := Tryz.func77.trans (congrArg some (by kernel_rfl))
  f246 := Tryz.func102.trans (congrArg some (by kernel_rfl))
  f283 := Tryz.func117.trans (congrArg some (by kernel_rfl))
  f284 := Tryz.func118.trans (congrArg some (by kernel_rfl))
  f285 := Tryz.func119.trans (congrArg some (by kernel_rfl))
  f286 := Tryz.func120.trans (congrArg some (by kernel_rfl))
  f317 := Tryz.func136.trans (congrArg some (by kernel_rfl))
  f318 := Tryz.func138.trans (congrArg some (by kernel_rfl))
  f319 := Tryz.func139.trans (congrArg some (by kernel_rfl))
  f320 := Tryz.func140.trans (congrArg some (by kernel_rfl))
  f337 := Tryz.func148.trans (congrArg some (by kernel_rfl))
  f338 := Tryz.func149.trans (congrArg some (by kernel_rfl))
  t0 := Tryz.underlying0
  a0 := Tryz.isAgg0
  z0 := Tryz.sizeOf0
  v0 := Tryz.zeroValue0
  t2 := Tryz.underlying2
  a2 := Tryz.isAgg2
  z2 := Tryz.sizeOf2
  v2 := Tryz.zeroValue2
  t3 := Tryz.underlying3
  a3 := Tryz.isAgg3
  z3 := Tryz.sizeOf3
  v3 := Tryz.zeroValue3
  t4 := Tryz.underlying4
  a4 := Tryz.isAgg4
  z4 := Tryz.sizeOf4
  v4 := Tryz.zeroValue4
  t5 := Tryz.underlying5
  a5 := Tryz.isAgg5
  z5 := Tryz.sizeOf5
  v5 := Tryz.zeroValue5
  t9 := Tryz.underlying9
  a9 := Tryz.isAgg9
  z9 := Tryz.sizeOf9
  v9 := Tryz.zeroValue9
  t20 := Tryz.underlying20
  a20 := Tryz.isAgg20
  z20 := Tryz.sizeOf20
  v20 := Tryz.zeroValue20
  t37 := Tryz.underlying47
  a37 := Tryz.isAgg47
  z37 := Tryz.sizeOf47
  v37 := Tryz.zeroValue47
  t46 := Tryz.underlying41
  a46 := Tryz.isAgg41
  z46 := Tryz.sizeOf41
  v46 := Tryz.zeroValue41
  t51 := Tryz.underlying170
  a51 := Tryz.isAgg170
  z51 := Tryz.sizeOf170
  v51 := Tryz.zeroValue170
  t53 := Tryz.underlying116
  a53 := Tryz.isAgg116
  z53 := Tryz.sizeOf116
  v53 := Tryz.zeroValue116
  t171 := Tryz.underlying155
  a171 := Tryz.isAgg155
  z171 := Tryz.sizeOf155
  v171 := Tryz.zeroValue155
  t173 := Tryz.underlying158
  a173 := Tryz.isAgg158
  z173 := Tryz.sizeOf158
  v173 := Tryz.zeroValue158
  t212 := Tryz.underlying169
  a212 := Tryz.isAgg169
  z212 := Tryz.sizeOf169
  v212 := Tryz.zeroValue169
  t213 := Tryz.underlying171
  a213 := Tryz.isAgg171
  z213 := Tryz.sizeOf171
  t232 := Tryz.underlying184
  a232 := Tryz.isAgg184
  z232 := Tryz.sizeOf184
  v232 := Tryz.zeroValue184
  t233 := Tryz.underlying185
  a233 := Tryz.isAgg185
  z233 := Tryz.sizeOf185
  v233 := Tryz.zeroValue185
  g17 := by kernel_rfl
  g18 := by kernel_rfl
  g19 := by kernel_rfl
  i0 := by kernel_rfl
  i2 := by kernel_rfl
  i3 := by kernel_rfl
  i4 := by kernel_rfl
  i5 := by kernel_rfl
  i9 := by kernel_rfl
  i20 := by kernel_rfl
  i37 := by kernel_rfl
  i46 := by kernel_rfl
  i51 := by kernel_rfl
  i53 := by kernel_rfl
  i171 := by kernel_rfl
  i173 := by kernel_rfl
  i212 := by kernel_rfl
  i232 := by kernel_rfl
  i233 := by kernel_rfl
  m17 := by kernel_rfl
  m18 := by kernel_rfl
  m19 := by kernel_rfl }

theorem aD0 : Tryz.prog.globalNamed "internal/strconv.uint64pow10" = some 1 := by kernel_rfl
def tabs : kZ := [(1, Lib.pow10Tab.map fun z => Value.int .u64 z)]
theorem bC3 (n : Int) (h : -9223372036854775808 ≤ n ∧ n ≤ 9223372036854775807) : mX Tryz.prog 77 tabs [.int .i64 n, .int .i64 10] (fun v => v = .str (numW n)) :=
  aO6 (by kernel_rfl) aD0 (List.mem_cons_self) (fun w hw => Any.strconv_FormatInt_10 cA2 n h.1 h.2 w hw)
end Go.Proofs.YtlldglbooaefhaaGreatDoor

namespace Go.Proofs.YtlldglbooaefhaaGreatDoor
open Go Go.Hl Go.Pl
set_option maxRecDepth 10000
set_option maxHeartbeats 16000000

theorem wO (n : Int) (hn : -9223372036854775808 ≤ n ∧ n ≤ 9223372036854775807) : mX Tryz.prog 51 tabs [.int .i64 n] (fun v => v = .str (numW n)) := by
 refine bT (args := [.c (.int .i64 n)]) Tryz.func51 rfl (by kernel_rfl) (eW tabs [.int .i64 n]) (Nat.le_of_ble_eq_true rfl) ?_
 refine R0 ?_
 refine aC fun K hK => Rg ?_
 refine S0 ?_
 refine HS rfl rfl fun K' hK' => T5 ?_
 refine eP (args := [_, _]) 0 (bC3 n hn) (fI _ 0) (by simp) ⟨rfl, rfl, rfl, rfl⟩ ?_
 rintro u rfl
 refine AX (hK' _ _ ?_)
 clear hK' K'
 refine S0 ?_
 refine T2 (hK _ _ _ ?_)
 clear hK K
 refine aF (RT Tryz.results51 ?_)
 exact dO [] (.str _) rfl (fI _ 0) (by simp) rfl

end Go.Proofs.YtlldglbooaefhaaGreatDoor

namespace Go.Proofs.YtlldglbooaefhaaGreatDoor
open Go Go.Hl Go.Pl
set_option maxRecDepth 10000
set_option maxHeartbeats 16000000

def cE8 (n : Int) : Prop := -9223372036854775808 ≤ n ∧ n ≤ 9223372036854775807

theorem bN4 (q : Rq) (hn : cE8 q.n) (hm : cE8 q.m) : mX Tryz.prog 78 tabs [q.cv] (fun v => v = lsC (wlR q)) := by
 refine bT (args := [.c q.cv]) Tryz.func78 rfl (by kernel_rfl) (eW tabs [q.cv]) (Nat.le_of_ble_eq_true rfl) ?_
 unfold eD
 refine R0 ?_
 refine aC fun K hK => Rg ?_
 refine AU ?_
 refine HS rfl rfl fun K' hK' => T5 ?_
 refine eP (args := [_]) 0 (wO q.n hn) rfl (by simp) ⟨rfl, rfl, rfl, rfl⟩ ?_
 rintro u rfl
 refine AX (hK' _ _ ?_)
 clear hK' K'
 refine S0 ?_
 refine T2 (hK _ _ _ ?_)
 clear hK K
 refine aC fun K hK => ?_
 refine R0 ?_
 refine aK ?_
 refine R0 ?_
 refine aH (b := (q.k == 1)) rfl (fun hb => ?_) (fun hb => ?_)
 ·
  have hk : q.k = 1 := by simpa using hb
  clear hb
  refine R0 ?_
  refine aF (RT Tryz.results78 ?_)
  exact dO [45] (lsC (wlR q)) (by rw [show wlR q = [dK, numW q.n] from by simp [wlR, *]]; simp [lsC, HV.close, fob_at, upd_at, HV.norm, HV.toC, HV.closeL, HV.toCL, CV.denil]; rfl) rfl (by simp) rfl
 have hk1 : ¬ q.k = 1 := by simpa using hb
 clear hb
 refine R0 ?_
 refine aH (b := (q.k == 2)) rfl (fun hb => ?_) (fun hb => ?_)
 ·
  have hk : q.k = 2 := by simpa using hb
  clear hb
  refine AU ?_
  refine aF (RT Tryz.results78 ?_)
  exact dO [57] (lsC (wlR q)) (by rw [show wlR q = [eB, q.t] from by simp [wlR, *]]; simp [lsC, HV.close, fob_at, upd_at, HV.norm, HV.toC, HV.closeL, HV.toCL, CV.denil]; rfl) rfl (by simp) rfl
 have hk2 : ¬ q.k = 2 := by simpa using hb
 clear hb
 refine R0 ?_
 refine aH (b := (q.k == 3)) rfl (fun hb => ?_) (fun hb => ?_)
 ·
  have hk : q.k = 3 := by simpa using hb
  clear hb
  refine R0 ?_
  refine aF (RT Tryz.results78 ?_)
  exact dO [61] (lsC (wlR q)) (by rw [show wlR q = [dL, numW q.n] from by simp [wlR, *]]; simp [lsC, HV.close, fob_at, upd_at, HV.norm, HV.toC, HV.closeL, HV.toCL, CV.denil]; rfl) rfl (by simp) rfl
 have hk3 : ¬ q.k = 3 := by simpa using hb
 clear hb
 refine R0 ?_
 refine aH (b := (q.k == 4)) rfl (fun hb => ?_) (fun hb => ?_)
 ·
  have hk : q.k = 4 := by simpa using hb
  clear hb
  refine aC fun K hK => Rg ?_
  refine AU ?_
  refine HS rfl rfl fun K' hK' => T5 ?_
  refine eP (args := [_]) 0 (wO q.m hm) rfl (by simp) ⟨rfl, rfl, rfl, rfl⟩ ?_
  rintro u rfl
  refine AX (hK' _ _ ?_)
  clear hK' K'
  refine AU ?_
  refine T2 (hK _ _ _ ?_)
  clear hK K
  refine aF (RT Tryz.results78 ?_)
  exact dO [81] (lsC (wlR q)) (by rw [show wlR q = [fJ, numW q.n, numW q.m] from by simp [wlR, *]]; simp [lsC, HV.close, fob_at, upd_at, HV.norm, HV.toC, HV.closeL, HV.toCL, CV.denil]; rfl) rfl (by simp) rfl
 have hk4 : ¬ q.k = 4 := by simpa using hb
 clear hb
 refine R0 ?_
 refine aH (b := (q.k == 5)) rfl (fun hb => ?_) (fun hb => ?_)
 ·
  have hk : q.k = 5 := by simpa using hb
  clear hb
  refine R0 ?_
  refine aF (RT Tryz.results78 ?_)
  exact dO [77] (lsC (wlR q)) (by rw [show wlR q = [eY, numW q.n] from by simp [wlR, *]]; simp [lsC, HV.close, fob_at, upd_at, HV.norm, HV.toC, HV.closeL, HV.toCL, CV.denil]; rfl) rfl (by simp) rfl
 have hk5 : ¬ q.k = 5 := by simpa using hb
 clear hb
 refine R0 ?_
 refine aH (b := (q.k == 6)) rfl (fun hb => ?_) (fun hb => ?_)
 ·
  have hk : q.k = 6 := by simpa using hb
  clear hb
  refine R0 ?_
  refine aF (RT Tryz.results78 ?_)
  exact dO [85] (lsC (wlR q)) (by rw [show wlR q = [gS, numW q.n] from by simp [wlR, *]]; simp [lsC, HV.close, fob_at, upd_at, HV.norm, HV.toC, HV.closeL, HV.toCL, CV.denil]; rfl) rfl (by simp) rfl
 have hk6 : ¬ q.k = 6 := by simpa using hb
 clear hb
 refine R0 ?_
 refine aH (b := (q.k == 7)) rfl (fun hb => ?_) (fun hb => ?_)
 ·
  have hk : q.k = 7 := by simpa using hb
  clear hb
  refine R0 ?_
  refine aF (RT Tryz.results78 ?_)
  exact dO [93] (lsC (wlR q)) (by rw [show wlR q = [gT, numW q.n] from by simp [wlR, *]]; simp [lsC, HV.close, fob_at, upd_at, HV.norm, HV.toC, HV.closeL, HV.toCL, CV.denil]; rfl) rfl (by simp) rfl
 have hk7 : ¬ q.k = 7 := by simpa using hb
 clear hb
 refine aJ ?_
 refine T0 (hK _ _ _ ?_)
 clear hK K
 refine R0 ?_
 refine aF (RT Tryz.results78 ?_)
 exact dO [89] (lsC (wlR q)) (by rw [show wlR q = [jJ] from by simp [wlR, *]]; simp [lsC, HV.close, fob_at, upd_at, HV.norm, HV.toC, HV.closeL, HV.toCL, CV.denil]; rfl) rfl (by simp) rfl

end Go.Proofs.YtlldglbooaefhaaGreatDoor

namespace Go.Pl
open Go Go.Hl

theorem bU7 {n : Nd} (h : bS n = true) (h1 : n.k ≠ 1) (h2 : n.k ≠ 2) (h3 : n.k ≠ 3) : n.k = 4 := by
 unfold bS at h
 rw [if_neg h1, if_neg (by omega)] at h
 split at h
 ·
  assumption
 ·
  cases h
theorem bN5 {q : Rq} (h : dB q = true) : (0 ≤ q.n ∧ q.n ≤ 1099511627776) ∧ (0 ≤ q.m ∧ q.m ≤ 1099511627776) := by
 unfold dB inB at h
 repeat' split at h
 all_goals first
  | cases h; done
  | (simp only [Bool.and_eq_true, decide_eq_true_eq, beq_iff_eq] at h; (try rw [iG] at h); omega)
theorem bU8 {n : Nd} (h : bS n = true) (h1 : n.k = 1) : dB n.q = true := by
 unfold bS at h
 rw [if_pos h1] at h
 simp only [Bool.and_eq_true] at h
 exact h.2.2
theorem bU9 {n : Nd} (h : bS n = true) (h1 : n.k = 4) : 1 ≤ n.n ∧ n.n ≤ 60 := by
 unfold bS inB at h
 rw [if_neg (by omega), if_neg (by omega), if_pos h1] at h
 simp only [Bool.and_eq_true, decide_eq_true_eq] at h
 omega
theorem aL2 {l : List Nd} (ht : IsTree l) {i : Nat} (hi : i < l.length) (hk : l[i].k = 1) : aft l i = i + 1 := by
 obtain ⟨_, _, c3, _⟩ := cI (ht.node _ (List.getElem_mem hi))
 refine aP5 hi ?_
 rw [List.drop_eq_getElem_cons hi]
 show skip (0 + l[i].c.toNat) _ = _
 rw [c3 hk]
 exact cE _
theorem wP {l : List Nd} (ht : IsTree l) {i : Nat} (hi : i < l.length) : cJ l l[i].c.toNat (i + 1) = aft l i := by
 obtain ⟨h1, h2, h3⟩ := fT ht hi l[i].c.toNat (Nat.le_refl _)
 obtain ⟨a1, a2, _⟩ := iO ht hi
 rw [Nat.sub_self, cE] at h2
 have := congrArg List.length (Option.some.inj h2)
 simp only [List.length_drop] at this
 omega
theorem sI {l : List Nd} (ht : IsTree l) : ∀ (m : Nat) (i : Nat) (hi : i < l.length), l.length - i ≤ m → (jL l i).length ≤ 2 * (aft l i - i) ∧ ∀ k, k ≤ l[i].c.toNat → l[i].k ≠ 1 → (dW l i k).length ≤ 2 * (cJ l k (i + 1) - (i + 1))
 | 0, i, hi, hm => by omega
 | m + 1, i, hi, hm => by
  have hkids : ∀ k, k ≤ l[i].c.toNat → l[i].k ≠ 1 → (dW l i k).length ≤ 2 * (cJ l k (i + 1) - (i + 1)) := by
   intro k
   induction k with
   | zero => intro _ _; rw [lU]; simp
   | succ k ih =>
    intro hk hn
    have h1 := ih (by omega) hn
    have hlt := iE ht hi (k := k) (by omega)
    obtain ⟨_, _, h3⟩ := fT ht hi k (by omega)
    have h4 := (sI ht m (cJ l k (i + 1)) hlt (by omega)).1
    obtain ⟨a1, a2, _⟩ := iO ht hlt
    rw [qJ ht hi (by omega), List.length_append, cK]
    omega
  refine ⟨?_, hkids⟩
  by_cases hk : l[i].k = 1
  ·
   rw [wC hi hk, aL2 ht hi hk]; simp
  ·
   have h1 := hkids _ (Nat.le_refl _) hk
   obtain ⟨_, _, h3⟩ := fT ht hi _ (Nat.le_refl l[i].c.toNat)
   rw [wP ht hi] at h1 h3
   rw [tI ht hi hk]
   simp only [List.length_cons, List.length_append, List.length_nil]
   omega
theorem aL3 {l : List Nd} (ht : IsTree l) {i k : Nat} (hi : i < l.length) (hk : k ≤ l[i].c.toNat) (hn : l[i].k ≠ 1) : (dW l i k).length ≤ 2 * (cJ l k (i + 1) - (i + 1)) := (sI ht _ i hi (Nat.le_refl _)).2 k hk hn
theorem bN6 {l : List Nd} (ht : IsTree l) {i : Nat} (hi : i < l.length) : (jL l i).length ≤ 2 * (aft l i - i) := (sI ht _ i hi (Nat.le_refl _)).1
end Go.Pl

namespace Go.Proofs.YtlldglbooaefhaaGreatDoor
open Go Go.Hl Go.Pl
set_option maxRecDepth 10000
set_option maxHeartbeats 16000000

theorem cE9 (L : List (List aE)) : lst [.tab tabs, .row 60 1 (L.map lsC)] = fob [(0, .tab tabs), (1, .row 60 1 (L.map lsC))] := by
 funext i
 match i with
 | 0 => rfl
 | 1 => rfl
 | i + 2 => simp [lst, fob, upd]
theorem aR0 (n : Nat) (ob : Ob) (e : TypeId) (sz : Nat) (T : kZ) (L : List CV) : lP (sub [0, 1] n) ob 0 [.tab T, .row e sz L] = upd (upd ob 0 (some (.tab T))) 1 (some (.row e sz L)) := rfl
theorem wQ {ob : Ob} {L : List CV} {M : List (List aE)} {m : Nat} {a : Nat} (h0 : ob 0 = some (.tab tabs)) (h1 : ob 1 = some (.row 60 1 L)) (hm : m = M.length) (hL : L = M.map lsC) :
  oJ 2 (.tup [.own 1 m, .c (.int .i64 a)]) ob (fun r ob' => ∃ os', ob' = lst os' ∧ (2 ≤ os'.length ∧ os'.length ≤ 2 + 4) ∧ r = .tup [.own 1 M.length, .c (.int .i64 a)] ∧ os' = [.tab tabs, .row 60 1 (M.map lsC)]) := by
 subst hm hL
 exact eI [] [] (.tup [.own 1 M.length, .c (.int .i64 a)]) [.tab tabs, .row 60 1 (M.map lsC)] rfl (by simp [HV.men, HV.menL]) ⟨⟨by simp [HO.men], by simp, _, h0, rfl⟩, ⟨by simp [HO.men], by simp, _, h1, rfl⟩, trivial⟩ rfl List.nodup_nil (by simp) (by simp) ⟨rfl, rfl⟩

theorem bN7 (l : List Nd) (ht : IsTree l) (m : Nat) : ∀ (L : List (List aE)) (i : Nat) (hi : i < l.length), l.length - i ≤ m → 0 < L.length → L.length + 2 * (l.length - i) < 2 ^ 40 →
  HGe Tryz.prog 52 [.own 1 L.length, .c (.slc (l.map Nd.cv)), .c (.int .i64 i)] [.tab tabs, .row 60 1 (L.map lsC)] (fun r os' => r = .tup [.own 1 (L ++ jL l i).length, .c (.int .i64 (aft l i : Nat))] ∧ os' = [.tab tabs, .row 60 1 ((L ++ jL l i).map lsC)]) := by
 induction m using Nat.strongRecOn with
 | ind m ih => ?_
 intro L i hi hfu hL0 hLl
 refine bT (args := [.own 1 L.length, .c (.slc (l.map Nd.cv)), .c (.int .i64 i)]) Tryz.func52 rfl (by kernel_rfl) (iD rfl (by simp [fX, HO.men, HV.men, HV.menL]) (by simp [HV.menL, HV.men])) (Nat.le_of_ble_eq_true rfl) ?_
 show Hw _ _ 2 _ _ _ (lst _) 2
 rw [cE9]
 have hnode := ht.node _ (List.getElem_mem hi)
 obtain ⟨c1, c2, c3, c4⟩ := cI hnode
 have hll := ht.len
 have hwi : IntKind.i64.wrap ((i : Int) + 1) = ((i + 1 : Nat) : Int) := IntWalk.i64_in _ (by omega)
 obtain ⟨a1, a2, a3⟩ := iO ht hi
 refine R0 ?_
 refine RS ?_
 have F := aI @Int.natCast_nonneg (aI @Int.ofNat_lt (aI hi (nM hi)))
 iterate 6 refine SF ?_
 refine RE ?_
 have F := hwi
 refine RF ?_
 refine aC fun K hK => ?_
 have key : ∀ fr ob nx, l[i].k ≠ 1 → Fits 2 fr ob (fin [(0, .own 1 (L.length + 1)), (1, .c (.slc (l.map Nd.cv))), (2, .c (.int .i64 ((i + 1 : Nat) : Int))), (8, .ptr 26 0)]) (fob [(0, .tab tabs), (1, .row 60 1 ((L ++ [wlN l[i]]).map lsC)), (26, .box 40 (.c l[i].cv))]) 300 → K fr ob nx := by
  rintro fr ob nx hk1 hf
  refine hK _ _ _ (bR hf ?_)
  clear hf hK K
  refine aC fun K hK => ?_
  refine R0 ?_
  refine aK ?_
  refine bE (α := {k : Nat // k ≤ l[i].c.toNat}) (fun k => (fin [(0, .own 1 (L.length + 1 + (dW l i k.1).length)), (1, .c (.slc (l.map Nd.cv))), (2, .c (.int .i64 (cJ l k.1 (i + 1) : Nat))), (48, .c (.int .i64 l[i].c)), (49, .c (.int .i64 k.1))], fob [(0, .tab tabs), (1, .row 60 1 ((L ++ wlN l[i] :: dW l i k.1).map lsC))])) 2000 (fun k => l[i].c.toNat - k.1) ⟨0, by omega⟩ (aN (by omega) (by simp [aZ, fin_at, finA_at, upd_at, HV.men, HV.menL, HV.norm, HV.toC, HV.toCL, lU, cJ]) (by simp [aW, fob_at, upd_at, none0_at, bY, HO.men, HV.men, HV.menL, HV.norm, HV.toC, HV.toCL, lU, cJ])) ?_
  rintro ⟨k, hk⟩
  obtain ⟨k1, k2, k3⟩ := fT ht hi k hk
  have hkl := aL3 ht hi hk hk1
  refine R0 ?_
  refine aC fun K hK => ?_
  refine aH (b := decide ((k : Int) < l[i].c)) rfl (fun hb => ?_) (fun hb => ?_)
  ·
   have hlt : k < l[i].c.toNat := by simp at hb; omega
   have hkid := iE ht hi hlt
   clear hb
   obtain ⟨M, hM⟩ : ∃ M, M = L ++ wlN l[i] :: dW l i k := ⟨_, rfl⟩
   have hMl : L.length + 1 + (dW l i k).length = M.length := by rw [hM]; simp; omega
   rw [← hM, hMl]
   refine aJ ?_
   refine T0 (hK _ _ _ ?_)
   clear hK K
   refine aC fun K hK => ?_
   refine aK ?_
   refine Rg ?_
   refine AU ?_
   refine HS rfl rfl fun K' hK' => T5 ?_
   refine kD [0, 1] (ih (l.length - cJ l k (i + 1)) (by omega) M (cJ l k (i + 1)) hkid (by omega) (by omega) (by omega)) rfl ⟨rfl, rfl, trivial⟩ (by simp) (by simp) ⟨rfl, rfl, rfl, rfl⟩ (by simp [fX, HO.men, HV.men, HV.menL]) (by simp [HV.menL, HV.men]) ?_
   rintro r os' ⟨rfl, rfl⟩
   rw [aR0, aL1]
   refine AX (hK' _ _ ?_)
   clear hK' K'
   refine AU ?_
   refine T2 (hK _ _ _ ?_)
   clear hK K
   refine aL (by kernel_rfl) ?_
   refine TQ (IntWalk.i64_in ((k : Int) + 1) (by omega)) ?_
   refine ⟨⟨k + 1, hlt⟩, ?_, ?_⟩
   ·
    have e1 : M ++ jL l (cJ l k (i + 1)) = L ++ wlN l[i] :: dW l i (k + 1) := by rw [hM, qJ ht hi hlt]; simp
    have e2 : (M ++ jL l (cJ l k (i + 1))).length = L.length + 1 + (dW l i (k + 1)).length := by rw [e1]; simp; omega
    simp only []
    rw [← e1, ← e2, cK]
    exact fF
   show l[i].c.toNat - (k + 1) < l[i].c.toNat - k
   omega
  refine aY (T3 ?_)
  clear hK K
  refine AX (hK _ _ _ ?_)
  clear hK K
  have hke : k = l[i].c.toNat := by simp at hb; omega
  subst hke
  rw [wP ht hi] at hkl k3
  clear hb
  refine aC fun K hK => bB (by kernel_rfl) ?_
  simp only [sR, simprocAttr]
  have F := aI @lE @lD
  refine SGF ?_
  refine cV (g := none) 2008 rfl rfl fun K' hK' => ?_
  simp only [iA, kY, sH, ↓sP, sA, tyS, simprocAttr, lE, lD]
  repeat refine AI ?_
  refine dJ (by first | rfl | simp) ?_
  try simp only [sH, ↓sP, sA, tyS, simprocAttr, lE, lD]
  refine AX (hK' _ _ ?_)
  clear hK' K'
  iterate 5 refine SGF ?_
  refine T2 (hK _ _ _ ?_)
  clear hK K
  refine aF (RT Tryz.results52 ?_)
  rw [tI ht hi hk1, wP ht hi]
  exact wQ (M := L ++ wlN l[i] :: (dW l i l[i].c.toNat ++ [[wEnd]])) rfl rfl (by simp) (by simp [lsC, wEnd])
 refine R0 ?_
 refine aK ?_
 refine R0 ?_
 refine aH (b := (l[i].k == 1)) rfl (fun hb => ?_) (fun hb => ?_)
 ·
  have hk : l[i].k = 1 := by simpa using hb
  obtain ⟨⟨r1, r2⟩, r3, r4⟩ := bN5 (bU8 hnode hk)
  clear hb
  refine aC fun K hK => Rg ?_
  have F := aI @lE @lD
  refine AU ?_
  refine HS rfl rfl fun K' hK' => T6 ?_
  refine eP (args := [_]) 0 (bN4 l[i].q ⟨by omega, by omega⟩ ⟨by omega, by omega⟩) rfl (by simp) ⟨rfl, rfl, rfl, rfl⟩ ?_
  rintro u rfl
  refine AX (hK' _ _ ?_)
  clear hK' K'
  refine AU ?_
  refine T2 (hK _ _ _ ?_)
  clear hK K
  refine aF (RT Tryz.results52 ?_)
  rw [wC hi hk, aL2 ht hi hk]
  exact wQ (M := L ++ [wlR l[i].q]) rfl rfl (by simp) (by simp)
 have hk1 : l[i].k ≠ 1 := by simpa using hb
 clear hb
 refine R0 ?_
 refine aH (b := (l[i].k == 2)) rfl (fun hb => ?_) (fun hb => ?_)
 ·
  have hk : l[i].k = 2 := by simpa using hb
  have hwl : wlN l[i] = [pD] := by simp [wlN, hk]
  clear hb
  refine bB (by kernel_rfl) ?_
  simp only [sR, simprocAttr]
  refine SG0 ?_
  refine cV (g := none) 74 rfl rfl fun K' hK' => ?_
  simp only [iA, kY, sH, ↓sP, sA, tyS, simprocAttr]
  repeat refine AI ?_
  refine dJ (by first | rfl | simp) ?_
  try simp only [sH, ↓sP, sA, tyS, simprocAttr]
  refine AX (hK' _ _ ?_)
  clear hK' K'
  iterate 3 refine SG0 ?_
  refine T4 ?_
  exact key _ _ _ hk1 (by rw [hwl]; exact aN (by omega) (by simp [aZ, fin_at, finA_at, upd_at, HV.men, HV.menL, HV.norm, HV.toC, HV.toCL, lsC, pD, pE, dC]) (by simp [aW, fob_at, upd_at, none0_at, bY, HO.men, HV.men, HV.menL, HV.norm, HV.toC, HV.toCL, lsC, pD, pE, dC]))
 have hk2 : l[i].k ≠ 2 := by simpa using hb
 clear hb
 refine R0 ?_
 refine aH (b := (l[i].k == 3)) rfl (fun hb => ?_) (fun hb => ?_)
 ·
  have hk : l[i].k = 3 := by simpa using hb
  have hwl : wlN l[i] = [pE] := by simp [wlN, hk]
  clear hb
  refine bB (by kernel_rfl) ?_
  simp only [sR, simprocAttr]
  refine SG0 ?_
  refine cV (g := none) 82 rfl rfl fun K' hK' => ?_
  simp only [iA, kY, sH, ↓sP, sA, tyS, simprocAttr]
  repeat refine AI ?_
  refine dJ (by first | rfl | simp) ?_
  try simp only [sH, ↓sP, sA, tyS, simprocAttr]
  refine AX (hK' _ _ ?_)
  clear hK' K'
  iterate 3 refine SG0 ?_
  refine T4 ?_
  exact key _ _ _ hk1 (by rw [hwl]; exact aN (by omega) (by simp [aZ, fin_at, finA_at, upd_at, HV.men, HV.menL, HV.norm, HV.toC, HV.toCL, lsC, pD, pE, dC]) (by simp [aW, fob_at, upd_at, none0_at, bY, HO.men, HV.men, HV.menL, HV.norm, HV.toC, HV.toCL, lsC, pD, pE, dC]))
 have hk3 : l[i].k ≠ 3 := by simpa using hb
 have hk4 := bU7 hnode hk1 hk2 hk3
 clear hb
 refine R0 ?_
 refine aH (b := (l[i].k == 4)) rfl (fun hb => ?_) (fun hb => ?_)
 ·
  have hwl : wlN l[i] = [dC, numW l[i].n] := by simp [wlN, hk2, hk3]
  have hnn := bU9 hnode hk4
  clear hb
  refine bB (by kernel_rfl) ?_
  simp only [sR, simprocAttr]
  iterate 3 refine SG0 ?_
  refine bI (g := none) rfl rfl fun K' hK' => T5 ?_
  refine eP (args := [_]) 0 (wO l[i].n ⟨by omega, by omega⟩) rfl (by simp) ⟨rfl, rfl, rfl, rfl⟩ ?_
  rintro u rfl
  refine AX (hK' _ _ ?_)
  clear hK' K'
  refine cV (g := none) 102 rfl rfl fun K' hK' => ?_
  simp only [iA, kY, sH, ↓sP, sA, tyS, simprocAttr]
  repeat refine AI ?_
  refine dJ (by first | rfl | simp) ?_
  try simp only [sH, ↓sP, sA, tyS, simprocAttr]
  refine AX (hK' _ _ ?_)
  clear hK' K'
  iterate 3 refine SG0 ?_
  refine T4 ?_
  exact key _ _ _ hk1 (by rw [hwl]; exact aN (by omega) (by simp [aZ, fin_at, finA_at, upd_at, HV.men, HV.menL, HV.norm, HV.toC, HV.toCL, lsC, pD, pE, dC]) (by simp [aW, fob_at, upd_at, none0_at, bY, HO.men, HV.men, HV.menL, HV.norm, HV.toC, HV.toCL, lsC, pD, pE, dC]))
 rw [hk4] at hb
 cases hb

end Go.Proofs.YtlldglbooaefhaaGreatDoor

namespace Go.Pl
open Go Go.Hl

theorem zJ : ∀ (l : List Pr) (i : Nat), fU l = true → fU (l.take i) = true
 | [], i, h => by simpa using h
 | r :: l, 0, h => rfl
 | r :: l, i + 1, h => by
  simp only [fU, Bool.and_eq_true, Bool.not_eq_true'] at h
  simp only [List.take_succ_cons, fU, Bool.and_eq_true, Bool.not_eq_true']
  refine ⟨?_, zJ l i h.2⟩
  rw [← Bool.not_eq_true, List.contains_iff_mem] at h ⊢
  intro hm
  rw [List.map_take] at hm
  exact h.1 (List.mem_of_mem_take hm)
def bC4 (l : List Pr) (r : Pr) : Bool := (l.map Pr.a).contains r.a || (!dN r.a || (!(gL r.b).isSome || (!(gL r.c).isSome || (!inB r.g 0 vA || !cP r.t))))
structure RlSt (l : List Pr) (i : Nat) : Prop where
 le : i ≤ l.length
 all : (l.take i).all kF = true
 apart : fU (l.take i) = true
theorem RlSt.zero (l : List Pr) : RlSt l 0 := ⟨by omega, by simp, by simp [fU]⟩
theorem aV6 (l : List Pr) (r : Pr) : bC4 l r = !(!(l.map Pr.a).contains r.a && kF r) := by
 simp only [bC4, kF]
 cases (l.map Pr.a).contains r.a <;> cases dN r.a <;> cases (gL r.b).isSome <;> cases (gL r.c).isSome <;> cases inB r.g 0 vA <;> cases cP r.t <;> rfl
theorem RlSt.succ {l : List Pr} {i : Nat} (h : RlSt l i) (hi : i < l.length) (hb : bC4 (l.take i) l[i] = false) : RlSt l (i + 1) := by
 rw [aV6] at hb
 simp only [Bool.not_eq_false', Bool.and_eq_true] at hb
 refine ⟨hi, ?_, ?_⟩
 ·
  rw [List.take_succ_eq_append_getElem hi, List.all_append, h.all, List.all_cons, hb.2]; rfl
 ·
  rw [List.take_succ_eq_append_getElem hi, tH, h.apart, hb.1]; rfl
theorem bV0 {l : List Pr} {i : Nat} (hi : i < l.length) (hb : bC4 (l.take i) l[i] = true) : (l.all kF && fU l) = false := by
 rw [Bool.eq_false_iff]
 intro h
 simp only [Bool.and_eq_true] at h
 have h1 := zJ l (i + 1) h.2
 rw [List.take_succ_eq_append_getElem hi, tH] at h1
 simp only [Bool.and_eq_true] at h1
 have h2 := List.all_eq_true.1 h.1 _ (List.getElem_mem hi)
 rw [aV6, h1.2, h2] at hb
 cases hb
theorem bV1 {p : Po} (h : (p.r.all kF && fU p.r) = false) : fV p = false := by
 simp only [fV, h, Bool.and_false]
def nmD (l : List Pr) : MD := l.foldl (fun D r => jP D r.a (.val (.bool true))) []
theorem bN8 (l : List Pr) (r : Pr) : nmD (l ++ [r]) = jP (nmD l) r.a (.val (.bool true)) := by simp [nmD, List.foldl_append]
theorem cF0 (D : MD) (k j : aE) (h : k ≠ j) (m : MV) : cD (jP D k m) j = cD D j := by
 induction D with
 | nil => simp [jP, cD, h]
 | cons x D ih =>
  obtain ⟨a, b⟩ := x
  simp only [jP]
  split
  ·
   rename_i e; subst e; simp [cD, h]
  ·
   simp only [cD, ih]
theorem bN9 (s : aE) : ∀ (l : List Pr) (D : MD), cD (l.foldl (fun D r => jP D r.a (.val (.bool true))) D) s = if (l.map Pr.a).contains s then some (.val (.bool true)) else cD D s
 | [], D => rfl
 | r :: l, D => by
  rw [List.foldl_cons, bN9 s l, List.map_cons, List.contains_cons]
  by_cases h : r.a = s
  ·
   subst h
   rw [cC]
   simp
  ·
   rw [cF0 _ _ _ h]
   have h2 : (s == r.a) = false := by simp [Ne.symm h]
   rw [h2, Bool.false_or]
theorem aV7 (s : aE) (l : List Pr) : cD (nmD l) s = if (l.map Pr.a).contains s then some (.val (.bool true)) else none := bN9 s l []
def xK (p : Po) : Bool := !dN p.n || (!inB p.v 1 1099511627776 || decide ((16 : Int) < p.r.length))
def nN (c : Bool) (r : Pr) : Bool := c || (!dN r.a || (!(gL r.b).isSome || (!(gL r.c).isSome || (!inB r.g 0 1099511627776 || !cP r.t))))
theorem aL4 (l : List Pr) (r : Pr) : nN ((l.map Pr.a).contains r.a) r = bC4 l r := by simp only [nN, bC4, iG]
theorem bC5 {p : Po} (h : xK p = true) : fV p = false := by
 unfold xK at h
 rw [fV, iG]
 cases h1 : dN p.n
 ·
  rfl
 ·
  cases h2 : inB p.v 1 1099511627776
  ·
   rfl
  ·
   rw [h1, h2] at h
   have : (decide (p.r.length ≤ 16)) = false := by simp at h ⊢; omega
   rw [this]; rfl
theorem bO0 {p : Po} (h : xK p = false) (h2 : RlSt p.r p.r.length) : fV p = true := by
 unfold xK at h
 rw [fV, iG]
 have h3 := h2.all
 have h4 := h2.apart
 rw [List.take_length] at h3 h4
 simp only [Bool.or_eq_false_iff, Bool.not_eq_false', decide_eq_false_iff_not] at h
 have : (decide (p.r.length ≤ 16)) = true := by simp; omega
 rw [h.1, h.2.1, this, h3, h4]; rfl
structure PoSz (p : Po) : Prop where
 n : p.n.length < 2 ^ 63
 r : p.r.length < 2 ^ 40
 a : ∀ r ∈ p.r, r.a.length < 2 ^ 63
 t : ∀ r ∈ p.r, ∀ n ∈ r.t, n.q.t.length < 2 ^ 63
end Go.Pl

namespace Go.Proofs.YtlldglbooaefhaaGreatDoor
open Go Go.Hl Go.Pl
set_option maxRecDepth 10000
set_option maxHeartbeats 16000000

theorem sJ (p : Po) (hp : PoSz p) : bN Tryz.prog 29 [p.cv] (fun v => v = .bool (fV p)) := by
 have hpn := hp.n
 have hpr := hp.r
 refine FW Tryz.func29 ?_
 refine R0 ?_
 refine aC fun K hK => ?_
 refine aC fun K hK => ?_
 have key : ∀ (b : Bool) fr ob nx, b = xK p → Fits 0 fr ob (fin [(1, .ptr 0 0), (21, .c (.bool b))]) (fob [(0, .box 45 (.c p.cv))]) 600 → K fr ob nx := by
  rintro b fr ob nx rfl hf
  refine hK _ _ _ (bR hf ?_)
  clear hf hK K
  refine aH (b := xK p) rfl (fun hb => ?_) (fun hb => ?_)
  ·
   refine R0 ?_
   refine aF (RT Tryz.results29 ?_)
   exact aG [] (.bool false) rfl (by rw [bC5 hb])
  refine aJ ?_
  refine T0 (hK _ _ _ ?_)
  clear hK K
  refine R0 ?_
  refine aC fun K hK => ?_
  refine AU ?_
  refine aK ?_
  have hhead := hb
  clear hb
  refine bE (α := {i : Nat // RlSt p.r i}) (fun i => (fin [(3, .mapr 600), (24, .c (.slc (p.r.map Pr.cv))), (25, .c (.int .i64 p.r.length)), (26, .c (.int .i64 i.1))], fob [(600, .mp 0 0 (nmD (p.r.take i.1)))])) 2000 (fun i => p.r.length - i.1) ⟨0, RlSt.zero p.r⟩ (aN (by omega) (by simp [aZ, fin_at, finA_at, upd_at, HV.men, HV.menL, HV.norm, HV.toC, HV.toCL, nmD]) (by simp [aW, fob_at, upd_at, none0_at, bY, HO.men, HV.men, HV.menL, HV.norm, HV.toC, HV.toCL, nmD])) ?_
  rintro ⟨i, hΦ⟩
  refine R0 ?_
  refine aC fun K hK => ?_
  refine aH (b := decide ((i : Int) < p.r.length)) rfl (fun hb => ?_) (fun hb => ?_)
  ·
   have hlt : i < p.r.length := by simpa using hb
   clear hb
   obtain ⟨r, hr⟩ : ∃ r, r = p.r[i] := ⟨_, rfl⟩
   have hmem : r ∈ p.r := by rw [hr]; exact List.getElem_mem hlt
   have hra := hp.a r hmem
   have hrt := hp.t r hmem
   have hra2 : r.a.length ≤ maxLen := by simp [maxLen]; omega
   have hiv : mH (cD (nmD (p.r.take i)) r.a) = true := by rw [aV7]; split <;> rfl
   have hva : Go.Hl.xR (CV.bool false) (cD (nmD (p.r.take i)) r.a) = CV.bool (((p.r.take i).map Pr.a).contains r.a) := by rw [aV7]; split <;> simp_all [Go.Hl.xR]
   refine aJ ?_
   refine T0 (hK _ _ _ ?_)
   clear hK K
   refine aC fun K hK => ?_
   refine aK ?_
   refine RS ?_
   iterate 4 refine S0 ?_ (e := fun _ h_ => by simp only [sH, ↓sP, sA, tyS, simprocAttr, Int.natCast_nonneg, Int.ofNat_lt, hlt, bA hlt, ← hr]; exact AX h_)
   refine RE ?_
   refine aC fun K hK => ?_
   refine aC fun K hK => ?_
   have key : ∀ (b : Bool) fr ob nx, b = nN (((p.r.take i).map Pr.a).contains r.a) r → Fits 0 fr ob (fin [(3, .mapr 600), (24, .c (.slc (p.r.map Pr.cv))), (25, .c (.int .i64 p.r.length)), (26, .c (.int .i64 i)), (5, .ptr 2012 0), (63, .c (.bool b))]) (fob [(600, .mp 0 0 (nmD (p.r.take i))), (2012, .box 54 (.c r.cv))]) 3000 → K fr ob nx := by
    rintro b fr ob nx rfl hf
    refine hK _ _ _ (bR hf ?_)
    clear hf hK K
    refine aH (b := nN (((p.r.take i).map Pr.a).contains r.a) r) rfl (fun hb => ?_) (fun hb => ?_)
    ·
     refine R0 ?_
     refine aF (RT Tryz.results29 ?_)
     exact aG [] (.bool false) rfl (by rw [bV1 (bV0 hlt (by rw [← aL4, ← hr]; exact hb))])
    have hΦ2 := hΦ.succ hlt (by rw [← aL4, ← hr]; exact hb)
    have hnm : jP (nmD (p.r.take i)) r.a (.val (.bool true)) = nmD (p.r.take (i + 1)) := by rw [List.take_succ_eq_append_getElem hlt, bN8, hr]
    clear hb
    refine aJ ?_
    refine T0 (hK _ _ _ ?_)
    clear hK K
    refine Rg ?_
    have F := aI hra2 (aI hiv hnm)
    refine AU ?_
    refine T2 (hK _ _ _ ?_)
    clear hK K
    refine aL (by kernel_rfl) ?_
    refine TQ (IntWalk.i64_in ((i : Int) + 1) (by omega)) ?_
    refine ⟨⟨i + 1, hΦ2⟩, fF, ?_⟩
    show p.r.length - (i + 1) < p.r.length - i
    omega
   refine Rg ?_
   have F := aI hra2 (aI hiv hva)
   refine AU ?_
   refine aD 33 rfl (fun h7_33 => ?_) (fun h7_33 => ?_)
   ·
    have F := aI hra2 (aI hiv (aI hva h7_33))
    refine AU ?_
    refine T4 ?_
    exact key true _ _ _ (by simp only [nN, h7_33, Bool.not_true, Bool.not_false, Bool.true_or, Bool.false_or]) (fF)
   have F := aI hra2 (aI hiv (aI hva h7_33))
   refine AU ?_
   refine SCF (aB5 r.a (by omega)) ?_
   refine AU ?_
   refine aD 37 rfl (fun h7_37 => ?_) (fun h7_37 => ?_)
   ·
    have F := aI hra2 (aI hiv (aI hva (aI h7_33 h7_37)))
    refine AU ?_
    refine SCF (aV1 r.b) ?_
    refine AU ?_
    refine aD 43 rfl (fun h7_43 => ?_) (fun h7_43 => ?_)
    ·
     have F := aI hra2 (aI hiv (aI hva (aI h7_33 (aI h7_37 h7_43))))
     refine AU ?_
     refine SCF (aV1 r.c) ?_
     refine AU ?_
     refine aD 49 rfl (fun h7_49 => ?_) (fun h7_49 => ?_)
     ·
      have F := aI hra2 (aI hiv (aI hva (aI h7_33 (aI h7_37 (aI h7_43 h7_49)))))
      refine AU ?_
      refine SCF (gV _ _ _) ?_
      refine AU ?_
      refine aD 55 rfl (fun h7_55 => ?_) (fun h7_55 => ?_)
      ·
       have F := aI hra2 (aI hiv (aI hva (aI h7_33 (aI h7_37 (aI h7_43 (aI h7_49 h7_55))))))
       refine AU ?_
       refine SCF (qT r.t hrt) ?_
       refine AU ?_
       refine aD 61 rfl (fun h7_61 => ?_) (fun h7_61 => ?_)
       ·
        simp only [h7_61]
        refine T4 ?_
        exact key false _ _ _ (by simp only [nN, h7_33, h7_37, h7_43, h7_49, h7_55, h7_61, Bool.not_true, Bool.not_false, Bool.true_or, Bool.false_or]) (fF)
       simp only [h7_61]
       refine T4 ?_
       exact key true _ _ _ (by simp only [nN, h7_33, h7_37, h7_43, h7_49, h7_55, h7_61, Bool.not_true, Bool.not_false, Bool.true_or, Bool.false_or]) (fF)
      have F := aI hra2 (aI hiv (aI hva (aI h7_33 (aI h7_37 (aI h7_43 (aI h7_49 h7_55))))))
      refine AU ?_
      refine T4 ?_
      exact key true _ _ _ (by simp only [nN, h7_33, h7_37, h7_43, h7_49, h7_55, Bool.not_true, Bool.not_false, Bool.true_or, Bool.false_or]) (fF)
     have F := aI hra2 (aI hiv (aI hva (aI h7_33 (aI h7_37 (aI h7_43 h7_49)))))
     refine AU ?_
     refine T4 ?_
     exact key true _ _ _ (by simp only [nN, h7_33, h7_37, h7_43, h7_49, Bool.not_true, Bool.not_false, Bool.true_or, Bool.false_or]) (fF)
    have F := aI hra2 (aI hiv (aI hva (aI h7_33 (aI h7_37 h7_43))))
    refine AU ?_
    refine T4 ?_
    exact key true _ _ _ (by simp only [nN, h7_33, h7_37, h7_43, Bool.not_true, Bool.not_false, Bool.true_or, Bool.false_or]) (fF)
   have F := aI hra2 (aI hiv (aI hva (aI h7_33 h7_37)))
   refine AU ?_
   refine T4 ?_
   exact key true _ _ _ (by simp only [nN, h7_33, h7_37, Bool.not_true, Bool.not_false, Bool.true_or, Bool.false_or]) (fF)
  refine aY (T3 ?_)
  clear hK K
  refine AX (hK _ _ _ ?_)
  clear hK K
  refine R0 ?_
  refine aF (RT Tryz.results29 ?_)
  have hie : i = p.r.length := by have := hΦ.le; simp at hb; omega
  subst hie
  exact aG [] (.bool true) rfl (by rw [bO0 hhead hΦ])
 refine Rg ?_
 refine AU ?_
 refine SC (aB5 p.n (by omega)) ?_
 refine AU ?_
 refine aD 8 rfl (fun h1_8 => ?_) (fun h1_8 => ?_)
 ·
  have F := h1_8
  refine AU ?_
  refine SCF (gV _ _ _) ?_
  refine AU ?_
  refine aD 13 rfl (fun h1_13 => ?_) (fun h1_13 => ?_)
  ·
   have F := aI h1_8 h1_13
   refine AU ?_
   refine aD 20 rfl (fun h1_20 => ?_) (fun h1_20 => ?_)
   ·
    simp only [h1_20]
    refine T4 ?_
    exact key true _ _ _ (by simp only [xK, h1_8, h1_13, h1_20, Bool.not_true, Bool.not_false, Bool.true_or, Bool.false_or]) (fF)
   simp only [h1_20]
   refine T4 ?_
   exact key false _ _ _ (by simp only [xK, h1_8, h1_13, h1_20, Bool.not_true, Bool.not_false, Bool.true_or, Bool.false_or]) (fF)
  have F := aI h1_8 h1_13
  refine AU ?_
  refine T4 ?_
  exact key true _ _ _ (by simp only [xK, h1_8, h1_13, Bool.not_true, Bool.not_false, Bool.true_or, Bool.false_or]) (fF)
 have F := h1_8
 refine AU ?_
 refine T4 ?_
 exact key true _ _ _ (by simp only [xK, h1_8, Bool.not_true, Bool.not_false, Bool.true_or, Bool.false_or]) (fF)

end Go.Proofs.YtlldglbooaefhaaGreatDoor

namespace Go.Pl
open Go Go.Hl

theorem bV2 (q : Rq) : (wlR q).length ≤ 5 := by
 unfold wlR
 repeat' split
 all_goals simp
theorem bV3 (n : Nd) : (wlN n).length ≤ 5 := by
 unfold wlN
 repeat' split
 all_goals simp
theorem uA : ∀ (f m : Nat) (l : List Nd), ∀ x ∈ dP f m l, x.length ≤ 5
 | 0, m, l, x, h => by simp [dP] at h
 | f + 1, 0, l, x, h => by cases l <;> simp [dP] at h
 | f + 1, m + 1, [], x, h => by simp [dP] at h
 | f + 1, m + 1, n :: l, x, h => by
  simp only [dP] at h
  split at h
  ·
   rcases List.mem_cons.1 h with rfl | h
   ·
    exact bV2 _
   ·
    exact uA f _ _ x h
  ·
   rcases List.mem_cons.1 h with rfl | h
   ·
    exact bV3 _
   ·
    rcases List.mem_append.1 h with h | h
    ·
     exact uA f _ _ x h
    ·
     rcases List.mem_cons.1 h with rfl | h
     ·
      simp
     ·
      exact uA f _ _ x h
theorem wR (t : List Nd) : jL t 0 = aP9 t := by simp [jL, aP9]
def pK (p : Po) (i : Nat) : List (List aE) := [wPolicy, p.n, numW p.v] :: (p.r.take i).flatMap jK
theorem zK {p : Po} {i : Nat} (hi : i < p.r.length) : pK p (i + 1) = pK p i ++ jK p.r[i] := by
 simp only [pK, List.take_succ_eq_append_getElem hi, List.flatMap_append, List.flatMap_cons, List.flatMap_nil, List.append_nil, List.cons_append]
theorem aL5 (p : Po) : pK p p.r.length = pF p := by simp [pK, pF]
theorem bC6 {r : Pr} (h : kF r = true) : (jK r).length ≤ 121 := by
 obtain ⟨_, ht, _⟩ := wE h
 have h0 : 0 < r.t.length := ht.ne
 have h1 := bN6 ht h0
 have h2 := (iO ht h0).2.1
 have h3 := ht.len
 rw [wR] at h1
 simp only [jK, List.length_cons]
 omega
theorem aL6 {p : Po} (h : ∀ r ∈ p.r, kF r = true) : ∀ i, i ≤ p.r.length → (pK p i).length ≤ 1 + 121 * i
 | 0, _ => by simp [pK]
 | i + 1, hi => by
  have := aL6 h i (by omega)
  have h2 := bC6 (h p.r[i] (List.getElem_mem _))
  rw [zK (by omega), List.length_append]
  omega
theorem bV4 (p : Po) : ∀ x ∈ pF p, x.length < 2 ^ 40 := by
 intro x hx
 have : x.length ≤ 5 := by
  simp only [pF] at hx
  rcases List.mem_cons.1 hx with rfl | hx
  ·
   simp
  ·
   obtain ⟨r, _, hx⟩ := List.mem_flatMap.1 hx
   simp only [jK] at hx
   rcases List.mem_cons.1 hx with rfl | hx
   ·
    simp
   ·
    exact uA _ _ _ x hx
 omega
end Go.Pl
