/- Plain Lean: a policy that was read is of small size (28.5). By an AI agent. -/
import Derived.Test.YtlldglbooaefhaaDoorHvV1
import Derived.Test.YtlldglbooaefhaaDoorHvTp
import Derived.Test.YtlldglbooaefhaaDoorHlCl
import Derived.Test.YtlldglbooaefhaaDoorHvUd
import Derived.Shelf.LaysM
import Derived.Shelf.Strconv.Itoa4
import Derived.Test.YtlldglbooaefhaaDoorHlExt
import Derived.Test.YtlldglbooaefhaaDoorHlTlaw
import Derived.Test.YtlldglbooaefhaaDoorPl28d
set_option linter.unusedSimpArgs false
set_option linter.unusedVariables false
set_option linter.defProp false
namespace Go.Proofs.YtlldglbooaefhaaDoor
open Go Go.Hl Go.Pl
set_option maxRecDepth 10000
set_option maxHeartbeats 16000000

def bW9 (ls : List (List aE)) (a n : Nat) (T : List Nd) (X : Option (List Nd) × List (List aE)) (r : HV) (os' : List HO) : Prop :=
 ∃ T' : List Nd, r = .tup [.own 1 T'.length, .c (.bool X.1.isSome)] ∧ os' = [.box 67 (.c (rdr ls (ls.length - X.2.length))), .row 48 7 (T'.map Nd.cv)] ∧ (∀ t, X.1 = some t → T' = T ++ t) ∧ 0 < T'.length ∧ T'.length + X.2.length ≤ n + (ls.length - a)
theorem cE9 (ls : List (List aE)) (a : Nat) (T : List Nd) : lst [.box 67 (.c (rdr ls a)), .row 48 7 (T.map Nd.cv)] = fob [(0, .box 67 (.c (rdr ls a))), (1, .row 48 7 (T.map Nd.cv))] := by
 funext i
 match i with
 | 0 => rfl
 | 1 => rfl
 | i + 2 => simp [lst, fob, upd]
theorem bB9 (n : Nat) (ob : Ob) (e : TypeId) (sz : Nat) (v : CV) (L : List CV) (t : TypeId) : jK (sub [0, 1] n) ob 0 [.box t (.c v), .row e sz L] = upd (upd ob 0 (some (.box t (.c v)))) 1 (some (.row e sz L)) := rfl
theorem aK7 (n m : Nat) (v : CV) : HV.ren (sub [0, 1] n) (.tup [.own 1 m, .c v]) = .tup [.own 1 m, .c v] := rfl
theorem innR_c {w : List aE} {n : Nd} (h : jF w = some n) : n.c = 0 := by
 unfold jF at h
 split at h
 ·
  cases h; rfl
 split at h
 ·
  cases h; rfl
 split at h
 ·
  cases hn : bH (wd w 1) with
  | none => rw [hn] at h; cases h
  | some x => rw [hn] at h; cases h; rfl
 cases h
theorem nZ {ob : Ob} {ls : List (List aE)} {a b n m : Nat} {T T' : List Nd} {L : List CV} {bo : Bool} {X : Option (List Nd) × List (List aE)} (h0 : ob 0 = some (.box 67 (.c (rdr ls b)))) (h1 : ob 1 = some (.row 48 7 L)) (hm : m = T'.length) (hL : L = T'.map Nd.cv) (hb : b = ls.length - X.2.length) (hbo : bo = X.1.isSome)
  (hT : ∀ t, X.1 = some t → T' = T ++ t) (hp : 0 < T'.length) (hl : T'.length + X.2.length ≤ n + (ls.length - a)) :
  lN 2 (.tup [.own 1 m, .c (.bool bo)]) ob (fun r ob' => ∃ os', ob' = lst os' ∧ (2 ≤ os'.length ∧ os'.length ≤ 2 + 4) ∧ bW9 ls a n T X r os') := by
 subst hb hbo hm hL
 exact dY [] [] (.tup [.own 1 T'.length, .c (.bool X.1.isSome)]) [.box 67 (.c (rdr ls (ls.length - X.2.length))), .row 48 7 (T'.map Nd.cv)] rfl (by simp [HV.men, HV.menL]) ⟨⟨by simp [HO.men, HV.men], by simp, _, h0, by simp [HO.close, HV.close, HO.ren, HV.ren, HV.norm, fL, HV.toC, rdr, CV.denil, CV.denilL, aQ]⟩, ⟨by simp [HO.men], by simp, _, h1, rfl⟩, trivial⟩ rfl List.nodup_nil (by simp) (by simp) ⟨T', rfl, rfl, hT, hp, hl⟩

theorem bV1 (f : Nat) : ∀ (ls : List (List aE)) (a : Nat) (T : List Nd), a ≤ ls.length → 2 * (ls.length - a) + 1 ≤ f → 0 < T.length → ls.length < 2 ^ 39 → T.length + (ls.length - a) < 2 ^ 39 →
  HGe Tryd.prog 60 [.ptr 0 0, .own 1 T.length] [.box 67 (.c (rdr ls a)), .row 48 7 (T.map Nd.cv)] (bW9 ls a T.length T (rdN f (ls.drop a))) := by
 induction f using Nat.strongRecOn with
 | ind f ih => ?_
 intro ls a T hal hfu hT0 hls hTl
 refine bP (args := [.ptr 0 0, .own 1 T.length]) Tryd.func60 rfl (by kernel_rfl) (eW rfl (by simp [dZ, HO.men, HV.men, HV.menL]) (by simp [HV.menL, HV.men])) (Nat.le_of_ble_eq_true rfl) ?_
 show Hw _ _ 2 _ _ _ (lst _) 2
 rw [cE9]
 refine R0 ?_
 refine aC fun K hK => ?_
 refine aC fun K hK => Rg ?_
 refine S0 ?_
 refine HS rfl rfl fun K' hK' => T5 ?_
 refine dO (args := []) (aK5 ls a (by omega)) rfl (by simp) ⟨rfl, rfl, rfl, rfl⟩ ?_
 rintro u x v' ⟨rfl, rfl, rfl⟩
 refine AX (hK' _ _ ?_)
 clear hK' K'
 iterate 6 refine S0 ?_
 refine T2 (hK _ _ _ ?_)
 clear hK K
 refine R0 ?_
 refine aG (b := (jM ls a).isSome) rfl (fun hb => ?_) (fun hb => ?_)
 ·
  obtain ⟨q, hq⟩ := Option.isSome_iff_exists.1 hb
  obtain ⟨hl, hq2⟩ : ∃ h : a < ls.length, fB ls[a] = some q := by
   unfold jM at hq
   split at hq
   ·
    exact ⟨by assumption, hq⟩
   cases hq
  obtain ⟨g, rfl⟩ : ∃ g, f = g + 1 := ⟨f - 1, by omega⟩
  rw [List.drop_eq_getElem_cons hl, nE hq2]
  simp only [hq, Option.isSome_some, if_true, Option.getD_some]
  refine aC fun K hK => Rg ?_
  iterate 7 refine S0 ?_
  refine T2 (hK _ _ _ ?_)
  clear hK K
  refine aF (RT Tryd.results60 ?_)
  exact nZ (T' := T ++ [⟨1, 0, 0, q⟩]) rfl rfl (by simp) (by simp) (by simp only [List.length_drop]; omega) rfl (fun t h => by cases h; rfl) (by simp) (by simp only [List.length_append, List.length_cons, List.length_nil, List.length_drop]; omega)
 have hno : jM ls a = none := by simpa using hb
 simp only [hno, Option.isSome_none, Bool.false_eq_true, if_false, Option.getD_none]
 clear hb
 refine aJ ?_
 refine T0 (hK _ _ _ ?_)
 clear hK K
 refine aC fun K hK => Rg ?_
 refine S0 ?_
 refine HS rfl rfl fun K' hK' => T5 ?_
 refine dO (args := []) (aK6 ls a (by omega)) rfl (by simp) ⟨rfl, rfl, rfl, rfl⟩ ?_
 rintro u x v' ⟨rfl, rfl, rfl⟩
 refine AX (hK' _ _ ?_)
 clear hK' K'
 iterate 6 refine S0 ?_
 refine T2 (hK _ _ _ ?_)
 clear hK K
 refine aC fun K hK => ?_
 refine R0 ?_
 refine aG (b := !(jH ls a).isSome) rfl (fun hb => ?_) (fun hb => ?_)
 ·
  have hi : jH ls a = none := by simpa using hb
  have hX : rdN f (ls.drop a) = (none, ls.drop a) := by
   obtain ⟨g, rfl⟩ : ∃ g, f = g + 1 := ⟨f - 1, by omega⟩
   rcases Nat.lt_or_ge a ls.length with hl | hl
   ·
    rw [fR hl] at hno
    unfold jH at hi
    rw [dif_pos hl] at hi
    rw [List.drop_eq_getElem_cons hl, nF hno hi]
   rw [List.drop_eq_nil_of_le hl]; rfl
  rw [hX]
  simp only [hi, Option.isSome_none, Bool.false_eq_true, if_false]
  refine R0 ?_
  refine aF (RT Tryd.results60 ?_)
  exact nZ (T' := T) rfl rfl rfl rfl (by simp only [List.length_drop]; omega) rfl (fun t h => by cases h) hT0 (by simp only [List.length_drop]; omega)
 refine aJ ?_
 refine T0 (hK _ _ _ ?_)
 clear hK K
 obtain ⟨nd, hi⟩ : ∃ nd, jH ls a = some nd := by
  cases h : jH ls a with
  | none => rw [h] at hb; simp at hb
  | some nd => exact ⟨nd, rfl⟩
 obtain ⟨hl, hi2⟩ : ∃ h : a < ls.length, jF ls[a] = some nd := by
  unfold jH at hi
  split at hi
  ·
   exact ⟨by assumption, hi⟩
  cases hi
 rw [fR hl] at hno
 have hc0 := innR_c hi2
 have hnd : ({ k := nd.k, n := nd.n, c := 0, q := nd.q } : Nd) = nd := by cases nd; simp only at hc0; rw [hc0]
 have hst := KdSt.init hl hfu hno hi2
 simp only [hi, Option.isSome_some, if_true, Option.getD_some]
 clear hb
 refine R0 ?_
 refine aC fun K hK => Rg ?_
 iterate 5 refine S0 ?_
 refine T2 (hK _ _ _ ?_)
 clear hK K
 refine aC fun K hK => ?_
 refine aK ?_
 refine bM (α := {y : Nat × List Nd × Nat × Nat // KdSt f ls a nd y.1 y.2.1 y.2.2.1 y.2.2.2}) (fun y => (fin [(0, .ptr 0 0), (1, .own 1 (T.length + 1 + y.1.2.1.length)), (10, .c (.int .i64 T.length))], fob [(0, .box 67 (.c (rdr ls y.1.2.2.2))), (1, .row 48 7 ((T ++ { nd with c := (y.1.2.2.1 : Int) } :: y.1.2.1).map Nd.cv))])) 2000 (fun y => y.1.1) ⟨(f - 1, [], 0, a + 1), hst⟩ (aO (by omega) (by simp [bB, fin_at, finA_at, upd_at, HV.men, HV.menL, HV.norm, HV.toC, HV.toCL, hnd]) (by simp [aZ, fob_at, upd_at, none0_at, bZ, HO.men, HV.men, HV.menL, HV.norm, HV.toC, HV.toCL, hnd])) ?_
 rintro ⟨⟨g, ts, k, p⟩, hΦ⟩
 simp only at hΦ
 refine aC fun K hK => ?_
 refine aC fun K hK => Rg ?_
 refine S0 ?_
 refine HS rfl rfl fun K' hK' => T5 ?_
 refine bG (args := [_, _]) (nH ls p wEnd (by omega)) rfl (by simp) ⟨rfl, rfl, rfl, rfl⟩ ?_
 rintro u v' ⟨rfl, rfl⟩
 refine AX (hK' _ _ ?_)
 clear hK' K'
 refine S0 ?_
 refine T2 (hK _ _ _ ?_)
 clear hK K
 refine aG (b := !isV ls p wEnd 1) rfl (fun hb => ?_) (fun hb => ?_)
 ·
  have hev : isV ls p wEnd 1 = false := by simpa using hb
  obtain ⟨Tq, hTq⟩ : ∃ Tq, Tq = T ++ { nd with c := (k : Int) } :: ts := ⟨_, rfl⟩
  have hTql : T.length + 1 + ts.length = Tq.length := by rw [hTq]; simp; omega
  have hp1 := hΦ.le
  have hp2 := hΦ.fuel
  have hp3 := hΦ.lt
  have hp4 := hΦ.len
  have hp5 := hΦ.kids
  rw [← hTq, hTql, hev]
  simp only [Bool.false_eq_true, if_false]
  clear hb
  refine aJ ?_
  refine T0 (hK _ _ _ ?_)
  clear hK K
  refine aK ?_
  refine aC fun K hK => ?_
  refine aC fun K hK => Rg ?_
  iterate 2 refine S0 ?_
  refine HS rfl rfl fun K' hK' => T5 ?_
  refine fP [0, 1] (ih (g - 1) (by omega) ls p Tq hp1 (by omega) (by omega) hls (by omega)) rfl ⟨rfl, rfl, trivial⟩ (by simp) (by simp) ⟨rfl, rfl, rfl, rfl⟩ (by simp [dZ, HO.men, HV.men, HV.menL]) (by simp [HV.menL, HV.men]) ?_
  rintro r os' ⟨T', rfl, rfl, h1, h2, h3⟩
  rw [bB9, aK7]
  refine AX (hK' _ _ ?_)
  clear hK' K'
  iterate 5 refine S0 ?_
  refine T2 (hK _ _ _ ?_)
  clear hK K
  refine R0 ?_
  refine aG (b := !(rdN (g - 1) (ls.drop p)).1.isSome) rfl (fun hb => ?_) (fun hb => ?_)
  ·
   have hn2 : (rdN (g - 1) (ls.drop p)).1 = none := by simpa using hb
   rw [hΦ.no hev hn2]
   refine R0 ?_
   refine aF (RT Tryd.results60 ?_)
   exact nZ (T' := T') rfl rfl rfl rfl rfl rfl (fun t h => by cases h) h2 (by simp only; omega)
  obtain ⟨t, ht⟩ : ∃ t, (rdN (g - 1) (ls.drop p)).1 = some t := by
   cases h : (rdN (g - 1) (ls.drop p)).1 with
   | none => rw [h] at hb; simp at hb
   | some t => exact ⟨t, rfl⟩
  have hst2 := hΦ.some_ hev ht
  have hT' := h1 t ht
  have hlt : T.length < T'.length := by rw [hT', List.length_append]; omega
  have hge : T'[T.length] = { nd with c := (k : Int) } := by simp [hT', hTq]
  have hw : IntKind.i64.wrap ((k : Int) + 1) = ((k + 1 : Nat) : Int) := IntWalk.i64_in _ (by omega)
  have hmne : (T'.map Nd.cv = []) = False := by simp; intro h; rw [h] at hlt; cases hlt
  clear hb
  refine aJ ?_
  refine T0 (hK _ _ _ ?_)
  clear hK K
  refine Rg ?_
  have F := aI @Int.natCast_nonneg (aI @Int.ofNat_lt (aI hlt (aI (nM hlt) (aI hge (aI hw (aI hmne (aI not_false_eq_true @List.length_map.{0,0})))))))
  iterate 9 refine SF ?_
  refine T4 ?_
  refine ⟨⟨(g - 1, ts ++ t, k + 1, ls.length - (rdN (g - 1) (ls.drop p)).2.length), hst2⟩, ?_, ?_⟩
  ·
   have hrow : (List.map Nd.cv T').set T.length (Nd.cv { nd with c := ((k + 1 : Nat) : Int) }) = List.map Nd.cv (T ++ { nd with c := ((k + 1 : Nat) : Int) } :: (ts ++ t)) := by
    rw [hT', hTq, ← List.map_set]
    simp [List.set_append]
   have hlen : T'.length = T.length + 1 + (ts ++ t).length := by rw [hT', hTq]; simp; omega
   simp only []
   rw [← hrow, ← hlen]
   exact fF
  show g - 1 < g
  omega
 have hev : isV ls p wEnd 1 = true := by simpa using hb
 obtain ⟨hp, hX⟩ := hΦ.end_ hev
 have hp4 := hΦ.len
 rw [hev]
 simp only [if_true]
 refine bA (T3 ?_)
 clear hK K
 refine AX (hK _ _ _ ?_)
 clear hK K
 refine R0 ?_
 refine aF (RT Tryd.results60 ?_)
 rw [hX]
 exact nZ (T' := T ++ { nd with c := (k : Int) } :: ts) rfl rfl (by simp; omega) rfl (by simp only [List.length_drop]; omega) rfl (fun t h => by cases h; rfl) (by simp; omega) (by simp only [List.length_append, List.length_cons, List.length_drop]; omega)

end Go.Proofs.YtlldglbooaefhaaDoor

namespace Go.Proofs.YtlldglbooaefhaaDoor
open Go Go.Hl Go.Pl
set_option maxRecDepth 10000
set_option maxHeartbeats 16000000

theorem bC0 (N n : Nat) (ob : Ob) (e : TypeId) (sz : Nat) (v : CV) (L : List CV) (t : TypeId) : jK (sub [0, N] n) ob 0 [.box t (.c v), .row e sz L] = upd (upd ob 0 (some (.box t (.c v)))) N (some (.row e sz L)) := rfl
theorem zE (N n m : Nat) (v : CV) : HV.ren (sub [0, N] n) (.tup [.own 1 m, .c v]) = .tup [.own N m, .c v] := rfl
theorem bN4 (f : Nat) (ls : List (List aE)) (a : Nat) (hal : a ≤ ls.length) (hfu : 2 * (ls.length - a) + 1 ≤ f) (hls : ls.length < 2 ^ 39) :
  sG Tryd.prog 60 67 (rdr ls a) [.nils] (fun u x v' => ∃ T' : List Nd, u = .slc (T'.map Nd.cv) ∧ x = .bool (rdN f (ls.drop a)).1.isSome ∧ v' = rdr ls (ls.length - (rdN f (ls.drop a)).2.length) ∧ ∀ t, (rdN f (ls.drop a)).1 = some t → T' = t) := by
 refine bP Tryd.func60 rfl (by kernel_rfl) (cN _ _ _) (Nat.le_of_ble_eq_true rfl) ?_
 refine R0 ?_
 refine aC fun K hK => ?_
 refine aC fun K hK => Rg ?_
 refine S0 ?_
 refine HS rfl rfl fun K' hK' => T5 ?_
 refine dO (args := []) (aK5 ls a (by omega)) rfl (by simp) ⟨rfl, rfl, rfl, rfl⟩ ?_
 rintro u x v' ⟨rfl, rfl, rfl⟩
 refine AX (hK' _ _ ?_)
 clear hK' K'
 iterate 6 refine S0 ?_
 refine T2 (hK _ _ _ ?_)
 clear hK K
 refine R0 ?_
 refine aG (b := (jM ls a).isSome) rfl (fun hb => ?_) (fun hb => ?_)
 ·
  obtain ⟨q, hq⟩ := Option.isSome_iff_exists.1 hb
  obtain ⟨hl, hq2⟩ : ∃ h : a < ls.length, fB ls[a] = some q := by
   unfold jM at hq
   split at hq
   ·
    exact ⟨by assumption, hq⟩
   cases hq
  obtain ⟨g, rfl⟩ : ∃ g, f = g + 1 := ⟨f - 1, by omega⟩
  rw [List.drop_eq_getElem_cons hl, nE hq2]
  simp only [hq, Option.isSome_some, if_true, Option.getD_some]
  refine aC fun K hK => Rg ?_
  iterate 7 refine S0 ?_
  refine T2 (hK _ _ _ ?_)
  clear hK K
  refine aF (RT Tryd.results60 ?_)
  exact bQ [61] (.slc [Nd.cv ⟨1, 0, 0, q⟩]) (.bool true) (rdr ls (a + 1)) (by simp [HV.close, HV.closeL, HO.close, fob_at, upd_at, CV.denil, CV.denilL, denilL_Nd, HV.norm, HV.toC, HV.toCL]) rfl (by simp [HV.close, HV.closeL, rdr, CV.denil, CV.denilL, aQ, HV.norm, HV.toC, HV.toCL]) (by simp) ⟨[⟨1, 0, 0, q⟩], rfl, rfl, by simp only [List.length_drop]; congr 1; omega, fun t h => by cases h; rfl⟩
 have hno : jM ls a = none := by simpa using hb
 simp only [hno, Option.isSome_none, Bool.false_eq_true, if_false, Option.getD_none]
 clear hb
 refine aJ ?_
 refine T0 (hK _ _ _ ?_)
 clear hK K
 refine aC fun K hK => Rg ?_
 refine S0 ?_
 refine HS rfl rfl fun K' hK' => T5 ?_
 refine dO (args := []) (aK6 ls a (by omega)) rfl (by simp) ⟨rfl, rfl, rfl, rfl⟩ ?_
 rintro u x v' ⟨rfl, rfl, rfl⟩
 refine AX (hK' _ _ ?_)
 clear hK' K'
 iterate 6 refine S0 ?_
 refine T2 (hK _ _ _ ?_)
 clear hK K
 refine aC fun K hK => ?_
 refine R0 ?_
 refine aG (b := !(jH ls a).isSome) rfl (fun hb => ?_) (fun hb => ?_)
 ·
  have hi : jH ls a = none := by simpa using hb
  have hX : rdN f (ls.drop a) = (none, ls.drop a) := by
   obtain ⟨g, rfl⟩ : ∃ g, f = g + 1 := ⟨f - 1, by omega⟩
   rcases Nat.lt_or_ge a ls.length with hl | hl
   ·
    rw [fR hl] at hno
    unfold jH at hi
    rw [dif_pos hl] at hi
    rw [List.drop_eq_getElem_cons hl, nF hno hi]
   rw [List.drop_eq_nil_of_le hl]; rfl
  rw [hX]
  simp only [hi, Option.isSome_none, Bool.false_eq_true, if_false]
  refine R0 ?_
  refine aF (RT Tryd.results60 ?_)
  exact bQ [] (.slc []) (.bool false) (rdr ls a) (by simp [HV.close, HV.closeL, HO.close, fob_at, upd_at, CV.denil, CV.denilL, denilL_Nd, HV.norm, HV.toC, HV.toCL]) rfl (by simp [HV.close, HV.closeL, rdr, CV.denil, CV.denilL, aQ, HV.norm, HV.toC, HV.toCL]) (by simp) (by refine ⟨[], rfl, rfl, ?_⟩; first | exact (by simp only [List.length_drop]; congr 1; omega) | exact ⟨by simp only [List.length_drop]; congr 1; omega, fun t h => by cases h⟩)
 refine aJ ?_
 refine T0 (hK _ _ _ ?_)
 clear hK K
 obtain ⟨nd, hi⟩ : ∃ nd, jH ls a = some nd := by
  cases h : jH ls a with
  | none => rw [h] at hb; simp at hb
  | some nd => exact ⟨nd, rfl⟩
 obtain ⟨hl, hi2⟩ : ∃ h : a < ls.length, jF ls[a] = some nd := by
  unfold jH at hi
  split at hi
  ·
   exact ⟨by assumption, hi⟩
  cases hi
 rw [fR hl] at hno
 have hc0 := innR_c hi2
 have hnd : ({ k := nd.k, n := nd.n, c := 0, q := nd.q } : Nd) = nd := by cases nd; simp only at hc0; rw [hc0]
 have hst := KdSt.init hl hfu hno hi2
 simp only [hi, Option.isSome_some, if_true, Option.getD_some]
 clear hb
 refine R0 ?_
 refine aC fun K hK => Rg ?_
 iterate 5 refine S0 ?_
 refine T2 (hK _ _ _ ?_)
 clear hK K
 refine aC fun K hK => ?_
 refine aK ?_
 refine bM (α := {y : Nat × List Nd × Nat × Nat // KdSt f ls a nd y.1 y.2.1 y.2.2.1 y.2.2.2}) (fun y => (fin [(0, .ptr 0 0), (1, .own 109 (1 + y.1.2.1.length)), (10, .c (.int .i64 0))], fob [(0, .box 67 (.c (rdr ls y.1.2.2.2))), (109, .row 48 7 (({ nd with c := (y.1.2.2.1 : Int) } :: y.1.2.1).map Nd.cv))])) 2000 (fun y => y.1.1) ⟨(f - 1, [], 0, a + 1), hst⟩ (aO (by omega) (by simp [bB, fin_at, finA_at, upd_at, HV.men, HV.menL, HV.norm, HV.toC, HV.toCL, hnd]) (by simp [aZ, fob_at, upd_at, none0_at, bZ, HO.men, HV.men, HV.menL, HV.norm, HV.toC, HV.toCL, hnd])) ?_
 rintro ⟨⟨g, ts, k, p⟩, hΦ⟩
 simp only at hΦ
 refine aC fun K hK => ?_
 refine aC fun K hK => Rg ?_
 refine S0 ?_
 refine HS rfl rfl fun K' hK' => T5 ?_
 refine bG (args := [_, _]) (nH ls p wEnd (by omega)) rfl (by simp) ⟨rfl, rfl, rfl, rfl⟩ ?_
 rintro u v' ⟨rfl, rfl⟩
 refine AX (hK' _ _ ?_)
 clear hK' K'
 refine S0 ?_
 refine T2 (hK _ _ _ ?_)
 clear hK K
 refine aG (b := !isV ls p wEnd 1) rfl (fun hb => ?_) (fun hb => ?_)
 ·
  have hev : isV ls p wEnd 1 = false := by simpa using hb
  obtain ⟨Tq, hTq⟩ : ∃ Tq, Tq = { nd with c := (k : Int) } :: ts := ⟨_, rfl⟩
  have hTql : 1 + ts.length = Tq.length := by rw [hTq]; simp; omega
  have hp1 := hΦ.le
  have hp2 := hΦ.fuel
  have hp3 := hΦ.lt
  have hp4 := hΦ.len
  have hp5 := hΦ.kids
  have hTm : Nd.cv { nd with c := (k : Int) } :: List.map Nd.cv ts = List.map Nd.cv Tq := by rw [hTq]; rfl
  rw [hTm, hTql, hev]
  simp only [Bool.false_eq_true, if_false]
  clear hb
  refine aJ ?_
  refine T0 (hK _ _ _ ?_)
  clear hK K
  refine aK ?_
  refine aC fun K hK => ?_
  refine aC fun K hK => Rg ?_
  iterate 2 refine S0 ?_
  refine HS rfl rfl fun K' hK' => T5 ?_
  refine fP [0, 109] (bV1 (g - 1) ls p Tq hp1 (by omega) (by omega) hls (by omega)) rfl ⟨rfl, rfl, trivial⟩ (by simp) (by simp) ⟨rfl, rfl, rfl, rfl⟩ (by simp [dZ, HO.men, HV.men, HV.menL]) (by simp [HV.menL, HV.men]) ?_
  rintro r os' ⟨T', rfl, rfl, h1, h2, h3⟩
  rw [bC0, zE]
  refine AX (hK' _ _ ?_)
  clear hK' K'
  iterate 5 refine S0 ?_
  refine T2 (hK _ _ _ ?_)
  clear hK K
  refine R0 ?_
  refine aG (b := !(rdN (g - 1) (ls.drop p)).1.isSome) rfl (fun hb => ?_) (fun hb => ?_)
  ·
   have hn2 : (rdN (g - 1) (ls.drop p)).1 = none := by simpa using hb
   rw [hΦ.no hev hn2]
   refine R0 ?_
   refine aF (RT Tryd.results60 ?_)
   exact bQ [109] (.slc (T'.map Nd.cv)) (.bool false) (rdr ls (ls.length - (rdN (g - 1) (ls.drop p)).2.length)) (by simp [HV.close, HV.closeL, HO.close, fob_at, upd_at, CV.denil, CV.denilL, denilL_Nd, HV.norm, HV.toC, HV.toCL]) rfl (by simp [HV.close, HV.closeL, rdr, CV.denil, CV.denilL, aQ, HV.norm, HV.toC, HV.toCL]) (by simp) (by refine ⟨T', rfl, rfl, ?_⟩; first | exact rfl | exact ⟨rfl, fun t h => by cases h⟩)
  obtain ⟨t, ht⟩ : ∃ t, (rdN (g - 1) (ls.drop p)).1 = some t := by
   cases h : (rdN (g - 1) (ls.drop p)).1 with
   | none => rw [h] at hb; simp at hb
   | some t => exact ⟨t, rfl⟩
  have hst2 := hΦ.some_ hev ht
  have hT' := h1 t ht
  have hlt : 0 < T'.length := by rw [hT', List.length_append]; omega
  have hge : T'[0] = { nd with c := (k : Int) } := by simp [hT', hTq]
  have hw : IntKind.i64.wrap ((k : Int) + 1) = ((k + 1 : Nat) : Int) := IntWalk.i64_in _ (by omega)
  have hmne : (T'.map Nd.cv = []) = False := by simp; intro h; rw [h] at hlt; cases hlt
  clear hb
  refine aJ ?_
  refine T0 (hK _ _ _ ?_)
  clear hK K
  refine Rg ?_
  have F := aI @Int.natCast_nonneg (aI @Int.ofNat_lt (aI hlt (aI (nM hlt) (aI hge (aI hw (aI hmne (aI not_false_eq_true @List.length_map.{0,0})))))))
  iterate 9 refine SF ?_
  refine T4 ?_
  refine ⟨⟨(g - 1, ts ++ t, k + 1, ls.length - (rdN (g - 1) (ls.drop p)).2.length), hst2⟩, ?_, ?_⟩
  ·
   have hrow : (List.map Nd.cv T').set 0 (Nd.cv { nd with c := ((k + 1 : Nat) : Int) }) = List.map Nd.cv ({ nd with c := ((k + 1 : Nat) : Int) } :: (ts ++ t)) := by
    rw [hT', hTq, ← List.map_set]
    simp
   have hlen : T'.length = 1 + (ts ++ t).length := by rw [hT', hTq]; simp; omega
   simp only []
   rw [← hrow, ← hlen]
   exact fF
  show g - 1 < g
  omega
 have hev : isV ls p wEnd 1 = true := by simpa using hb
 obtain ⟨hp, hX⟩ := hΦ.end_ hev
 have hp4 := hΦ.len
 rw [hev]
 simp only [if_true]
 refine bA (T3 ?_)
 clear hK K
 refine AX (hK _ _ _ ?_)
 clear hK K
 refine R0 ?_
 refine aF (RT Tryd.results60 ?_)
 rw [hX]
 exact bQ [109] (.slc (({ nd with c := (k : Int) } :: ts).map Nd.cv)) (.bool true) (rdr ls (p + 1)) (by simp [show 1 + ts.length = ts.length + 1 from by omega, HV.close, HV.closeL, HO.close, fob_at, upd_at, CV.denil, CV.denilL, denilL_Nd, HV.norm, HV.toC, HV.toCL]) rfl (by simp [HV.close, HV.closeL, rdr, CV.denil, CV.denilL, aQ, HV.norm, HV.toC, HV.toCL]) (by simp) ⟨_, rfl, rfl, by simp only [List.length_drop]; congr 1; omega, fun t h => by cases h; rfl⟩

end Go.Proofs.YtlldglbooaefhaaDoor

namespace Go.Proofs.YtlldglbooaefhaaDoor
open Go Go.Hl Go.Pl
set_option maxRecDepth 10000
set_option maxHeartbeats 16000000

def pr0 : Pr := ⟨[], [], [], 0, []⟩

theorem bC2 (ls : List (List aE)) (a : Nat) (hal : a ≤ ls.length) (hls : ls.length < 2 ^ 39) :
  sG Tryd.prog 46 67 (rdr ls a) [] (fun u x v' => ∃ q : Pr, u = q.cv ∧ x = .bool (rdR (ls.drop a)).1.isSome ∧ v' = rdr ls (ls.length - (rdR (ls.drop a)).2.length) ∧ ∀ p, (rdR (ls.drop a)).1 = some p → q = p) := by
 refine bP Tryd.func46 rfl (by kernel_rfl) (cN _ _ _) (Nat.le_of_ble_eq_true rfl) ?_
 refine R0 ?_
 refine aC fun K hK => ?_
 refine aC fun K hK => Rg ?_
 refine S0 ?_
 refine HS rfl rfl fun K' hK' => T5 ?_
 refine bG (args := [_, _]) (zD ls a 5 wRule (by omega)) rfl (by simp) ⟨rfl, rfl, rfl, rfl⟩ ?_
 rintro u v' ⟨rfl, rfl⟩
 refine AX (hK' _ _ ?_)
 clear hK' K'
 refine S0 ?_
 refine T2 (hK _ _ _ ?_)
 clear hK K
 refine aG (b := !isV ls a wRule 5) rfl (fun hb => ?_) (fun hb => ?_)
 ·
  have hX := bZ8 hal (show isV ls a wRule 5 = false by simpa using hb)
  refine aC fun K hK => Rg ?_
  iterate 3 refine S0 ?_
  refine T2 (hK _ _ _ ?_)
  clear hK K
  refine aF (RT Tryd.results46 ?_)
  rw [hX]
  exact bQ [] pr0.cv (.bool false) (rdr ls a) rfl rfl (by simp [HV.close, HV.closeL, rdr, CV.denil, CV.denilL, aQ, HV.norm, HV.toC, HV.toCL]) (by simp) (by refine ⟨pr0, rfl, rfl, ?_⟩; first | exact (by simp only [List.length_drop]; congr 1; omega) | exact ⟨by simp only [List.length_drop]; congr 1; omega, fun t h => by cases h⟩)
 refine aJ ?_
 refine T0 (hK _ _ _ ?_)
 clear hK K
 obtain ⟨hl, hl1, hl2⟩ := fQ (show isV ls a wRule 5 = true by simpa using hb)
 have h1 : 1 < ls[a].length := by omega
 have h2 : 2 < ls[a].length := by omega
 have h3 : 3 < ls[a].length := by omega
 have hw : IntKind.i64.wrap ((a : Int) + 1) = ((a + 1 : Nat) : Int) := IntWalk.i64_in _ (by omega)
 clear hb
 refine aC fun K hK => QR ?_
 iterate 11 refine S0 ?_ (e := fun _ h_ => by simp only [sH, ↓sP, sA, tyS, simprocAttr, rdr, Int.natCast_nonneg, Int.ofNat_lt, hl, bY hl, kV]; exact AX h_)
 refine T2 (hK _ _ _ ?_)
 clear hK K
 refine aC fun K hK => Rg ?_
 refine S0 ?_
 refine HS rfl rfl fun K' hK' => T5 ?_
 refine dO (args := [_]) (kX ls a 4 hl (by omega)) rfl (by simp) ⟨rfl, rfl, rfl, rfl⟩ ?_
 rintro u x v' ⟨rfl, rfl, rfl⟩
 refine AX (hK' _ _ ?_)
 clear hK' K'
 iterate 5 refine S0 ?_
 refine T2 (hK _ _ _ ?_)
 clear hK K
 refine aC fun K hK => ?_
 refine R0 ?_
 refine aG (b := !(bH (wd ls[a] 4)).isSome) rfl (fun hb => ?_) (fun hb => ?_)
 ·
  have hX := bT3 hl hl1 hl2 (show bH (wd ls[a] 4) = none by simpa using hb)
  refine aC fun K hK => Rg ?_
  iterate 3 refine S0 ?_
  refine T2 (hK _ _ _ ?_)
  clear hK K
  refine aF (RT Tryd.results46 ?_)
  rw [hX]
  exact bQ [] pr0.cv (.bool false) (rdr ls a) rfl rfl (by simp [HV.close, HV.closeL, rdr, CV.denil, CV.denilL, aQ, HV.norm, HV.toC, HV.toCL]) (by simp) (by refine ⟨pr0, rfl, rfl, ?_⟩; first | exact (by simp only [List.length_drop]; congr 1; omega) | exact ⟨by simp only [List.length_drop]; congr 1; omega, fun t h => by cases h⟩)
 refine aJ ?_
 refine T0 (hK _ _ _ ?_)
 clear hK K
 obtain ⟨g, hg⟩ : ∃ g, bH (wd ls[a] 4) = some g := by
  cases h : bH (wd ls[a] 4) with
  | none => rw [h] at hb; simp at hb
  | some g => exact ⟨g, rfl⟩
 have hX := bL6 hl hl1 hl2 hg
 clear hb
 simp only [hg, Option.getD_some]
 have hN : sG Tryd.prog 60 67 (rdr ls (a + 1)) [.nils] (fun u x v' => ∃ T' : List Nd, u = .slc (T'.map Nd.cv) ∧ x = .bool (rdT (ls.drop (a + 1))).1.isSome ∧ v' = rdr ls (ls.length - (rdT (ls.drop (a + 1))).2.length) ∧ ∀ t, (rdT (ls.drop (a + 1))).1 = some t → T' = t) := bN4 (2 * (ls.drop (a + 1)).length + 2) ls (a + 1) hl (by simp only [List.length_drop]; omega) hls
 refine aC fun K hK => Rg ?_
 iterate 8 refine S0 ?_ (e := fun _ h_ => by simp only [sH, ↓sP, sA, tyS, simprocAttr, rdr, hw]; exact AX h_)
 refine T2 (hK _ _ _ ?_)
 clear hK K
 refine aC fun K hK => bD (by kernel_rfl) ?_
 simp only [sR, simprocAttr]
 refine SG0 ?_
 refine sC (g := none) rfl rfl fun K' hK' => ?_
 simp only [sN, ↓hopH.eq_def, sH, ↓sP, sA, tyS, simprocAttr]
 refine dO (args := [_]) hN rfl (by simp) ⟨rfl, rfl, rfl, rfl⟩ ?_
 rintro u x v' ⟨T', rfl, rfl, rfl, hT⟩
 refine AX (hK' _ _ ?_)
 clear hK' K'
 iterate 5 refine SG0 ?_
 refine T2 (hK _ _ _ ?_)
 clear hK K
 refine aC fun K hK => DW [(0, [], []), (1, [], []), (2, [], []), (3, [], []), (4, [], []), (5, [], []), (6, [], []), (7, [], []), (8, [], []), (9, [], []), (10, [], []), (11, [], []), (12, [], []), (13, [], [12]), (14, [], [])] [0, 1, 3, 0, 8, 24, 0, 64, 192, 0, 0, 2047, 0, 4095, 16383] ?_
 iterate 15 refine W0 ?_ (e := fun _ h_ => by simp only [sH, ↓sP, sA, tyS, simprocAttr, lsC, Int.one_nonneg, vQ h1, vQ h2, vQ h3, hl1]; exact AX h_)
 refine T2 (hK _ _ _ ?_)
 clear hK K
 refine aF (RT Tryd.results46 ?_)
 rw [hX]
 exact bQ [] (Pr.cv ⟨wd ls[a] 1, wd ls[a] 2, wd ls[a] 3, g, T'⟩) (.bool (rdT (ls.drop (a + 1))).1.isSome) (rdr ls (ls.length - (rdT (ls.drop (a + 1))).2.length)) (by simp [HV.close, HV.closeL, Pr.cv, CV.denil, CV.denilL, denilL_Nd, HV.norm, HV.toC, HV.toCL]) rfl (by simp [HV.close, HV.closeL, rdr, CV.denil, CV.denilL, aQ, HV.norm, HV.toC, HV.toCL]) (by simp) ⟨_, rfl, by simp, rfl, fun p h => by
  cases h4 : (rdT (ls.drop (a + 1))).1 with
  | none => simp [h4] at h
  | some t => simp [h4] at h; rw [← h, hT t h4]⟩


theorem bN5 (ls : List (List aE)) (hls : ls.length < 2 ^ 39) :
  sG Tryd.prog 23 67 (rdr ls 0) [] (fun u x v' => ∃ q : Po, u = q.cv ∧ x = .bool (rdP ls).1.isSome ∧ v' = rdr ls (ls.length - (rdP ls).2.length) ∧ ∀ p, (rdP ls).1 = some p → q = p) := by
 refine bP Tryd.func23 rfl (by kernel_rfl) (cN _ _ _) (Nat.le_of_ble_eq_true rfl) ?_
 refine R0 ?_
 refine aC fun K hK => ?_
 refine aC fun K hK => Rg ?_
 refine S0 ?_
 refine HS rfl rfl fun K' hK' => T5 ?_
 refine bG (args := [_, _]) (zD ls 0 3 wPolicy (by omega)) rfl (by simp) ⟨rfl, rfl, rfl, rfl⟩ ?_
 rintro u v' ⟨rfl, rfl⟩
 refine AX (hK' _ _ ?_)
 clear hK' K'
 refine S0 ?_
 refine T2 (hK _ _ _ ?_)
 clear hK K
 refine aG (b := !isV ls 0 wPolicy 3) rfl (fun hb => ?_) (fun hb => ?_)
 ·
  have hX := bZ9 (show isV ls 0 wPolicy 3 = false by simpa using hb)
  refine aC fun K hK => Rg ?_
  iterate 3 refine S0 ?_
  refine T2 (hK _ _ _ ?_)
  clear hK K
  refine aF (RT Tryd.results23 ?_)
  rw [hX]
  exact bQ [] po0.cv (.bool false) (rdr ls 0) (by simp [HV.close, HV.closeL, HO.close, fob_at, upd_at, po0, Po.cv, CV.denil, CV.denilL, denilL_Pr, HV.norm, HV.toC, HV.toCL]) rfl (by simp [HV.close, HV.closeL, rdr, CV.denil, CV.denilL, aQ, HV.norm, HV.toC, HV.toCL]) (by simp) (by refine ⟨po0, rfl, rfl, ?_⟩; first | exact (by simp only [List.length_drop]; congr 1; omega) | exact rfl | exact ⟨by simp, fun t h => by cases h⟩)
 refine aJ ?_
 refine T0 (hK _ _ _ ?_)
 clear hK K
 obtain ⟨hl, hl1, hl2⟩ := fQ (show isV ls 0 wPolicy 3 = true by simpa using hb)
 have h1 : 1 < ls[0].length := by omega
 clear hb
 refine aC fun K hK => Rg ?_
 refine S0 ?_
 refine HS rfl rfl fun K' hK' => T5 ?_
 refine dO (args := [_]) (kX ls 0 2 hl (by omega)) rfl (by simp) ⟨rfl, rfl, rfl, rfl⟩ ?_
 rintro u x v' ⟨rfl, rfl, rfl⟩
 refine AX (hK' _ _ ?_)
 clear hK' K'
 iterate 5 refine S0 ?_
 refine T2 (hK _ _ _ ?_)
 clear hK K
 refine aC fun K hK => ?_
 refine R0 ?_
 refine aG (b := !(bH (wd ls[0] 2)).isSome) rfl (fun hb => ?_) (fun hb => ?_)
 ·
  have hX := bT4 hl hl1 hl2 (show bH (wd ls[0] 2) = none by simpa using hb)
  refine aC fun K hK => Rg ?_
  iterate 3 refine S0 ?_
  refine T2 (hK _ _ _ ?_)
  clear hK K
  refine aF (RT Tryd.results23 ?_)
  rw [hX]
  exact bQ [] po0.cv (.bool false) (rdr ls 0) (by simp [HV.close, HV.closeL, HO.close, fob_at, upd_at, po0, Po.cv, CV.denil, CV.denilL, denilL_Pr, HV.norm, HV.toC, HV.toCL]) rfl (by simp [HV.close, HV.closeL, rdr, CV.denil, CV.denilL, aQ, HV.norm, HV.toC, HV.toCL]) (by simp) (by refine ⟨po0, rfl, rfl, ?_⟩; first | exact (by simp only [List.length_drop]; congr 1; omega) | exact rfl | exact ⟨by simp, fun t h => by cases h⟩)
 refine aJ ?_
 refine T0 (hK _ _ _ ?_)
 clear hK K
 obtain ⟨v, hv⟩ : ∃ v, bH (wd ls[0] 2) = some v := by
  cases h : bH (wd ls[0] 2) with
  | none => rw [h] at hb; simp at hb
  | some v => exact ⟨v, rfl⟩
 obtain ⟨X, hX, hst⟩ := bL7 hl hl1 hl2 hv
 clear hb
 simp only [hv, Option.getD_some]
 refine aC fun K hK => Rg ?_
 iterate 12 refine S0 ?_ (e := fun _ h_ => by simp only [sH, ↓sP, sA, tyS, simprocAttr, rdr, hl, bY hl, lsC, vQ h1, Int.one_nonneg, hl1, Int.natCast_pos]; exact AX h_)
 refine T2 (hK _ _ _ ?_)
 clear hK K
 refine aC fun K hK => ?_
 refine aC fun K hK => Rg ?_
 iterate 8 refine S0 ?_ (e := fun _ h_ => by simp only [sH, ↓sP, sA, tyS, simprocAttr, rdr]; exact AX h_)
 refine T2 (hK _ _ _ ?_)
 clear hK K
 refine aK ?_
 refine tI 97 2 54 5 rfl rfl rfl rfl ?_
 refine bM (α := {y : List Pr × Nat // RsSt ls X y.1 y.2}) (fun y => (fin [(0, .ptr 0 0), (2, .ptr 1 0), (6, .ptr 97 0)], fob [(0, .box 67 (.c (rdr ls y.1.2))), (1, .box 25 (.c (.agg [.str [], .int .i64 0, .nils]))), (97, .box 25 (.agg [.c (.str (wd ls[0] 1)), .c (.int .i64 v), .own 137 y.1.1.length])), (137, .row 54 5 (y.1.1.map Pr.cv))])) 2000 (fun y => ls.length - y.1.2) ⟨([], 1), hst⟩ (aO (by omega) (by simp [bB, fin_at, finA_at, upd_at, HV.men, HV.menL, HV.norm, HV.toC, HV.toCL, rdr, show IntKind.i64.wrap 1 = 1 from rfl]) (by simp [aZ, fob_at, upd_at, none0_at, bZ, HO.men, HV.men, HV.menL, HV.norm, HV.toC, HV.toCL, rdr, show IntKind.i64.wrap 1 = 1 from rfl])) ?_
 rintro ⟨⟨acc, p⟩, hΦ⟩
 simp only at hΦ
 refine aC fun K hK => ?_
 refine aC fun K hK => QR ?_
 iterate 10 refine S0 ?_ (e := fun _ h_ => by simp only [sH, ↓sP, sA, tyS, simprocAttr, rdr]; exact AX h_)
 refine T2 (hK _ _ _ ?_)
 clear hK K
 refine aG (b := decide ((p : Int) < ls.length)) rfl (fun hb => ?_) (fun hb => ?_)
 ·
  have hp : p < ls.length := by simpa using hb
  have hp1 := hΦ.le
  have hp2 := hΦ.len
  clear hb
  refine aJ ?_
  refine T0 (hK _ _ _ ?_)
  clear hK K
  refine aK ?_
  refine aC fun K hK => Rg ?_
  refine S0 ?_
  refine HS rfl rfl fun K' hK' => T5 ?_
  refine dO (args := []) (bC2 ls p hp1 hls) rfl (by simp) ⟨rfl, rfl, rfl, rfl⟩ ?_
  rintro u x v' ⟨q, rfl, rfl, rfl, hq⟩
  refine AX (hK' _ _ ?_)
  clear hK' K'
  iterate 6 refine S0 ?_
  refine T2 (hK _ _ _ ?_)
  clear hK K
  refine aC fun K hK => ?_
  refine R0 ?_
  refine aG (b := !(rdR (ls.drop p)).1.isSome) rfl (fun hb => ?_) (fun hb => ?_)
  ·
   have hno : (rdR (ls.drop p)).1 = none := by simpa using hb
   have hXn := hΦ.no hp hno
   refine aC fun K hK => Rg ?_
   iterate 3 refine S0 ?_
   refine T2 (hK _ _ _ ?_)
   clear hK K
   refine aF (RT Tryd.results23 ?_)
   rw [hX, hXn]
   exact bQ [] po0.cv (.bool false) (rdr ls (ls.length - (rdR (ls.drop p)).2.length)) (by simp [HV.close, HV.closeL, HO.close, fob_at, upd_at, po0, Po.cv, CV.denil, CV.denilL, denilL_Pr, HV.norm, HV.toC, HV.toCL]) rfl (by simp [HV.close, HV.closeL, rdr, CV.denil, CV.denilL, aQ, HV.norm, HV.toC, HV.toCL]) (by simp) (by refine ⟨po0, rfl, rfl, ?_⟩; first | exact (by simp only [List.length_drop]; congr 1; omega) | exact rfl | exact ⟨by simp, fun t h => by cases h⟩)
  obtain ⟨x, hx⟩ : ∃ x, (rdR (ls.drop p)).1 = some x := by
   cases h : (rdR (ls.drop p)).1 with
   | none => rw [h] at hb; simp at hb
   | some x => exact ⟨x, rfl⟩
  obtain ⟨hst2, hlt2⟩ := hΦ.some_ hp hx
  obtain rfl := hq x hx
  clear hb
  refine aJ ?_
  refine T0 (hK _ _ _ ?_)
  clear hK K
  refine Rg ?_
  iterate 7 refine S0 ?_
  refine T4 ?_
  refine ⟨⟨(acc ++ [q], ls.length - (rdR (ls.drop p)).2.length), hst2⟩, aO (by omega) (by simp [bB, fin_at, finA_at, upd_at, HV.men, HV.menL, HV.norm, HV.toC, HV.toCL, List.map_append]) (by simp [aZ, fob_at, upd_at, none0_at, bZ, HO.men, HV.men, HV.menL, HV.norm, HV.toC, HV.toCL, List.map_append]), ?_⟩
  show ls.length - (ls.length - (rdR (ls.drop p)).2.length) < ls.length - p
  omega
 have hp : ¬ p < ls.length := by simpa using hb
 obtain ⟨rfl, hXs⟩ := hΦ.done hp
 refine bA (T3 ?_)
 clear hK K
 refine AX (hK _ _ _ ?_)
 clear hK K
 refine aC fun K hK => Rg ?_
 iterate 3 refine S0 ?_
 refine T2 (hK _ _ _ ?_)
 clear hK K
 refine aF (RT Tryd.results23 ?_)
 rw [hX, hXs]
 refine ⟨rfl, ?_⟩
 exact bQ [137] (Po.cv ⟨wd ls[0] 1, v, acc⟩) (.bool true) (rdr ls ls.length) (by simp [HV.close, HV.closeL, HO.close, fob_at, upd_at, po0, Po.cv, CV.denil, CV.denilL, denilL_Pr, HV.norm, HV.toC, HV.toCL]) rfl (by simp [HV.close, HV.closeL, rdr, CV.denil, CV.denilL, aQ, HV.norm, HV.toC, HV.toCL]) (by simp) (by exact ⟨_, rfl, rfl, by simp, fun p h => by cases h; rfl⟩)

end Go.Proofs.YtlldglbooaefhaaDoor

namespace Go.Proofs.YtlldglbooaefhaaDoor
open Go Go.Hl Go.Pl Go.RowKit Go.Shelf
set_option maxRecDepth 100000

def bV2 : Go.Shelf.Ren := ⟨fun | 173 => 36 | 246 => 54 | 283 => 65 | 284 => 66 | 285 => 67 | 286 => 68 | 129 => 84 | 317 => 83 | 318 => 85 | 319 => 86 | 320 => 87 | 337 => 93 | 338 => 94 | n => n, fun | 2 => 2 | 3 => 3 | 9 => 9 | 4 => 4 | 171 => 123 | 0 => 0 | 53 => 124 | 37 => 29 | 5 => 5 | 173 => 127 | 212 => 141 | 51 => 142 | 20 => 20 | 213 => 143 | 46 => 111 | 232 => 156 | 233 => 157 | n => n, fun | 17 => 1 | 18 => 4 | 19 => 5 | n => n⟩
theorem cA4 : Go.Proofs.LaysM.n173 Tryd.prog bV2 := {
  mixed := by kernel_rfl
  f129 := Tryd.func84.trans (congrArg some (by kernel_rfl))
  f173 := Tryd.func36.trans (congrArg some (by kernel_rfl))
  f246 := Tryd.func54.trans (congrArg some (by kernel_rfl))
  f283 := Tryd.func65.trans (congrArg some (by kernel_rfl))
  f284 := Tryd.func66.trans (congrArg some (by kernel_rfl))
  f285 := Tryd.func67.trans (congrArg some (by kernel_rfl))
  f286 := Tryd.func68.trans (congrArg some (by kernel_rfl))
  f317 := Tryd.func83.trans (congrArg some (by kernel_rfl))
  f318 := Tryd.func85.trans (congrArg some (by kernel_rfl))
  f319 := Tryd.func86.trans (congrArg some (by kernel_rfl))
  f320 := Tryd.func87.trans (congrArg some (by kernel_rfl))
  f337 := Tryd.func93.trans (congrArg some (by kernel_rfl))
  f338 := Tryd.func94.trans (congrArg some (by kernel_rfl))
  t0 := Tryd.underlying0
  a0 := Tryd.isAgg0
  z0 := Tryd.sizeOf0
  v0 := Tryd.zeroValue0
  t2 := Tryd.underlying2
  a2 := Tryd.isAgg2
  z2 := Tryd.sizeOf2
  v2 := Tryd.zeroValue2
  t3 := Tryd.underlying3
  a3 := Tryd.isAgg3
  z3 := Tryd.sizeOf3
  v3 := Tryd.zeroValue3
  t4 := Tryd.underlying4
  a4 := Tryd.isAgg4
  z4 := Tryd.sizeOf4
  v4 := Tryd.zeroValue4
  t5 := Tryd.underlying5
  a5 := Tryd.isAgg5
  z5 := Tryd.sizeOf5
  v5 := Tryd.zeroValue5
  t9 := Tryd.underlying9
  a9 := Tryd.isAgg9
  z9 := Tryd.sizeOf9
  v9 := Tryd.zeroValue9
  t20 := Tryd.underlying20
  a20 := Tryd.isAgg20
  z20 := Tryd.sizeOf20
  v20 := Tryd.zeroValue20
  t37 := Tryd.underlying29
  a37 := Tryd.isAgg29
  z37 := Tryd.sizeOf29
  v37 := Tryd.zeroValue29
  t46 := Tryd.underlying111
  a46 := Tryd.isAgg111
  z46 := Tryd.sizeOf111
  v46 := Tryd.zeroValue111
  t51 := Tryd.underlying142
  a51 := Tryd.isAgg142
  z51 := Tryd.sizeOf142
  v51 := Tryd.zeroValue142
  t53 := Tryd.underlying124
  a53 := Tryd.isAgg124
  z53 := Tryd.sizeOf124
  v53 := Tryd.zeroValue124
  t171 := Tryd.underlying123
  a171 := Tryd.isAgg123
  z171 := Tryd.sizeOf123
  v171 := Tryd.zeroValue123
  t173 := Tryd.underlying127
  a173 := Tryd.isAgg127
  z173 := Tryd.sizeOf127
  v173 := Tryd.zeroValue127
  t212 := Tryd.underlying141
  a212 := Tryd.isAgg141
  z212 := Tryd.sizeOf141
  v212 := Tryd.zeroValue141
  t213 := Tryd.underlying143
  a213 := Tryd.isAgg143
  z213 := Tryd.sizeOf143
  t232 := Tryd.underlying156
  a232 := Tryd.isAgg156
  z232 := Tryd.sizeOf156
  v232 := Tryd.zeroValue156
  t233 := Tryd.underlying157
  a233 := Tryd.isAgg157
  z233 := Tryd.sizeOf157
  v233 := Tryd.zeroValue157
  g17 := by kernel_rfl
  g18 := by kernel_rfl
  g19 := by kernel_rfl
  i0 := by kernel_rfl
  i2 := by kernel_rfl
  i3 := by kernel_rfl
  i4 := by kernel_rfl
  i5 := by kernel_rfl
  i9 := by kernel_rfl
  i20 := by kernel_rfl
  i37 := by kernel_rfl
  i46 := by kernel_rfl
  i51 := by kernel_rfl
  i53 := by kernel_rfl
  i171 := by kernel_rfl
  i173 := by kernel_rfl
  i212 := by kernel_rfl
  i232 := by kernel_rfl
  i233 := by kernel_rfl
  m17 := by kernel_rfl
  m18 := by kernel_rfl
  m19 := by kernel_rfl }

theorem aC2 : Tryd.prog.globalNamed "internal/strconv.uint64pow10" = some 1 := by kernel_rfl
def tabs : kN := [(1, Lib.pow10Tab.map fun z => Value.int .u64 z)]
theorem bC3 (n : Int) (h : -9223372036854775808 ≤ n ∧ n ≤ 9223372036854775807) : mQ Tryd.prog 36 tabs [.int .i64 n, .int .i64 10] (fun v => v = .str (numW n)) :=
  aN9 (by kernel_rfl) aC2 (List.mem_cons_self) (fun w hw => Any.strconv_FormatInt_10 cA4 n h.1 h.2 w hw)
end Go.Proofs.YtlldglbooaefhaaDoor

namespace Go.Proofs.YtlldglbooaefhaaDoor
open Go Go.Hl Go.Pl
set_option maxRecDepth 10000
set_option maxHeartbeats 16000000



theorem wF (n : Int) (hn : -9223372036854775808 ≤ n ∧ n ≤ 9223372036854775807) : mQ Tryd.prog 19 tabs [.int .i64 n] (fun v => v = .str (numW n)) := by
 refine bP (args := [.c (.int .i64 n)]) Tryd.func19 rfl (by kernel_rfl) (fD tabs [.int .i64 n]) (Nat.le_of_ble_eq_true rfl) ?_
 refine R0 ?_
 refine aC fun K hK => Rg ?_
 refine S0 ?_
 refine HS rfl rfl fun K' hK' => T5 ?_
 refine eX (args := [_, _]) 0 (bC3 n hn) (fM _ 0) (by simp) ⟨rfl, rfl, rfl, rfl⟩ ?_
 rintro u rfl
 refine AX (hK' _ _ ?_)
 clear hK' K'
 refine S0 ?_
 refine T2 (hK _ _ _ ?_)
 clear hK K
 refine aF (RT Tryd.results19 ?_)
 exact dK [] (.str _) rfl (fM _ 0) (by simp) rfl

end Go.Proofs.YtlldglbooaefhaaDoor

namespace Go.Proofs.YtlldglbooaefhaaDoor
open Go Go.Hl Go.Pl
set_option maxRecDepth 10000
set_option maxHeartbeats 16000000

def cF0 (n : Int) : Prop := -9223372036854775808 ≤ n ∧ n ≤ 9223372036854775807

theorem bN6 (q : Rq) (hn : cF0 q.n) (hm : cF0 q.m) : mQ Tryd.prog 37 tabs [q.cv] (fun v => v = lsC (wlR q)) := by
 refine bP (args := [.c q.cv]) Tryd.func37 rfl (by kernel_rfl) (fD tabs [q.cv]) (Nat.le_of_ble_eq_true rfl) ?_
 unfold eH
 refine R0 ?_
 refine aC fun K hK => Rg ?_
 iterate 2 refine S0 ?_
 refine HS rfl rfl fun K' hK' => T5 ?_
 refine eX (args := [_]) 0 (wF q.n hn) rfl (by simp) ⟨rfl, rfl, rfl, rfl⟩ ?_
 rintro u rfl
 refine AX (hK' _ _ ?_)
 clear hK' K'
 refine S0 ?_
 refine T2 (hK _ _ _ ?_)
 clear hK K
 refine aC fun K hK => ?_
 refine R0 ?_
 refine aK ?_
 refine R0 ?_
 refine aG (b := (q.k == 1)) rfl (fun hb => ?_) (fun hb => ?_)
 ·
  have hk : q.k = 1 := by simpa using hb
  clear hb
  refine R0 ?_
  refine aF (RT Tryd.results37 ?_)
  exact dK [45] (lsC (wlR q)) (by rw [show wlR q = [dI, numW q.n] from by simp [wlR, *]]; simp [lsC, HV.close, fob_at, upd_at, HV.norm, HV.toC, HV.closeL, HV.toCL, CV.denil]; rfl) rfl (by simp) rfl
 have hk1 : ¬ q.k = 1 := by simpa using hb
 clear hb
 refine R0 ?_
 refine aG (b := (q.k == 2)) rfl (fun hb => ?_) (fun hb => ?_)
 ·
  have hk : q.k = 2 := by simpa using hb
  clear hb
  refine aC fun K hK => Rg ?_
  iterate 4 refine S0 ?_
  refine T2 (hK _ _ _ ?_)
  clear hK K
  refine aF (RT Tryd.results37 ?_)
  exact dK [57] (lsC (wlR q)) (by rw [show wlR q = [dU, q.t] from by simp [wlR, *]]; simp [lsC, HV.close, fob_at, upd_at, HV.norm, HV.toC, HV.closeL, HV.toCL, CV.denil]; rfl) rfl (by simp) rfl
 have hk2 : ¬ q.k = 2 := by simpa using hb
 clear hb
 refine R0 ?_
 refine aG (b := (q.k == 3)) rfl (fun hb => ?_) (fun hb => ?_)
 ·
  have hk : q.k = 3 := by simpa using hb
  clear hb
  refine R0 ?_
  refine aF (RT Tryd.results37 ?_)
  exact dK [61] (lsC (wlR q)) (by rw [show wlR q = [dP, numW q.n] from by simp [wlR, *]]; simp [lsC, HV.close, fob_at, upd_at, HV.norm, HV.toC, HV.closeL, HV.toCL, CV.denil]; rfl) rfl (by simp) rfl
 have hk3 : ¬ q.k = 3 := by simpa using hb
 clear hb
 refine R0 ?_
 refine aG (b := (q.k == 4)) rfl (fun hb => ?_) (fun hb => ?_)
 ·
  have hk : q.k = 4 := by simpa using hb
  clear hb
  refine aC fun K hK => Rg ?_
  iterate 3 refine S0 ?_
  refine HS rfl rfl fun K' hK' => T5 ?_
  refine eX (args := [_]) 0 (wF q.m hm) rfl (by simp) ⟨rfl, rfl, rfl, rfl⟩ ?_
  rintro u rfl
  refine AX (hK' _ _ ?_)
  clear hK' K'
  iterate 2 refine S0 ?_
  refine T2 (hK _ _ _ ?_)
  clear hK K
  refine aF (RT Tryd.results37 ?_)
  exact dK [81] (lsC (wlR q)) (by rw [show wlR q = [fA, numW q.n, numW q.m] from by simp [wlR, *]]; simp [lsC, HV.close, fob_at, upd_at, HV.norm, HV.toC, HV.closeL, HV.toCL, CV.denil]; rfl) rfl (by simp) rfl
 have hk4 : ¬ q.k = 4 := by simpa using hb
 clear hb
 refine R0 ?_
 refine aG (b := (q.k == 5)) rfl (fun hb => ?_) (fun hb => ?_)
 ·
  have hk : q.k = 5 := by simpa using hb
  clear hb
  refine R0 ?_
  refine aF (RT Tryd.results37 ?_)
  exact dK [77] (lsC (wlR q)) (by rw [show wlR q = [gK, numW q.n] from by simp [wlR, *]]; simp [lsC, HV.close, fob_at, upd_at, HV.norm, HV.toC, HV.closeL, HV.toCL, CV.denil]; rfl) rfl (by simp) rfl
 have hk5 : ¬ q.k = 5 := by simpa using hb
 clear hb
 refine R0 ?_
 refine aG (b := (q.k == 6)) rfl (fun hb => ?_) (fun hb => ?_)
 ·
  have hk : q.k = 6 := by simpa using hb
  clear hb
  refine R0 ?_
  refine aF (RT Tryd.results37 ?_)
  exact dK [85] (lsC (wlR q)) (by rw [show wlR q = [kE, numW q.n] from by simp [wlR, *]]; simp [lsC, HV.close, fob_at, upd_at, HV.norm, HV.toC, HV.closeL, HV.toCL, CV.denil]; rfl) rfl (by simp) rfl
 have hk6 : ¬ q.k = 6 := by simpa using hb
 clear hb
 refine R0 ?_
 refine aG (b := (q.k == 7)) rfl (fun hb => ?_) (fun hb => ?_)
 ·
  have hk : q.k = 7 := by simpa using hb
  clear hb
  refine R0 ?_
  refine aF (RT Tryd.results37 ?_)
  exact dK [93] (lsC (wlR q)) (by rw [show wlR q = [lJ, numW q.n] from by simp [wlR, *]]; simp [lsC, HV.close, fob_at, upd_at, HV.norm, HV.toC, HV.closeL, HV.toCL, CV.denil]; rfl) rfl (by simp) rfl
 have hk7 : ¬ q.k = 7 := by simpa using hb
 clear hb
 refine aJ ?_
 refine T0 (hK _ _ _ ?_)
 clear hK K
 refine R0 ?_
 refine aF (RT Tryd.results37 ?_)
 exact dK [89] (lsC (wlR q)) (by rw [show wlR q = [iD] from by simp [wlR, *]]; simp [lsC, HV.close, fob_at, upd_at, HV.norm, HV.toC, HV.closeL, HV.toCL, CV.denil]; rfl) rfl (by simp) rfl

end Go.Proofs.YtlldglbooaefhaaDoor

namespace Go.Proofs.YtlldglbooaefhaaDoor
open Go Go.Hl Go.Pl
set_option maxRecDepth 10000
set_option maxHeartbeats 16000000

theorem cF1 (L : List (List aE)) : lst [.tab tabs, .row 52 1 (L.map lsC)] = fob [(0, .tab tabs), (1, .row 52 1 (L.map lsC))] := by
 funext i
 match i with
 | 0 => rfl
 | 1 => rfl
 | i + 2 => simp [lst, fob, upd]
theorem aQ1 (n : Nat) (ob : Ob) (e : TypeId) (sz : Nat) (T : kN) (L : List CV) : jK (sub [0, 1] n) ob 0 [.tab T, .row e sz L] = upd (upd ob 0 (some (.tab T))) 1 (some (.row e sz L)) := rfl
theorem wG {ob : Ob} {L : List CV} {M : List (List aE)} {m : Nat} {a : Nat} (h0 : ob 0 = some (.tab tabs)) (h1 : ob 1 = some (.row 52 1 L)) (hm : m = M.length) (hL : L = M.map lsC) :
  lN 2 (.tup [.own 1 m, .c (.int .i64 a)]) ob (fun r ob' => ∃ os', ob' = lst os' ∧ (2 ≤ os'.length ∧ os'.length ≤ 2 + 4) ∧ r = .tup [.own 1 M.length, .c (.int .i64 a)] ∧ os' = [.tab tabs, .row 52 1 (M.map lsC)]) := by
 subst hm hL
 exact dY [] [] (.tup [.own 1 M.length, .c (.int .i64 a)]) [.tab tabs, .row 52 1 (M.map lsC)] rfl (by simp [HV.men, HV.menL]) ⟨⟨by simp [HO.men], by simp, _, h0, rfl⟩, ⟨by simp [HO.men], by simp, _, h1, rfl⟩, trivial⟩ rfl List.nodup_nil (by simp) (by simp) ⟨rfl, rfl⟩

theorem bN7 (l : List Nd) (ht : IsTree l) (m : Nat) : ∀ (L : List (List aE)) (i : Nat) (hi : i < l.length), l.length - i ≤ m → 0 < L.length → L.length + 2 * (l.length - i) < 2 ^ 40 →
  HGe Tryd.prog 20 [.own 1 L.length, .c (.slc (l.map Nd.cv)), .c (.int .i64 i)] [.tab tabs, .row 52 1 (L.map lsC)] (fun r os' => r = .tup [.own 1 (L ++ jE l i).length, .c (.int .i64 (aft l i : Nat))] ∧ os' = [.tab tabs, .row 52 1 ((L ++ jE l i).map lsC)]) := by
 induction m using Nat.strongRecOn with
 | ind m ih => ?_
 intro L i hi hfu hL0 hLl
 refine bP (args := [.own 1 L.length, .c (.slc (l.map Nd.cv)), .c (.int .i64 i)]) Tryd.func20 rfl (by kernel_rfl) (eW rfl (by simp [dZ, HO.men, HV.men, HV.menL]) (by simp [HV.menL, HV.men])) (Nat.le_of_ble_eq_true rfl) ?_
 show Hw _ _ 2 _ _ _ (lst _) 2
 rw [cF1]
 have hnode := ht.node _ (List.getElem_mem hi)
 obtain ⟨c1, c2, c3, c4⟩ := dL hnode
 have hll := ht.len
 have hwi : IntKind.i64.wrap ((i : Int) + 1) = ((i + 1 : Nat) : Int) := IntWalk.i64_in _ (by omega)
 obtain ⟨a1, a2, a3⟩ := kD ht hi
 refine R0 ?_
 refine aC fun K hK => Rg ?_
 have F := aI @Int.natCast_nonneg (aI @Int.ofNat_lt (aI hi (nM hi)))
 iterate 6 refine SF ?_
 refine T2 (hK _ _ _ ?_)
 clear hK K
 have F := hwi
 refine RF ?_
 refine aC fun K hK => ?_
 have key : ∀ fr ob nx, l[i].k ≠ 1 → Fits 2 fr ob (fin [(0, .own 1 (L.length + 1)), (1, .c (.slc (l.map Nd.cv))), (2, .c (.int .i64 ((i + 1 : Nat) : Int))), (8, .ptr 26 0)]) (fob [(0, .tab tabs), (1, .row 52 1 ((L ++ [wlN l[i]]).map lsC)), (26, .box 48 (.c l[i].cv))]) 300 → K fr ob nx := by
  rintro fr ob nx hk1 hf
  refine hK _ _ _ (bS hf ?_)
  clear hf hK K
  refine aC fun K hK => ?_
  refine R0 ?_
  refine aK ?_
  refine bM (α := {k : Nat // k ≤ l[i].c.toNat}) (fun k => (fin [(0, .own 1 (L.length + 1 + (dV l i k.1).length)), (1, .c (.slc (l.map Nd.cv))), (2, .c (.int .i64 (dT l k.1 (i + 1) : Nat))), (48, .c (.int .i64 l[i].c)), (49, .c (.int .i64 k.1))], fob [(0, .tab tabs), (1, .row 52 1 ((L ++ wlN l[i] :: dV l i k.1).map lsC))])) 2000 (fun k => l[i].c.toNat - k.1) ⟨0, by omega⟩ (aO (by omega) (by simp [bB, fin_at, finA_at, upd_at, HV.men, HV.menL, HV.norm, HV.toC, HV.toCL, lK, dT]) (by simp [aZ, fob_at, upd_at, none0_at, bZ, HO.men, HV.men, HV.menL, HV.norm, HV.toC, HV.toCL, lK, dT])) ?_
  rintro ⟨k, hk⟩
  obtain ⟨k1, k2, k3⟩ := gR ht hi k hk
  have hkl := aJ9 ht hi hk hk1
  refine R0 ?_
  refine aC fun K hK => ?_
  refine aG (b := decide ((k : Int) < l[i].c)) rfl (fun hb => ?_) (fun hb => ?_)
  ·
   have hlt : k < l[i].c.toNat := by simp at hb; omega
   have hkid := mW ht hi hlt
   clear hb
   obtain ⟨M, hM⟩ : ∃ M, M = L ++ wlN l[i] :: dV l i k := ⟨_, rfl⟩
   have hMl : L.length + 1 + (dV l i k).length = M.length := by rw [hM]; simp; omega
   rw [← hM, hMl]
   refine aJ ?_
   refine T0 (hK _ _ _ ?_)
   clear hK K
   refine aC fun K hK => ?_
   refine aK ?_
   refine Rg ?_
   iterate 3 refine S0 ?_
   refine HS rfl rfl fun K' hK' => T5 ?_
   refine fP [0, 1] (ih (l.length - dT l k (i + 1)) (by omega) M (dT l k (i + 1)) hkid (by omega) (by omega) (by omega)) rfl ⟨rfl, rfl, trivial⟩ (by simp) (by simp) ⟨rfl, rfl, rfl, rfl⟩ (by simp [dZ, HO.men, HV.men, HV.menL]) (by simp [HV.menL, HV.men]) ?_
   rintro r os' ⟨rfl, rfl⟩
   rw [aQ1, aK7]
   refine AX (hK' _ _ ?_)
   clear hK' K'
   iterate 5 refine S0 ?_
   refine T2 (hK _ _ _ ?_)
   clear hK K
   refine aM (by kernel_rfl) ?_
   refine TQ (IntWalk.i64_in ((k : Int) + 1) (by omega)) ?_
   refine ⟨⟨k + 1, hlt⟩, ?_, ?_⟩
   ·
    have e1 : M ++ jE l (dT l k (i + 1)) = L ++ wlN l[i] :: dV l i (k + 1) := by rw [hM, pZ ht hi hlt]; simp
    have e2 : (M ++ jE l (dT l k (i + 1))).length = L.length + 1 + (dV l i (k + 1)).length := by rw [e1]; simp; omega
    simp only []
    rw [← e1, ← e2, fV]
    exact fF
   show l[i].c.toNat - (k + 1) < l[i].c.toNat - k
   omega
  refine bA (T3 ?_)
  clear hK K
  refine AX (hK _ _ _ ?_)
  clear hK K
  have hke : k = l[i].c.toNat := by simp at hb; omega
  subst hke
  rw [wD ht hi] at hkl k3
  clear hb
  refine aC fun K hK => bD (by kernel_rfl) ?_
  simp only [sR, simprocAttr]
  have F := aI @kW @kV
  refine SGF ?_
  refine cT (g := none) 2008 rfl rfl fun K' hK' => ?_
  simp only [fK, iQ, sH, ↓sP, sA, tyS, simprocAttr, kW, kV]
  repeat refine AI ?_
  refine cF (by first | rfl | simp) ?_
  try simp only [sH, ↓sP, sA, tyS, simprocAttr, kW, kV]
  refine AX (hK' _ _ ?_)
  clear hK' K'
  iterate 5 refine SGF ?_
  refine T2 (hK _ _ _ ?_)
  clear hK K
  refine aF (RT Tryd.results20 ?_)
  rw [sL ht hi hk1, wD ht hi]
  exact wG (M := L ++ wlN l[i] :: (dV l i l[i].c.toNat ++ [[wEnd]])) rfl rfl (by simp) (by simp [lsC, wEnd])
 refine R0 ?_
 refine aK ?_
 refine R0 ?_
 refine aG (b := (l[i].k == 1)) rfl (fun hb => ?_) (fun hb => ?_)
 ·
  have hk : l[i].k = 1 := by simpa using hb
  obtain ⟨⟨r1, r2⟩, r3, r4⟩ := bL8 (bT6 hnode hk)
  clear hb
  refine aC fun K hK => Rg ?_
  have F := aI @kW @kV
  iterate 3 refine SF ?_
  refine HS rfl rfl fun K' hK' => T6 ?_
  refine eX (args := [_]) 0 (bN6 l[i].q ⟨by omega, by omega⟩ ⟨by omega, by omega⟩) rfl (by simp) ⟨rfl, rfl, rfl, rfl⟩ ?_
  rintro u rfl
  refine AX (hK' _ _ ?_)
  clear hK' K'
  iterate 5 refine SF ?_
  refine T2 (hK _ _ _ ?_)
  clear hK K
  refine aF (RT Tryd.results20 ?_)
  rw [vS hi hk, aJ8 ht hi hk]
  exact wG (M := L ++ [wlR l[i].q]) rfl rfl (by simp) (by simp)
 have hk1 : l[i].k ≠ 1 := by simpa using hb
 clear hb
 refine R0 ?_
 refine aG (b := (l[i].k == 2)) rfl (fun hb => ?_) (fun hb => ?_)
 ·
  have hk : l[i].k = 2 := by simpa using hb
  have hwl : wlN l[i] = [oQ] := by simp [wlN, hk]
  clear hb
  refine bD (by kernel_rfl) ?_
  simp only [sR, simprocAttr]
  refine SG0 ?_
  refine cT (g := none) 74 rfl rfl fun K' hK' => ?_
  simp only [fK, iQ, sH, ↓sP, sA, tyS, simprocAttr]
  repeat refine AI ?_
  refine cF (by first | rfl | simp) ?_
  try simp only [sH, ↓sP, sA, tyS, simprocAttr]
  refine AX (hK' _ _ ?_)
  clear hK' K'
  iterate 3 refine SG0 ?_
  refine T4 ?_
  exact key _ _ _ hk1 (by rw [hwl]; exact aO (by omega) (by simp [bB, fin_at, finA_at, upd_at, HV.men, HV.menL, HV.norm, HV.toC, HV.toCL, lsC, oQ, oR, cU]) (by simp [aZ, fob_at, upd_at, none0_at, bZ, HO.men, HV.men, HV.menL, HV.norm, HV.toC, HV.toCL, lsC, oQ, oR, cU]))
 have hk2 : l[i].k ≠ 2 := by simpa using hb
 clear hb
 refine R0 ?_
 refine aG (b := (l[i].k == 3)) rfl (fun hb => ?_) (fun hb => ?_)
 ·
  have hk : l[i].k = 3 := by simpa using hb
  have hwl : wlN l[i] = [oR] := by simp [wlN, hk]
  clear hb
  refine bD (by kernel_rfl) ?_
  simp only [sR, simprocAttr]
  refine SG0 ?_
  refine cT (g := none) 82 rfl rfl fun K' hK' => ?_
  simp only [fK, iQ, sH, ↓sP, sA, tyS, simprocAttr]
  repeat refine AI ?_
  refine cF (by first | rfl | simp) ?_
  try simp only [sH, ↓sP, sA, tyS, simprocAttr]
  refine AX (hK' _ _ ?_)
  clear hK' K'
  iterate 3 refine SG0 ?_
  refine T4 ?_
  exact key _ _ _ hk1 (by rw [hwl]; exact aO (by omega) (by simp [bB, fin_at, finA_at, upd_at, HV.men, HV.menL, HV.norm, HV.toC, HV.toCL, lsC, oQ, oR, cU]) (by simp [aZ, fob_at, upd_at, none0_at, bZ, HO.men, HV.men, HV.menL, HV.norm, HV.toC, HV.toCL, lsC, oQ, oR, cU]))
 have hk3 : l[i].k ≠ 3 := by simpa using hb
 have hk4 := bT5 hnode hk1 hk2 hk3
 clear hb
 refine R0 ?_
 refine aG (b := (l[i].k == 4)) rfl (fun hb => ?_) (fun hb => ?_)
 ·
  have hwl : wlN l[i] = [cU, numW l[i].n] := by simp [wlN, hk2, hk3]
  have hnn := bT7 hnode hk4
  clear hb
  refine bD (by kernel_rfl) ?_
  simp only [sR, simprocAttr]
  iterate 3 refine SG0 ?_
  refine bK (g := none) rfl rfl fun K' hK' => T5 ?_
  refine eX (args := [_]) 0 (wF l[i].n ⟨by omega, by omega⟩) rfl (by simp) ⟨rfl, rfl, rfl, rfl⟩ ?_
  rintro u rfl
  refine AX (hK' _ _ ?_)
  clear hK' K'
  refine cT (g := none) 102 rfl rfl fun K' hK' => ?_
  simp only [fK, iQ, sH, ↓sP, sA, tyS, simprocAttr]
  repeat refine AI ?_
  refine cF (by first | rfl | simp) ?_
  try simp only [sH, ↓sP, sA, tyS, simprocAttr]
  refine AX (hK' _ _ ?_)
  clear hK' K'
  iterate 3 refine SG0 ?_
  refine T4 ?_
  exact key _ _ _ hk1 (by rw [hwl]; exact aO (by omega) (by simp [bB, fin_at, finA_at, upd_at, HV.men, HV.menL, HV.norm, HV.toC, HV.toCL, lsC, oQ, oR, cU]) (by simp [aZ, fob_at, upd_at, none0_at, bZ, HO.men, HV.men, HV.menL, HV.norm, HV.toC, HV.toCL, lsC, oQ, oR, cU]))
 rw [hk4] at hb
 cases hb

end Go.Proofs.YtlldglbooaefhaaDoor

namespace Go.Pl
open Go Go.Hl

theorem bV3 (q : Rq) : (wlR q).length ≤ 5 := by grind [wlR]
theorem bV4 (n : Nd) : (wlN n).length ≤ 5 := by grind [wlN]
theorem tR : ∀ (f m : Nat) (l : List Nd), ∀ x ∈ cV f m l, x.length ≤ 5
 | 0, m, l, x, h => by simp [cV] at h
 | f + 1, 0, l, x, h => by cases l <;> simp [cV] at h
 | f + 1, m + 1, [], x, h => by simp [cV] at h
 | f + 1, m + 1, n :: l, x, h => by
  simp only [cV] at h
  split at h
  ·
   rcases List.mem_cons.1 h with rfl | h
   ·
    exact bV3 _
   ·
    exact tR f _ _ x h
  ·
   rcases List.mem_cons.1 h with rfl | h
   ·
    exact bV4 _
   ·
    rcases List.mem_append.1 h with h | h
    ·
     exact tR f _ _ x h
    ·
     rcases List.mem_cons.1 h with rfl | h
     ·
      simp
     ·
      exact tR f _ _ x h
theorem wH (t : List Nd) : jE t 0 = aI0 t := by simp [jE, aI0]
def oY (p : Po) (i : Nat) : List (List aE) := [wPolicy, p.n, numW p.v] :: (p.r.take i).flatMap gL
theorem zF {p : Po} {i : Nat} (hi : i < p.r.length) : oY p (i + 1) = oY p i ++ gL p.r[i] := by grind [oY, List.take_succ_eq_append_getElem]
theorem aK8 (p : Po) : oY p p.r.length = kR p := by simp [oY, kR]
theorem bC4 {r : Pr} (h : iB r = true) : (gL r).length ≤ 121 := by
 obtain ⟨_, ht, _⟩ := jG h
 have h0 : 0 < r.t.length := ht.ne
 have h1 := bL9 ht h0
 have h2 := (kD ht h0).2.1
 have h3 := ht.len
 grind [wH, gL, List.length_cons]
theorem aK9 {p : Po} (h : ∀ r ∈ p.r, iB r = true) : ∀ i, i ≤ p.r.length → (oY p i).length ≤ 1 + 121 * i
 | 0, _ => by simp [oY]
 | i + 1, hi => by
  have := aK9 h i (by omega)
  grind [bC4, List.getElem_mem, zF, List.length_append]
theorem bV5 (p : Po) : ∀ x ∈ kR p, x.length < 2 ^ 40 := by
 intro x hx
 have : x.length ≤ 5 := by
  simp only [kR] at hx
  rcases List.mem_cons.1 hx with rfl | hx
  ·
   simp
  ·
   obtain ⟨r, _, hx⟩ := List.mem_flatMap.1 hx
   simp only [gL] at hx
   rcases List.mem_cons.1 hx with rfl | hx
   ·
    simp
   ·
    exact tR _ _ _ x hx
 omega
end Go.Pl

namespace Go.Proofs.YtlldglbooaefhaaDoor
open Go Go.Hl Go.Pl
set_option maxRecDepth 10000
set_option maxHeartbeats 16000000

theorem bN8 (ls : List (List aE)) (h0 : ls.length < 2 ^ 40) (h1 : ∀ l ∈ ls, l.length < 2 ^ 40) : mO Tryd.prog 21 [.slc (ls.map lsC)] (fun u v => u = .slc ((mL ls).map dW) ∧ v = .int .i64 (jZ ls)) := bY8 ls h0 h1
theorem aQ2 (N n : Nat) (ob : Ob) (e : TypeId) (sz : Nat) (T : kN) (L : List CV) : jK (sub [0, N] n) ob 0 [.tab T, .row e sz L] = upd (upd ob 0 (some (.tab T))) N (some (.row e sz L)) := rfl

theorem aC3 (p : Po) (hp : PoSz p) : aS4 Tryd.prog 8 tabs [p.cv] (fun u v => u = .slc ((lQ p).map dW) ∧ v = .int .i64 (rH p)) := by
 refine bP (args := [.c p.cv]) Tryd.func8 rfl (by kernel_rfl) (fD tabs [p.cv]) (Nat.le_of_ble_eq_true rfl) ?_
 unfold eH
 refine R0 ?_
 refine aC fun K hK => ?_
 refine aC fun K hK => Rg ?_
 refine S0 ?_
 refine HS rfl rfl fun K' hK' => T5 ?_
 refine C1 (rL p hp) ?_
 rintro u rfl
 refine AX (hK' _ _ ?_)
 clear hK' K'
 refine S0 ?_
 refine T2 (hK _ _ _ ?_)
 clear hK K
 refine aG (b := !fE p) rfl (fun hb => ?_) (fun hb => ?_)
 ·
  refine R0 ?_
  refine aF (RT Tryd.results8 ?_)
  have hv : fE p = false := by simpa using hb
  refine sI [] (.slc []) (.int .i64 1) ?_ rfl (by simp) ⟨by rw [lQ, hv]; rfl, by rw [rH, hv]; rfl⟩
  simp [HV.close, HV.closeL, CV.denil, CV.denilL, HV.norm, HV.toC, HV.toCL]
 refine aJ ?_
 refine T0 (hK _ _ _ ?_)
 clear hK K
 have hv : fE p = true := by simpa using hb
 clear hb
 obtain ⟨⟨v1, v2⟩, hr16, _, hrules⟩ := tM hv
 refine aC fun K hK => eI mixed [(0, [], []), (1, [], []), (2, [], []), (3, [], []), (4, [], [0, 1]), (5, [], []), (6, [], []), (7, [], [])] [0, 1, 0, 4, 12, 31, 63, 127] (by kernel_rfl) (by kernel_rfl) (by kernel_rfl) (by kernel_rfl) rfl (by kernel_rfl) ?_
 iterate 4 refine WG0 ?_
 refine eC (g := none) rfl rfl fun K' hK' => T5 ?_
 refine eX (args := [_]) 0 (wF p.v ⟨by omega, by omega⟩) rfl (by simp) ⟨rfl, rfl, rfl, rfl⟩ ?_
 rintro u rfl
 refine AX (hK' _ _ ?_)
 clear hK' K'
 refine eL (g := none) 45 rfl rfl fun K' hK' => ?_
 simp only [fK, iQ, sH, ↓sP, sA, tyS, simprocAttr]
 repeat refine AI ?_
 refine cF (by first | rfl | simp) ?_
 try simp only [sH, ↓sP, sA, tyS, simprocAttr]
 refine AX (hK' _ _ ?_)
 clear hK' K'
 iterate 2 refine WG0 ?_
 refine T2 (hK _ _ _ ?_)
 clear hK K
 refine aC fun K hK => ?_
 refine aC fun K hK => Rg ?_
 iterate 4 refine S0 ?_
 refine T2 (hK _ _ _ ?_)
 clear hK K
 refine aK ?_
 refine bM (α := {i : Nat // i ≤ p.r.length}) (fun i => (fin [(4, .own 49 (oY p i.1).length), (18, .c (.slc (p.r.map Pr.cv))), (19, .c (.int .i64 p.r.length)), (20, .c (.int .i64 i.1))], fob [(0, .tab tabs), (49, .row 52 1 ((oY p i.1).map lsC))])) 2000 (fun i => p.r.length - i.1) ⟨0, by omega⟩ (aO (by omega) (by simp [bB, fin_at, finA_at, upd_at, HV.men, HV.menL, HV.norm, HV.toC, HV.toCL, oY, lsC, wPolicy]) (by simp [aZ, fob_at, upd_at, none0_at, bZ, HO.men, HV.men, HV.menL, HV.norm, HV.toC, HV.toCL, oY, lsC, wPolicy])) ?_
 rintro ⟨i, hi⟩
 have hll := aK9 hrules i hi
 have hl0 : 0 < (oY p i).length := by simp [oY]
 refine R0 ?_
 refine aC fun K hK => ?_
 refine aG (b := decide ((i : Int) < p.r.length)) rfl (fun hb => ?_) (fun hb => ?_)
 ·
  have hlt : i < p.r.length := by simpa using hb
  clear hb
  obtain ⟨r, hr⟩ : ∃ r, r = p.r[i] := ⟨_, rfl⟩
  have hrule := hrules r (by rw [hr]; exact List.getElem_mem hlt)
  obtain ⟨⟨g1, g2⟩, ht, _⟩ := jG hrule
  have ht0 : 0 < r.t.length := ht.ne
  have htl := ht.len
  obtain ⟨L, hL⟩ : ∃ L, L = oY p i := ⟨_, rfl⟩
  rw [← hL] at hll hl0 ⊢
  refine aJ ?_
  refine T0 (hK _ _ _ ?_)
  clear hK K
  refine aC fun K hK => ?_
  refine aK ?_
  refine aC fun K hK => Rg ?_
  iterate 4 refine S0 ?_ (e := fun _ h_ => by simp only [sH, ↓sP, sA, tyS, simprocAttr, Int.natCast_nonneg, Int.ofNat_lt, hlt, bY hlt, ← hr]; exact AX h_)
  refine T2 (hK _ _ _ ?_)
  clear hK K
  refine aC fun K hK => eI mixed [(0, [], []), (1, [], []), (2, [], []), (3, [], []), (4, [], []), (5, [], []), (6, [], []), (7, [], []), (8, [], []), (9, [], [0, 1, 2, 3, 4, 5, 6]), (10, [], []), (11, [], []), (12, [], []), (13, [], [])] [0, 0, 2, 0, 8, 0, 32, 0, 128, 384, 1022, 2046, 4095, 8191] (by kernel_rfl) (by kernel_rfl) (by kernel_rfl) (by kernel_rfl) rfl (by kernel_rfl) ?_
  iterate 9 refine WG0 ?_
  refine eC (g := none) rfl rfl fun K' hK' => T5 ?_
  refine eX (args := [_]) 0 (wF r.g ⟨by omega, by omega⟩) rfl (by simp) ⟨rfl, rfl, rfl, rfl⟩ ?_
  rintro u rfl
  refine AX (hK' _ _ ?_)
  clear hK' K'
  refine eL (g := none) 2060 rfl rfl fun K' hK' => ?_
  simp only [fK, iQ, sH, ↓sP, sA, tyS, simprocAttr]
  repeat refine AI ?_
  refine cF (by first | rfl | simp) ?_
  try simp only [sH, ↓sP, sA, tyS, simprocAttr]
  refine AX (hK' _ _ ?_)
  clear hK' K'
  iterate 3 refine WG0 ?_
  refine T2 (hK _ _ _ ?_)
  clear hK K
  obtain ⟨M, hM⟩ : ∃ M, M = L ++ [[wRule, r.a, r.b, r.c, numW r.g]] := ⟨_, rfl⟩
  have hMm : List.map lsC L ++ [CV.slc [CV.str [114, 117, 108, 101], CV.str r.a, CV.str r.b, CV.str r.c, CV.str (numW r.g)]] = List.map lsC M := by rw [hM]; simp [lsC, wRule]
  have hMl : L.length + 1 = M.length := by rw [hM]; simp
  rw [hMm]
  simp only [List.length_map]
  refine Rg ?_
  iterate 3 refine S0 ?_
  refine HS rfl rfl fun K' hK' => T5 ?_
  refine fP [0, 49] (bN7 r.t ht r.t.length M 0 ht0 (by omega) (by rw [hM]; simp) (by rw [hM]; simp; omega)) rfl ⟨rfl, rfl, trivial⟩ (by simp) (by simp) ⟨rfl, rfl, rfl, rfl⟩ (by simp [dZ, HO.men, HV.men, HV.menL]) (by simp [HV.menL, HV.men]) ?_
  rintro q os' ⟨rfl, rfl⟩
  rw [aQ2, zE]
  refine AX (hK' _ _ ?_)
  clear hK' K'
  iterate 4 refine S0 ?_
  refine T2 (hK _ _ _ ?_)
  clear hK K
  refine aM (by kernel_rfl) ?_
  refine TQ (IntWalk.i64_in ((i : Int) + 1) (by omega)) ?_
  refine ⟨⟨i + 1, hlt⟩, ?_, ?_⟩
  ·
   have e1 : M ++ jE r.t 0 = oY p (i + 1) := by rw [zF hlt, hM, hL, wH, ← hr]; simp [gL]
   rw [e1]
   exact fF
  show p.r.length - (i + 1) < p.r.length - i
  omega
 refine bA (T3 ?_)
 clear hK K
 refine AX (hK _ _ _ ?_)
 clear hK K
 have hei : i = p.r.length := by simp at hb; omega
 subst hei
 clear hb
 rw [aK8]
 refine eE [49] (bS (fr2 := fin [(4, .c (.slc ((kR p).map lsC)))]) (ob2 := fob [(0, .tab tabs)]) (nx2 := 3000) (aO (by omega) (by simp [bB, gO, fin_at, finA_at, upd_at, fob_at, HV.close, HV.closeL, CV.denil, CV.denilL, aQ, HV.men, HV.menL, HV.norm, HV.toC, HV.toCL]) (by simp [aZ, gP, fob_at, upd_at, none0_at, bZ, HO.close, HV.close, HV.closeL, HO.men, HV.men, HV.menL, HV.norm, HV.toC, HV.toCL])) ?_)
 rw [aK8] at hll
 refine aC fun K hK => Rg ?_
 have F := @aQ
 refine SF ?_
 refine HS rfl rfl fun K' hK' => T6 ?_
 refine D1 (bN8 (kR p) (by omega) (bV5 p)) ?_
 rintro u v ⟨rfl, rfl⟩
 refine AX (hK' _ _ ?_)
 clear hK' K'
 iterate 4 refine SF ?_
 refine T2 (hK _ _ _ ?_)
 clear hK K
 refine aF (RT Tryd.results8 ?_)
 exact sI [] (.slc ((mL (kR p)).map dW)) (.int .i64 (jZ (kR p))) (by simp [HV.close, HV.closeL, CV.denil, CV.denilL, dR, HV.norm, HV.toC, HV.toCL]) rfl (by simp) ⟨by rw [lQ, if_pos hv], by rw [rH, if_pos hv]⟩

end Go.Proofs.YtlldglbooaefhaaDoor

namespace Go.Hl
open Go
def aV2 (P : Program) (f : FuncId) (T : kN) (args : List CV) (R : CV → CV → CV → Prop) : Prop :=
 HFn P f (args.map .c) 1 (eH T) (fun r ob' => ∃ u v x, r = .tup [.c u, .c v, .c x] ∧ ob' = eH T ∧ R u v x)
theorem iH {ob : Ob} {r : HV} {T : kN} {R : CV → CV → CV → Prop} (cl : List Nat) (u v x : CV) (h : (r.close ob cl).norm = .tup [.c u, .c v, .c x]) (hb : ob 0 = some (.tab T)) (h0 : 0 ∉ cl) (hR : R u v x) :
  lN 1 r ob (fun r ob' => ∃ u v x, r = .tup [.c u, .c v, .c x] ∧ ob' = eH T ∧ R u v x) :=
 ⟨cl, id, .tup [.c u, .c v, .c x], eH T, ⟨u, v, x, rfl, rfl, hR⟩, by grind [HV.ren, HV.renL], fun _ _ => rfl, fun _ _ _ _ h => h, by simp [HV.men, HV.menL], aN8 hb h0⟩
theorem sU {P : Program} {av : List Nat} {f : FuncId} {ob : Ob} {nid : Nat} {K : HV → Ob → Prop} {T : kN} {args : List CV} {R : CV → CV → CV → Prop} (id : Nat) (h : aV2 P f T args R) (hid : ob id = some (.tab T)) (hav : id ∉ av)
  (hfree : ob nid = none ∧ ob (nid + 1) = none ∧ ob (nid + 2) = none ∧ ob (nid + 3) = none) (hK : ∀ u v x, R u v x → K (.tup [.c u, .c v, .c x]) ob) : HCall P av f (args.map .c) ob nid K := by
 refine ⟨[id], args.map .c, _, _, h, fD T args, ⟨by simp, by grind⟩, (HV.renL_c _ _).symm, qY hid, fun r lob' hR _ => ?_⟩
 obtain ⟨u, v, x, rfl, rfl, hR⟩ := hR
 rw [mR hid hfree]
 exact hK u v x hR
end Go.Hl

namespace Go.Pl
open Go Go.Hl

def LsB (ls : List (List aE)) : Prop := ∀ l ∈ ls, ∀ w ∈ l, w.length < 2 ^ 40
theorem LsB.drop {ls : List (List aE)} (h : LsB ls) (j : Nat) : LsB (ls.drop j) := fun l hl => h l (List.mem_of_mem_drop hl)
theorem cA5 {l : List aE} (h : ∀ w ∈ l, w.length < 2 ^ 40) (i : Nat) : (wd l i).length < 2 ^ 40 := by grind [wd, Nat.lt_or_ge, List.getElem?_eq_getElem, List.getElem_mem, List.getElem?_eq_none]
theorem cA6 {w : List aE} (h : ∀ x ∈ w, x.length < 2 ^ 40) {q : Rq} (hq : fB w = some q) : q.t.length < 2 ^ 40 := by
 have h1 := cA5 h 1
 have hm : ∀ (k : Int) (o : Option Int), o.map (fun n => (⟨k, n, 0, []⟩ : Rq)) = some q → q.t.length < 2 ^ 40 := fun k o ho => by
  cases o with
  | none => grind
  | some n => grind
 unfold fB at hq
 split at hq
 ·
  exact hm _ _ hq
 ·
  split at hq
  ·
   grind
  ·
   split at hq
   ·
    exact hm _ _ hq
   ·
    split at hq
    ·
     grind
    ·
     split at hq
     ·
      exact hm _ _ hq
     ·
      split at hq
      ·
       exact hm _ _ hq
      ·
       split at hq
       ·
        exact hm _ _ hq
       grind
theorem cA7 {w : List aE} {n : Nd} (h : jF w = some n) : n.q = rq0 := by grind [jF, bH, wd]
theorem cF2 : ∀ f, (∀ ls, LsB ls → ∀ t, (rdN f ls).1 = some t → ∀ n ∈ t, n.q.t.length < 2 ^ 40) ∧ (∀ ls, LsB ls → ∀ p, (rdK f ls).1 = some p → ∀ n ∈ p.1, n.q.t.length < 2 ^ 40)
 | 0 => ⟨fun ls _ t h => by simp [rdN] at h, fun ls _ t h => by simp [rdK] at h⟩
 | f + 1 => by
  obtain ⟨ihN, ihK⟩ := cF2 f
  refine ⟨fun ls hb t h => ?_, fun ls hb p h => ?_⟩
  ·
   match ls with
   | [] => simp [rdN] at h
   | w :: r =>
    cases h1 : fB w with
    | some q =>
     rw [nE h1] at h
     cases h
     intro n hn
     rw [List.mem_singleton] at hn
     subst hn
     exact cA6 (hb w (by simp)) h1
    | none =>
     cases h2 : jF w with
     | none => grind [nF]
     | some n =>
      rw [nY h1 h2] at h
      cases hk : (rdK f r).1 with
      | none => simp [wY, hk] at h
      | some p =>
       simp only [wY, hk, Option.map_some, Option.some.injEq] at h
       subst h
       intro x hx
       rcases List.mem_cons.1 hx with rfl | hx
       ·
        grind [cA7, rq0]
       ·
        exact ihK r (fun l hl => hb l (by grind)) p hk x hx
  ·
   cases he : iE (ls.headD []) with
   | true => grind [aB8]
   | false =>
    match h2 : rdN f ls with
    | (none, r) => simp_all [aP7]
    | (some t, r) =>
     rw [wC he h2] at h
     obtain ⟨j, hj, _⟩ := (aB9 f).1 ls
     rw [h2] at hj
     have hj' : r = ls.drop j := hj
     cases hk : (rdK f r).1 with
     | none => simp [oX, hk] at h
     | some q =>
      simp only [oX, hk, Option.map_some, Option.some.injEq] at h
      subst h
      intro x hx
      rcases List.mem_append.1 hx with hx | hx
      ·
       grind
      ·
       exact ihK r (by rw [hj']; exact hb.drop j) q hk x hx
def cA8 (r : Pr) : Prop := r.a.length < 2 ^ 40 ∧ ∀ n ∈ r.t, n.q.t.length < 2 ^ 63
theorem cF3 {ls : List (List aE)} (hb : LsB ls) {x : Pr} (h : (rdR ls).1 = some x) : cA8 x := by
 match ls with
 | [] => cases h
 | w :: r =>
  simp only [rdR] at h
  split at h
  ·
   cases hn : bH (wd w 4) with
   | none => grind
   | some g =>
    rw [hn] at h
    simp only at h
    match hm : rdT r with
    | (none, r') => grind
    | (some t, r') =>
     rw [hm] at h
     cases h
     have h1 := (cF2 (2 * r.length + 2)).1 r (fun l hl => hb l (by grind)) t (by grind [rdT])
     exact ⟨cA5 (hb w (by simp)) 1, fun n hn => Nat.lt_trans (h1 n hn) (by decide)⟩
  grind
theorem bN9 : ∀ (f : Nat) (ls : List (List aE)) (acc : List Pr), LsB ls → (∀ r ∈ acc, cA8 r) → ∀ l, (kF f ls acc).1 = some l → (∀ r ∈ l, cA8 r) ∧ l.length ≤ acc.length + f
 | 0, ls, acc, _, _, l, h => by simp [kF] at h
 | f + 1, ls, acc, hb, ha, l, h => by
  simp only [kF] at h
  split at h
  ·
   grind
  ·
   match hm : rdR ls with
   | (none, r) => grind
   | (some x, r) =>
    rw [hm] at h
    obtain ⟨j, _, hj, _⟩ := aC0 ls
    rw [hm] at hj
    have hj' : r = ls.drop j := hj
    have hx := cF3 hb (x := x) (by rw [hm])
    obtain ⟨h1, h2⟩ := bN9 f r (acc ++ [x]) (by rw [hj']; exact hb.drop j) (fun y hy => by grind) l h
    grind
theorem cF4 {ls : List (List aE)} (hb : LsB ls) (hl : ls.length < 2 ^ 39) {p : Po} (h : (rdP ls).1 = some p) : PoSz p := by
 match ls with
 | [] => cases h
 | w :: r =>
  simp only [rdP] at h
  split at h
  ·
   cases hn : bH (wd w 2) with
   | none => grind
   | some v =>
    rw [hn] at h
    simp only at h
    match hm : kF (r.length + 1) r [] with
    | (none, r') => grind
    | (some l, r') =>
     rw [hm] at h
     cases h
     obtain ⟨h1, h2⟩ := bN9 (r.length + 1) r [] (fun x hx => hb x (by grind)) (by simp) l (by rw [hm])
     simp only [List.length_cons, List.length_nil] at hl h2
     exact ⟨Nat.lt_of_lt_of_le (cA5 (hb w (by simp)) 1) (by decide), by grind, fun x hx => Nat.lt_of_lt_of_le (h1 x hx).1 (by decide), fun x hx => (h1 x hx).2⟩
  grind
end Go.Pl
