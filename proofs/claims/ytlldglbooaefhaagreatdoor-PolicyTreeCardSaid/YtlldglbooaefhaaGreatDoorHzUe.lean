/- Part of a proof: walks of functions of the program, by contracts, and the rules they use. By an AI agent. -/
import Derived.Test.YtlldglbooaefhaaGreatDoorHzU1
import Derived.Test.YtlldglbooaefhaaGreatDoorPl28r
import Derived.Test.YtlldglbooaefhaaGreatDoorHzSb
import Derived.Test.YtlldglbooaefhaaGreatDoorPl11q
import Derived.Test.YtlldglbooaefhaaGreatDoorHlTlaw
import Derived.Test.YtlldglbooaefhaaGreatDoorPl28m
import Derived.Test.YtlldglbooaefhaaGreatDoorHzTz
import Derived.Test.YtlldglbooaefhaaGreatDoorHlIt
import Derived.Test.YtlldglbooaefhaaGreatDoorPl28k
import Derived.Test.YtlldglbooaefhaaGreatDoorHzT7
set_option linter.unusedSimpArgs false
set_option linter.unusedVariables false
set_option linter.defProp false
namespace Go.Proofs.YtlldglbooaefhaaGreatDoor
open Go Go.Hl Go.Pl
set_option maxRecDepth 10000
set_option maxHeartbeats 16000000

theorem bO1 (ls : List (List aE)) (h0 : ls.length < 2 ^ 40) (h1 : ∀ l ∈ ls, l.length < 2 ^ 40) : mV Tryz.prog 53 [.slc (ls.map lsC)] (fun u v => u = .slc ((pX ls).map dY) ∧ v = .int .i64 (lN ls)) := bY9 ls h0 h1
theorem aR1 (N n : Nat) (ob : Ob) (e : TypeId) (sz : Nat) (T : kZ) (L : List CV) : lP (sub [0, N] n) ob 0 [.tab T, .row e sz L] = upd (upd ob 0 (some (.tab T))) N (some (.row e sz L)) := rfl

theorem aV8 (p : Po) (hp : PoSz p) : aT5 Tryz.prog 27 tabs [p.cv] (fun u v => u = .slc ((rZ p).map dY) ∧ v = .int .i64 (xG p)) := by
 refine bT (args := [.c p.cv]) Tryz.func27 rfl (by kernel_rfl) (eW tabs [p.cv]) (Nat.le_of_ble_eq_true rfl) ?_
 unfold eD
 refine R0 ?_
 refine aC fun K hK => ?_
 refine AU ?_
 refine SC (sJ p hp) ?_
 refine AU ?_
 refine aH (b := !fV p) rfl (fun hb => ?_) (fun hb => ?_)
 ·
  refine R0 ?_
  refine aF (RT Tryz.results27 ?_)
  have hv : fV p = false := by simpa using hb
  refine tD [] (.slc []) (.int .i64 1) ?_ rfl (by simp) ⟨by rw [rZ, hv]; rfl, by rw [xG, hv]; rfl⟩
  simp [HV.close, HV.closeL, CV.denil, CV.denilL, HV.norm, HV.toC, HV.toCL]
 refine aJ ?_
 refine T0 (hK _ _ _ ?_)
 clear hK K
 have hv : fV p = true := by simpa using hb
 clear hb
 obtain ⟨⟨v1, v2⟩, hr16, _, hrules⟩ := aU8 hv
 refine aC fun K hK => eV mixed [(0, [], []), (1, [], []), (2, [], []), (3, [], []), (4, [], [0, 1]), (5, [], []), (6, [], []), (7, [], [])] [0, 1, 0, 4, 12, 31, 63, 127] (by kernel_rfl) (by kernel_rfl) (by kernel_rfl) (by kernel_rfl) rfl (by kernel_rfl) ?_
 iterate 4 refine WG0 ?_
 refine iU (g := none) rfl rfl fun K' hK' => T5 ?_
 refine eP (args := [_]) 0 (wO p.v ⟨by omega, by omega⟩) rfl (by simp) ⟨rfl, rfl, rfl, rfl⟩ ?_
 rintro u rfl
 refine AX (hK' _ _ ?_)
 clear hK' K'
 refine oP (g := none) 45 rfl rfl fun K' hK' => ?_
 simp only [iA, kY, sH, ↓sP, sA, tyS, simprocAttr]
 repeat refine AI ?_
 refine dJ (by first | rfl | simp) ?_
 try simp only [sH, ↓sP, sA, tyS, simprocAttr]
 refine AX (hK' _ _ ?_)
 clear hK' K'
 iterate 2 refine WG0 ?_
 refine T2 (hK _ _ _ ?_)
 clear hK K
 refine aC fun K hK => ?_
 refine AU ?_
 refine aK ?_
 refine bE (α := {i : Nat // i ≤ p.r.length}) (fun i => (fin [(4, .own 49 (pK p i.1).length), (18, .c (.slc (p.r.map Pr.cv))), (19, .c (.int .i64 p.r.length)), (20, .c (.int .i64 i.1))], fob [(0, .tab tabs), (49, .row 60 1 ((pK p i.1).map lsC))])) 2000 (fun i => p.r.length - i.1) ⟨0, by omega⟩ (aN (by omega) (by simp [aZ, fin_at, finA_at, upd_at, HV.men, HV.menL, HV.norm, HV.toC, HV.toCL, pK, lsC, wPolicy]) (by simp [aW, fob_at, upd_at, none0_at, bY, HO.men, HV.men, HV.menL, HV.norm, HV.toC, HV.toCL, pK, lsC, wPolicy])) ?_
 rintro ⟨i, hi⟩
 have hll := aL6 hrules i hi
 have hl0 : 0 < (pK p i).length := by simp [pK]
 refine R0 ?_
 refine aC fun K hK => ?_
 refine aH (b := decide ((i : Int) < p.r.length)) rfl (fun hb => ?_) (fun hb => ?_)
 ·
  have hlt : i < p.r.length := by simpa using hb
  clear hb
  obtain ⟨r, hr⟩ : ∃ r, r = p.r[i] := ⟨_, rfl⟩
  have hrule := hrules r (by rw [hr]; exact List.getElem_mem hlt)
  obtain ⟨⟨g1, g2⟩, ht, _⟩ := wE hrule
  have ht0 : 0 < r.t.length := ht.ne
  have htl := ht.len
  obtain ⟨L, hL⟩ : ∃ L, L = pK p i := ⟨_, rfl⟩
  rw [← hL] at hll hl0 ⊢
  refine aJ ?_
  refine T0 (hK _ _ _ ?_)
  clear hK K
  refine aC fun K hK => ?_
  refine aK ?_
  refine RS ?_
  iterate 4 refine S0 ?_ (e := fun _ h_ => by simp only [sH, ↓sP, sA, tyS, simprocAttr, Int.natCast_nonneg, Int.ofNat_lt, hlt, bA hlt, ← hr]; exact AX h_)
  refine RE ?_
  refine aC fun K hK => eV mixed [(0, [], []), (1, [], []), (2, [], []), (3, [], []), (4, [], []), (5, [], []), (6, [], []), (7, [], []), (8, [], []), (9, [], [0, 1, 2, 3, 4, 5, 6]), (10, [], []), (11, [], []), (12, [], []), (13, [], [])] [0, 0, 2, 0, 8, 0, 32, 0, 128, 384, 1022, 2046, 4095, 8191] (by kernel_rfl) (by kernel_rfl) (by kernel_rfl) (by kernel_rfl) rfl (by kernel_rfl) ?_
  iterate 9 refine WG0 ?_
  refine iU (g := none) rfl rfl fun K' hK' => T5 ?_
  refine eP (args := [_]) 0 (wO r.g ⟨by omega, by omega⟩) rfl (by simp) ⟨rfl, rfl, rfl, rfl⟩ ?_
  rintro u rfl
  refine AX (hK' _ _ ?_)
  clear hK' K'
  refine oP (g := none) 2060 rfl rfl fun K' hK' => ?_
  simp only [iA, kY, sH, ↓sP, sA, tyS, simprocAttr]
  repeat refine AI ?_
  refine dJ (by first | rfl | simp) ?_
  try simp only [sH, ↓sP, sA, tyS, simprocAttr]
  refine AX (hK' _ _ ?_)
  clear hK' K'
  iterate 3 refine WG0 ?_
  refine T2 (hK _ _ _ ?_)
  clear hK K
  obtain ⟨M, hM⟩ : ∃ M, M = L ++ [[wRule, r.a, r.b, r.c, numW r.g]] := ⟨_, rfl⟩
  have hMm : List.map lsC L ++ [CV.slc [CV.str [114, 117, 108, 101], CV.str r.a, CV.str r.b, CV.str r.c, CV.str (numW r.g)]] = List.map lsC M := by rw [hM]; simp [lsC, wRule]
  have hMl : L.length + 1 = M.length := by rw [hM]; simp
  rw [hMm]
  simp only [List.length_map]
  refine Rg ?_
  refine AU ?_
  refine HS rfl rfl fun K' hK' => T5 ?_
  refine kD [0, 49] (bN7 r.t ht r.t.length M 0 ht0 (by omega) (by rw [hM]; simp) (by rw [hM]; simp; omega)) rfl ⟨rfl, rfl, trivial⟩ (by simp) (by simp) ⟨rfl, rfl, rfl, rfl⟩ (by simp [fX, HO.men, HV.men, HV.menL]) (by simp [HV.menL, HV.men]) ?_
  rintro q os' ⟨rfl, rfl⟩
  rw [aR1, zH]
  refine AX (hK' _ _ ?_)
  clear hK' K'
  refine AU ?_
  refine T2 (hK _ _ _ ?_)
  clear hK K
  refine aL (by kernel_rfl) ?_
  refine TQ (IntWalk.i64_in ((i : Int) + 1) (by omega)) ?_
  refine ⟨⟨i + 1, hlt⟩, ?_, ?_⟩
  ·
   have e1 : M ++ jL r.t 0 = pK p (i + 1) := by rw [zK hlt, hM, hL, wR, ← hr]; simp [jK]
   rw [e1]
   exact fF
  show p.r.length - (i + 1) < p.r.length - i
  omega
 refine aY (T3 ?_)
 clear hK K
 refine AX (hK _ _ _ ?_)
 clear hK K
 have hei : i = p.r.length := by simp at hb; omega
 subst hei
 clear hb
 rw [aL5]
 refine fE [49] (bR (fr2 := fin [(4, .c (.slc ((pF p).map lsC)))]) (ob2 := fob [(0, .tab tabs)]) (nx2 := 3000) (aN (by omega) (by simp [aZ, kO, fin_at, finA_at, upd_at, fob_at, HV.close, HV.closeL, CV.denil, CV.denilL, aP, HV.men, HV.menL, HV.norm, HV.toC, HV.toCL]) (by simp [aW, kP, fob_at, upd_at, none0_at, bY, HO.close, HV.close, HV.closeL, HO.men, HV.men, HV.menL, HV.norm, HV.toC, HV.toCL])) ?_)
 rw [aL5] at hll
 refine aC fun K hK => Rg ?_
 have F := @aP
 refine SF ?_
 refine HS rfl rfl fun K' hK' => T6 ?_
 refine D1 (bO1 (pF p) (by omega) (bV4 p)) ?_
 rintro u v ⟨rfl, rfl⟩
 refine AX (hK' _ _ ?_)
 clear hK' K'
 refine AU ?_
 refine T2 (hK _ _ _ ?_)
 clear hK K
 refine aF (RT Tryz.results27 ?_)
 exact tD [] (.slc ((pX (pF p)).map dY)) (.int .i64 (lN (pF p))) (by simp [HV.close, HV.closeL, CV.denil, CV.denilL, dU, HV.norm, HV.toC, HV.toCL]) rfl (by simp) ⟨by rw [rZ, if_pos hv], by rw [xG, if_pos hv]⟩

end Go.Proofs.YtlldglbooaefhaaGreatDoor

namespace Go.Hl
open Go
def aV9 (P : Program) (f : FuncId) (T : kZ) (args : List CV) (R : CV → CV → CV → Prop) : Prop :=
 HFn P f (args.map .c) 1 (eD T) (fun r ob' => ∃ u v x, r = .tup [.c u, .c v, .c x] ∧ ob' = eD T ∧ R u v x)
theorem iM {ob : Ob} {r : HV} {T : kZ} {R : CV → CV → CV → Prop} (cl : List Nat) (u v x : CV) (h : (r.close ob cl).norm = .tup [.c u, .c v, .c x]) (hb : ob 0 = some (.tab T)) (h0 : 0 ∉ cl) (hR : R u v x) :
  oJ 1 r ob (fun r ob' => ∃ u v x, r = .tup [.c u, .c v, .c x] ∧ ob' = eD T ∧ R u v x) :=
 ⟨cl, id, .tup [.c u, .c v, .c x], eD T, ⟨u, v, x, rfl, rfl, hR⟩, by grind [HV.ren, HV.renL], fun _ _ => rfl, fun _ _ _ _ h => h, by simp [HV.men, HV.menL], aO5 hb h0⟩
theorem aL7 {P : Program} {av : List Nat} {f : FuncId} {ob : Ob} {nid : Nat} {K : HV → Ob → Prop} {T : kZ} {args : List CV} {R : CV → CV → CV → Prop} (id : Nat) (h : aV9 P f T args R) (hid : ob id = some (.tab T)) (hav : id ∉ av)
  (hfree : ob nid = none ∧ ob (nid + 1) = none ∧ ob (nid + 2) = none ∧ ob (nid + 3) = none) (hK : ∀ u v x, R u v x → K (.tup [.c u, .c v, .c x]) ob) : HCall P av f (args.map .c) ob nid K := by
 refine ⟨[id], args.map .c, _, _, h, eW T args, ⟨by simp, by grind⟩, (HV.renL_c _ _).symm, rR hid, fun r lob' hR _ => ?_⟩
 obtain ⟨u, v, x, rfl, rfl, hR⟩ := hR
 rw [mY hid hfree]
 exact hK u v x hR
end Go.Hl

namespace Go.Pl
open Go Go.Hl

def LsB (ls : List (List aE)) : Prop := ∀ l ∈ ls, ∀ w ∈ l, w.length < 2 ^ 40
theorem LsB.drop {ls : List (List aE)} (h : LsB ls) (j : Nat) : LsB (ls.drop j) := fun l hl => h l (List.mem_of_mem_drop hl)
theorem cA3 {l : List aE} (h : ∀ w ∈ l, w.length < 2 ^ 40) (i : Nat) : (wd l i).length < 2 ^ 40 := by
 unfold wd
 rw [List.getD_eq_getElem?_getD]
 rcases Nat.lt_or_ge i l.length with hi | hi
 ·
  rw [List.getElem?_eq_getElem hi]; exact h _ (List.getElem_mem hi)
 ·
  rw [List.getElem?_eq_none hi]; simp
theorem cA4 {w : List aE} (h : ∀ x ∈ w, x.length < 2 ^ 40) {q : Rq} (hq : eR w = some q) : q.t.length < 2 ^ 40 := by
 have h1 := cA3 h 1
 have hm : ∀ (k : Int) (o : Option Int), o.map (fun n => (⟨k, n, 0, []⟩ : Rq)) = some q → q.t.length < 2 ^ 40 := fun k o ho => by
  cases o with
  | none => cases ho
  | some n => cases ho; simp
 unfold eR at hq
 split at hq
 ·
  exact hm _ _ hq
 ·
  split at hq
  ·
   cases hq; exact h1
  ·
   split at hq
   ·
    exact hm _ _ hq
   ·
    split at hq
    ·
     split at hq
     ·
      cases hq; simp
     ·
      cases hq
    ·
     split at hq
     ·
      exact hm _ _ hq
     ·
      split at hq
      ·
       exact hm _ _ hq
      ·
       split at hq
       ·
        exact hm _ _ hq
       ·
        split at hq
        ·
         cases hq; simp
        ·
         cases hq
theorem cA5 {w : List aE} {n : Nd} (h : jM w = some n) : n.q = rq0 := by
 unfold jM at h
 split at h
 ·
  cases h; rfl
 ·
  split at h
  ·
   cases h; rfl
  ·
   split at h
   ·
    cases hn : bG (wd w 1) with
    | none => rw [hn] at h; cases h
    | some x => rw [hn] at h; cases h; rfl
   ·
    cases h
theorem cF1 : ∀ f, (∀ ls, LsB ls → ∀ t, (rdN f ls).1 = some t → ∀ n ∈ t, n.q.t.length < 2 ^ 40) ∧ (∀ ls, LsB ls → ∀ p, (rdK f ls).1 = some p → ∀ n ∈ p.1, n.q.t.length < 2 ^ 40)
 | 0 => ⟨fun ls _ t h => by simp [rdN] at h, fun ls _ t h => by simp [rdK] at h⟩
 | f + 1 => by
  obtain ⟨ihN, ihK⟩ := cF1 f
  refine ⟨fun ls hb t h => ?_, fun ls hb p h => ?_⟩
  ·
   match ls with
   | [] => simp [rdN] at h
   | w :: r =>
    cases h1 : eR w with
    | some q =>
     rw [nK h1] at h
     cases h
     intro n hn
     rw [List.mem_singleton] at hn
     subst hn
     exact cA4 (hb w (by simp)) h1
    | none =>
     cases h2 : jM w with
     | none => rw [nL h1 h2] at h; cases h
     | some n =>
      rw [oG h1 h2] at h
      cases hk : (rdK f r).1 with
      | none => simp [xJ, hk] at h
      | some p =>
       simp only [xJ, hk, Option.map_some, Option.some.injEq] at h
       subst h
       intro x hx
       rcases List.mem_cons.1 hx with rfl | hx
       ·
        rw [cA5 h2]; simp [rq0]
       ·
        exact ihK r (fun l hl => hb l (by simp [hl])) p hk x hx
  ·
   cases he : iH (ls.headD []) with
   | true => rw [aC7 he] at h; cases h; simp
   | false =>
    match h2 : rdN f ls with
    | (none, r) => rw [aQ9 he h2] at h; cases h
    | (some t, r) =>
     rw [wN he h2] at h
     obtain ⟨j, hj, _⟩ := (aC8 f).1 ls
     rw [h2] at hj
     have hj' : r = ls.drop j := hj
     cases hk : (rdK f r).1 with
     | none => simp [pJ, hk] at h
     | some q =>
      simp only [pJ, hk, Option.map_some, Option.some.injEq] at h
      subst h
      intro x hx
      rcases List.mem_append.1 hx with hx | hx
      ·
       exact ihN ls hb t (by rw [h2]) x hx
      ·
       exact ihK r (by rw [hj']; exact hb.drop j) q hk x hx
def cA6 (r : Pr) : Prop := r.a.length < 2 ^ 40 ∧ ∀ n ∈ r.t, n.q.t.length < 2 ^ 63
theorem cF2 {ls : List (List aE)} (hb : LsB ls) {x : Pr} (h : (rdR ls).1 = some x) : cA6 x := by
 match ls with
 | [] => cases h
 | w :: r =>
  simp only [rdR] at h
  split at h
  ·
   cases hn : bG (wd w 4) with
   | none => rw [hn] at h; cases h
   | some g =>
    rw [hn] at h
    simp only at h
    match hm : rdT r with
    | (none, r') => rw [hm] at h; cases h
    | (some t, r') =>
     rw [hm] at h
     cases h
     have h1 := (cF1 (2 * r.length + 2)).1 r (fun l hl => hb l (by simp [hl])) t (by have := hm; unfold rdT at this; rw [this])
     exact ⟨cA3 (hb w (by simp)) 1, fun n hn => Nat.lt_trans (h1 n hn) (by decide)⟩
  ·
   cases h
theorem bO2 : ∀ (f : Nat) (ls : List (List aE)) (acc : List Pr), LsB ls → (∀ r ∈ acc, cA6 r) → ∀ l, (jT f ls acc).1 = some l → (∀ r ∈ l, cA6 r) ∧ l.length ≤ acc.length + f
 | 0, ls, acc, _, _, l, h => by simp [jT] at h
 | f + 1, ls, acc, hb, ha, l, h => by
  simp only [jT] at h
  split at h
  ·
   cases h; exact ⟨ha, by omega⟩
  ·
   match hm : rdR ls with
   | (none, r) => rw [hm] at h; cases h
   | (some x, r) =>
    rw [hm] at h
    obtain ⟨j, _, hj, _⟩ := aC9 ls
    rw [hm] at hj
    have hj' : r = ls.drop j := hj
    have hx := cF2 hb (x := x) (by rw [hm])
    obtain ⟨h1, h2⟩ := bO2 f r (acc ++ [x]) (by rw [hj']; exact hb.drop j) (fun y hy => by
     rcases List.mem_append.1 hy with hy | hy
     ·
      exact ha y hy
     ·
      rw [List.mem_singleton] at hy; rw [hy]; exact hx) l h
    exact ⟨h1, by simp at h2; omega⟩
theorem cF3 {ls : List (List aE)} (hb : LsB ls) (hl : ls.length < 2 ^ 39) {p : Po} (h : (rdP ls).1 = some p) : PoSz p := by
 match ls with
 | [] => cases h
 | w :: r =>
  simp only [rdP] at h
  split at h
  ·
   cases hn : bG (wd w 2) with
   | none => rw [hn] at h; cases h
   | some v =>
    rw [hn] at h
    simp only at h
    match hm : jT (r.length + 1) r [] with
    | (none, r') => rw [hm] at h; cases h
    | (some l, r') =>
     rw [hm] at h
     cases h
     obtain ⟨h1, h2⟩ := bO2 (r.length + 1) r [] (fun x hx => hb x (by simp [hx])) (by simp) l (by rw [hm])
     simp only [List.length_cons, List.length_nil] at hl h2
     exact ⟨Nat.lt_of_lt_of_le (cA3 (hb w (by simp)) 1) (by decide), by simp only; omega, fun x hx => Nat.lt_of_lt_of_le (h1 x hx).1 (by decide), fun x hx => (h1 x hx).2⟩
  ·
   cases h
end Go.Pl

namespace Go.Proofs.YtlldglbooaefhaaGreatDoor
open Go Go.Hl Go.Pl
set_option maxRecDepth 10000
set_option maxHeartbeats 16000000

theorem bV5 (b : aE) : LsB (fA b) := fun l hl w hw => by
 have := (bS3 (b := b) l hl).2.2 w hw
 omega

theorem bC7 (a b : aE) : bN Tryz.prog 64 [.slc (a.map dY), .slc (b.map dY)] (fun v => v = .bool (a == b)) := by
 refine FW Tryz.func64 ?_
 refine R0 ?_
 refine RS ?_
 have F := @bytesC_map
 refine AU ?_
 refine aF (RT Tryz.results64 ?_)
 exact aG [] (.bool (a == b)) rfl rfl


theorem bV6 (b : aE) (hl : b.length < 2 ^ 40) : aV9 Tryz.prog 32 tabs [.slc (b.map u8)] (fun u v x => u = (dpO b).cv ∧ v = .int .i64 (dpL b : Nat) ∧ x = .int .i64 (dpE b)) := by
 refine bT (args := [.c (.slc (b.map u8))]) Tryz.func32 rfl (by kernel_rfl) (eW tabs [.slc (b.map u8)]) (Nat.le_of_ble_eq_true rfl) ?_
 unfold eD
 have hlen := bI8 (b := b)
 refine R0 ?_
 refine aC fun K hK => Rg ?_
 have F := @denilL_u8
 refine SF ?_
 refine HS rfl rfl fun K' hK' => T6 ?_
 refine D1 (bZ9 b hl) ?_
 rintro u v ⟨rfl, rfl⟩
 refine AX (hK' _ _ ?_)
 clear hK' K'
 refine AU ?_
 refine T2 (hK _ _ _ ?_)
 clear hK K
 refine aC fun K hK => ?_
 refine R0 ?_
 refine aH (b := !(iN b == 0)) rfl (fun hb => ?_) (fun hb => ?_)
 ·
  have he : iN b ≠ 0 := by simpa using hb
  have e1 : dpE b = iN b := by rw [dpE, if_pos he]
  have e2 : dpL b = 0 := by rw [dpL, if_pos he]
  have e3 : dpO b = po0 := by rw [dpO, e1, if_neg he]
  clear hb
  refine AU ?_
  refine aF (RT Tryz.results32 ?_)
  exact iM [] po0.cv (.int .i64 0) (.int .i64 (iN b)) (by simp [HV.close, HV.closeL, po0, Po.cv, CV.denil, CV.denilL, HV.norm, HV.toC, HV.toCL]) rfl (by simp) (by rw [e1, e2, e3]; exact ⟨rfl, rfl, rfl⟩)
 refine aJ ?_
 refine T0 (hK _ _ _ ?_)
 clear hK K
 have he : iN b = 0 := by simpa using hb
 clear hb
 refine RS ?_
 iterate 4 refine S0 ?_
 refine RE ?_
 refine aC fun K hK => Rg ?_
 refine S0 ?_
 refine HS rfl rfl fun K' hK' => T5 ?_
 refine dS (args := []) (bN3 (fA b) (by omega)) rfl (by simp) ⟨rfl, rfl, rfl, rfl⟩ ?_
 rintro u x v' ⟨q, rfl, rfl, rfl, hq⟩
 refine AX (hK' _ _ ?_)
 clear hK' K'
 refine AU ?_
 refine T2 (hK _ _ _ ?_)
 clear hK K
 refine aC fun K hK => ?_
 refine R0 ?_
 refine aH (b := !(rdP (fA b)).1.isSome) rfl (fun hb => ?_) (fun hb => ?_)
 ·
  have hno : (rdP (fA b)).1 = none := by simpa using hb
  have e1 : dpE b = 2 := by rw [dpE, if_neg (by simpa using he), hno]
  have e2 : dpL b = (fA b).length - (rdP (fA b)).2.length := by
   rw [dpL, if_neg (by simpa using he)]
   match h : rdP (fA b) with
   | (none, r) => rfl
   | (some p, r) => rw [h] at hno; cases hno
  have e3 : dpO b = po0 := by rw [dpO, e1, if_neg (by decide)]
  clear hb
  refine aC fun K hK => DW [(0, [], []), (1, [], []), (2, [], []), (3, [], []), (4, [], []), (5, [], [1, 2, 3, 4]), (6, [], []), (7, [], [])] [0, 0, 2, 6, 14, 1, 63, 127] ?_
  iterate 8 refine W0 ?_ (e := fun _ h_ => by simp only [sH, ↓sP, sA, tyS, simprocAttr, rdr]; exact AX h_)
  refine T2 (hK _ _ _ ?_)
  clear hK K
  refine aF (RT Tryz.results32 ?_)
  exact iM [] po0.cv (.int .i64 ((fA b).length - (rdP (fA b)).2.length : Nat)) (.int .i64 2) (by simp [HV.close, HV.closeL, po0, Po.cv, CV.denil, CV.denilL, HV.norm, HV.toC, HV.toCL]) rfl (by simp) (by rw [e1, e2, e3]; exact ⟨rfl, rfl, rfl⟩)
 refine aJ ?_
 refine T0 (hK _ _ _ ?_)
 clear hK K
 refine aC fun K hK => ?_
 obtain ⟨p, hp⟩ : ∃ p, (rdP (fA b)).1 = some p := by
  cases h : (rdP (fA b)).1 with
  | none => rw [h] at hb; simp at hb
  | some p => exact ⟨p, rfl⟩
 obtain rfl := hq p hp
 have hsz := cF3 (bV5 b) (by omega) hp
 have hr : rdP (fA b) = (some q, (rdP (fA b)).2) := Prod.ext hp rfl
 have hiff := bZ2 he hr
 have e1 : dpE b = if fV q then 0 else 1 := by rw [dpE, if_neg (by simpa using he), hp]
 have e2 : dpL b = 0 := by rw [dpL, if_neg (by simpa using he), hr]
 clear hb
 refine aC fun K hK => Rg ?_
 refine S0 ?_
 refine HS rfl rfl fun K' hK' => T5 ?_
 refine tE (args := [_]) 0 (aV8 q hsz) rfl (by simp) ⟨rfl, rfl, rfl, rfl⟩ ?_
 rintro u v ⟨rfl, rfl⟩
 refine AX (hK' _ _ ?_)
 clear hK' K'
 refine AU ?_
 refine T2 (hK _ _ _ ?_)
 clear hK K
 refine RS ?_
 have F := aI @dU @denilL_u8
 refine AU ?_
 refine aD 40 rfl (fun h9_40 => ?_) (fun h9_40 => ?_)
 ·
  have F := aI @dU (aI @denilL_u8 h9_40)
  refine AU ?_
  refine CT rfl ?_
  refine RS ?_
  have F := h9_40
  refine AU ?_
  refine aF (RT Tryz.results32 ?_)
  have hpo : fV q = false := by
   cases h : fV q with
   | false => rfl
   | true => exact absurd (hiff.2 h).1 (by simpa using h9_40)
  rw [hpo] at e1
  have e1 : dpE b = 1 := e1
  have e3 : dpO b = po0 := by rw [dpO, e1, if_neg (by decide)]
  exact iM [] po0.cv (.int .i64 0) (.int .i64 1) (by simp [HV.close, HV.closeL, po0, Po.cv, CV.denil, CV.denilL, HV.norm, HV.toC, HV.toCL]) rfl (by simp) (by rw [e1, e2, e3]; exact ⟨rfl, rfl, rfl⟩)
 have F := aI @dU (aI @denilL_u8 h9_40)
 refine AU ?_
 refine SCF (bC7 (rZ q) b) ?_
 refine AU ?_
 refine aD 44 rfl (fun h9_44 => ?_) (fun h9_44 => ?_)
 ·
  simp only [h9_44]
  refine RE ?_
  refine CF rfl ?_
  refine aJ ?_
  refine T0 (hK _ _ _ ?_)
  clear hK K
  refine RS ?_
  have F := aI h9_40 h9_44
  refine AU ?_
  refine aF (RT Tryz.results32 ?_)
  have hpo : fV q = true := hiff.1 ⟨by simpa using h9_40, by simpa using h9_44⟩
  rw [hpo] at e1
  have e1 : dpE b = 0 := e1
  have e3 : dpO b = q := by rw [dpO, if_pos e1, hp]; rfl
  exact iM [] q.cv (.int .i64 0) (.int .i64 0) (by simp [HV.close, HV.closeL, Po.denil, CV.denil, CV.denilL, HV.norm, HV.toC, HV.toCL]) rfl (by simp) (by rw [e1, e2, e3]; exact ⟨rfl, rfl, rfl⟩)
 simp only [h9_44]
 refine RE ?_
 refine CT rfl ?_
 refine RS ?_
 have F := aI h9_40 h9_44
 refine AU ?_
 refine aF (RT Tryz.results32 ?_)
 have hpo : fV q = false := by
  cases h : fV q with
  | false => rfl
  | true => exact absurd (hiff.2 h).2 (by simpa using h9_44)
 rw [hpo] at e1
 have e1 : dpE b = 1 := e1
 have e3 : dpO b = po0 := by rw [dpO, e1, if_neg (by decide)]
 exact iM [] po0.cv (.int .i64 0) (.int .i64 1) (by simp [HV.close, HV.closeL, po0, Po.cv, CV.denil, CV.denilL, HV.norm, HV.toC, HV.toCL]) rfl (by simp) (by rw [e1, e2, e3]; exact ⟨rfl, rfl, rfl⟩)

end Go.Proofs.YtlldglbooaefhaaGreatDoor

namespace Go.Proofs.YtlldglbooaefhaaGreatDoor
open Go Go.Hl Go.Pl
set_option maxRecDepth 10000
set_option maxHeartbeats 16000000

theorem bC8 (l : List Nd) (hl : l.length < 2 ^ 40) : aB4 Tryz.prog 76 [(22, .slc (l.map Nd.cv))] (bwL l) := by
 refine yO Tryz.func76 rfl (by kernel_rfl) (Nat.le_of_ble_eq_true rfl) rfl fun L J hS hY => ?_
 have e0 : jS [(22, CV.slc (l.map Nd.cv))] = fob [(0, .box 22 (.c (.slc (l.map Nd.cv))))] := by
  funext i
  match i with
  | 0 => rfl
  | i + 1 => simp [jS, fob, upd]
 have e1 : gH (List.range [((22 : Nat), CV.slc (l.map Nd.cv))].length) = [.ptr 0 0] := rfl
 rw [e0, e1]
 refine eJ fun K hK => mZ hS rfl (aL (by kernel_rfl) ?_)
 simp only [sR, simprocAttr]
 iterate 4 refine S0 ?_ (e := fun _ h_ => by simp only [sH, ↓sP, sA, tyS, simprocAttr, rI, bM ((l.length : Int) - 1) (by omega), List.length_map]; exact AX h_)
 simp only [sE, ↓reduceIte, simprocAttr, rI]
 refine hK _ _ _ _ _ ?_
 clear hK K
 refine oA ?_
 refine aI1 (α := {j : Nat // j ≤ l.length}) hS (fun j => (fin [(0, .opq (.func (.yield L) #[] #[])), (1, .ptr 0 0), (3, .c (.int .i64 ((l.length : Int) - 1 - j.1)))], fob [(0, .box 22 (.c (.slc (l.map Nd.cv))))])) (fun j => j.1) 100 (fun j => l.length - j.1) ⟨0, Nat.zero_le _⟩ rfl (fF) rfl ?_
 rintro ⟨j, hj⟩
 refine eJ fun K hK => ?_
 refine eJ fun K1 hK1 => mZ hS rfl (aL (by kernel_rfl) ?_)
 simp only [sR, simprocAttr]
 have F := rI
 refine AU ?_
 simp only [sE, ↓reduceIte, simprocAttr, rI]
 refine hK1 _ _ _ _ _ ?_
 clear hK1 K1
 refine jI (b := decide ((0 : Int) ≤ (l.length : Int) - 1 - j)) rfl (fun hb => ?_) (fun hb => ?_)
 ·
  have hlt : j < l.length := by simp at hb; omega
  have hi2 : l.length - 1 - j < l.length := by omega
  have hxl : j < (bwL l).length := by rw [qS]; exact hlt
  have hx := bL4 hxl hi2
  have hcast : (l.length : Int) - 1 - j = ((l.length - 1 - j : Nat) : Int) := by omega
  have hw1 : IntKind.i64.wrap (((l.length - 1 - j : Nat) : Int) - 1) = (l.length : Int) - 1 - ((j : Int) + 1) := by rw [bM _ (by omega)]; omega
  refine nA ?_
  simp only [sE, ↓reduceIte, simprocAttr, rI]
  refine hK _ _ _ _ _ ?_
  clear hK K
  refine eJ fun K hK => ?_
  refine oA ?_
  refine eJ fun K1 hK1 => rS (l := L) 6 hS hY rfl (by kernel_rfl) (by decide) ?_
  simp only [sR, List.range', simprocAttr]
  have F := aI rI (aI hcast (aI @List.length_map.{0,0} (aI @Int.natCast_nonneg (aI @Int.ofNat_lt (aI hi2 (nM hi2))))))
  refine AU ?_
  rw [hlex]
  refine ⟨_, _, _, hxl, rfl, rfl, rfl, rfl, rfl, ?_, ?_, ?_⟩
  ·
   rw [hx]; simp only [hcast]; rfl
  ·
   simp only [sR, List.range', simprocAttr]
   have F := rI
   refine SF ?_
   simp only [sE, ↓reduceIte, simprocAttr, rI]
   refine hK1 _ _ _ _ _ ?_
   clear hK1 K1
   refine jI (b := false) rfl (fun hb => by cases hb) (fun _ => ?_)
   refine nA ?_
   simp only [sE, ↓reduceIte, simprocAttr, rI]
   refine hK _ _ _ _ _ ?_
   clear hK K
   refine mZ hS rfl (aL (by kernel_rfl) ?_)
   simp only [sR, simprocAttr]
   have F := aI rI (aI hcast hw1)
   refine AU ?_
   simp only [sE, ↓reduceIte, simprocAttr, rI]
   refine ⟨⟨j + 1, hlt⟩, fF, trivial, rfl, ?_⟩
   show l.length - (j + 1) < l.length - j
   omega
  simp only [sR, List.range', simprocAttr]
  have F := rI
  refine SF ?_
  simp only [sE, ↓reduceIte, simprocAttr, rI]
  refine hK1 _ _ _ _ _ ?_
  clear hK1 K1
  refine jI (b := true) rfl (fun _ => ?_) (fun hb => by cases hb)
  refine aT6 ?_
  simp only [sE, ↓reduceIte, simprocAttr, rI]
  exact ⟨by simp, fun h => by cases h⟩
 have hji : j = l.length := by simp at hb; omega
 refine aI0 ?_
 simp only [sE, ↓reduceIte, simprocAttr, rI]
 exact ⟨by simp, fun _ => by rw [qS]; exact hji⟩
end Go.Proofs.YtlldglbooaefhaaGreatDoor

namespace Go.Proofs.YtlldglbooaefhaaGreatDoor
open Go Go.Hl Go.Pl
set_option maxRecDepth 10000
set_option maxHeartbeats 16000000

theorem bV7 (l : List Nd) : aT7 Tryz.prog 46 76 [.slc (l.map Nd.cv)] [(22, .slc (l.map Nd.cv))] := by
 refine FW Tryz.func46 ?_
 refine AU ?_
 refine aF (RT Tryz.results46 ?_)
 refine rU (gf := 76) (bs := [(22, .slc (l.map Nd.cv))]) (ids := [0]) rfl (by simp) (by decide) ?_ ?_
 ·
  intro j x hx
  match j, hx with
  | 0, hx => cases hx; rfl
 intro x hx
 simp only [List.mem_cons, List.not_mem_nil, or_false] at hx
 subst hx
 exact congrArg CV.slc (denilL_Nd l)


theorem aL8 (n : Nd) (L : List Bool) (lo m : Nat) (hl : L.length < 2 ^ 40) (h0 : 0 < L.length) (hlo : lo ≤ m) (hm : m ≤ L.length) :
  HGe Tryz.prog 47 [.c n.cv, .osl 0 L.length lo 1 m] [.row 4 1 (L.map bC)] (fun r os' => r = .c (.bool (iF n ((L.drop lo).take (m - lo)))) ∧ os' = [.row 4 1 (L.map bC)]) := by
 obtain ⟨V, hV⟩ : ∃ V, V = (L.drop lo).take (m - lo) := ⟨_, rfl⟩
 have hVl : V.length = m - lo := by rw [hV]; simp; omega
 rw [← hV]
 have hrd : List.take (m - lo) (List.drop lo (L.map bC)) = V.map bC := by rw [hV, List.map_take, List.map_drop]
 refine bT (args := [.c n.cv, .osl 0 L.length lo 1 m]) Tryz.func47 rfl (by kernel_rfl) (iD rfl (by simp [fX, HO.men]) (by simp [HV.menL, HV.men])) (Nat.le_of_ble_eq_true rfl) ?_
 have e0 : lst [.row 4 1 (L.map bC)] = fob [(0, .row 4 1 (L.map bC))] := by
  funext i
  match i with
  | 0 => rfl
  | i + 1 => simp [lst, fob, upd]
 show Hw _ _ 1 _ _ _ (lst _) 1
 rw [e0]
 refine R0 ?_
 refine R0 ?_
 refine aC fun K hK => ?_
 refine R0 ?_ (e := fun _ h_ => by simp only [↓sP, sA, tyS, simprocAttr, hrd, List.length_map, h0, hlo, hm]; exact AX h_)
 refine aK ?_
 refine bE (α := {i : Nat // i ≤ V.length}) (fun i => (fin [(1, .osl 0 L.length lo 1 m), (2, .ptr 1 0), (5, .c (.int .i64 (cnt (V.take i.1) : Nat))), (8, .osl 0 L.length lo 1 m), (9, .c (.int .i64 V.length)), (10, .c (.int .i64 i.1))], fob [(0, .row 4 1 (L.map bC)), (1, .box 40 (.c n.cv))])) 100 (fun i => V.length - i.1) ⟨0, by omega⟩ (aN (by omega) (by simp [aZ, fin_at, finA_at, upd_at, HV.men, HV.menL, HV.norm, HV.toC, HV.toCL, cnt]) (by simp [aW, fob_at, upd_at, none0_at, bY, HO.men, HV.men, HV.menL, HV.norm, HV.toC, HV.toCL, cnt])) ?_
 rintro ⟨i, hi⟩
 have hcn : cnt (V.take i) ≤ i := by have := bH9 (V.take i); simp at this; omega
 refine R0 ?_
 refine aC fun K hK => ?_
 refine aH (b := decide ((i : Int) < V.length)) rfl (fun hb => ?_) (fun hb => ?_)
 ·
  have hlt : i < V.length := by simpa using hb
  have hct := kS (l := V) (k := i) hlt
  have hw3 : IntKind.i64.wrap ((cnt (V.take i) : Int) + 1) = ((cnt (V.take i) + 1 : Nat) : Int) := by rw [bM _ (by omega)]; rfl
  have hli : lo + i < L.length := by omega
  have hvi : L[lo + i] = V[i] := by simp [hV]
  have hli2 : lo + i < (L.map bC).length := by simpa using hli
  have hml : i < m - lo := by omega
  clear hb
  refine aJ ?_
  refine T0 (hK _ _ _ ?_)
  clear hK K
  refine aC fun K hK => ?_
  refine aK ?_
  refine R0 ?_ (e := fun _ h_ => by simp only [↓sP, sA, tyS, simprocAttr, List.length_map, Int.natCast_nonneg, Int.ofNat_lt, h0, hm, hml, hli, bA hli, bC]; exact AX h_)
  refine R0 ?_
  refine aH (b := L[lo + i]) rfl (fun hb => ?_) (fun hb => ?_)
  ·
   rw [hvi] at hb
   rw [if_pos (by simpa [hlt] using hb)] at hct
   refine aL (by kernel_rfl) ?_
   refine TQ hw3 ?_
   refine AX (hK _ _ _ ?_)
   clear hK K
   refine aL (by kernel_rfl) ?_
   simp only [↓sP, sA, tyS, simprocAttr, bM ((i : Int) + 1) (by omega)]
   refine ⟨⟨i + 1, hlt⟩, aN (by omega) (by simp [aZ, fin_at, finA_at, upd_at, HV.men, HV.menL, HV.norm, HV.toC, HV.toCL, hct]) (by simp [aW, fob_at, upd_at, none0_at, bY, HO.men, HV.men, HV.menL, HV.norm, HV.toC, HV.toCL, hct]), ?_⟩
   show V.length - (i + 1) < V.length - i
   omega
  rw [hvi] at hb
  rw [if_neg (by simp [hlt, hb])] at hct
  refine aJ ?_
  refine T0 (hK _ _ _ ?_)
  clear hK K
  refine aL (by kernel_rfl) ?_
  simp only [↓sP, sA, tyS, simprocAttr, bM ((i : Int) + 1) (by omega)]
  refine ⟨⟨i + 1, hlt⟩, aN (by omega) (by simp [aZ, fin_at, finA_at, upd_at, HV.men, HV.menL, HV.norm, HV.toC, HV.toCL, hct]) (by simp [aW, fob_at, upd_at, none0_at, bY, HO.men, HV.men, HV.menL, HV.norm, HV.toC, HV.toCL, hct]), ?_⟩
  show V.length - (i + 1) < V.length - i
  omega
 refine aY (T3 ?_)
 clear hK K
 refine AX (hK _ _ _ ?_)
 clear hK K
 refine aC fun K hK => ?_
 have hei : i = V.length := by simp only [decide_eq_false_iff_not] at hb; omega
 subst hei
 rw [List.take_length] at hcn ⊢
 clear hb
 refine R0 ?_
 refine aK ?_
 refine R0 ?_
 refine aH (b := (n.k == 2)) rfl (fun hb => ?_) (fun hb => ?_)
 ·
  refine RS ?_
  iterate 5 refine S0 ?_ (e := fun _ h_ => by simp only [sH, ↓sP, sA, tyS, simprocAttr, hrd, List.length_map, h0, hlo, hm]; exact AX h_)
  refine RE ?_
  refine aF (RT Tryz.results47 ?_)
  have h2 : n.k = 2 := by simpa using hb
  exact eI [] [] (.c (.bool ((cnt V : Int) == V.length))) [.row 4 1 (L.map bC)] rfl (by simp [HV.men]) ⟨⟨trivial, by simp, _, rfl, rfl⟩, trivial⟩ rfl List.nodup_nil (by simp) (by simp) ⟨by rw [iF, if_pos h2]; congr 2; rw [Bool.eq_iff_iff]; simp; omega, rfl⟩
 have h2 : n.k ≠ 2 := by simpa using hb
 refine R0 ?_
 refine aH (b := (n.k == 3)) rfl (fun hb => ?_) (fun hb => ?_)
 ·
  refine R0 ?_
  refine aF (RT Tryz.results47 ?_)
  have h3 : n.k = 3 := by simpa using hb
  exact eI [] [] (.c (.bool (decide ((1 : Int) ≤ cnt V)))) [.row 4 1 (L.map bC)] rfl (by simp [HV.men]) ⟨⟨trivial, by simp, _, rfl, rfl⟩, trivial⟩ rfl List.nodup_nil (by simp) (by simp) ⟨by rw [iF, if_neg h2, if_pos h3]; congr 2; rw [Bool.eq_iff_iff]; simp; omega, rfl⟩
 refine aJ ?_
 refine T0 (hK _ _ _ ?_)
 clear hK K
 refine AU ?_
 refine aF (RT Tryz.results47 ?_)
 have h3 : n.k ≠ 3 := by simpa using hb
 exact eI [] [] (.c (.bool (decide (n.n ≤ cnt V)))) [.row 4 1 (L.map bC)] rfl (by simp [HV.men]) ⟨⟨trivial, by simp, _, rfl, rfl⟩, trivial⟩ rfl List.nodup_nil (by simp) (by simp) ⟨by rw [iF, if_neg h2, if_neg h3], rfl⟩

end Go.Proofs.YtlldglbooaefhaaGreatDoor

namespace Go.Pl
open Go Go.Hl

def lG (w : List Bool) (m : Nat) (b : Bool) : List Bool := w.take m ++ [b] ++ w.drop (m + 1)
theorem lH {w : List Bool} {m : Nat} {b : Bool} (h : m + 1 ≤ w.length) : (lG w m b).length = w.length := by simp [lG]; omega
theorem zL {w : List Bool} {b : Bool} : lG w w.length b = w ++ [b] := by simp [lG]
theorem zM {w : List Bool} {m : Nat} {b : Bool} (h : m ≤ w.length) : (lG w m b).take (m + 1) = w.take m ++ [b] := by
 unfold lG
 rw [List.take_append_of_le_length (by simp; omega), List.take_of_length_le (by simp; omega)]
def aR2 (l : List Nd) (tr : List Bool) (p : Nat) (s : List Bool × Nat) : List Bool × Nat :=
 if (l.getD p nd0).k = 1 then (lG s.1 s.2 (tr.getD (lv (l.take p)) false), s.2 + 1)
 else (lG s.1 (s.2 - (l.getD p nd0).c.toNat) (iF (l.getD p nd0) ((s.1.drop (s.2 - (l.getD p nd0).c.toNat)).take (l.getD p nd0).c.toNat)), s.2 - (l.getD p nd0).c.toNat + 1)
def cA (l : List Nd) (tr : List Bool) : Nat → List Bool × Nat
 | 0 => ([], 0)
 | i + 1 => aR2 l tr (l.length - 1 - i) (cA l tr i)
structure EvOk (l : List Nd) (tr : List Bool) (i : Nat) : Prop where
 le : i ≤ l.length
 m : (cA l tr i).2 = (evS (lv l) tr (l.drop (l.length - i))).length
 row : (cA l tr i).1.take (cA l tr i).2 = (evS (lv l) tr (l.drop (l.length - i))).reverse
 fit : (cA l tr i).2 ≤ (cA l tr i).1.length
 small : (cA l tr i).1.length ≤ i
theorem EvOk.zero (l : List Nd) (tr : List Bool) : EvOk l tr 0 := ⟨by omega, by simp [cA, evS], by simp [cA, evS], by simp [cA], by simp [cA]⟩
theorem xL (n : Nd) (l : List Bool) : iF n l.reverse = iF n l := by simp only [iF, aI5, List.length_reverse]
theorem bO3 {E : List Bool} {c : Nat} : E.reverse.take (E.length - c) = (E.drop c).reverse := by rw [List.reverse_drop]
theorem bO4 {E : List Bool} {c : Nat} (h : c ≤ E.length) : E.reverse.drop (E.length - c) = (E.take c).reverse := by rw [List.reverse_take]
theorem EvOk.at_ {l : List Nd} {tr : List Bool} {i : Nat} (hi : i < l.length) : l.drop (l.length - (i + 1)) = l[l.length - 1 - i]'(by omega) :: l.drop (l.length - i) := by
 have e : l.length - (i + 1) = l.length - 1 - i := by omega
 rw [e, List.drop_eq_getElem_cons (by omega), show l.length - 1 - i + 1 = l.length - i from by omega]
theorem EvOk.leaf {l : List Nd} {tr : List Bool} {i : Nat} (h : EvOk l tr i) (hi : i < l.length) (hk : (l[l.length - 1 - i]'(by omega)).k = 1) :
  EvOk l tr (i + 1) ∧ cA l tr (i + 1) = (lG (cA l tr i).1 (cA l tr i).2 (tr.getD (lv (l.take (l.length - 1 - i))) false), (cA l tr i).2 + 1) := by
 have hp : l.length - 1 - i < l.length := by omega
 have hg : l.getD (l.length - 1 - i) nd0 = l[l.length - 1 - i] := by simp [hp]
 have e : cA l tr (i + 1) = (lG (cA l tr i).1 (cA l tr i).2 (tr.getD (lv (l.take (l.length - 1 - i))) false), (cA l tr i).2 + 1) := by
  simp only [cA, aR2, hg, if_pos hk]
 have hT := qH l (l.length - 1 - i)
 have hd := EvOk.at_ (tr := tr) hi
 rw [show l.length - (i + 1) = l.length - 1 - i from by omega] at hd
 have hE : evS (lv l) tr (l.drop (l.length - (i + 1))) = tr.getD (lv (l.take (l.length - 1 - i))) false :: evS (lv l) tr (l.drop (l.length - i)) := by
  rw [show l.length - (i + 1) = l.length - 1 - i from by omega, hd, evS, if_pos hk, ← hd]
  congr 2; omega
 refine ⟨⟨hi, ?_, ?_, ?_, ?_⟩, e⟩
 ·
  rw [e, hE]; simp [h.m]
 ·
  rw [e, hE]; simp only [List.reverse_cons]; rw [zM h.fit, h.row]
 ·
  rw [e]; have := h.fit; simp [lG]; omega
 ·
  rw [e]; have := h.fit; have := h.small; simp [lG]; omega
theorem EvOk.inner {l : List Nd} (ht : IsTree l) {tr : List Bool} {i : Nat} (h : EvOk l tr i) (hi : i < l.length) (hk : (l[l.length - 1 - i]'(by omega)).k ≠ 1) :
  (l[l.length - 1 - i]'(by omega)).c.toNat ≤ (cA l tr i).2 ∧ EvOk l tr (i + 1) ∧
  cA l tr (i + 1) = (lG (cA l tr i).1 ((cA l tr i).2 - (l[l.length - 1 - i]'(by omega)).c.toNat) (iF (l[l.length - 1 - i]'(by omega)) (((cA l tr i).1.drop ((cA l tr i).2 - (l[l.length - 1 - i]'(by omega)).c.toNat)).take (l[l.length - 1 - i]'(by omega)).c.toNat)), (cA l tr i).2 - (l[l.length - 1 - i]'(by omega)).c.toNat + 1) := by
 have hp : l.length - 1 - i < l.length := by omega
 have hg : l.getD (l.length - 1 - i) nd0 = l[l.length - 1 - i] := by simp [hp]
 have e : cA l tr (i + 1) = (lG (cA l tr i).1 ((cA l tr i).2 - (l[l.length - 1 - i]'(by omega)).c.toNat) (iF (l[l.length - 1 - i]'(by omega)) (((cA l tr i).1.drop ((cA l tr i).2 - (l[l.length - 1 - i]'(by omega)).c.toNat)).take (l[l.length - 1 - i]'(by omega)).c.toNat)), (cA l tr i).2 - (l[l.length - 1 - i]'(by omega)).c.toNat + 1) := by
  simp only [cA, aR2, hg, if_neg hk]
 have hkl := aI8 ht (tr := tr) hp
 rw [show l.length - 1 - i + 1 = l.length - i from by omega] at hkl
 obtain ⟨_, _, _, c4⟩ := cI (ht.node _ (List.getElem_mem hp))
 have c5 := c4 hk
 have c6 : 1 ≤ l[l.length - 1 - i].c.toNat := by omega
 have hd := EvOk.at_ (tr := tr) hi
 have hm := h.m
 have hr := h.row
 have hf := h.fit
 have hs := h.small
 have hE : evS (lv l) tr (l.drop (l.length - (i + 1))) = iF l[l.length - 1 - i] ((evS (lv l) tr (l.drop (l.length - i))).take l[l.length - 1 - i].c.toNat) :: (evS (lv l) tr (l.drop (l.length - i))).drop l[l.length - 1 - i].c.toNat := by
  rw [hd, evS, if_neg hk]
 generalize evS (lv l) tr (l.drop (l.length - i)) = E at hm hr hkl hE
 generalize l[l.length - 1 - i].c.toNat = c at *
 have h1 : (cA l tr i).1.take ((cA l tr i).2 - c) = (E.drop c).reverse := by
  rw [← bO3, ← hr, List.take_take, hm, Nat.min_eq_left (by omega)]
 have h2 : ((cA l tr i).1.drop ((cA l tr i).2 - c)).take c = (E.take c).reverse := by
  rw [← bO4 hkl, ← hr, List.drop_take, hm]
  congr 1; omega
 refine ⟨by omega, ⟨hi, ?_, ?_, ?_, ?_⟩, e⟩
 ·
  rw [e, hE]; simp only [List.length_cons, List.length_drop]; omega
 ·
  rw [e, hE]
  simp only [List.reverse_cons]
  rw [zM (by omega), h1, h2, xL]
 ·
  rw [e]; simp only; rw [lH (by omega)]; omega
 ·
  rw [e]; simp only; rw [lH (by omega)]; omega
theorem EvOk.fin {l : List Nd} (ht : IsTree l) {tr : List Bool} (h : EvOk l tr l.length) : (cA l tr l.length).2 = 1 ∧ ∃ h0 : 0 < (cA l tr l.length).1.length, oT l tr = (cA l tr l.length).1[0] := by
 have hl := aB6 (T := lv l) (tr := tr) l 1 ht.node ht.skip
 have hm := h.m
 have hr := h.row
 have hf := h.fit
 rw [Nat.sub_self, List.drop_zero] at hm hr
 rw [hl] at hm
 have h0 : 0 < (cA l tr l.length).1.length := by omega
 refine ⟨hm, h0, ?_⟩
 have ht' := bJ7 ht
 obtain ⟨x, hx⟩ : ∃ x, evS (lv l) tr l = [x] := by
  match hE : evS (lv l) tr l, hl with
  | [x], _ => exact ⟨x, rfl⟩
 rw [hx, hm] at hr
 rw [oT, ht', hx]
 have : (cA l tr l.length).1[0] = x := by
  have := congrArg (·.head?) hr
  simpa [List.head?_take, List.head?_eq_getElem?, h0] using this
 rw [this]; rfl
end Go.Pl

namespace Go.Proofs.YtlldglbooaefhaaGreatDoor
open Go Go.Hl Go.Pl
set_option maxRecDepth 10000
set_option maxHeartbeats 16000000

theorem cB (id n sz m : Nat) : (gZ id n sz m).sto = true := by unfold gZ; split <;> rfl
theorem bL (id n sz m : Nat) : (gZ id n sz m).cells = 1 := by unfold gZ; split <;> rfl
theorem bP (id n sz m : Nat) : (gZ id n sz m).toC = none := by unfold gZ; split <;> rfl
theorem cS (id n sz : Nat) : gZ id n sz n = .own id n := by unfold gZ; rw [if_pos rfl]
theorem cM {id n sz m : Nat} (h : m ≠ n) : gZ id n sz m = .osl id n 0 sz m := by unfold gZ; rw [if_neg h]
theorem oI {M : Nat → Prop} {id n sz m : Nat} (h : M id) : (gZ id n sz m).men M := by unfold gZ; split <;> exact h

theorem aD1 (l : List Nd) (hn : ∀ n ∈ l, n.q.t.length < 2 ^ 63) (tr : List Bool) (htr : tr.length < 2 ^ 63) : bN Tryz.prog 20 [.slc (l.map Nd.cv), .slc (tr.map bC)] (fun v => v = .bool (oT l tr)) := by
 refine FW Tryz.func20 ?_
 have F := rI
 refine AU ?_
 refine SCF (sF l hn) ?_
 iterate 3 refine SF ?_
 refine RE ?_
 refine aC fun K hK => ?_
 refine RF ?_
 refine aH (b := (((gJ l).length : Int) == 0)) rfl (fun hb => ?_) (fun hb => ?_)
 ·
  refine RF ?_
  refine aF ?_
  simp only [gF, Tryz.results20, fD, gE, eO, ↓sP, sA, tyS, simprocAttr, rI]
  have hlv : gJ l = [] := by simpa using hb
  have htf : cP l = false := by
   cases h : cP l with
   | false => rfl
   | true =>
    have h1 := aI4 (fH h)
    rw [jN h] at hlv
    have h2 := gR l 0
    rw [hlv] at h2
    simp at h2; omega
  exact aG [] (.bool false) rfl (by rw [oT, htf]; rfl)
 have htt : cP l = true := by
  cases h : cP l with
  | true => rfl
  | false => rw [kI h] at hb; simp at hb
 have ht := fH htt
 have hl := ht.len
 have hlen : (gJ l).length = lv l := by rw [jN htt, gR]
 rw [hlen]
 clear hb
 refine aJ ?_
 refine TQ rI ?_
 refine AX (hK _ _ _ ?_)
 clear hK K
 refine RF ?_
 refine aC fun K hK => ?_
 refine aC fun K hK => Rg ?_
 refine S0 ?_ (e := fun _ h_ => by simp only [sH, ↓sP, sA, tyS, simprocAttr, rI, denilL_Nd, lY, gH, List.range', List.map_cons, List.map_nil]; exact AX h_)
 refine HS rfl rfl fun K' hK' => ?_
 simp only [sH, ↓sP, sA, tyS, simprocAttr, rI, denilL_Nd, lY, gH, List.range', List.map_cons, List.map_nil]
 refine rT (args := [_]) (bV7 l) (by simp) ⟨rfl, rfl, rfl, rfl⟩ ?_
 refine AX (hK' _ _ ?_)
 clear hK' K'
 simp only [sE, ↓reduceIte, simprocAttr, rI]
 refine AX (hK _ _ _ ?_)
 clear hK K
 refine aK ?_
 refine aA4 36 0 4 1 rfl rfl rfl rfl ?_
 refine yN (ids := [44]) (fin [(3, .ptr 0 0), (5, .ptr 20 0), (6, .ptr 36 0)]) (fun i => fob [(0, .box 24 (.c (.slc (tr.map bC)))), (20, .box 3 (.c (.int .i64 (lv (l.take (l.length - i)) : Nat)))), (36, .box 24 (gZ 48 (cA l tr i).1.length 1 (cA l tr i).2)), (48, .row 4 1 ((cA l tr i).1.map bC))]) 20000 (fun i => EvOk l tr i) (EvOk.zero l tr) (bC8 l (by omega)) rfl rfl (by decide) ?_ ?_ ?_ ?_ ?_ rfl rfl ?_ ?_
 ·
  intro j x hx
  match j, hx with
  | 0, hx => cases hx; rfl
 ·
  exact aN (by omega) (by simp [aZ, fin_at, finA_at, upd_at, HV.men, HV.menL, HV.norm, HV.toC, HV.toCL, lY, cA, cS, List.take_length]) (by simp [aW, fob_at, upd_at, none0_at, bY, HO.men, HV.men, HV.menL, HV.norm, HV.toC, HV.toCL, lY, cA, cS, List.take_length])
 ·
  intro id hid
  simp only [List.mem_cons, List.not_mem_nil, or_false] at hid
  subst hid; rfl
 ·
  intro x hx
  obtain ⟨p, _, rfl⟩ := List.mem_map.1 hx
  rfl
 ·
  intro p hp
  simp only [List.mem_cons, List.not_mem_nil, or_false] at hp
  rcases hp with rfl | rfl <;> exact Nat.le_of_ble_eq_true rfl
 ·
  intro i hi hΦ K hK
  have hi2 : i < l.length := by rw [← qS l]; exact hi
  have hp : l.length - 1 - i < l.length := by omega
  rw [bL4 hi hp]
  simp only [vP]
  obtain ⟨w, hw⟩ : ∃ w, w = (cA l tr i).1 := ⟨_, rfl⟩
  obtain ⟨m, hm⟩ : ∃ m, m = (cA l tr i).2 := ⟨_, rfl⟩
  have hfit := hΦ.fit
  have hsmall := hΦ.small
  rw [← hw, ← hm] at hfit
  rw [← hw] at hsmall
  rw [← hw, ← hm]
  refine aL (by kernel_rfl) ?_
  refine TQ rI ?_
  refine AX (hK _ _ _ ?_)
  clear hK K
  refine aK ?_
  refine aC fun K hK => ?_
  refine RF ?_
  refine aH (b := (l[l.length - 1 - i].k == 1)) rfl (fun hb => ?_) (fun hb => ?_)
  ·
   have hk1 : l[l.length - 1 - i].k = 1 := by simpa using hb
   obtain ⟨hok, hst⟩ := hΦ.leaf hi2 hk1
   rw [← hw, ← hm] at hst
   have hlv := aB9 hp
   rw [if_pos hk1, show l.length - 1 - i + 1 = l.length - i from by omega] at hlv
   have hlb := wM l (l.length - 1 - i)
   have hw1 : IntKind.i64.wrap ((lv (l.take (l.length - i)) : Int) - 1) = ((lv (l.take (l.length - 1 - i)) : Nat) : Int) := by rw [hlv, bM _ (by omega)]; omega
   obtain ⟨x, hx⟩ : ∃ x, x = lv (l.take (l.length - 1 - i)) := ⟨_, rfl⟩
   have hxl : l.length - (i + 1) = l.length - 1 - i := by omega
   rw [← hx] at hw1 hst
   clear hb
   have F := aI rI hw1
   refine RF ?_
   by_cases hlt : x < tr.length
   ·
    by_cases hmw : m = w.length
    ·
     subst hmw
     have hg : tr.getD x false = tr[x] := by simp [hlt]
     refine aC fun K hK => eV mixed [(0, [], []), (1, [], []), (2, [], []), (3, [], []), (4, [], []), (5, [], []), (6, [], []), (7, [], []), (8, [], []), (9, [], []), (10, [], []), (11, [], []), (12, [], []), (13, [], [])] [0, 0, 0, 4, 14, 30, 62, 62, 254, 510, 1022, 2046, 4095, 8191] (by kernel_rfl) (by kernel_rfl) (by kernel_rfl) (by kernel_rfl) rfl (by kernel_rfl) ?_
     iterate 14 refine WG0 ?_ (e := fun _ h_ => by simp only [sH, ↓sP, sA, tyS, simprocAttr, rI, Int.natCast_nonneg, Int.ofNat_lt, hlt, bA hlt, bC, cS, cB, bL, bP]; exact AX h_)
     simp only [sE, ↓reduceIte, simprocAttr, rI]
     refine AX (hK _ _ _ ?_)
     clear hK K
     refine aY ?_
     refine TQ rI ?_
     clear hK K
     rw [hg, zL] at hst
     refine ⟨(show Fits 20000 _ _ (fin []) _ 20000 from aN (by omega) trivial ?_), hok⟩
     rw [hst, hxl, ← hx]
     simp [aW, fob_at, upd_at, none0_at, bY, HO.men, HV.men, HV.menL, HV.norm, HV.toC, HV.toCL, cS, bC]
    have hg : tr.getD x false = tr[x] := by simp [hlt]
    have hmw2 : m + 1 ≤ w.length := by omega
    have hw0 : 0 < w.length := by omega
    have hrow : (lG w m tr[x]).map bC = (w.map bC).take m ++ [.bool tr[x]] ++ (w.map bC).drop (m + 1) := by simp [lG, List.map_take, List.map_drop, bC]
    refine aC fun K hK => eV mixed [(0, [], []), (1, [], []), (2, [], []), (3, [], []), (4, [], []), (5, [], []), (6, [], []), (7, [], []), (8, [], []), (9, [], []), (10, [], []), (11, [], []), (12, [], []), (13, [], [])] [0, 0, 0, 4, 14, 30, 62, 62, 254, 510, 1022, 2046, 4095, 8191] (by kernel_rfl) (by kernel_rfl) (by kernel_rfl) (by kernel_rfl) rfl (by kernel_rfl) ?_
    iterate 12 refine WG0 ?_ (e := fun _ h_ => by simp only [sH, ↓sP, sA, tyS, simprocAttr, rI, Int.natCast_nonneg, Int.ofNat_lt, hlt, bA hlt, bC, cM hmw, cB, bL, bP, hw0, hmw2]; exact AX h_)
    refine eF (g := none) rfl rfl fun K' hK' => ?_
    simp only [sN, ↓hopH.eq_def, sH, ↓sP, sA, tyS, simprocAttr, rI, Int.natCast_nonneg, Int.ofNat_lt, hlt, bA hlt, bC, cM hmw, cB, bL, bP, hw0, hmw2]
    refine AX (hK' _ _ ?_)
    clear hK' K'
    refine WG0 ?_ (e := fun _ h_ => by simp only [sH, ↓sP, sA, tyS, simprocAttr, rI, Int.natCast_nonneg, Int.ofNat_lt, hlt, bA hlt, bC, cM hmw, cB, bL, bP, hw0, hmw2]; exact AX h_)
    simp only [sE, ↓reduceIte, simprocAttr, rI]
    refine AX (hK _ _ _ ?_)
    clear hK K
    refine aY ?_
    refine TQ rI ?_
    clear hK K
    rw [hg] at hst
    refine ⟨(show Fits 20000 _ _ (fin []) _ 20000 from aN (by omega) trivial ?_), hok⟩
    rw [hst, hxl, ← hx]
    simp [aW, fob_at, upd_at, none0_at, bY, HO.men, HV.men, HV.menL, HV.norm, HV.toC, HV.toCL, lH hmw2, hrow, oI, bP]
   by_cases hmw : m = w.length
   ·
    subst hmw
    have hg : tr.getD x false = false := by simp [List.getD_eq_getElem?_getD, List.getElem?_eq_none (Nat.le_of_not_lt hlt)]
    have hlt' : decide ((x : Int) < tr.length) = false := by simp; omega
    refine aC fun K hK => eV mixed [(0, [], []), (1, [], []), (2, [], []), (3, [], []), (4, [], []), (5, [], []), (6, [], []), (7, [], []), (8, [], []), (9, [], []), (10, [], []), (11, [], []), (12, [], []), (13, [], [])] [0, 0, 0, 4, 14, 30, 62, 62, 254, 510, 1022, 2046, 4095, 8191] (by kernel_rfl) (by kernel_rfl) (by kernel_rfl) (by kernel_rfl) rfl (by kernel_rfl) ?_
    have F := aI rI (aI hlt' (aI @cS (aI @cB (aI @bL @bP))))
    iterate 14 refine WGF ?_
    simp only [sE, ↓reduceIte, simprocAttr, rI]
    refine AX (hK _ _ _ ?_)
    clear hK K
    refine aY ?_
    refine TQ rI ?_
    clear hK K
    rw [hg, zL] at hst
    refine ⟨(show Fits 20000 _ _ (fin []) _ 20000 from aN (by omega) trivial ?_), hok⟩
    rw [hst, hxl, ← hx]
    simp [aW, fob_at, upd_at, none0_at, bY, HO.men, HV.men, HV.menL, HV.norm, HV.toC, HV.toCL, cS, bC]
   have hg : tr.getD x false = false := by simp [List.getD_eq_getElem?_getD, List.getElem?_eq_none (Nat.le_of_not_lt hlt)]
   have hlt' : decide ((x : Int) < tr.length) = false := by simp; omega
   have hmw2 : m + 1 ≤ w.length := by omega
   have hw0 : 0 < w.length := by omega
   have hrow : (lG w m false).map bC = (w.map bC).take m ++ [.bool false] ++ (w.map bC).drop (m + 1) := by simp [lG, List.map_take, List.map_drop, bC]
   refine aC fun K hK => eV mixed [(0, [], []), (1, [], []), (2, [], []), (3, [], []), (4, [], []), (5, [], []), (6, [], []), (7, [], []), (8, [], []), (9, [], []), (10, [], []), (11, [], []), (12, [], []), (13, [], [])] [0, 0, 0, 4, 14, 30, 62, 62, 254, 510, 1022, 2046, 4095, 8191] (by kernel_rfl) (by kernel_rfl) (by kernel_rfl) (by kernel_rfl) rfl (by kernel_rfl) ?_
   iterate 12 refine WG0 ?_ (e := fun _ h_ => by simp only [sH, ↓sP, sA, tyS, simprocAttr, rI, hlt', cM hmw, cB, bL, bP, hw0, hmw2]; exact AX h_)
   refine eF (g := none) rfl rfl fun K' hK' => ?_
   simp only [sN, ↓hopH.eq_def, sH, ↓sP, sA, tyS, simprocAttr, rI, hlt', cM hmw, cB, bL, bP, hw0, hmw2]
   refine AX (hK' _ _ ?_)
   clear hK' K'
   refine WG0 ?_ (e := fun _ h_ => by simp only [sH, ↓sP, sA, tyS, simprocAttr, rI, hlt', cM hmw, cB, bL, bP, hw0, hmw2]; exact AX h_)
   simp only [sE, ↓reduceIte, simprocAttr, rI]
   refine AX (hK _ _ _ ?_)
   clear hK K
   refine aY ?_
   refine TQ rI ?_
   clear hK K
   rw [hg] at hst
   refine ⟨(show Fits 20000 _ _ (fin []) _ 20000 from aN (by omega) trivial ?_), hok⟩
   rw [hst, hxl, ← hx]
   simp [aW, fob_at, upd_at, none0_at, bY, HO.men, HV.men, HV.menL, HV.norm, HV.toC, HV.toCL, lH hmw2, hrow, oI, bP]
  have hk1 : l[l.length - 1 - i].k ≠ 1 := by simpa using hb
  obtain ⟨hcm, hok, hst⟩ := hΦ.inner ht hi2 hk1
  rw [← hw, ← hm] at hst
  rw [← hm] at hcm
  obtain ⟨c1, c2, c3, c4⟩ := cI (ht.node _ (List.getElem_mem hp))
  have c5 := c4 hk1
  have hlv := aB9 hp
  rw [if_neg hk1, Nat.add_zero, show l.length - 1 - i + 1 = l.length - i from by omega] at hlv
  have hxl : l.length - (i + 1) = l.length - 1 - i := by omega
  obtain ⟨f, hf⟩ : ∃ f, f = m - l[l.length - 1 - i].c.toNat := ⟨_, rfl⟩
  have hfc : m - f = l[l.length - 1 - i].c.toNat := by omega
  rw [← hf, ← hfc] at hst
  have hw2 : IntKind.i64.wrap ((m : Int) - l[l.length - 1 - i].c) = (f : Int) := by rw [bM _ (by omega)]; omega
  have hf1 : f + 1 ≤ w.length := by omega
  have hfw : f ≤ w.length := by omega
  have hfm : f ≤ m := by omega
  have hw0 : 0 < w.length := by omega
  obtain ⟨h, hh⟩ : ∃ h, h = iF l[l.length - 1 - i] ((w.drop f).take (m - f)) := ⟨_, rfl⟩
  rw [← hh] at hst
  have hrow : (lG w f h).map bC = (w.map bC).take f ++ [.bool h] ++ (w.map bC).drop (f + 1) := by simp [lG, List.map_take, List.map_drop, bC]
  clear hb
  refine aJ ?_
  refine TQ rI ?_
  refine AX (hK _ _ _ ?_)
  clear hK K
  by_cases hmw : m = w.length
  ·
   rw [← hmw] at hw0 hf1 hfw
   refine RS ?_
   iterate 6 refine S0 ?_ (e := fun _ h_ => by simp only [sH, ↓sP, sA, tyS, simprocAttr, rI, cS, ← hmw, List.length_map, hw2]; exact AX h_)
   refine RE ?_
   refine eV mixed [(0, [], []), (1, [], []), (2, [], []), (3, [], []), (4, [], []), (5, [], []), (6, [], []), (7, [], [0, 1, 2]), (8, [], []), (9, [], []), (10, [], [])] [0, 0, 3, 0, 0, 0, 48, 120, 248, 511, 1023] (by kernel_rfl) (by kernel_rfl) (by kernel_rfl) (by kernel_rfl) rfl (by kernel_rfl) ?_
   iterate 7 refine WG0 ?_ (e := fun _ h_ => by simp only [sH, ↓sP, sA, tyS, simprocAttr, rI, cS, cB, bL, bP, ← hmw, List.length_map, Int.natCast_nonneg, Int.ofNat_le, hfw]; exact AX h_)
   refine oO (g := none) rfl rfl fun K' hK' => ?_
   simp only [sN, ↓hopH.eq_def, sH, ↓sP, sA, tyS, simprocAttr, rI, cS, cB, bL, bP, ← hmw, List.length_map, Int.natCast_nonneg, Int.ofNat_le, hfw]
   refine aH2 [48] (aL8 l[l.length - 1 - i] w f m (by omega) (by omega) (by omega) (by omega)) (by first | rfl | (rw [← hmw]; rfl)) ⟨rfl, trivial⟩ (by simp) ?_ ?_ ?_ ?_ ?_
   ·
    intro j hj
    match j, hj with
    | 0, _ => exact .inr ⟨by decide, fun r os' h => by rw [h.2]⟩
   ·
    exact ⟨rfl, rfl, rfl, rfl⟩
   ·
    simp [fX, HO.men]
   ·
    simp [HV.menL, HV.men]
   rintro r os' ⟨rfl, rfl⟩
   rw [← hh, show ∀ n ob, lP (sub [48] n) ob 0 [.row 4 1 (w.map bC)] = upd ob 48 (some (.row 4 1 (w.map bC))) from fun _ _ => rfl, show ∀ n b, HV.ren (sub [48] n) (.c b) = .c b from fun _ _ => rfl]
   refine AX (hK' _ _ ?_)
   clear hK' K'
   refine WG0 ?_ (e := fun _ h_ => by simp only [sH, ↓sP, sA, tyS, simprocAttr, rI, cS, cB, bL, bP, ← hmw, List.length_map, Int.natCast_nonneg, Int.ofNat_le, hfw]; exact AX h_)
   refine eF (g := none) rfl rfl fun K' hK' => ?_
   simp only [sN, ↓hopH.eq_def, sH, ↓sP, sA, tyS, simprocAttr, rI, cS, cB, bL, bP, ← hmw, List.length_map, Int.natCast_nonneg, Int.ofNat_le, hfw]
   refine AX (hK' _ _ ?_)
   clear hK' K'
   refine WG0 ?_ (e := fun _ h_ => by simp only [sH, ↓sP, sA, tyS, simprocAttr, rI, cS, cB, bL, bP, ← hmw, List.length_map, Int.natCast_nonneg, Int.ofNat_le, hfw]; exact AX h_)
   simp only [sE, ↓reduceIte, simprocAttr, rI]
   refine ⟨(show Fits 20000 _ _ (fin []) _ 20000 from aN (by omega) trivial ?_), hok⟩
   rw [hst, hxl, hlv]
   simp [aW, fob_at, upd_at, none0_at, bY, HO.men, HV.men, HV.menL, HV.norm, HV.toC, HV.toCL, lH (show f + 1 ≤ w.length by omega), hrow, oI, bP, ← hmw]
  refine RS ?_
  iterate 6 refine S0 ?_ (e := fun _ h_ => by simp only [sH, ↓sP, sA, tyS, simprocAttr, rI, cM hmw, List.length_map, hw0, hfit, Nat.zero_le, List.length_take, List.length_drop, Nat.sub_zero, Nat.min_eq_left hfit, hw2]; exact AX h_)
  refine RE ?_
  refine eV mixed [(0, [], []), (1, [], []), (2, [], []), (3, [], []), (4, [], []), (5, [], []), (6, [], []), (7, [], [0, 1, 2]), (8, [], []), (9, [], []), (10, [], [])] [0, 0, 3, 0, 0, 0, 48, 120, 248, 511, 1023] (by kernel_rfl) (by kernel_rfl) (by kernel_rfl) (by kernel_rfl) rfl (by kernel_rfl) ?_
  iterate 2 refine WG0 ?_ (e := fun _ h_ => by simp only [sH, ↓sP, sA, tyS, simprocAttr, rI, cB, bL, bP, cM hmw, List.length_map, Int.natCast_nonneg, Int.ofNat_le, hfw, hfm]; exact AX h_)
  refine eF (g := none) rfl rfl fun K' hK' => ?_
  simp only [sN, ↓hopH.eq_def, sH, ↓sP, sA, tyS, simprocAttr, rI, cB, bL, bP, cM hmw, List.length_map, Int.natCast_nonneg, Int.ofNat_le, hfw, hfm]
  refine AX (hK' _ _ ?_)
  clear hK' K'
  iterate 3 refine WG0 ?_ (e := fun _ h_ => by simp only [sH, ↓sP, sA, tyS, simprocAttr, rI, cB, bL, bP, cM hmw, List.length_map, Int.natCast_nonneg, Int.ofNat_le, hfw, hfm]; exact AX h_)
  refine eF (g := none) rfl rfl fun K' hK' => ?_
  simp only [sN, ↓hopH.eq_def, sH, ↓sP, sA, tyS, simprocAttr, rI, cB, bL, bP, cM hmw, List.length_map, Int.natCast_nonneg, Int.ofNat_le, hfw, hfm]
  refine AX (hK' _ _ ?_)
  clear hK' K'
  refine oO (g := none) rfl rfl fun K' hK' => ?_
  simp only [sN, ↓hopH.eq_def, sH, ↓sP, sA, tyS, simprocAttr, rI, cB, bL, bP, cM hmw, List.length_map, Int.natCast_nonneg, Int.ofNat_le, hfw, hfm]
  refine aH2 [48] (aL8 l[l.length - 1 - i] w f m (by omega) (by omega) (by omega) (by omega)) (by first | rfl | (rw [← hmw]; rfl)) ⟨rfl, trivial⟩ (by simp) ?_ ?_ ?_ ?_ ?_
  ·
   intro j hj
   match j, hj with
   | 0, _ => exact .inr ⟨by decide, fun r os' h => by rw [h.2]⟩
  ·
   exact ⟨rfl, rfl, rfl, rfl⟩
  ·
   simp [fX, HO.men]
  ·
   simp [HV.menL, HV.men]
  rintro r os' ⟨rfl, rfl⟩
  rw [← hh, show ∀ n ob, lP (sub [48] n) ob 0 [.row 4 1 (w.map bC)] = upd ob 48 (some (.row 4 1 (w.map bC))) from fun _ _ => rfl, show ∀ n b, HV.ren (sub [48] n) (.c b) = .c b from fun _ _ => rfl]
  refine AX (hK' _ _ ?_)
  clear hK' K'
  refine WG0 ?_ (e := fun _ h_ => by simp only [sH, ↓sP, sA, tyS, simprocAttr, rI, cB, bL, bP, cM hmw, List.length_map, Int.natCast_nonneg, Int.ofNat_le, hfw, hfm]; exact AX h_)
  refine eF (g := none) rfl rfl fun K' hK' => ?_
  simp only [sN, ↓hopH.eq_def, sH, ↓sP, sA, tyS, simprocAttr, rI, cB, bL, bP, cM hmw, List.length_map, Int.natCast_nonneg, Int.ofNat_le, hfw, hfm]
  refine AX (hK' _ _ ?_)
  clear hK' K'
  refine WG0 ?_ (e := fun _ h_ => by simp only [sH, ↓sP, sA, tyS, simprocAttr, rI, cB, bL, bP, cM hmw, List.length_map, Int.natCast_nonneg, Int.ofNat_le, hfw, hfm]; exact AX h_)
  simp only [sE, ↓reduceIte, simprocAttr, rI]
  refine ⟨(show Fits 20000 _ _ (fin []) _ 20000 from aN (by omega) trivial ?_), hok⟩
  rw [hst, hxl, hlv]
  simp [aW, fob_at, upd_at, none0_at, bY, HO.men, HV.men, HV.menL, HV.norm, HV.toC, HV.toCL, lH hf1, hrow, oI, bP]
 intro hΦ
 simp only [sE, ↓reduceIte, simprocAttr, rI]
 have hfin := hΦ
 rw [qS] at hfin
 obtain ⟨h1, h0, h2⟩ := hfin.fin ht
 rw [qS, h1]
 obtain ⟨w, hw⟩ : ∃ w, w = (cA l tr l.length).1 := ⟨_, rfl⟩
 rw [← hw] at h0
 have h3 : oT l tr = w[0] := by rw [h2]; simp only [hw]
 rw [← hw]
 refine AX (hK _ _ _ ?_)
 clear hK K
 by_cases hw1 : w.length = 1
 ·
  rw [hw1]
  refine RS ?_
  iterate 4 refine S0 ?_ (e := fun _ h_ => by simp only [sH, ↓sP, sA, tyS, simprocAttr, rI, cS, bA h0, bC, Nat.lt_irrefl]; exact AX h_)
  refine RE ?_
  refine aF ?_
  simp only [gF, Tryz.results20, fD, gE, eO, ↓sP, sA, tyS, simprocAttr, rI]
  exact aG [] (.bool w[0]) rfl (by rw [h3])
 refine RS ?_
 iterate 4 refine S0 ?_ (e := fun _ h_ => by simp only [sH, ↓sP, sA, tyS, simprocAttr, rI, cM (Ne.symm hw1), bA h0, bC, h0]; exact AX h_)
 refine RE ?_
 refine aF ?_
 simp only [gF, Tryz.results20, fD, gE, eO, ↓sP, sA, tyS, simprocAttr, rI]
 exact aG [] (.bool w[0]) rfl (by rw [h3])

end Go.Proofs.YtlldglbooaefhaaGreatDoor

namespace Go.Proofs.YtlldglbooaefhaaGreatDoor
open Go Go.Hl Go.Pl
set_option maxRecDepth 10000
set_option maxHeartbeats 16000000

theorem bV8 (ns im : aE) (r : Pr) : bN Tryz.prog 71 [r.cv, .rp (.str ns), .rp (.str im)] (fun v => v = .bool (zA ns im r)) := by
 refine FW Tryz.func71 ?_
 refine AU ?_
 refine SC (aK2 r.b ns) ?_
 refine S0 ?_
 refine aD 8 rfl (fun h1_8 => ?_) (fun h1_8 => ?_)
 ·
  have F := h1_8
  refine AU ?_
  refine SCF (aK2 r.c im) ?_
  refine AU ?_
  refine aF (RT Tryz.results71 ?_)
  exact aG [] (.bool _) rfl (by simp only [zA, h1_8, Bool.and_true, Bool.and_false, Bool.true_and, Bool.false_and])
 have F := h1_8
 refine AU ?_
 refine aF (RT Tryz.results71 ?_)
 exact aG [] (.bool _) rfl (by simp only [zA, h1_8, Bool.and_true, Bool.and_false, Bool.true_and, Bool.false_and])


def bC9 (l : List Pr) (p : Pr → Bool) : Int := match l.findIdx? p with | some i => (i : Int) | none => -1
theorem bO5 {l : List Pr} {p : Pr → Bool} {i : Nat} (hi : i < l.length) (h : p l[i] = true) (h0 : ∀ j (hj : j < i), p (l[j]'(by omega)) = false) : bC9 l p = i := by
 have : l.findIdx? p = some i := by
  rw [List.findIdx?_eq_some_iff_getElem]
  exact ⟨hi, h, fun j hj => by rw [h0 j hj]; simp⟩
 rw [bC9, this]
theorem bD0 {l : List Pr} {p : Pr → Bool} (h0 : ∀ j (hj : j < l.length), p l[j] = false) : bC9 l p = -1 := by
 have : l.findIdx? p = none := by
  rw [List.findIdx?_eq_none_iff]
  intro r hr
  obtain ⟨j, hj, rfl⟩ := List.getElem_of_mem hr
  exact h0 j hj
 rw [bC9, this]

theorem bV9 (l : List Pr) (g : FuncId) (caps : List CV) (p : Pr → Bool) (hl : l.length < 2 ^ 40) (hp : ∀ r ∈ l, bN Tryz.prog g (r.cv :: caps) (fun v => v = .bool (p r))) :
  bE6 Tryz.prog 70 [.c (.slc (l.map Pr.cv)), .clo g (caps.map .c)] (fun v => v = .int .i64 (bC9 l p)) := by
 refine bT Tryz.func70 rfl (by kernel_rfl) (aS6 (by simp [HV.menL, HV.men, HV.menL_c])) (Nat.le_of_ble_eq_true rfl) ?_
 refine R0 ?_
 refine aC fun K hK => ?_
 refine R0 ?_
 refine aK ?_
 refine bE (α := {i : Nat // i ≤ l.length ∧ ∀ j (hj : j < i) (h : j < l.length), p l[j] = false}) (fun i => (fin [(0, .c (.slc (l.map Pr.cv))), (1, .clo g (caps.map .c)), (7, .c (.int .i64 l.length)), (8, .c (.int .i64 i.1))], fob [])) 100 (fun i => l.length - i.1) ⟨0, by omega, fun j hj => by omega⟩ (aN (by omega) (by simp [aZ, fin_at, finA_at, upd_at, HV.men, HV.menL, HV.norm, HV.toC, HV.toCL, HV.menL_c]) (by simp [aW])) ?_
 rintro ⟨i, hi, h0⟩
 refine R0 ?_
 refine aC fun K hK => ?_
 refine aH (b := decide ((i : Int) < l.length)) rfl (fun hb => ?_) (fun hb => ?_)
 ·
  have hlt : i < l.length := by simpa using hb
  clear hb
  refine aJ ?_
  refine T0 (hK _ _ _ ?_)
  clear hK K
  refine aC fun K hK => ?_
  refine aK ?_
  refine R0 ?_
  refine aC fun K hK => Rg ?_
  have F := aI @Int.natCast_nonneg (aI @Int.ofNat_lt (aI hlt (nM hlt)))
  refine AU ?_
  refine HS rfl rfl fun K' hK' => T6 ?_
  refine gP (args := l[i].cv :: caps) (hp _ (List.getElem_mem hlt)) ⟨rfl, rfl, rfl, rfl⟩ ?_
  rintro u rfl
  refine AX (hK' _ _ ?_)
  clear hK' K'
  refine T2 (hK _ _ _ ?_)
  clear hK K
  refine aH (b := p l[i]) rfl (fun hb => ?_) (fun hb => ?_)
  ·
   refine R0 ?_
   refine aF (RT Tryz.results70 ?_)
   exact aG [] (.int .i64 i) rfl (by rw [bO5 hlt hb fun j hj => h0 j hj (by omega)])
  refine aJ ?_
  refine T0 (hK _ _ _ ?_)
  clear hK K
  refine aL (by kernel_rfl) ?_
  refine TQ (IntWalk.i64_in ((i : Int) + 1) (by omega)) ?_
  refine ⟨⟨i + 1, hlt, fun j hj h => ?_⟩, aN (by omega) (by simp [aZ, fin_at, finA_at, upd_at, HV.men, HV.menL, HV.norm, HV.toC, HV.toCL, HV.menL_c]) (by simp [aW]), ?_⟩
  ·
   rcases Nat.lt_or_ge j i with h1 | h1
   ·
    exact h0 j h1 h
   obtain rfl : j = i := by omega
   exact hb
  show l.length - (i + 1) < l.length - i
  omega
 refine aY (T3 ?_)
 clear hK K
 refine AX (hK _ _ _ ?_)
 clear hK K
 refine R0 ?_
 refine aF (RT Tryz.results70 ?_)
 have hei : i = l.length := by simp at hb; omega
 subst hei
 exact aG [] (.int .i64 (-1)) rfl (by rw [bD0 fun j hj => h0 j hj hj])


theorem bW0 (p : Po) (hp : PoSz p) (ns im : aE) : bN Tryz.prog 39 [p.cv, .str ns, .str im] (fun v => v = .int .i64 (bK0 p ns im)) := by
 refine FW Tryz.func39 ?_
 refine RS ?_
 iterate 4 refine S0 ?_
 refine RE ?_
 refine aC fun K hK => ?_
 refine AU ?_
 refine SC (sJ p hp) ?_
 refine AU ?_
 refine aH (b := !fV p) rfl (fun hb => ?_) (fun hb => ?_)
 ·
  refine R0 ?_
  refine aF (RT Tryz.results39 ?_)
  exact aG [] (.int .i64 (-1)) rfl (by rw [bK1 (by simpa using hb)])
 refine aJ ?_
 refine T0 (hK _ _ _ ?_)
 clear hK K
 have hv : fV p = true := by simpa using hb
 clear hb
 refine yC 4 4 rfl rfl ?_
 refine yC 5 8 rfl rfl ?_
 refine aC fun K hK => Rg ?_
 have F := aI @bP8 @upd_at
 refine AU ?_
 refine HS rfl rfl fun K' hK' => T6 ?_
 refine aN5 (bV9 p.r 71 [.rp (.str ns), .rp (.str im)] (zA ns im) hp.r fun r _ => bV8 ns im r) (by simp [HV.menL, HV.men]) (fun m => by simp [HV.renL, HV.ren]) ⟨rfl, rfl, rfl, rfl⟩ ?_
 rintro u rfl
 refine AX (hK' _ _ ?_)
 clear hK' K'
 refine SF ?_
 refine T2 (hK _ _ _ ?_)
 clear hK K
 refine aF (RT Tryz.results39 ?_)
 exact aG [] (.int .i64 (bC9 p.r (zA ns im))) rfl (by rw [bK0, if_pos hv]; rfl)

end Go.Proofs.YtlldglbooaefhaaGreatDoor

namespace Go.Proofs.YtlldglbooaefhaaGreatDoor
open Go Go.Hl Go.Pl
set_option maxRecDepth 10000
set_option maxHeartbeats 16000000

theorem aD2 (n : Int) : bN Tryz.prog 49 [.int .i64 n] (fun v => v = (aJ4 n).cv) := by
 refine FW Tryz.func49 ?_
 refine AU ?_
 refine aF (RT Tryz.results49 ?_)
 exact aG [] (aJ4 n).cv rfl rfl


theorem bO6 : PoSz awP := ⟨by decide, by decide, by decide, by decide⟩
theorem bO7 : ∀ n ∈ awT, n.q.t.length < 2 ^ 63 := by decide
theorem bO8 : xG awP = 0 := by decide +kernel
theorem cA7 : (rZ awP).length < 2 ^ 40 := by decide +kernel
theorem bO9 : mX Tryz.prog 22 tabs [] (fun v => v = .bool true) := by
 refine bT (args := []) Tryz.func22 rfl (by kernel_rfl) (eW tabs []) (Nat.le_of_ble_eq_true rfl) ?_
 unfold eD
 obtain ⟨aw1, aw2, aw3⟩ := bA6 bO8
 refine R0 ?_
 refine aC fun K hK => bB (by kernel_rfl) ?_
 simp only [sR, simprocAttr]
 refine SG0 ?_
 refine bI (g := none) rfl rfl fun K' hK' => T5 ?_
 refine C1 (aD2 1) ?_
 rintro u rfl
 refine AX (hK' _ _ ?_)
 clear hK' K'
 refine bI (g := none) rfl rfl fun K' hK' => T5 ?_
 refine C1 (aD2 2) ?_
 rintro u rfl
 refine AX (hK' _ _ ?_)
 clear hK' K'
 refine bI (g := none) rfl rfl fun K' hK' => T5 ?_
 refine C1 (aD2 3) ?_
 rintro u rfl
 refine AX (hK' _ _ ?_)
 clear hK' K'
 refine cV (g := none) 21 rfl rfl fun K' hK' => ?_
 simp only [iA, kY, sH, ↓sP, sA, tyS, simprocAttr]
 repeat refine AI ?_
 refine dJ (by first | rfl | simp) ?_
 try simp only [sH, ↓sP, sA, tyS, simprocAttr]
 refine AX (hK' _ _ ?_)
 clear hK' K'
 refine SG0 ?_
 refine T2 (hK _ _ _ ?_)
 clear hK K
 refine aC fun K hK => bB (by kernel_rfl) ?_
 simp only [sR, simprocAttr]
 iterate 2 refine SG0 ?_
 refine cV (g := none) 37 rfl rfl fun K' hK' => ?_
 simp only [iA, kY, sH, ↓sP, sA, tyS, simprocAttr]
 repeat refine AI ?_
 refine dJ (by first | rfl | simp) ?_
 try simp only [sH, ↓sP, sA, tyS, simprocAttr]
 refine AX (hK' _ _ ?_)
 clear hK' K'
 iterate 3 refine SG0 ?_
 refine T2 (hK _ _ _ ?_)
 clear hK K
 refine aC fun K hK => Rg ?_
 refine S0 ?_
 refine HS rfl rfl fun K' hK' => T5 ?_
 refine tE (args := [_]) 0 (aV8 awP bO6) rfl (by simp) ⟨rfl, rfl, rfl, rfl⟩ ?_
 rintro u v ⟨rfl, rfl⟩
 rw [bO8]
 refine AX (hK' _ _ ?_)
 clear hK' K'
 refine AU ?_
 refine T2 (hK _ _ _ ?_)
 clear hK K
 refine aC fun K hK => Rg ?_
 have F := @dU
 refine SF ?_
 refine HS rfl rfl fun K' hK' => T6 ?_
 refine aL7 (args := [_]) 0 (bV6 (rZ awP) cA7) rfl (by simp) ⟨rfl, rfl, rfl, rfl⟩ ?_
 rintro u v x ⟨rfl, rfl, rfl⟩
 rw [aw1, aw2, aw3]
 refine AX (hK' _ _ ?_)
 clear hK' K'
 refine AU ?_
 refine T2 (hK _ _ _ ?_)
 clear hK K
 refine aC fun K hK => bB (by kernel_rfl) ?_
 simp only [sR, simprocAttr]
 have F := aI @List.length_map.{0,0} (aI @lC (aI @qL (show awP.r.length = 1 from rfl)))
 refine SGF ?_
 refine bI (g := none) rfl rfl fun K' hK' => T6 ?_
 refine C1 (qT awT bO7) ?_
 rintro u rfl
 rw [bZ3]
 refine AX (hK' _ _ ?_)
 clear hK' K'
 iterate 2 refine SGF ?_
 refine bI (g := some (30, true)) rfl rfl fun K' hK' => T6 ?_
 refine C1 (sJ awP bO6) ?_
 rintro u rfl
 rw [bZ4]
 refine AX (hK' _ _ ?_)
 clear hK' K'
 iterate 17 refine SGF ?_
 refine cV (g := some (48, true)) 209 rfl rfl fun K' hK' => ?_
 simp only [iA, kY, sH, ↓sP, sA, tyS, simprocAttr, List.length_map, lC, qL, (show awP.r.length = 1 from rfl)]
 repeat refine AI ?_
 refine dJ (by first | rfl | simp) ?_
 try simp only [sH, ↓sP, sA, tyS, simprocAttr, List.length_map, lC, qL, (show awP.r.length = 1 from rfl)]
 refine AX (hK' _ _ ?_)
 clear hK' K'
 refine bI (g := some (48, true)) rfl rfl fun K' hK' => T6 ?_
 refine C2 (aD1 awT bO7 [true, false, true] (by decide)) ?_
 rintro u rfl
 rw [bK2]
 refine AX (hK' _ _ ?_)
 clear hK' K'
 iterate 3 refine SGF ?_
 refine cV (g := some (53, true)) 229 rfl rfl fun K' hK' => ?_
 simp only [iA, kY, sH, ↓sP, sA, tyS, simprocAttr, List.length_map, lC, qL, (show awP.r.length = 1 from rfl)]
 repeat refine AI ?_
 refine dJ (by first | rfl | simp) ?_
 try simp only [sH, ↓sP, sA, tyS, simprocAttr, List.length_map, lC, qL, (show awP.r.length = 1 from rfl)]
 refine AX (hK' _ _ ?_)
 clear hK' K'
 refine bI (g := some (53, true)) rfl rfl fun K' hK' => T6 ?_
 refine C2 (aD1 awT bO7 [true] (by decide)) ?_
 rintro u rfl
 rw [bK3]
 refine AX (hK' _ _ ?_)
 clear hK' K'
 iterate 4 refine SGF ?_
 refine bI (g := some (59, true)) rfl rfl fun K' hK' => T6 ?_
 refine C3 (bW0 awP bO6 [112, 114, 111, 100, 47, 101, 117] [119, 101, 98]) ?_
 rintro u rfl
 rw [bZ5]
 refine AX (hK' _ _ ?_)
 clear hK' K'
 iterate 4 refine SGF ?_
 refine bI (g := some (64, true)) rfl rfl fun K' hK' => T6 ?_
 refine C1 (sF awT bO7) ?_
 rintro u rfl
 refine AX (hK' _ _ ?_)
 clear hK' K'
 iterate 5 refine SGF ?_
 refine bI (g := some (70, true)) rfl rfl fun K' hK' => T6 ?_
 refine C2 (tL awT bO7 0) ?_
 rintro u rfl
 refine AX (hK' _ _ ?_)
 clear hK' K'
 iterate 4 refine SGF ?_
 refine T2 (hK _ _ _ ?_)
 clear hK K
 refine aF (RT Tryz.results22 ?_)
 exact dO [] (.bool true) rfl rfl (by simp) rfl

end Go.Proofs.YtlldglbooaefhaaGreatDoor

namespace Go.Proofs.YtlldglbooaefhaaGreatDoor
open Go Go.Hl Go.Pl
set_option maxRecDepth 10000
set_option maxHeartbeats 16000000

theorem aR3 (l : List Nd) (i : Int) (h : l.length < 2 ^ 40) : (lT l i).length < 2 ^ 40 := by
 by_cases hc : cP l = true ∧ 0 ≤ i ∧ i < l.length
 ·
  obtain ⟨h1, h2, h3⟩ := hc
  obtain ⟨j, rfl⟩ : ∃ j : Nat, i = j := ⟨i.toNat, by omega⟩
  have hj : j < l.length := by omega
  rw [sD h1 hj, oC]
  have := (cI ((fH h1).node _ (List.getElem_mem hj))).2.1
  omega
 unfold lT; rw [if_neg hc]; simp
theorem aL9 (l : List Nd) (h : l.length < 2 ^ 40) : (gJ l).length < 2 ^ 40 := by
 cases hc : cP l with
 | false => rw [kI hc]; simp
 | true =>
  rw [jN hc, gR]
  have := (fH hc).lv
  omega

theorem bP0 (l : List Nd) (hl : ShN l) (L : List Int) (i : Int) (tr : List Bool) (htr : tr.length < 2 ^ 63) : mX Tryz.prog 3 tabs [.slc (l.map Nd.cv), .slc (L.map (.int .i64)), .int .i64 i, .slc (tr.map bC)] (fun v => v = .bool true) := by
 refine bT (args := [.c (.slc (l.map Nd.cv)), .c (.slc (L.map (.int .i64))), .c (.int .i64 i), .c (.slc (tr.map bC))]) Tryz.func3 rfl (by kernel_rfl) (eW tabs [.slc (l.map Nd.cv), .slc (L.map (.int .i64)), .int .i64 i, .slc (tr.map bC)]) (Nat.le_of_ble_eq_true rfl) ?_
 unfold eD
 refine R0 ?_
 refine RS ?_
 have F := aI @denilL_Nd @denilL_int
 refine AU ?_
 refine SRF (bZ7 l hl L) ?_
 rintro u ⟨T, rfl, hT70, hT⟩
 refine AU ?_
 have hbt : CV.denilL (tr.map bC) = tr.map bC := bU (fun _ => rfl) tr
 have hbi : ∀ l : List Nat, CV.denilL (l.map iC) = l.map iC := bU fun _ => rfl
 refine aC fun K hK => Rg ?_
 have F := aI @denilL_Nd (aI hbt (aI hbi @beq_self_eq_true.{0}))
 refine SF ?_
 refine SCF (qT T hT) ?_
 refine SF ?_
 refine SCF (qU T hT) ?_
 refine AU ?_
 refine SCF (tL T hT i) ?_
 refine AU ?_
 refine SCF (aC1 T hT i) ?_
 refine bV (g := some (18, true)) rfl rfl fun K' hK' => T6 ?_
 refine C2 (aK5 _ _ (aR3 T i (by omega))) ?_
 rintro u rfl
 rw [beq_self_eq_true]
 refine AX (hK' _ _ ?_)
 clear hK' K'
 refine AU ?_
 refine SCF (sF T hT) ?_
 refine SF ?_
 refine SCF (aQ3 T hT (by omega)) ?_
 refine bV (g := some (27, true)) rfl rfl fun K' hK' => T6 ?_
 refine C2 (aK5 _ _ (aL9 T (by omega))) ?_
 rintro u rfl
 rw [beq_self_eq_true]
 refine AX (hK' _ _ ?_)
 clear hK' K'
 refine AU ?_
 refine SCF (aD1 T hT tr htr) ?_
 refine AU ?_
 refine SCF (bM0 T hT tr htr) ?_
 refine AU ?_
 refine bV (g := some (43, true)) rfl rfl fun K' hK' => T6 ?_
 refine eP (args := []) 0 bO9 rfl (by simp) ⟨rfl, rfl, rfl, rfl⟩ ?_
 rintro u rfl
 refine AX (hK' _ _ ?_)
 clear hK' K'
 refine AU ?_
 refine T2 (hK _ _ _ ?_)
 clear hK K
 refine aF (RT Tryz.results3 ?_)
 exact dO [] (.bool true) rfl rfl (by simp) rfl

end Go.Proofs.YtlldglbooaefhaaGreatDoor
