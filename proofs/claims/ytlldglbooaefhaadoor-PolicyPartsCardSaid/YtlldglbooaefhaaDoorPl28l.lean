/- Plain Lean: the rows that Eval makes (28.6). By an AI agent. -/
import Derived.Test.YtlldglbooaefhaaDoorHvV1
import Derived.Test.YtlldglbooaefhaaDoorPl28p
import Derived.Test.YtlldglbooaefhaaDoorHlCl
import Derived.Test.YtlldglbooaefhaaDoorHvTd
import Derived.Test.YtlldglbooaefhaaDoorPl03e
import Derived.Test.YtlldglbooaefhaaDoorHlTlaw
import Derived.Test.YtlldglbooaefhaaDoorHvTo
import Derived.Test.YtlldglbooaefhaaDoorHvV3
import Derived.Test.YtlldglbooaefhaaDoorHlIt
set_option linter.unusedSimpArgs false
set_option linter.unusedVariables false
set_option linter.defProp false
namespace Go.Proofs.YtlldglbooaefhaaDoor
open Go Go.Hl Go.Pl
set_option maxRecDepth 10000
set_option maxHeartbeats 16000000

theorem cE6 (L : List (List aE)) : lst [.tab tabs, .row 52 1 (L.map lsC)] = fob [(0, .tab tabs), (1, .row 52 1 (L.map lsC))] := by
 funext i
 match i with
 | 0 => rfl
 | 1 => rfl
 | i + 2 => simp [lst, fob, upd]
theorem aP9 (n : Nat) (ob : Ob) (e : TypeId) (sz : Nat) (T : kN) (L : List CV) : jJ (sub [0, 1] n) ob 0 [.tab T, .row e sz L] = upd (upd ob 0 (some (.tab T))) 1 (some (.row e sz L)) := rfl
theorem vZ {ob : Ob} {L : List CV} {M : List (List aE)} {m : Nat} {a : Nat} (h0 : ob 0 = some (.tab tabs)) (h1 : ob 1 = some (.row 52 1 L)) (hm : m = M.length) (hL : L = M.map lsC) :
  lM 2 (.tup [.own 1 m, .c (.int .i64 a)]) ob (fun r ob' => ∃ os', ob' = lst os' ∧ (2 ≤ os'.length ∧ os'.length ≤ 2 + 4) ∧ r = .tup [.own 1 M.length, .c (.int .i64 a)] ∧ os' = [.tab tabs, .row 52 1 (M.map lsC)]) := by
 subst hm hL
 exact dX [] [] (.tup [.own 1 M.length, .c (.int .i64 a)]) [.tab tabs, .row 52 1 (M.map lsC)] rfl (by simp [HV.men, HV.menL]) ⟨⟨by simp [HO.men], by simp, _, h0, rfl⟩, ⟨by simp [HO.men], by simp, _, h1, rfl⟩, trivial⟩ rfl List.nodup_nil (by simp) (by simp) ⟨rfl, rfl⟩

theorem bM5 (l : List Nd) (ht : IsTree l) (m : Nat) : ∀ (L : List (List aE)) (i : Nat) (hi : i < l.length), l.length - i ≤ m → 0 < L.length → L.length + 2 * (l.length - i) < 2 ^ 40 →
  HGe Tryd.prog 20 [.own 1 L.length, .c (.slc (l.map Nd.cv)), .c (.int .i64 i)] [.tab tabs, .row 52 1 (L.map lsC)] (fun r os' => r = .tup [.own 1 (L ++ jD l i).length, .c (.int .i64 (aft l i : Nat))] ∧ os' = [.tab tabs, .row 52 1 ((L ++ jD l i).map lsC)]) := by
 induction m using Nat.strongRecOn with
 | ind m ih => ?_
 intro L i hi hfu hL0 hLl
 refine bP (args := [.own 1 L.length, .c (.slc (l.map Nd.cv)), .c (.int .i64 i)]) Tryd.func20 rfl (by kernel_rfl) (fE rfl (by simp [eE, HO.men, HV.men, HV.menL]) (by simp [HV.menL, HV.men])) (Nat.le_of_ble_eq_true rfl) ?_
 show Hw _ _ 2 _ _ _ (lst _) 2
 rw [cE6]
 have hnode := ht.node _ (List.getElem_mem hi)
 obtain ⟨c1, c2, c3, c4⟩ := cU hnode
 have hll := ht.len
 have hwi : IntKind.i64.wrap ((i : Int) + 1) = ((i + 1 : Nat) : Int) := IntWalk.i64_in _ (by omega)
 obtain ⟨a1, a2, a3⟩ := gC ht hi
 refine R0 ?_
 refine aC fun K hK => Rg ?_
 have F := aI @Int.natCast_nonneg (aI @Int.ofNat_lt (aI hi (nM hi)))
 iterate 6 refine SF ?_
 refine T2 (hK _ _ _ ?_)
 clear hK K
 have F := hwi
 refine RF ?_
 refine aC fun K hK => ?_
 have key : ∀ fr ob nx, l[i].k ≠ 1 → Fits 2 fr ob (fin [(0, .own 1 (L.length + 1)), (1, .c (.slc (l.map Nd.cv))), (2, .c (.int .i64 ((i + 1 : Nat) : Int))), (8, .ptr 26 0)]) (fob [(0, .tab tabs), (1, .row 52 1 ((L ++ [wlN l[i]]).map lsC)), (26, .box 48 (.c l[i].cv))]) 300 → K fr ob nx := by
  rintro fr ob nx hk1 hf
  refine hK _ _ _ (bU hf ?_)
  clear hf hK K
  refine aC fun K hK => ?_
  refine R0 ?_
  refine aK ?_
  refine bO (α := {k : Nat // k ≤ l[i].c.toNat}) (fun k => (fin [(0, .own 1 (L.length + 1 + (dU l i k.1).length)), (1, .c (.slc (l.map Nd.cv))), (2, .c (.int .i64 (bW l k.1 (i + 1) : Nat))), (48, .c (.int .i64 l[i].c)), (49, .c (.int .i64 k.1))], fob [(0, .tab tabs), (1, .row 52 1 ((L ++ wlN l[i] :: dU l i k.1).map lsC))])) 2000 (fun k => l[i].c.toNat - k.1) ⟨0, by omega⟩ (aN (by omega) (by simp [bB, fin_at, finA_at, upd_at, HV.men, HV.menL, HV.norm, HV.toC, HV.toCL, lJ, bW]) (by simp [bA, fob_at, upd_at, none0_at, cB, HO.men, HV.men, HV.menL, HV.norm, HV.toC, HV.toCL, lJ, bW])) ?_
  rintro ⟨k, hk⟩
  obtain ⟨k1, k2, k3⟩ := gM ht hi k hk
  have hkl := aK3 ht hi hk hk1
  refine R0 ?_
  refine aC fun K hK => ?_
  refine aG (b := decide ((k : Int) < l[i].c)) rfl (fun hb => ?_) (fun hb => ?_)
  ·
   have hlt : k < l[i].c.toNat := by simp at hb; omega
   have hkid := gU ht hi hlt
   clear hb
   obtain ⟨M, hM⟩ : ∃ M, M = L ++ wlN l[i] :: dU l i k := ⟨_, rfl⟩
   have hMl : L.length + 1 + (dU l i k).length = M.length := by rw [hM]; simp; omega
   rw [← hM, hMl]
   refine aJ ?_
   refine T0 (hK _ _ _ ?_)
   clear hK K
   refine aC fun K hK => ?_
   refine aK ?_
   refine Rg ?_
   iterate 3 refine S0 ?_
   refine HS rfl rfl fun K' hK' => T5 ?_
   refine fZ [0, 1] (ih (l.length - bW l k (i + 1)) (by omega) M (bW l k (i + 1)) hkid (by omega) (by omega) (by omega)) rfl ⟨rfl, rfl, trivial⟩ (by simp) (by simp) ⟨rfl, rfl, rfl, rfl⟩ (by simp [eE, HO.men, HV.men, HV.menL]) (by simp [HV.menL, HV.men]) ?_
   rintro r os' ⟨rfl, rfl⟩
   rw [aP9, aK1]
   refine AX (hK' _ _ ?_)
   clear hK' K'
   iterate 5 refine S0 ?_
   refine T2 (hK _ _ _ ?_)
   clear hK K
   refine aL (by kernel_rfl) ?_
   refine TQ (IntWalk.i64_in ((k : Int) + 1) (by omega)) ?_
   refine ⟨⟨k + 1, hlt⟩, ?_, ?_⟩
   ·
    have e1 : M ++ jD l (bW l k (i + 1)) = L ++ wlN l[i] :: dU l i (k + 1) := by rw [hM, qC ht hi hlt]; simp
    have e2 : (M ++ jD l (bW l k (i + 1))).length = L.length + 1 + (dU l i (k + 1)).length := by rw [e1]; simp; omega
    simp only []
    rw [← e1, ← e2, dV]
    exact fF
   show l[i].c.toNat - (k + 1) < l[i].c.toNat - k
   omega
  refine bD (T3 ?_)
  clear hK K
  refine AX (hK _ _ _ ?_)
  clear hK K
  have hke : k = l[i].c.toNat := by simp at hb; omega
  subst hke
  rw [qI ht hi] at hkl k3
  clear hb
  refine aC fun K hK => bE (by kernel_rfl) ?_
  simp only [sR, simprocAttr]
  have F := aI @kU @kT
  refine SGF ?_
  refine cV (g := none) 2008 rfl rfl fun K' hK' => ?_
  simp only [gS, kK, sH, ↓sP, sA, tyS, simprocAttr, kU, kT]
  repeat refine AI ?_
  refine dJ (by first | rfl | simp) ?_
  try simp only [sH, ↓sP, sA, tyS, simprocAttr, kU, kT]
  refine AX (hK' _ _ ?_)
  clear hK' K'
  iterate 5 refine SGF ?_
  refine T2 (hK _ _ _ ?_)
  clear hK K
  refine aF (RT Tryd.results20 ?_)
  rw [sS ht hi hk1, qI ht hi]
  exact vZ (M := L ++ wlN l[i] :: (dU l i l[i].c.toNat ++ [[wEnd]])) rfl rfl (by simp) (by simp [lsC, wEnd])
 refine R0 ?_
 refine aK ?_
 refine R0 ?_
 refine aG (b := (l[i].k == 1)) rfl (fun hb => ?_) (fun hb => ?_)
 ·
  have hk : l[i].k = 1 := by simpa using hb
  obtain ⟨⟨r1, r2⟩, r3, r4⟩ := bM3 (bU1 hnode hk)
  clear hb
  refine aC fun K hK => Rg ?_
  have F := aI @kU @kT
  iterate 3 refine SF ?_
  refine HS rfl rfl fun K' hK' => T6 ?_
  refine cZ (args := [_]) 0 (bM2 l[i].q ⟨by omega, by omega⟩ ⟨by omega, by omega⟩) rfl (by simp) ⟨rfl, rfl, rfl, rfl⟩ ?_
  rintro u rfl
  refine AX (hK' _ _ ?_)
  clear hK' K'
  iterate 5 refine SF ?_
  refine T2 (hK _ _ _ ?_)
  clear hK K
  refine aF (RT Tryd.results20 ?_)
  rw [vQ hi hk, aK2 ht hi hk]
  exact vZ (M := L ++ [wlR l[i].q]) rfl rfl (by simp) (by simp)
 have hk1 : l[i].k ≠ 1 := by simpa using hb
 clear hb
 refine R0 ?_
 refine aG (b := (l[i].k == 2)) rfl (fun hb => ?_) (fun hb => ?_)
 ·
  have hk : l[i].k = 2 := by simpa using hb
  have hwl : wlN l[i] = [oT] := by simp [wlN, hk]
  clear hb
  refine bE (by kernel_rfl) ?_
  simp only [sR, simprocAttr]
  refine SG0 ?_
  refine cV (g := none) 74 rfl rfl fun K' hK' => ?_
  simp only [gS, kK, sH, ↓sP, sA, tyS, simprocAttr]
  repeat refine AI ?_
  refine dJ (by first | rfl | simp) ?_
  try simp only [sH, ↓sP, sA, tyS, simprocAttr]
  refine AX (hK' _ _ ?_)
  clear hK' K'
  iterate 3 refine SG0 ?_
  refine T4 ?_
  exact key _ _ _ hk1 (by rw [hwl]; exact aN (by omega) (by simp [bB, fin_at, finA_at, upd_at, HV.men, HV.menL, HV.norm, HV.toC, HV.toCL, lsC, oT, oU, dB]) (by simp [bA, fob_at, upd_at, none0_at, cB, HO.men, HV.men, HV.menL, HV.norm, HV.toC, HV.toCL, lsC, oT, oU, dB]))
 have hk2 : l[i].k ≠ 2 := by simpa using hb
 clear hb
 refine R0 ?_
 refine aG (b := (l[i].k == 3)) rfl (fun hb => ?_) (fun hb => ?_)
 ·
  have hk : l[i].k = 3 := by simpa using hb
  have hwl : wlN l[i] = [oU] := by simp [wlN, hk]
  clear hb
  refine bE (by kernel_rfl) ?_
  simp only [sR, simprocAttr]
  refine SG0 ?_
  refine cV (g := none) 82 rfl rfl fun K' hK' => ?_
  simp only [gS, kK, sH, ↓sP, sA, tyS, simprocAttr]
  repeat refine AI ?_
  refine dJ (by first | rfl | simp) ?_
  try simp only [sH, ↓sP, sA, tyS, simprocAttr]
  refine AX (hK' _ _ ?_)
  clear hK' K'
  iterate 3 refine SG0 ?_
  refine T4 ?_
  exact key _ _ _ hk1 (by rw [hwl]; exact aN (by omega) (by simp [bB, fin_at, finA_at, upd_at, HV.men, HV.menL, HV.norm, HV.toC, HV.toCL, lsC, oT, oU, dB]) (by simp [bA, fob_at, upd_at, none0_at, cB, HO.men, HV.men, HV.menL, HV.norm, HV.toC, HV.toCL, lsC, oT, oU, dB]))
 have hk3 : l[i].k ≠ 3 := by simpa using hb
 have hk4 := aU4 hnode hk1 hk2 hk3
 clear hb
 refine R0 ?_
 refine aG (b := (l[i].k == 4)) rfl (fun hb => ?_) (fun hb => ?_)
 ·
  have hwl : wlN l[i] = [dB, numW l[i].n] := by simp [wlN, hk2, hk3]
  have hnn := bU2 hnode hk4
  clear hb
  refine bE (by kernel_rfl) ?_
  simp only [sR, simprocAttr]
  iterate 3 refine SG0 ?_
  refine bJ (g := none) rfl rfl fun K' hK' => T5 ?_
  refine cZ (args := [_]) 0 (vY l[i].n ⟨by omega, by omega⟩) rfl (by simp) ⟨rfl, rfl, rfl, rfl⟩ ?_
  rintro u rfl
  refine AX (hK' _ _ ?_)
  clear hK' K'
  refine cV (g := none) 102 rfl rfl fun K' hK' => ?_
  simp only [gS, kK, sH, ↓sP, sA, tyS, simprocAttr]
  repeat refine AI ?_
  refine dJ (by first | rfl | simp) ?_
  try simp only [sH, ↓sP, sA, tyS, simprocAttr]
  refine AX (hK' _ _ ?_)
  clear hK' K'
  iterate 3 refine SG0 ?_
  refine T4 ?_
  exact key _ _ _ hk1 (by rw [hwl]; exact aN (by omega) (by simp [bB, fin_at, finA_at, upd_at, HV.men, HV.menL, HV.norm, HV.toC, HV.toCL, lsC, oT, oU, dB]) (by simp [bA, fob_at, upd_at, none0_at, cB, HO.men, HV.men, HV.menL, HV.norm, HV.toC, HV.toCL, lsC, oT, oU, dB]))
 rw [hk4] at hb
 cases hb

end Go.Proofs.YtlldglbooaefhaaDoor

namespace Go.Pl
open Go Go.Hl

theorem yY : ∀ (l : List Pr) (i : Nat), fQ l = true → fQ (l.take i) = true
 | [], i, h => by grind
 | r :: l, 0, h => rfl
 | r :: l, i + 1, h => by
  simp only [fQ, Bool.and_eq_true, Bool.not_eq_true'] at h
  simp only [List.take_succ_cons, fQ, Bool.and_eq_true, Bool.not_eq_true']
  refine ⟨?_, yY l i h.2⟩
  grind
def bB3 (l : List Pr) (r : Pr) : Bool := (l.map Pr.a).contains r.a || (!eC r.a || (!(gL r.b).isSome || (!(gL r.c).isSome || (!inB r.g 0 aF2 || !dH r.t))))
structure RlSt (l : List Pr) (i : Nat) : Prop where
 le : i ≤ l.length
 all : (l.take i).all iG = true
 apart : fQ (l.take i) = true
theorem RlSt.zero (l : List Pr) : RlSt l 0 := ⟨by omega, by simp, by simp [fQ]⟩
theorem aU5 (l : List Pr) (r : Pr) : bB3 l r = !(!(l.map Pr.a).contains r.a && iG r) := by simp_all [bB3, iG, Pr.a, eC, gL, inB, aF2, dH]
theorem RlSt.succ {l : List Pr} {i : Nat} (h : RlSt l i) (hi : i < l.length) (hb : bB3 (l.take i) l[i] = false) : RlSt l (i + 1) := by
 rw [aU5] at hb
 simp only [Bool.not_eq_false', Bool.and_eq_true] at hb
 refine ⟨hi, ?_, ?_⟩
 ·
  rw [List.take_succ_eq_append_getElem hi, List.all_append, h.all, List.all_cons, hb.2]; rfl
 ·
  rw [List.take_succ_eq_append_getElem hi, mX, h.apart, hb.1]; rfl
theorem bU3 {l : List Pr} {i : Nat} (hi : i < l.length) (hb : bB3 (l.take i) l[i] = true) : (l.all iG && fQ l) = false := by
 rw [Bool.eq_false_iff]
 intro h
 simp only [Bool.and_eq_true] at h
 have h1 := yY l (i + 1) h.2
 rw [List.take_succ_eq_append_getElem hi, mX] at h1
 simp_all [Bool.and_eq_true, List.all_eq_true, List.getElem_mem, aU5]
theorem bU4 {p : Po} (h : (p.r.all iG && fQ p.r) = false) : eX p = false := by
 simp only [eX, h, Bool.and_false]
def nmD (l : List Pr) : MD := l.foldl (fun D r => jG D r.a (.val (.bool true))) []
theorem bM6 (l : List Pr) (r : Pr) : nmD (l ++ [r]) = jG (nmD l) r.a (.val (.bool true)) := by simp [nmD, List.foldl_append]
theorem cE7 (D : MD) (k j : aE) (h : k ≠ j) (m : MV) : cD (jG D k m) j = cD D j := by
 induction D with
 | nil => simp [jG, cD, h]
 | cons x D ih =>
  grind [jG, cD]
theorem bM7 (s : aE) : ∀ (l : List Pr) (D : MD), cD (l.foldl (fun D r => jG D r.a (.val (.bool true))) D) s = if (l.map Pr.a).contains s then some (.val (.bool true)) else cD D s
 | [], D => rfl
 | r :: l, D => by
  rw [List.foldl_cons, bM7 s l, List.map_cons, List.contains_cons]
  by_cases h : r.a = s
  all_goals simp_all [cC, cE7, Ne.symm, Bool.false_or]
theorem aU6 (s : aE) (l : List Pr) : cD (nmD l) s = if (l.map Pr.a).contains s then some (.val (.bool true)) else none := bM7 s l []
def wU (p : Po) : Bool := !eC p.n || (!inB p.v 1 1099511627776 || decide ((16 : Int) < p.r.length))
def nF (c : Bool) (r : Pr) : Bool := c || (!eC r.a || (!(gL r.b).isSome || (!(gL r.c).isSome || (!inB r.g 0 1099511627776 || !dH r.t))))
theorem aK4 (l : List Pr) (r : Pr) : nF ((l.map Pr.a).contains r.a) r = bB3 l r := by simp only [nF, bB3, gD]
theorem bB4 {p : Po} (h : wU p = true) : eX p = false := by grind [wU, eX, gD, eC, inB, decide]
theorem bM8 {p : Po} (h : wU p = false) (h2 : RlSt p.r p.r.length) : eX p = true := by
 unfold wU at h
 rw [eX, gD]
 have h3 := h2.all
 have h4 := h2.apart
 grind
structure PoSz (p : Po) : Prop where
 n : p.n.length < 2 ^ 63
 r : p.r.length < 2 ^ 40
 a : ∀ r ∈ p.r, r.a.length < 2 ^ 63
 t : ∀ r ∈ p.r, ∀ n ∈ r.t, n.q.t.length < 2 ^ 63
end Go.Pl

namespace Go.Proofs.YtlldglbooaefhaaDoor
open Go Go.Hl Go.Pl
set_option maxRecDepth 10000
set_option maxHeartbeats 16000000

theorem rQ (p : Po) (hp : PoSz p) : cH Tryd.prog 18 [p.cv] (fun v => v = .bool (eX p)) := by
 have hpn := hp.n
 have hpr := hp.r
 refine FW Tryd.func18 ?_
 refine R0 ?_
 refine aC fun K hK => ?_
 refine aC fun K hK => ?_
 have key : ∀ (b : Bool) fr ob nx, b = wU p → Fits 0 fr ob (fin [(1, .ptr 0 0), (21, .c (.bool b))]) (fob [(0, .box 25 (.c p.cv))]) 600 → K fr ob nx := by
  rintro b fr ob nx rfl hf
  refine hK _ _ _ (bU hf ?_)
  clear hf hK K
  refine aG (b := wU p) rfl (fun hb => ?_) (fun hb => ?_)
  ·
   refine R0 ?_
   refine aF (RT Tryd.results18 ?_)
   exact aM [] (.bool false) rfl (by rw [bB4 hb])
  refine aJ ?_
  refine T0 (hK _ _ _ ?_)
  clear hK K
  refine R0 ?_
  refine aC fun K hK => ?_
  refine aC fun K hK => Rg ?_
  iterate 4 refine S0 ?_
  refine T2 (hK _ _ _ ?_)
  clear hK K
  refine aK ?_
  have hhead := hb
  clear hb
  refine bO (α := {i : Nat // RlSt p.r i}) (fun i => (fin [(3, .mapr 600), (24, .c (.slc (p.r.map Pr.cv))), (25, .c (.int .i64 p.r.length)), (26, .c (.int .i64 i.1))], fob [(600, .mp 0 0 (nmD (p.r.take i.1)))])) 2000 (fun i => p.r.length - i.1) ⟨0, RlSt.zero p.r⟩ (aN (by omega) (by simp [bB, fin_at, finA_at, upd_at, HV.men, HV.menL, HV.norm, HV.toC, HV.toCL, nmD]) (by simp [bA, fob_at, upd_at, none0_at, cB, HO.men, HV.men, HV.menL, HV.norm, HV.toC, HV.toCL, nmD])) ?_
  rintro ⟨i, hΦ⟩
  refine R0 ?_
  refine aC fun K hK => ?_
  refine aG (b := decide ((i : Int) < p.r.length)) rfl (fun hb => ?_) (fun hb => ?_)
  ·
   have hlt : i < p.r.length := by simpa using hb
   clear hb
   obtain ⟨r, hr⟩ : ∃ r, r = p.r[i] := ⟨_, rfl⟩
   have hmem : r ∈ p.r := by rw [hr]; exact List.getElem_mem hlt
   have hra := hp.a r hmem
   have hrt := hp.t r hmem
   have hra2 : r.a.length ≤ maxLen := by simp [maxLen]; omega
   have hiv : lW (cD (nmD (p.r.take i)) r.a) = true := by rw [aU6]; split <;> rfl
   have hva : Go.Hl.xB (CV.bool false) (cD (nmD (p.r.take i)) r.a) = CV.bool (((p.r.take i).map Pr.a).contains r.a) := by rw [aU6]; split <;> simp_all [Go.Hl.xB]
   refine aJ ?_
   refine T0 (hK _ _ _ ?_)
   clear hK K
   refine aC fun K hK => ?_
   refine aK ?_
   refine aC fun K hK => Rg ?_
   iterate 4 refine S0 ?_ (e := fun _ h_ => by simp only [sH, ↓sP, sA, tyS, simprocAttr, Int.natCast_nonneg, Int.ofNat_lt, hlt, aY hlt, ← hr]; exact AX h_)
   refine T2 (hK _ _ _ ?_)
   clear hK K
   refine aC fun K hK => ?_
   refine aC fun K hK => ?_
   have key : ∀ (b : Bool) fr ob nx, b = nF (((p.r.take i).map Pr.a).contains r.a) r → Fits 0 fr ob (fin [(3, .mapr 600), (24, .c (.slc (p.r.map Pr.cv))), (25, .c (.int .i64 p.r.length)), (26, .c (.int .i64 i)), (5, .ptr 2012 0), (63, .c (.bool b))]) (fob [(600, .mp 0 0 (nmD (p.r.take i))), (2012, .box 54 (.c r.cv))]) 3000 → K fr ob nx := by
    rintro b fr ob nx rfl hf
    refine hK _ _ _ (bU hf ?_)
    clear hf hK K
    refine aG (b := nF (((p.r.take i).map Pr.a).contains r.a) r) rfl (fun hb => ?_) (fun hb => ?_)
    ·
     refine R0 ?_
     refine aF (RT Tryd.results18 ?_)
     exact aM [] (.bool false) rfl (by rw [bU4 (bU3 hlt (by rw [← aK4, ← hr]; exact hb))])
    have hΦ2 := hΦ.succ hlt (by rw [← aK4, ← hr]; exact hb)
    have hnm : jG (nmD (p.r.take i)) r.a (.val (.bool true)) = nmD (p.r.take (i + 1)) := by rw [List.take_succ_eq_append_getElem hlt, bM6, hr]
    clear hb
    refine aJ ?_
    refine T0 (hK _ _ _ ?_)
    clear hK K
    refine Rg ?_
    have F := aI hra2 (aI hiv hnm)
    iterate 4 refine SF ?_
    refine T2 (hK _ _ _ ?_)
    clear hK K
    refine aL (by kernel_rfl) ?_
    refine TQ (IntWalk.i64_in ((i : Int) + 1) (by omega)) ?_
    refine ⟨⟨i + 1, hΦ2⟩, fF, ?_⟩
    show p.r.length - (i + 1) < p.r.length - i
    omega
   refine Rg ?_
   have F := aI hra2 (aI hiv hva)
   iterate 5 refine SF ?_
   refine aH 33 rfl (fun h7_33 => ?_) (fun h7_33 => ?_)
   ·
    have F := aI hra2 (aI hiv (aI hva h7_33))
    iterate 29 refine SF ?_
    refine T4 ?_
    exact key true _ _ _ (by simp only [nF, h7_33, Bool.not_true, Bool.not_false, Bool.true_or, Bool.false_or]) (fF)
   have F := aI hra2 (aI hiv (aI hva h7_33))
   iterate 2 refine SF ?_
   refine aW (g := some (34, false)) rfl rfl fun K' hK' => T6 ?_
   refine C1 (aA6 r.a (by omega)) ?_
   rintro u rfl
   refine AX (hK' _ _ ?_)
   clear hK' K'
   iterate 3 refine SF ?_
   refine aH 37 rfl (fun h7_37 => ?_) (fun h7_37 => ?_)
   ·
    have F := aI hra2 (aI hiv (aI hva (aI h7_33 h7_37)))
    iterate 2 refine SF ?_
    refine aW (g := some (40, false)) rfl rfl fun K' hK' => T6 ?_
    refine C1 (aT9 r.b) ?_
    rintro u rfl
    refine AX (hK' _ _ ?_)
    clear hK' K'
    iterate 3 refine SF ?_
    refine aH 43 rfl (fun h7_43 => ?_) (fun h7_43 => ?_)
    ·
     have F := aI hra2 (aI hiv (aI hva (aI h7_33 (aI h7_37 h7_43))))
     iterate 2 refine SF ?_
     refine aW (g := some (46, false)) rfl rfl fun K' hK' => T6 ?_
     refine C1 (aT9 r.c) ?_
     rintro u rfl
     refine AX (hK' _ _ ?_)
     clear hK' K'
     iterate 3 refine SF ?_
     refine aH 49 rfl (fun h7_49 => ?_) (fun h7_49 => ?_)
     ·
      have F := aI hra2 (aI hiv (aI hva (aI h7_33 (aI h7_37 (aI h7_43 h7_49)))))
      iterate 2 refine SF ?_
      refine aW (g := some (52, false)) rfl rfl fun K' hK' => T6 ?_
      refine C3 (gN _ _ _) ?_
      rintro u rfl
      refine AX (hK' _ _ ?_)
      clear hK' K'
      iterate 3 refine SF ?_
      refine aH 55 rfl (fun h7_55 => ?_) (fun h7_55 => ?_)
      ·
       have F := aI hra2 (aI hiv (aI hva (aI h7_33 (aI h7_37 (aI h7_43 (aI h7_49 h7_55))))))
       iterate 2 refine SF ?_
       refine aW (g := some (58, false)) rfl rfl fun K' hK' => T6 ?_
       refine C1 (tO r.t hrt) ?_
       rintro u rfl
       refine AX (hK' _ _ ?_)
       clear hK' K'
       iterate 2 refine SF ?_
       refine aH 61 rfl (fun h7_61 => ?_) (fun h7_61 => ?_)
       ·
        simp only [h7_61]
        refine T4 ?_
        exact key false _ _ _ (by simp only [nF, h7_33, h7_37, h7_43, h7_49, h7_55, h7_61, Bool.not_true, Bool.not_false, Bool.true_or, Bool.false_or]) (fF)
       simp only [h7_61]
       refine T4 ?_
       exact key true _ _ _ (by simp only [nF, h7_33, h7_37, h7_43, h7_49, h7_55, h7_61, Bool.not_true, Bool.not_false, Bool.true_or, Bool.false_or]) (fF)
      have F := aI hra2 (aI hiv (aI hva (aI h7_33 (aI h7_37 (aI h7_43 (aI h7_49 h7_55))))))
      iterate 5 refine SF ?_
      refine T4 ?_
      exact key true _ _ _ (by simp only [nF, h7_33, h7_37, h7_43, h7_49, h7_55, Bool.not_true, Bool.not_false, Bool.true_or, Bool.false_or]) (fF)
     have F := aI hra2 (aI hiv (aI hva (aI h7_33 (aI h7_37 (aI h7_43 h7_49)))))
     iterate 11 refine SF ?_
     refine T4 ?_
     exact key true _ _ _ (by simp only [nF, h7_33, h7_37, h7_43, h7_49, Bool.not_true, Bool.not_false, Bool.true_or, Bool.false_or]) (fF)
    have F := aI hra2 (aI hiv (aI hva (aI h7_33 (aI h7_37 h7_43))))
    iterate 17 refine SF ?_
    refine T4 ?_
    exact key true _ _ _ (by simp only [nF, h7_33, h7_37, h7_43, Bool.not_true, Bool.not_false, Bool.true_or, Bool.false_or]) (fF)
   have F := aI hra2 (aI hiv (aI hva (aI h7_33 h7_37)))
   iterate 23 refine SF ?_
   refine T4 ?_
   exact key true _ _ _ (by simp only [nF, h7_33, h7_37, Bool.not_true, Bool.not_false, Bool.true_or, Bool.false_or]) (fF)
  refine bD (T3 ?_)
  clear hK K
  refine AX (hK _ _ _ ?_)
  clear hK K
  refine R0 ?_
  refine aF (RT Tryd.results18 ?_)
  have hie : i = p.r.length := by have := hΦ.le; simp at hb; omega
  subst hie
  exact aM [] (.bool true) rfl (by rw [bM8 hhead hΦ])
 refine Rg ?_
 iterate 2 refine S0 ?_
 refine HS rfl rfl fun K' hK' => T5 ?_
 refine C1 (aA6 p.n (by omega)) ?_
 rintro u rfl
 refine AX (hK' _ _ ?_)
 clear hK' K'
 iterate 2 refine S0 ?_
 refine aH 8 rfl (fun h1_8 => ?_) (fun h1_8 => ?_)
 ·
  have F := h1_8
  iterate 2 refine SF ?_
  refine aW (g := some (10, false)) rfl rfl fun K' hK' => T6 ?_
  refine C3 (gN _ _ _) ?_
  rintro u rfl
  refine AX (hK' _ _ ?_)
  clear hK' K'
  iterate 3 refine SF ?_
  refine aH 13 rfl (fun h1_13 => ?_) (fun h1_13 => ?_)
  ·
   have F := aI h1_8 h1_13
   iterate 5 refine SF ?_
   refine aH 20 rfl (fun h1_20 => ?_) (fun h1_20 => ?_)
   ·
    simp only [h1_20]
    refine T4 ?_
    exact key true _ _ _ (by simp only [wU, h1_8, h1_13, h1_20, Bool.not_true, Bool.not_false, Bool.true_or, Bool.false_or]) (fF)
   simp only [h1_20]
   refine T4 ?_
   exact key false _ _ _ (by simp only [wU, h1_8, h1_13, h1_20, Bool.not_true, Bool.not_false, Bool.true_or, Bool.false_or]) (fF)
  have F := aI h1_8 h1_13
  iterate 5 refine SF ?_
  refine T4 ?_
  exact key true _ _ _ (by simp only [wU, h1_8, h1_13, Bool.not_true, Bool.not_false, Bool.true_or, Bool.false_or]) (fF)
 have F := h1_8
 iterate 11 refine SF ?_
 refine T4 ?_
 exact key true _ _ _ (by simp only [wU, h1_8, Bool.not_true, Bool.not_false, Bool.true_or, Bool.false_or]) (fF)

end Go.Proofs.YtlldglbooaefhaaDoor

namespace Go.Pl
open Go Go.Hl

theorem bU5 (q : Rq) : (wlR q).length ≤ 5 := by grind [wlR]
theorem bU6 (n : Nd) : (wlN n).length ≤ 5 := by grind [wlN]
theorem tP : ∀ (f m : Nat) (l : List Nd), ∀ x ∈ dN f m l, x.length ≤ 5
 | 0, m, l, x, h => by simp [dN] at h
 | f + 1, 0, l, x, h => by cases l <;> simp [dN] at h
 | f + 1, m + 1, [], x, h => by simp [dN] at h
 | f + 1, m + 1, n :: l, x, h => by
  simp only [dN] at h
  split at h
  ·
   rcases List.mem_cons.1 h with rfl | h
   ·
    exact bU5 _
   ·
    exact tP f _ _ x h
  ·
   rcases List.mem_cons.1 h with rfl | h
   ·
    exact bU6 _
   ·
    rcases List.mem_append.1 h with h | h
    ·
     exact tP f _ _ x h
    ·
     rcases List.mem_cons.1 h with rfl | h
     ·
      simp
     ·
      exact tP f _ _ x h
theorem wC (t : List Nd) : jD t 0 = aO9 t := by simp [jD, aO9]
def pC (p : Po) (i : Nat) : List (List aE) := [wPolicy, p.n, numW p.v] :: (p.r.take i).flatMap jC
theorem yZ {p : Po} {i : Nat} (hi : i < p.r.length) : pC p (i + 1) = pC p i ++ jC p.r[i] := by grind [pC, List.take_succ_eq_append_getElem]
theorem aK5 (p : Po) : pC p p.r.length = oV p := by simp [pC, oV]
theorem bB5 {r : Pr} (h : iG r = true) : (jC r).length ≤ 121 := by
 obtain ⟨_, ht, _⟩ := mZ h
 have h0 : 0 < r.t.length := ht.ne
 have h1 := bM4 ht h0
 have h2 := (gC ht h0).2.1
 have h3 := ht.len
 grind [wC, jC, List.length_cons]
theorem aK6 {p : Po} (h : ∀ r ∈ p.r, iG r = true) : ∀ i, i ≤ p.r.length → (pC p i).length ≤ 1 + 121 * i
 | 0, _ => by simp [pC]
 | i + 1, hi => by
  have := aK6 h i (by omega)
  grind [bB5, List.getElem_mem, yZ, List.length_append]
theorem bU7 (p : Po) : ∀ x ∈ oV p, x.length < 2 ^ 40 := by
 intro x hx
 have : x.length ≤ 5 := by
  simp only [oV] at hx
  rcases List.mem_cons.1 hx with rfl | hx
  ·
   simp
  ·
   obtain ⟨r, _, hx⟩ := List.mem_flatMap.1 hx
   simp only [jC] at hx
   rcases List.mem_cons.1 hx with rfl | hx
   ·
    simp
   ·
    exact tP _ _ _ x hx
 omega
end Go.Pl

namespace Go.Proofs.YtlldglbooaefhaaDoor
open Go Go.Hl Go.Pl
set_option maxRecDepth 10000
set_option maxHeartbeats 16000000

theorem bM9 (ls : List (List aE)) (h0 : ls.length < 2 ^ 40) (h1 : ∀ l ∈ ls, l.length < 2 ^ 40) : mL Tryd.prog 21 [.slc (ls.map lsC)] (fun u v => u = .slc ((pQ ls).map dY) ∧ v = .int .i64 (lD ls)) := bY5 ls h0 h1
theorem aQ0 (N n : Nat) (ob : Ob) (e : TypeId) (sz : Nat) (T : kN) (L : List CV) : jJ (sub [0, N] n) ob 0 [.tab T, .row e sz L] = upd (upd ob 0 (some (.tab T))) N (some (.row e sz L)) := rfl

theorem aU7 (p : Po) (hp : PoSz p) : aS4 Tryd.prog 8 tabs [p.cv] (fun u v => u = .slc ((rM p).map dY) ∧ v = .int .i64 (wQ p)) := by
 refine bP (args := [.c p.cv]) Tryd.func8 rfl (by kernel_rfl) (eW tabs [p.cv]) (Nat.le_of_ble_eq_true rfl) ?_
 unfold eF
 refine R0 ?_
 refine aC fun K hK => ?_
 refine aC fun K hK => Rg ?_
 refine S0 ?_
 refine HS rfl rfl fun K' hK' => T5 ?_
 refine C1 (rQ p hp) ?_
 rintro u rfl
 refine AX (hK' _ _ ?_)
 clear hK' K'
 refine S0 ?_
 refine T2 (hK _ _ _ ?_)
 clear hK K
 refine aG (b := !eX p) rfl (fun hb => ?_) (fun hb => ?_)
 ·
  refine R0 ?_
  refine aF (RT Tryd.results8 ?_)
  have hv : eX p = false := by simpa using hb
  refine sL [] (.slc []) (.int .i64 1) ?_ rfl (by simp) ⟨by rw [rM, hv]; rfl, by rw [wQ, hv]; rfl⟩
  simp [HV.close, HV.closeL, CV.denil, CV.denilL, HV.norm, HV.toC, HV.toCL]
 refine aJ ?_
 refine T0 (hK _ _ _ ?_)
 clear hK K
 have hv : eX p = true := by simpa using hb
 clear hb
 obtain ⟨⟨v1, v2⟩, hr16, _, hrules⟩ := aA9 hv
 refine aC fun K hK => eV mixed [(0, [], []), (1, [], []), (2, [], []), (3, [], []), (4, [], [0, 1]), (5, [], []), (6, [], []), (7, [], [])] [0, 1, 0, 4, 12, 31, 63, 127] (by kernel_rfl) (by kernel_rfl) (by kernel_rfl) (by kernel_rfl) rfl (by kernel_rfl) ?_
 iterate 4 refine WG0 ?_
 refine iL (g := none) rfl rfl fun K' hK' => T5 ?_
 refine cZ (args := [_]) 0 (vY p.v ⟨by omega, by omega⟩) rfl (by simp) ⟨rfl, rfl, rfl, rfl⟩ ?_
 rintro u rfl
 refine AX (hK' _ _ ?_)
 clear hK' K'
 refine oG (g := none) 45 rfl rfl fun K' hK' => ?_
 simp only [gS, kK, sH, ↓sP, sA, tyS, simprocAttr]
 repeat refine AI ?_
 refine dJ (by first | rfl | simp) ?_
 try simp only [sH, ↓sP, sA, tyS, simprocAttr]
 refine AX (hK' _ _ ?_)
 clear hK' K'
 iterate 2 refine WG0 ?_
 refine T2 (hK _ _ _ ?_)
 clear hK K
 refine aC fun K hK => ?_
 refine aC fun K hK => Rg ?_
 iterate 4 refine S0 ?_
 refine T2 (hK _ _ _ ?_)
 clear hK K
 refine aK ?_
 refine bO (α := {i : Nat // i ≤ p.r.length}) (fun i => (fin [(4, .own 49 (pC p i.1).length), (18, .c (.slc (p.r.map Pr.cv))), (19, .c (.int .i64 p.r.length)), (20, .c (.int .i64 i.1))], fob [(0, .tab tabs), (49, .row 52 1 ((pC p i.1).map lsC))])) 2000 (fun i => p.r.length - i.1) ⟨0, by omega⟩ (aN (by omega) (by simp [bB, fin_at, finA_at, upd_at, HV.men, HV.menL, HV.norm, HV.toC, HV.toCL, pC, lsC, wPolicy]) (by simp [bA, fob_at, upd_at, none0_at, cB, HO.men, HV.men, HV.menL, HV.norm, HV.toC, HV.toCL, pC, lsC, wPolicy])) ?_
 rintro ⟨i, hi⟩
 have hll := aK6 hrules i hi
 have hl0 : 0 < (pC p i).length := by simp [pC]
 refine R0 ?_
 refine aC fun K hK => ?_
 refine aG (b := decide ((i : Int) < p.r.length)) rfl (fun hb => ?_) (fun hb => ?_)
 ·
  have hlt : i < p.r.length := by simpa using hb
  clear hb
  obtain ⟨r, hr⟩ : ∃ r, r = p.r[i] := ⟨_, rfl⟩
  have hrule := hrules r (by rw [hr]; exact List.getElem_mem hlt)
  obtain ⟨⟨g1, g2⟩, ht, _⟩ := mZ hrule
  have ht0 : 0 < r.t.length := ht.ne
  have htl := ht.len
  obtain ⟨L, hL⟩ : ∃ L, L = pC p i := ⟨_, rfl⟩
  rw [← hL] at hll hl0 ⊢
  refine aJ ?_
  refine T0 (hK _ _ _ ?_)
  clear hK K
  refine aC fun K hK => ?_
  refine aK ?_
  refine aC fun K hK => Rg ?_
  iterate 4 refine S0 ?_ (e := fun _ h_ => by simp only [sH, ↓sP, sA, tyS, simprocAttr, Int.natCast_nonneg, Int.ofNat_lt, hlt, aY hlt, ← hr]; exact AX h_)
  refine T2 (hK _ _ _ ?_)
  clear hK K
  refine aC fun K hK => eV mixed [(0, [], []), (1, [], []), (2, [], []), (3, [], []), (4, [], []), (5, [], []), (6, [], []), (7, [], []), (8, [], []), (9, [], [0, 1, 2, 3, 4, 5, 6]), (10, [], []), (11, [], []), (12, [], []), (13, [], [])] [0, 0, 2, 0, 8, 0, 32, 0, 128, 384, 1022, 2046, 4095, 8191] (by kernel_rfl) (by kernel_rfl) (by kernel_rfl) (by kernel_rfl) rfl (by kernel_rfl) ?_
  iterate 9 refine WG0 ?_
  refine iL (g := none) rfl rfl fun K' hK' => T5 ?_
  refine cZ (args := [_]) 0 (vY r.g ⟨by omega, by omega⟩) rfl (by simp) ⟨rfl, rfl, rfl, rfl⟩ ?_
  rintro u rfl
  refine AX (hK' _ _ ?_)
  clear hK' K'
  refine oG (g := none) 2060 rfl rfl fun K' hK' => ?_
  simp only [gS, kK, sH, ↓sP, sA, tyS, simprocAttr]
  repeat refine AI ?_
  refine dJ (by first | rfl | simp) ?_
  try simp only [sH, ↓sP, sA, tyS, simprocAttr]
  refine AX (hK' _ _ ?_)
  clear hK' K'
  iterate 3 refine WG0 ?_
  refine T2 (hK _ _ _ ?_)
  clear hK K
  obtain ⟨M, hM⟩ : ∃ M, M = L ++ [[wRule, r.a, r.b, r.c, numW r.g]] := ⟨_, rfl⟩
  have hMm : List.map lsC L ++ [CV.slc [CV.str [114, 117, 108, 101], CV.str r.a, CV.str r.b, CV.str r.c, CV.str (numW r.g)]] = List.map lsC M := by rw [hM]; simp [lsC, wRule]
  have hMl : L.length + 1 = M.length := by rw [hM]; simp
  rw [hMm]
  simp only [List.length_map]
  refine Rg ?_
  iterate 3 refine S0 ?_
  refine HS rfl rfl fun K' hK' => T5 ?_
  refine fZ [0, 49] (bM5 r.t ht r.t.length M 0 ht0 (by omega) (by rw [hM]; simp) (by rw [hM]; simp; omega)) rfl ⟨rfl, rfl, trivial⟩ (by simp) (by simp) ⟨rfl, rfl, rfl, rfl⟩ (by simp [eE, HO.men, HV.men, HV.menL]) (by simp [HV.menL, HV.men]) ?_
  rintro q os' ⟨rfl, rfl⟩
  rw [aQ0, yW]
  refine AX (hK' _ _ ?_)
  clear hK' K'
  iterate 4 refine S0 ?_
  refine T2 (hK _ _ _ ?_)
  clear hK K
  refine aL (by kernel_rfl) ?_
  refine TQ (IntWalk.i64_in ((i : Int) + 1) (by omega)) ?_
  refine ⟨⟨i + 1, hlt⟩, ?_, ?_⟩
  ·
   have e1 : M ++ jD r.t 0 = pC p (i + 1) := by rw [yZ hlt, hM, hL, wC, ← hr]; simp [jC]
   rw [e1]
   exact fF
  show p.r.length - (i + 1) < p.r.length - i
  omega
 refine bD (T3 ?_)
 clear hK K
 refine AX (hK _ _ _ ?_)
 clear hK K
 have hei : i = p.r.length := by simp at hb; omega
 subst hei
 clear hb
 rw [aK5]
 refine fD [49] (bU (fr2 := fin [(4, .c (.slc ((oV p).map lsC)))]) (ob2 := fob [(0, .tab tabs)]) (nx2 := 3000) (aN (by omega) (by simp [bB, jY, fin_at, finA_at, upd_at, fob_at, HV.close, HV.closeL, CV.denil, CV.denilL, aQ, HV.men, HV.menL, HV.norm, HV.toC, HV.toCL]) (by simp [bA, jZ, fob_at, upd_at, none0_at, cB, HO.close, HV.close, HV.closeL, HO.men, HV.men, HV.menL, HV.norm, HV.toC, HV.toCL])) ?_)
 rw [aK5] at hll
 refine aC fun K hK => Rg ?_
 have F := @aQ
 refine SF ?_
 refine HS rfl rfl fun K' hK' => T6 ?_
 refine D1 (bM9 (oV p) (by omega) (bU7 p)) ?_
 rintro u v ⟨rfl, rfl⟩
 refine AX (hK' _ _ ?_)
 clear hK' K'
 iterate 4 refine SF ?_
 refine T2 (hK _ _ _ ?_)
 clear hK K
 refine aF (RT Tryd.results8 ?_)
 exact sL [] (.slc ((pQ (oV p)).map dY)) (.int .i64 (lD (oV p))) (by simp [HV.close, HV.closeL, CV.denil, CV.denilL, dS, HV.norm, HV.toC, HV.toCL]) rfl (by simp) ⟨by rw [rM, if_pos hv], by rw [wQ, if_pos hv]⟩

end Go.Proofs.YtlldglbooaefhaaDoor

namespace Go.Hl
open Go
def aU8 (P : Program) (f : FuncId) (T : kN) (args : List CV) (R : CV → CV → CV → Prop) : Prop :=
 HFn P f (args.map .c) 1 (eF T) (fun r ob' => ∃ u v x, r = .tup [.c u, .c v, .c x] ∧ ob' = eF T ∧ R u v x)
theorem gY {ob : Ob} {r : HV} {T : kN} {R : CV → CV → CV → Prop} (cl : List Nat) (u v x : CV) (h : (r.close ob cl).norm = .tup [.c u, .c v, .c x]) (hb : ob 0 = some (.tab T)) (h0 : 0 ∉ cl) (hR : R u v x) :
  lM 1 r ob (fun r ob' => ∃ u v x, r = .tup [.c u, .c v, .c x] ∧ ob' = eF T ∧ R u v x) :=
 ⟨cl, id, .tup [.c u, .c v, .c x], eF T, ⟨u, v, x, rfl, rfl, hR⟩, by grind [HV.ren, HV.renL], fun _ _ => rfl, fun _ _ _ _ h => h, by simp [HV.men, HV.menL], aN6 hb h0⟩
theorem aK7 {P : Program} {av : List Nat} {f : FuncId} {ob : Ob} {nid : Nat} {K : HV → Ob → Prop} {T : kN} {args : List CV} {R : CV → CV → CV → Prop} (id : Nat) (h : aU8 P f T args R) (hid : ob id = some (.tab T)) (hav : id ∉ av)
  (hfree : ob nid = none ∧ ob (nid + 1) = none ∧ ob (nid + 2) = none ∧ ob (nid + 3) = none) (hK : ∀ u v x, R u v x → K (.tup [.c u, .c v, .c x]) ob) : HCall P av f (args.map .c) ob nid K := by
 refine ⟨[id], args.map .c, _, _, h, eW T args, ⟨by simp, by grind⟩, (HV.renL_c _ _).symm, rC hid, fun r lob' hR _ => ?_⟩
 obtain ⟨u, v, x, rfl, rfl, hR⟩ := hR
 rw [mP hid hfree]
 exact hK u v x hR
end Go.Hl

namespace Go.Pl
open Go Go.Hl

def LsB (ls : List (List aE)) : Prop := ∀ l ∈ ls, ∀ w ∈ l, w.length < 2 ^ 40
theorem LsB.drop {ls : List (List aE)} (h : LsB ls) (j : Nat) : LsB (ls.drop j) := fun l hl => h l (List.mem_of_mem_drop hl)
theorem cA0 {l : List aE} (h : ∀ w ∈ l, w.length < 2 ^ 40) (i : Nat) : (wd l i).length < 2 ^ 40 := by grind [wd, Nat.lt_or_ge, List.getElem?_eq_getElem, List.getElem_mem, List.getElem?_eq_none]
theorem cA1 {w : List aE} (h : ∀ x ∈ w, x.length < 2 ^ 40) {q : Rq} (hq : eU w = some q) : q.t.length < 2 ^ 40 := by
 have h1 := cA0 h 1
 have hm : ∀ (k : Int) (o : Option Int), o.map (fun n => (⟨k, n, 0, []⟩ : Rq)) = some q → q.t.length < 2 ^ 40 := fun k o ho => by
  cases o with
  | none => grind
  | some n => grind
 unfold eU at hq
 split at hq
 ·
  exact hm _ _ hq
 ·
  split at hq
  ·
   grind
  ·
   split at hq
   ·
    exact hm _ _ hq
   ·
    split at hq
    ·
     grind
    ·
     split at hq
     ·
      exact hm _ _ hq
     ·
      split at hq
      ·
       exact hm _ _ hq
      ·
       split at hq
       ·
        exact hm _ _ hq
       grind
theorem cA2 {w : List aE} {n : Nd} (h : jE w = some n) : n.q = rq0 := by grind [jE, bH, wd]
theorem cE8 : ∀ f, (∀ ls, LsB ls → ∀ t, (rdN f ls).1 = some t → ∀ n ∈ t, n.q.t.length < 2 ^ 40) ∧ (∀ ls, LsB ls → ∀ p, (rdK f ls).1 = some p → ∀ n ∈ p.1, n.q.t.length < 2 ^ 40)
 | 0 => ⟨fun ls _ t h => by simp [rdN] at h, fun ls _ t h => by simp [rdK] at h⟩
 | f + 1 => by
  obtain ⟨ihN, ihK⟩ := cE8 f
  refine ⟨fun ls hb t h => ?_, fun ls hb p h => ?_⟩
  ·
   match ls with
   | [] => simp [rdN] at h
   | w :: r =>
    cases h1 : eU w with
    | some q =>
     rw [nD h1] at h
     cases h
     intro n hn
     rw [List.mem_singleton] at hn
     subst hn
     exact cA1 (hb w (by simp)) h1
    | none =>
     cases h2 : jE w with
     | none => grind [nE]
     | some n =>
      rw [nZ h1 h2] at h
      cases hk : (rdK f r).1 with
      | none => simp [wT, hk] at h
      | some p =>
       simp only [wT, hk, Option.map_some, Option.some.injEq] at h
       subst h
       intro x hx
       rcases List.mem_cons.1 hx with rfl | hx
       ·
        grind [cA2, rq0]
       ·
        exact ihK r (fun l hl => hb l (by grind)) p hk x hx
  ·
   cases he : gV (ls.headD []) with
   | true => grind [aB6]
   | false =>
    match h2 : rdN f ls with
    | (none, r) => simp_all [aP8]
    | (some t, r) =>
     rw [vX he h2] at h
     obtain ⟨j, hj, _⟩ := (aB7 f).1 ls
     rw [h2] at hj
     have hj' : r = ls.drop j := hj
     cases hk : (rdK f r).1 with
     | none => simp [pB, hk] at h
     | some q =>
      simp only [pB, hk, Option.map_some, Option.some.injEq] at h
      subst h
      intro x hx
      rcases List.mem_append.1 hx with hx | hx
      ·
       grind
      ·
       exact ihK r (by rw [hj']; exact hb.drop j) q hk x hx
def cA3 (r : Pr) : Prop := r.a.length < 2 ^ 40 ∧ ∀ n ∈ r.t, n.q.t.length < 2 ^ 63
theorem cE9 {ls : List (List aE)} (hb : LsB ls) {x : Pr} (h : (rdR ls).1 = some x) : cA3 x := by
 match ls with
 | [] => cases h
 | w :: r =>
  simp only [rdR] at h
  split at h
  ·
   cases hn : bH (wd w 4) with
   | none => grind
   | some g =>
    rw [hn] at h
    simp only at h
    match hm : rdT r with
    | (none, r') => grind
    | (some t, r') =>
     rw [hm] at h
     cases h
     have h1 := (cE8 (2 * r.length + 2)).1 r (fun l hl => hb l (by grind)) t (by grind [rdT])
     exact ⟨cA0 (hb w (by simp)) 1, fun n hn => Nat.lt_trans (h1 n hn) (by decide)⟩
  grind
theorem bN0 : ∀ (f : Nat) (ls : List (List aE)) (acc : List Pr), LsB ls → (∀ r ∈ acc, cA3 r) → ∀ l, (kE f ls acc).1 = some l → (∀ r ∈ l, cA3 r) ∧ l.length ≤ acc.length + f
 | 0, ls, acc, _, _, l, h => by simp [kE] at h
 | f + 1, ls, acc, hb, ha, l, h => by
  simp only [kE] at h
  split at h
  ·
   grind
  ·
   match hm : rdR ls with
   | (none, r) => grind
   | (some x, r) =>
    rw [hm] at h
    obtain ⟨j, _, hj, _⟩ := aB8 ls
    rw [hm] at hj
    have hj' : r = ls.drop j := hj
    have hx := cE9 hb (x := x) (by rw [hm])
    obtain ⟨h1, h2⟩ := bN0 f r (acc ++ [x]) (by rw [hj']; exact hb.drop j) (fun y hy => by grind) l h
    grind
theorem cF0 {ls : List (List aE)} (hb : LsB ls) (hl : ls.length < 2 ^ 39) {p : Po} (h : (rdP ls).1 = some p) : PoSz p := by
 match ls with
 | [] => cases h
 | w :: r =>
  simp only [rdP] at h
  split at h
  ·
   cases hn : bH (wd w 2) with
   | none => grind
   | some v =>
    rw [hn] at h
    simp only at h
    match hm : kE (r.length + 1) r [] with
    | (none, r') => grind
    | (some l, r') =>
     rw [hm] at h
     cases h
     obtain ⟨h1, h2⟩ := bN0 (r.length + 1) r [] (fun x hx => hb x (by grind)) (by simp) l (by rw [hm])
     simp only [List.length_cons, List.length_nil] at hl h2
     exact ⟨Nat.lt_of_lt_of_le (cA0 (hb w (by simp)) 1) (by decide), by grind, fun x hx => Nat.lt_of_lt_of_le (h1 x hx).1 (by decide), fun x hx => (h1 x hx).2⟩
  grind
end Go.Pl

namespace Go.Proofs.YtlldglbooaefhaaDoor
open Go Go.Hl Go.Pl
set_option maxRecDepth 10000
set_option maxHeartbeats 16000000

theorem bU8 (b : aE) : LsB (eZ b) := fun l hl w hw => by
 have := (bR4 (b := b) l hl).2.2 w hw
 omega

theorem bB6 (a b : aE) : cH Tryd.prog 24 [.slc (a.map dY), .slc (b.map dY)] (fun v => v = .bool (a == b)) := by
 refine FW Tryd.func24 ?_
 refine R0 ?_
 refine aC fun K hK => Rg ?_
 have F := @bytesC_map
 iterate 6 refine SF ?_
 refine T2 (hK _ _ _ ?_)
 clear hK K
 refine aF (RT Tryd.results24 ?_)
 exact aM [] (.bool (a == b)) rfl rfl


theorem bU9 (b : aE) (hl : b.length < 2 ^ 40) : aU8 Tryd.prog 9 tabs [.slc (b.map u8)] (fun u v x => u = (dpO b).cv ∧ v = .int .i64 (dpL b : Nat) ∧ x = .int .i64 (dpE b)) := by
 refine bP (args := [.c (.slc (b.map u8))]) Tryd.func9 rfl (by kernel_rfl) (eW tabs [.slc (b.map u8)]) (Nat.le_of_ble_eq_true rfl) ?_
 unfold eF
 have hlen := bI0 (b := b)
 refine R0 ?_
 refine aC fun K hK => Rg ?_
 have F := @denilL_u8
 refine SF ?_
 refine HS rfl rfl fun K' hK' => T6 ?_
 refine D1 (bZ6 b hl) ?_
 rintro u v ⟨rfl, rfl⟩
 refine AX (hK' _ _ ?_)
 clear hK' K'
 iterate 5 refine SF ?_
 refine T2 (hK _ _ _ ?_)
 clear hK K
 refine aC fun K hK => ?_
 refine R0 ?_
 refine aG (b := !(iA b == 0)) rfl (fun hb => ?_) (fun hb => ?_)
 ·
  have he : iA b ≠ 0 := by simpa using hb
  have e1 : dpE b = iA b := by rw [dpE, if_pos he]
  have e2 : dpL b = 0 := by rw [dpL, if_pos he]
  have e3 : dpO b = po0 := by rw [dpO, e1, if_neg he]
  clear hb
  refine aC fun K hK => Rg ?_
  iterate 5 refine S0 ?_
  refine T2 (hK _ _ _ ?_)
  clear hK K
  refine aF (RT Tryd.results9 ?_)
  exact gY [] po0.cv (.int .i64 0) (.int .i64 (iA b)) (by simp [HV.close, HV.closeL, po0, Po.cv, CV.denil, CV.denilL, HV.norm, HV.toC, HV.toCL]) rfl (by simp) (by rw [e1, e2, e3]; exact ⟨rfl, rfl, rfl⟩)
 refine aJ ?_
 refine T0 (hK _ _ _ ?_)
 clear hK K
 have he : iA b = 0 := by simpa using hb
 clear hb
 refine aC fun K hK => Rg ?_
 iterate 4 refine S0 ?_
 refine T2 (hK _ _ _ ?_)
 clear hK K
 refine aC fun K hK => Rg ?_
 refine S0 ?_
 refine HS rfl rfl fun K' hK' => T5 ?_
 refine dP (args := []) (bM1 (eZ b) (by omega)) rfl (by simp) ⟨rfl, rfl, rfl, rfl⟩ ?_
 rintro u x v' ⟨q, rfl, rfl, rfl, hq⟩
 refine AX (hK' _ _ ?_)
 clear hK' K'
 iterate 5 refine S0 ?_
 refine T2 (hK _ _ _ ?_)
 clear hK K
 refine aC fun K hK => ?_
 refine R0 ?_
 refine aG (b := !(rdP (eZ b)).1.isSome) rfl (fun hb => ?_) (fun hb => ?_)
 ·
  have hno : (rdP (eZ b)).1 = none := by simpa using hb
  have e1 : dpE b = 2 := by rw [dpE, if_neg (by simpa using he), hno]
  have e2 : dpL b = (eZ b).length - (rdP (eZ b)).2.length := by
   rw [dpL, if_neg (by simpa using he)]
   match h : rdP (eZ b) with
   | (none, r) => rfl
   | (some p, r) => rw [h] at hno; cases hno
  have e3 : dpO b = po0 := by rw [dpO, e1, if_neg (by decide)]
  clear hb
  refine aC fun K hK => DW [(0, [], []), (1, [], []), (2, [], []), (3, [], []), (4, [], []), (5, [], [1, 2, 3, 4]), (6, [], []), (7, [], [])] [0, 0, 2, 6, 14, 1, 63, 127] ?_
  iterate 8 refine W0 ?_ (e := fun _ h_ => by simp only [sH, ↓sP, sA, tyS, simprocAttr, rdr]; exact AX h_)
  refine T2 (hK _ _ _ ?_)
  clear hK K
  refine aF (RT Tryd.results9 ?_)
  exact gY [] po0.cv (.int .i64 ((eZ b).length - (rdP (eZ b)).2.length : Nat)) (.int .i64 2) (by simp [HV.close, HV.closeL, po0, Po.cv, CV.denil, CV.denilL, HV.norm, HV.toC, HV.toCL]) rfl (by simp) (by rw [e1, e2, e3]; exact ⟨rfl, rfl, rfl⟩)
 refine aJ ?_
 refine T0 (hK _ _ _ ?_)
 clear hK K
 refine aC fun K hK => ?_
 obtain ⟨p, hp⟩ : ∃ p, (rdP (eZ b)).1 = some p := by
  cases h : (rdP (eZ b)).1 with
  | none => rw [h] at hb; simp at hb
  | some p => exact ⟨p, rfl⟩
 obtain rfl := hq p hp
 have hsz := cF0 (bU8 b) (by omega) hp
 have hr : rdP (eZ b) = (some q, (rdP (eZ b)).2) := Prod.ext hp rfl
 have hiff := bY8 he hr
 have e1 : dpE b = if eX q then 0 else 1 := by rw [dpE, if_neg (by simpa using he), hp]
 have e2 : dpL b = 0 := by rw [dpL, if_neg (by simpa using he), hr]
 clear hb
 refine aC fun K hK => Rg ?_
 refine S0 ?_
 refine HS rfl rfl fun K' hK' => T5 ?_
 refine sM (args := [_]) 0 (aU7 q hsz) rfl (by simp) ⟨rfl, rfl, rfl, rfl⟩ ?_
 rintro u v ⟨rfl, rfl⟩
 refine AX (hK' _ _ ?_)
 clear hK' K'
 iterate 5 refine S0 ?_
 refine T2 (hK _ _ _ ?_)
 clear hK K
 refine aC fun K hK => Rg ?_
 have F := aI @dS @denilL_u8
 iterate 3 refine SF ?_
 refine aH 40 rfl (fun h9_40 => ?_) (fun h9_40 => ?_)
 ·
  have F := aI @dS (aI @denilL_u8 h9_40)
  iterate 5 refine SF ?_
  refine T2 (hK _ _ _ ?_)
  clear hK K
  refine CT rfl ?_
  refine aC fun K hK => Rg ?_
  have F := h9_40
  iterate 4 refine SF ?_
  refine T2 (hK _ _ _ ?_)
  clear hK K
  refine aF (RT Tryd.results9 ?_)
  have hpo : eX q = false := by
   cases h : eX q with
   | false => rfl
   | true => exact absurd (hiff.2 h).1 (by simpa using h9_40)
  rw [hpo] at e1
  have e1 : dpE b = 1 := e1
  have e3 : dpO b = po0 := by rw [dpO, e1, if_neg (by decide)]
  exact gY [] po0.cv (.int .i64 0) (.int .i64 1) (by simp [HV.close, HV.closeL, po0, Po.cv, CV.denil, CV.denilL, HV.norm, HV.toC, HV.toCL]) rfl (by simp) (by rw [e1, e2, e3]; exact ⟨rfl, rfl, rfl⟩)
 have F := aI @dS (aI @denilL_u8 h9_40)
 iterate 2 refine SF ?_
 refine aW (g := some (41, false)) rfl rfl fun K' hK' => T6 ?_
 refine C2 (bB6 (rM q) b) ?_
 rintro u rfl
 refine AX (hK' _ _ ?_)
 clear hK' K'
 iterate 2 refine SF ?_
 refine aH 44 rfl (fun h9_44 => ?_) (fun h9_44 => ?_)
 ·
  simp only [h9_44]
  refine T2 (hK _ _ _ ?_)
  clear hK K
  refine CF rfl ?_
  refine aJ ?_
  refine T0 (hK _ _ _ ?_)
  clear hK K
  refine aC fun K hK => Rg ?_
  have F := aI h9_40 h9_44
  iterate 4 refine SF ?_
  refine T2 (hK _ _ _ ?_)
  clear hK K
  refine aF (RT Tryd.results9 ?_)
  have hpo : eX q = true := hiff.1 ⟨by simpa using h9_40, by simpa using h9_44⟩
  rw [hpo] at e1
  have e1 : dpE b = 0 := e1
  have e3 : dpO b = q := by rw [dpO, if_pos e1, hp]; rfl
  exact gY [] q.cv (.int .i64 0) (.int .i64 0) (by simp [HV.close, HV.closeL, Po.denil, CV.denil, CV.denilL, HV.norm, HV.toC, HV.toCL]) rfl (by simp) (by rw [e1, e2, e3]; exact ⟨rfl, rfl, rfl⟩)
 simp only [h9_44]
 refine T2 (hK _ _ _ ?_)
 clear hK K
 refine CT rfl ?_
 refine aC fun K hK => Rg ?_
 have F := aI h9_40 h9_44
 iterate 4 refine SF ?_
 refine T2 (hK _ _ _ ?_)
 clear hK K
 refine aF (RT Tryd.results9 ?_)
 have hpo : eX q = false := by
  cases h : eX q with
  | false => rfl
  | true => exact absurd (hiff.2 h).2 (by simpa using h9_44)
 rw [hpo] at e1
 have e1 : dpE b = 1 := e1
 have e3 : dpO b = po0 := by rw [dpO, e1, if_neg (by decide)]
 exact gY [] po0.cv (.int .i64 0) (.int .i64 1) (by simp [HV.close, HV.closeL, po0, Po.cv, CV.denil, CV.denilL, HV.norm, HV.toC, HV.toCL]) rfl (by simp) (by rw [e1, e2, e3]; exact ⟨rfl, rfl, rfl⟩)

end Go.Proofs.YtlldglbooaefhaaDoor

namespace Go.Proofs.YtlldglbooaefhaaDoor
open Go Go.Hl Go.Pl
set_option maxRecDepth 10000
set_option maxHeartbeats 16000000

theorem bB7 (l : List Nd) (hl : l.length < 2 ^ 40) : aA5 Tryd.prog 52 [(39, .slc (l.map Nd.cv))] (bwL l) := by
 refine xY Tryd.func52 rfl (by kernel_rfl) (Nat.le_of_ble_eq_true rfl) rfl fun L J hS hY => ?_
 have e0 : jK [(39, CV.slc (l.map Nd.cv))] = fob [(0, .box 39 (.c (.slc (l.map Nd.cv))))] := by
  funext i
  match i with
  | 0 => rfl
  | i + 1 => simp [jK, fob, upd]
 have e1 : gA (List.range [((39 : Nat), CV.slc (l.map Nd.cv))].length) = [.ptr 0 0] := rfl
 rw [e0, e1]
 refine eK fun K hK => mQ hS rfl (aL (by kernel_rfl) ?_)
 simp only [sR, simprocAttr]
 iterate 4 refine S0 ?_ (e := fun _ h_ => by simp only [sH, ↓sP, sA, tyS, simprocAttr, rI, dM ((l.length : Int) - 1) (by omega), List.length_map]; exact AX h_)
 simp only [sE, ↓reduceIte, simprocAttr, rI]
 refine hK _ _ _ _ _ ?_
 clear hK K
 refine nW ?_
 refine aG9 (α := {j : Nat // j ≤ l.length}) hS (fun j => (fin [(0, .opq (.func (.yield L) #[] #[])), (1, .ptr 0 0), (3, .c (.int .i64 ((l.length : Int) - 1 - j.1)))], fob [(0, .box 39 (.c (.slc (l.map Nd.cv))))])) (fun j => j.1) 100 (fun j => l.length - j.1) ⟨0, Nat.zero_le _⟩ rfl (fF) rfl ?_
 rintro ⟨j, hj⟩
 refine eK fun K hK => ?_
 refine eK fun K1 hK1 => mQ hS rfl (aL (by kernel_rfl) ?_)
 simp only [sR, simprocAttr]
 have F := rI
 iterate 2 refine SF ?_
 simp only [sE, ↓reduceIte, simprocAttr, rI]
 refine hK1 _ _ _ _ _ ?_
 clear hK1 K1
 refine jA (b := decide ((0 : Int) ≤ (l.length : Int) - 1 - j)) rfl (fun hb => ?_) (fun hb => ?_)
 ·
  have hlt : j < l.length := by simp at hb; omega
  have hi2 : l.length - 1 - j < l.length := by omega
  have hxl : j < (bwL l).length := by rw [qH]; exact hlt
  have hx := bK4 hxl hi2
  have hcast : (l.length : Int) - 1 - j = ((l.length - 1 - j : Nat) : Int) := by omega
  have hw1 : IntKind.i64.wrap (((l.length - 1 - j : Nat) : Int) - 1) = (l.length : Int) - 1 - ((j : Int) + 1) := by rw [dM _ (by omega)]; omega
  refine mR ?_
  simp only [sE, ↓reduceIte, simprocAttr, rI]
  refine hK _ _ _ _ _ ?_
  clear hK K
  refine eK fun K hK => ?_
  refine nW ?_
  refine eK fun K1 hK1 => rD (l := L) 6 hS hY rfl (by kernel_rfl) (by decide) ?_
  simp only [sR, List.range', simprocAttr]
  have F := aI rI (aI hcast (aI @List.length_map.{0,0} (aI @Int.natCast_nonneg (aI @Int.ofNat_lt (aI hi2 (nM hi2))))))
  iterate 6 refine SF ?_
  rw [hlex]
  refine ⟨_, _, _, hxl, rfl, rfl, rfl, rfl, rfl, ?_, ?_, ?_⟩
  ·
   rw [hx]; simp only [hcast]; rfl
  ·
   simp only [sR, List.range', simprocAttr]
   have F := rI
   refine SF ?_
   simp only [sE, ↓reduceIte, simprocAttr, rI]
   refine hK1 _ _ _ _ _ ?_
   clear hK1 K1
   refine jA (b := false) rfl (fun hb => by cases hb) (fun _ => ?_)
   refine mR ?_
   simp only [sE, ↓reduceIte, simprocAttr, rI]
   refine hK _ _ _ _ _ ?_
   clear hK K
   refine mQ hS rfl (aL (by kernel_rfl) ?_)
   simp only [sR, simprocAttr]
   have F := aI rI (aI hcast hw1)
   iterate 3 refine SF ?_
   simp only [sE, ↓reduceIte, simprocAttr, rI]
   refine ⟨⟨j + 1, hlt⟩, fF, trivial, rfl, ?_⟩
   show l.length - (j + 1) < l.length - j
   omega
  simp only [sR, List.range', simprocAttr]
  have F := rI
  refine SF ?_
  simp only [sE, ↓reduceIte, simprocAttr, rI]
  refine hK1 _ _ _ _ _ ?_
  clear hK1 K1
  refine jA (b := true) rfl (fun _ => ?_) (fun hb => by cases hb)
  refine aS5 ?_
  simp only [sE, ↓reduceIte, simprocAttr, rI]
  exact ⟨by simp, fun h => by cases h⟩
 have hji : j = l.length := by simp at hb; omega
 refine aG8 ?_
 simp only [sE, ↓reduceIte, simprocAttr, rI]
 exact ⟨by simp, fun _ => by rw [qH]; exact hji⟩
end Go.Proofs.YtlldglbooaefhaaDoor

namespace Go.Proofs.YtlldglbooaefhaaDoor
open Go Go.Hl Go.Pl
set_option maxRecDepth 10000
set_option maxHeartbeats 16000000

theorem bV0 (l : List Nd) : aS6 Tryd.prog 30 52 [.slc (l.map Nd.cv)] [(39, .slc (l.map Nd.cv))] := by
 refine FW Tryd.func30 ?_
 refine R0 ?_
 refine R0 ?_
 refine aF (RT Tryd.results30 ?_)
 refine rF (gf := 52) (bs := [(39, .slc (l.map Nd.cv))]) (ids := [0]) rfl (by simp) (by decide) ?_ ?_
 ·
  intro j x hx
  match j, hx with
  | 0, hx => cases hx; rfl
 intro x hx
 simp only [List.mem_cons, List.not_mem_nil, or_false] at hx
 subst hx
 exact congrArg CV.slc (denilL_Nd l)


theorem aK8 (n : Nd) (L : List Bool) (lo m : Nat) (hl : L.length < 2 ^ 40) (h0 : 0 < L.length) (hlo : lo ≤ m) (hm : m ≤ L.length) :
  HGe Tryd.prog 31 [.c n.cv, .osl 0 L.length lo 1 m] [.row 4 1 (L.map bC)] (fun r os' => r = .c (.bool (iE n ((L.drop lo).take (m - lo)))) ∧ os' = [.row 4 1 (L.map bC)]) := by
 obtain ⟨V, hV⟩ : ∃ V, V = (L.drop lo).take (m - lo) := ⟨_, rfl⟩
 have hVl : V.length = m - lo := by rw [hV]; simp; omega
 rw [← hV]
 have hrd : List.take (m - lo) (List.drop lo (L.map bC)) = V.map bC := by rw [hV, List.map_take, List.map_drop]
 refine bP (args := [.c n.cv, .osl 0 L.length lo 1 m]) Tryd.func31 rfl (by kernel_rfl) (fE rfl (by simp [eE, HO.men]) (by simp [HV.menL, HV.men])) (Nat.le_of_ble_eq_true rfl) ?_
 have e0 : lst [.row 4 1 (L.map bC)] = fob [(0, .row 4 1 (L.map bC))] := by
  funext i
  match i with
  | 0 => rfl
  | i + 1 => simp [lst, fob, upd]
 show Hw _ _ 1 _ _ _ (lst _) 1
 rw [e0]
 refine R0 ?_
 refine R0 ?_
 refine aC fun K hK => ?_
 refine R0 ?_ (e := fun _ h_ => by simp only [↓sP, sA, tyS, simprocAttr, hrd, List.length_map, h0, hlo, hm]; exact AX h_)
 refine aK ?_
 refine bO (α := {i : Nat // i ≤ V.length}) (fun i => (fin [(1, .osl 0 L.length lo 1 m), (2, .ptr 1 0), (5, .c (.int .i64 (cnt (V.take i.1) : Nat))), (8, .osl 0 L.length lo 1 m), (9, .c (.int .i64 V.length)), (10, .c (.int .i64 i.1))], fob [(0, .row 4 1 (L.map bC)), (1, .box 48 (.c n.cv))])) 100 (fun i => V.length - i.1) ⟨0, by omega⟩ (aN (by omega) (by simp [bB, fin_at, finA_at, upd_at, HV.men, HV.menL, HV.norm, HV.toC, HV.toCL, cnt]) (by simp [bA, fob_at, upd_at, none0_at, cB, HO.men, HV.men, HV.menL, HV.norm, HV.toC, HV.toCL, cnt])) ?_
 rintro ⟨i, hi⟩
 have hcn : cnt (V.take i) ≤ i := by have := bH1 (V.take i); simp at this; omega
 refine R0 ?_
 refine aC fun K hK => ?_
 refine aG (b := decide ((i : Int) < V.length)) rfl (fun hb => ?_) (fun hb => ?_)
 ·
  have hlt : i < V.length := by simpa using hb
  have hct := oL (l := V) (k := i) hlt
  have hw3 : IntKind.i64.wrap ((cnt (V.take i) : Int) + 1) = ((cnt (V.take i) + 1 : Nat) : Int) := by rw [dM _ (by omega)]; rfl
  have hli : lo + i < L.length := by omega
  have hvi : L[lo + i] = V[i] := by simp [hV]
  have hli2 : lo + i < (L.map bC).length := by simpa using hli
  have hml : i < m - lo := by omega
  clear hb
  refine aJ ?_
  refine T0 (hK _ _ _ ?_)
  clear hK K
  refine aC fun K hK => ?_
  refine aK ?_
  refine R0 ?_ (e := fun _ h_ => by simp only [↓sP, sA, tyS, simprocAttr, List.length_map, Int.natCast_nonneg, Int.ofNat_lt, h0, hm, hml, hli, aY hli, bC]; exact AX h_)
  refine R0 ?_
  refine aG (b := L[lo + i]) rfl (fun hb => ?_) (fun hb => ?_)
  ·
   rw [hvi] at hb
   rw [if_pos (by simpa [hlt] using hb)] at hct
   refine aL (by kernel_rfl) ?_
   refine TQ hw3 ?_
   refine AX (hK _ _ _ ?_)
   clear hK K
   refine aL (by kernel_rfl) ?_
   simp only [↓sP, sA, tyS, simprocAttr, dM ((i : Int) + 1) (by omega)]
   refine ⟨⟨i + 1, hlt⟩, aN (by omega) (by simp [bB, fin_at, finA_at, upd_at, HV.men, HV.menL, HV.norm, HV.toC, HV.toCL, hct]) (by simp [bA, fob_at, upd_at, none0_at, cB, HO.men, HV.men, HV.menL, HV.norm, HV.toC, HV.toCL, hct]), ?_⟩
   show V.length - (i + 1) < V.length - i
   omega
  rw [hvi] at hb
  rw [if_neg (by simp [hlt, hb])] at hct
  refine aJ ?_
  refine T0 (hK _ _ _ ?_)
  clear hK K
  refine aL (by kernel_rfl) ?_
  simp only [↓sP, sA, tyS, simprocAttr, dM ((i : Int) + 1) (by omega)]
  refine ⟨⟨i + 1, hlt⟩, aN (by omega) (by simp [bB, fin_at, finA_at, upd_at, HV.men, HV.menL, HV.norm, HV.toC, HV.toCL, hct]) (by simp [bA, fob_at, upd_at, none0_at, cB, HO.men, HV.men, HV.menL, HV.norm, HV.toC, HV.toCL, hct]), ?_⟩
  show V.length - (i + 1) < V.length - i
  omega
 refine bD (T3 ?_)
 clear hK K
 refine AX (hK _ _ _ ?_)
 clear hK K
 refine aC fun K hK => ?_
 have hei : i = V.length := by simp only [decide_eq_false_iff_not] at hb; omega
 subst hei
 rw [List.take_length] at hcn ⊢
 clear hb
 refine R0 ?_
 refine aK ?_
 refine R0 ?_
 refine aG (b := (n.k == 2)) rfl (fun hb => ?_) (fun hb => ?_)
 ·
  refine aC fun K hK => Rg ?_
  iterate 5 refine S0 ?_ (e := fun _ h_ => by simp only [sH, ↓sP, sA, tyS, simprocAttr, hrd, List.length_map, h0, hlo, hm]; exact AX h_)
  refine T2 (hK _ _ _ ?_)
  clear hK K
  refine aF (RT Tryd.results31 ?_)
  have h2 : n.k = 2 := by simpa using hb
  exact dX [] [] (.c (.bool ((cnt V : Int) == V.length))) [.row 4 1 (L.map bC)] rfl (by simp [HV.men]) ⟨⟨trivial, by simp, _, rfl, rfl⟩, trivial⟩ rfl List.nodup_nil (by simp) (by simp) ⟨by rw [iE, if_pos h2]; congr 2; rw [Bool.eq_iff_iff]; simp; omega, rfl⟩
 have h2 : n.k ≠ 2 := by simpa using hb
 refine R0 ?_
 refine aG (b := (n.k == 3)) rfl (fun hb => ?_) (fun hb => ?_)
 ·
  refine R0 ?_
  refine aF (RT Tryd.results31 ?_)
  have h3 : n.k = 3 := by simpa using hb
  exact dX [] [] (.c (.bool (decide ((1 : Int) ≤ cnt V)))) [.row 4 1 (L.map bC)] rfl (by simp [HV.men]) ⟨⟨trivial, by simp, _, rfl, rfl⟩, trivial⟩ rfl List.nodup_nil (by simp) (by simp) ⟨by rw [iE, if_neg h2, if_pos h3]; congr 2; rw [Bool.eq_iff_iff]; simp; omega, rfl⟩
 refine aJ ?_
 refine T0 (hK _ _ _ ?_)
 clear hK K
 refine aC fun K hK => Rg ?_
 iterate 5 refine S0 ?_
 refine T2 (hK _ _ _ ?_)
 clear hK K
 refine aF (RT Tryd.results31 ?_)
 have h3 : n.k ≠ 3 := by simpa using hb
 exact dX [] [] (.c (.bool (decide (n.n ≤ cnt V)))) [.row 4 1 (L.map bC)] rfl (by simp [HV.men]) ⟨⟨trivial, by simp, _, rfl, rfl⟩, trivial⟩ rfl List.nodup_nil (by simp) (by simp) ⟨by rw [iE, if_neg h2, if_neg h3], rfl⟩

end Go.Proofs.YtlldglbooaefhaaDoor

namespace Go.Pl
open Go Go.Hl

def kW (w : List Bool) (m : Nat) (b : Bool) : List Bool := w.take m ++ [b] ++ w.drop (m + 1)
theorem kX {w : List Bool} {m : Nat} {b : Bool} (h : m + 1 ≤ w.length) : (kW w m b).length = w.length := by simp [kW]; omega
theorem zA {w : List Bool} {b : Bool} : kW w w.length b = w ++ [b] := by simp [kW]
theorem zB {w : List Bool} {m : Nat} {b : Bool} (h : m ≤ w.length) : (kW w m b).take (m + 1) = w.take m ++ [b] := by grind [kW, List.take_of_length_le]
def aQ1 (l : List Nd) (tr : List Bool) (p : Nat) (s : List Bool × Nat) : List Bool × Nat :=
 if (l.getD p nd0).k = 1 then (kW s.1 s.2 (tr.getD (lv (l.take p)) false), s.2 + 1)
 else (kW s.1 (s.2 - (l.getD p nd0).c.toNat) (iE (l.getD p nd0) ((s.1.drop (s.2 - (l.getD p nd0).c.toNat)).take (l.getD p nd0).c.toNat)), s.2 - (l.getD p nd0).c.toNat + 1)
def bZ (l : List Nd) (tr : List Bool) : Nat → List Bool × Nat
 | 0 => ([], 0)
 | i + 1 => aQ1 l tr (l.length - 1 - i) (bZ l tr i)
structure EvOk (l : List Nd) (tr : List Bool) (i : Nat) : Prop where
 le : i ≤ l.length
 m : (bZ l tr i).2 = (evS (lv l) tr (l.drop (l.length - i))).length
 row : (bZ l tr i).1.take (bZ l tr i).2 = (evS (lv l) tr (l.drop (l.length - i))).reverse
 fit : (bZ l tr i).2 ≤ (bZ l tr i).1.length
 small : (bZ l tr i).1.length ≤ i
theorem EvOk.zero (l : List Nd) (tr : List Bool) : EvOk l tr 0 := ⟨by omega, by simp [bZ, evS], by simp [bZ, evS], by simp [bZ], by simp [bZ]⟩
theorem wV (n : Nd) (l : List Bool) : iE n l.reverse = iE n l := by simp only [iE, aH3, List.length_reverse]
theorem bN1 {E : List Bool} {c : Nat} : E.reverse.take (E.length - c) = (E.drop c).reverse := by rw [List.reverse_drop]
theorem bN2 {E : List Bool} {c : Nat} (h : c ≤ E.length) : E.reverse.drop (E.length - c) = (E.take c).reverse := by rw [List.reverse_take]
theorem EvOk.at_ {l : List Nd} {tr : List Bool} {i : Nat} (hi : i < l.length) : l.drop (l.length - (i + 1)) = l[l.length - 1 - i]'(by omega) :: l.drop (l.length - i) := by grind [List.drop_eq_getElem_cons]
theorem EvOk.leaf {l : List Nd} {tr : List Bool} {i : Nat} (h : EvOk l tr i) (hi : i < l.length) (hk : (l[l.length - 1 - i]'(by omega)).k = 1) :
  EvOk l tr (i + 1) ∧ bZ l tr (i + 1) = (kW (bZ l tr i).1 (bZ l tr i).2 (tr.getD (lv (l.take (l.length - 1 - i))) false), (bZ l tr i).2 + 1) := by
 have hp : l.length - 1 - i < l.length := by omega
 have hg : l.getD (l.length - 1 - i) nd0 = l[l.length - 1 - i] := by simp [hp]
 have e : bZ l tr (i + 1) = (kW (bZ l tr i).1 (bZ l tr i).2 (tr.getD (lv (l.take (l.length - 1 - i))) false), (bZ l tr i).2 + 1) := by
  simp only [bZ, aQ1, hg, if_pos hk]
 have hT := lH l (l.length - 1 - i)
 have hd := EvOk.at_ (tr := tr) hi
 rw [show l.length - (i + 1) = l.length - 1 - i from by omega] at hd
 have hE : evS (lv l) tr (l.drop (l.length - (i + 1))) = tr.getD (lv (l.take (l.length - 1 - i))) false :: evS (lv l) tr (l.drop (l.length - i)) := by
  rw [show l.length - (i + 1) = l.length - 1 - i from by omega, hd, evS, if_pos hk, ← hd]
  congr 2; omega
 refine ⟨⟨hi, ?_, ?_, ?_, ?_⟩, e⟩
 ·
  rw [e, hE]; simp [h.m]
 ·
  rw [e, hE]; simp only [List.reverse_cons]; rw [zB h.fit, h.row]
 ·
  rw [e]; have := h.fit; simp [kW]; omega
 ·
  rw [e]; have := h.fit; have := h.small; simp [kW]; omega
theorem EvOk.inner {l : List Nd} (ht : IsTree l) {tr : List Bool} {i : Nat} (h : EvOk l tr i) (hi : i < l.length) (hk : (l[l.length - 1 - i]'(by omega)).k ≠ 1) :
  (l[l.length - 1 - i]'(by omega)).c.toNat ≤ (bZ l tr i).2 ∧ EvOk l tr (i + 1) ∧
  bZ l tr (i + 1) = (kW (bZ l tr i).1 ((bZ l tr i).2 - (l[l.length - 1 - i]'(by omega)).c.toNat) (iE (l[l.length - 1 - i]'(by omega)) (((bZ l tr i).1.drop ((bZ l tr i).2 - (l[l.length - 1 - i]'(by omega)).c.toNat)).take (l[l.length - 1 - i]'(by omega)).c.toNat)), (bZ l tr i).2 - (l[l.length - 1 - i]'(by omega)).c.toNat + 1) := by
 have hp : l.length - 1 - i < l.length := by omega
 have hg : l.getD (l.length - 1 - i) nd0 = l[l.length - 1 - i] := by simp [hp]
 have e : bZ l tr (i + 1) = (kW (bZ l tr i).1 ((bZ l tr i).2 - (l[l.length - 1 - i]'(by omega)).c.toNat) (iE (l[l.length - 1 - i]'(by omega)) (((bZ l tr i).1.drop ((bZ l tr i).2 - (l[l.length - 1 - i]'(by omega)).c.toNat)).take (l[l.length - 1 - i]'(by omega)).c.toNat)), (bZ l tr i).2 - (l[l.length - 1 - i]'(by omega)).c.toNat + 1) := by
  simp only [bZ, aQ1, hg, if_neg hk]
 have hkl := aH6 ht (tr := tr) hp
 rw [show l.length - 1 - i + 1 = l.length - i from by omega] at hkl
 obtain ⟨_, _, _, c4⟩ := cU (ht.node _ (List.getElem_mem hp))
 have c5 := c4 hk
 have c6 : 1 ≤ l[l.length - 1 - i].c.toNat := by omega
 have hd := EvOk.at_ (tr := tr) hi
 have hm := h.m
 have hr := h.row
 have hf := h.fit
 have hs := h.small
 have hE : evS (lv l) tr (l.drop (l.length - (i + 1))) = iE l[l.length - 1 - i] ((evS (lv l) tr (l.drop (l.length - i))).take l[l.length - 1 - i].c.toNat) :: (evS (lv l) tr (l.drop (l.length - i))).drop l[l.length - 1 - i].c.toNat := by
  rw [hd, evS, if_neg hk]
 generalize evS (lv l) tr (l.drop (l.length - i)) = E at hm hr hkl hE
 generalize l[l.length - 1 - i].c.toNat = c at *
 have h1 : (bZ l tr i).1.take ((bZ l tr i).2 - c) = (E.drop c).reverse := by
  rw [← bN1, ← hr, List.take_take, hm, Nat.min_eq_left (by omega)]
 have h2 : ((bZ l tr i).1.drop ((bZ l tr i).2 - c)).take c = (E.take c).reverse := by
  rw [← bN2 hkl, ← hr, List.drop_take, hm]
  congr 1; omega
 refine ⟨by omega, ⟨hi, ?_, ?_, ?_, ?_⟩, e⟩
 ·
  rw [e, hE]; simp only [List.length_cons, List.length_drop]; omega
 ·
  rw [e, hE]
  simp only [List.reverse_cons]
  rw [zB (by omega), h1, h2, wV]
 ·
  rw [e]; simp only; rw [kX (by omega)]; omega
 ·
  rw [e]; simp only; rw [kX (by omega)]; omega
theorem EvOk.fin {l : List Nd} (ht : IsTree l) {tr : List Bool} (h : EvOk l tr l.length) : (bZ l tr l.length).2 = 1 ∧ ∃ h0 : 0 < (bZ l tr l.length).1.length, iF l tr = (bZ l tr l.length).1[0] := by
 have hl := tL (T := lv l) (tr := tr) l 1 ht.node ht.skip
 have hm := h.m
 have hr := h.row
 have hf := h.fit
 rw [Nat.sub_self, List.drop_zero] at hm hr
 rw [hl] at hm
 have h0 : 0 < (bZ l tr l.length).1.length := by omega
 refine ⟨hm, h0, ?_⟩
 have ht' := nA ht
 obtain ⟨x, hx⟩ : ∃ x, evS (lv l) tr l = [x] := by
  match hE : evS (lv l) tr l, hl with
  | [x], _ => exact ⟨x, rfl⟩
 rw [hx, hm] at hr
 rw [iF, ht', hx]
 have : (bZ l tr l.length).1[0] = x := by
  have := congrArg (·.head?) hr
  simpa [List.head?_take, List.head?_eq_getElem?, h0] using this
 rw [this]; rfl
end Go.Pl
