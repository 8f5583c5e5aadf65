/- Plain Lean: the rows that Eval makes (28.6). By an AI agent. -/
import Derived.Test.YtlldglbooaefhaaGreatDoorHzU1
import Derived.Test.YtlldglbooaefhaaGreatDoorPl28p
import Derived.Test.YtlldglbooaefhaaGreatDoorHzSb
import Derived.Test.YtlldglbooaefhaaGreatDoorHzTh
import Derived.Test.YtlldglbooaefhaaGreatDoorPl28k
import Derived.Test.YtlldglbooaefhaaGreatDoorPl11q
import Derived.Test.YtlldglbooaefhaaGreatDoorHlTlaw
import Derived.Test.YtlldglbooaefhaaGreatDoorHzTo
import Derived.Test.YtlldglbooaefhaaGreatDoorHzV3
import Derived.Test.YtlldglbooaefhaaGreatDoorHlIt
import Derived.Test.YtlldglbooaefhaaGreatDoorHzT7
set_option linter.unusedSimpArgs false
set_option linter.unusedVariables false
set_option linter.defProp false
namespace Go.Proofs.YtlldglbooaefhaaGreatDoor
open Go Go.Hl Go.Pl
set_option maxRecDepth 10000
set_option maxHeartbeats 16000000

theorem cE9 (L : List (List aE)) : lst [.tab tabs, .row 60 1 (L.map lsC)] = fob [(0, .tab tabs), (1, .row 60 1 (L.map lsC))] := by
 funext i
 match i with
 | 0 => rfl
 | 1 => rfl
 | i + 2 => simp [lst, fob, upd]
theorem aR0 (n : Nat) (ob : Ob) (e : TypeId) (sz : Nat) (T : kY) (L : List CV) : lO (sub [0, 1] n) ob 0 [.tab T, .row e sz L] = upd (upd ob 0 (some (.tab T))) 1 (some (.row e sz L)) := rfl
theorem wQ {ob : Ob} {L : List CV} {M : List (List aE)} {m : Nat} {a : Nat} (h0 : ob 0 = some (.tab tabs)) (h1 : ob 1 = some (.row 60 1 L)) (hm : m = M.length) (hL : L = M.map lsC) :
  oJ 2 (.tup [.own 1 m, .c (.int .i64 a)]) ob (fun r ob' => ∃ os', ob' = lst os' ∧ (2 ≤ os'.length ∧ os'.length ≤ 2 + 4) ∧ r = .tup [.own 1 M.length, .c (.int .i64 a)] ∧ os' = [.tab tabs, .row 60 1 (M.map lsC)]) := by
 subst hm hL
 exact eI [] [] (.tup [.own 1 M.length, .c (.int .i64 a)]) [.tab tabs, .row 60 1 (M.map lsC)] rfl (by simp [HV.men, HV.menL]) ⟨⟨by simp [HO.men], by simp, _, h0, rfl⟩, ⟨by simp [HO.men], by simp, _, h1, rfl⟩, trivial⟩ rfl List.nodup_nil (by simp) (by simp) ⟨rfl, rfl⟩

theorem bN7 (l : List Nd) (ht : IsTree l) (m : Nat) : ∀ (L : List (List aE)) (i : Nat) (hi : i < l.length), l.length - i ≤ m → 0 < L.length → L.length + 2 * (l.length - i) < 2 ^ 40 →
  HGe Tryz.prog 52 [.own 1 L.length, .c (.slc (l.map Nd.cv)), .c (.int .i64 i)] [.tab tabs, .row 60 1 (L.map lsC)] (fun r os' => r = .tup [.own 1 (L ++ jK l i).length, .c (.int .i64 (aft l i : Nat))] ∧ os' = [.tab tabs, .row 60 1 ((L ++ jK l i).map lsC)]) := by
 induction m using Nat.strongRecOn with
 | ind m ih => ?_
 intro L i hi hfu hL0 hLl
 refine bU (args := [.own 1 L.length, .c (.slc (l.map Nd.cv)), .c (.int .i64 i)]) Tryz.func52 rfl (by kernel_rfl) (iB rfl (by simp [fX, HO.men, HV.men, HV.menL]) (by simp [HV.menL, HV.men])) (Nat.le_of_ble_eq_true rfl) ?_
 show Hw _ _ 2 _ _ _ (lst _) 2
 rw [cE9]
 have hnode := ht.node _ (List.getElem_mem hi)
 obtain ⟨c1, c2, c3, c4⟩ := cI hnode
 have hll := ht.len
 have hwi : IntKind.i64.wrap ((i : Int) + 1) = ((i + 1 : Nat) : Int) := IntWalk.i64_in _ (by omega)
 obtain ⟨a1, a2, a3⟩ := iN ht hi
 refine R0 ?_
 refine aB fun K hK => Rg ?_
 have F := aI @Int.natCast_nonneg (aI @Int.ofNat_lt (aI hi (nM hi)))
 iterate 6 refine SF ?_
 refine T2 (hK _ _ _ ?_)
 clear hK K
 have F := hwi
 refine RF ?_
 refine aB fun K hK => ?_
 have key : ∀ fr ob nx, l[i].k ≠ 1 → Fits 2 fr ob (fin [(0, .own 1 (L.length + 1)), (1, .c (.slc (l.map Nd.cv))), (2, .c (.int .i64 ((i + 1 : Nat) : Int))), (8, .ptr 26 0)]) (fob [(0, .tab tabs), (1, .row 60 1 ((L ++ [wlN l[i]]).map lsC)), (26, .box 40 (.c l[i].cv))]) 300 → K fr ob nx := by
  rintro fr ob nx hk1 hf
  refine hK _ _ _ (bS hf ?_)
  clear hf hK K
  refine aB fun K hK => ?_
  refine R0 ?_
  refine aK ?_
  refine bE (α := {k : Nat // k ≤ l[i].c.toNat}) (fun k => (fin [(0, .own 1 (L.length + 1 + (dV l i k.1).length)), (1, .c (.slc (l.map Nd.cv))), (2, .c (.int .i64 (cJ l k.1 (i + 1) : Nat))), (48, .c (.int .i64 l[i].c)), (49, .c (.int .i64 k.1))], fob [(0, .tab tabs), (1, .row 60 1 ((L ++ wlN l[i] :: dV l i k.1).map lsC))])) 2000 (fun k => l[i].c.toNat - k.1) ⟨0, by omega⟩ (aN (by omega) (by simp [bA, fin_at, finA_at, upd_at, HV.men, HV.menL, HV.norm, HV.toC, HV.toCL, lT, cJ]) (by simp [aX, fob_at, upd_at, none0_at, bY, HO.men, HV.men, HV.menL, HV.norm, HV.toC, HV.toCL, lT, cJ])) ?_
  rintro ⟨k, hk⟩
  obtain ⟨k1, k2, k3⟩ := fT ht hi k hk
  have hkl := aL3 ht hi hk hk1
  refine R0 ?_
  refine aB fun K hK => ?_
  refine aH (b := decide ((k : Int) < l[i].c)) rfl (fun hb => ?_) (fun hb => ?_)
  ·
   have hlt : k < l[i].c.toNat := by simp at hb; omega
   have hkid := iD ht hi hlt
   clear hb
   obtain ⟨M, hM⟩ : ∃ M, M = L ++ wlN l[i] :: dV l i k := ⟨_, rfl⟩
   have hMl : L.length + 1 + (dV l i k).length = M.length := by rw [hM]; simp; omega
   rw [← hM, hMl]
   refine aJ ?_
   refine T0 (hK _ _ _ ?_)
   clear hK K
   refine aB fun K hK => ?_
   refine aK ?_
   refine Rg ?_
   iterate 3 refine S0 ?_
   refine HS rfl rfl fun K' hK' => T5 ?_
   refine kC [0, 1] (ih (l.length - cJ l k (i + 1)) (by omega) M (cJ l k (i + 1)) hkid (by omega) (by omega) (by omega)) rfl ⟨rfl, rfl, trivial⟩ (by simp) (by simp) ⟨rfl, rfl, rfl, rfl⟩ (by simp [fX, HO.men, HV.men, HV.menL]) (by simp [HV.menL, HV.men]) ?_
   rintro r os' ⟨rfl, rfl⟩
   rw [aR0, aL1]
   refine AX (hK' _ _ ?_)
   clear hK' K'
   iterate 5 refine S0 ?_
   refine T2 (hK _ _ _ ?_)
   clear hK K
   refine aL (by kernel_rfl) ?_
   refine TQ (IntWalk.i64_in ((k : Int) + 1) (by omega)) ?_
   refine ⟨⟨k + 1, hlt⟩, ?_, ?_⟩
   ·
    have e1 : M ++ jK l (cJ l k (i + 1)) = L ++ wlN l[i] :: dV l i (k + 1) := by rw [hM, qJ ht hi hlt]; simp
    have e2 : (M ++ jK l (cJ l k (i + 1))).length = L.length + 1 + (dV l i (k + 1)).length := by rw [e1]; simp; omega
    simp only []
    rw [← e1, ← e2, cK]
    exact fF
   show l[i].c.toNat - (k + 1) < l[i].c.toNat - k
   omega
  refine aZ (T3 ?_)
  clear hK K
  refine AX (hK _ _ _ ?_)
  clear hK K
  have hke : k = l[i].c.toNat := by simp at hb; omega
  subst hke
  rw [wP ht hi] at hkl k3
  clear hb
  refine aB fun K hK => bG (by kernel_rfl) ?_
  simp only [sR, simprocAttr]
  have F := aI @lD @lC
  refine SGF ?_
  refine cV (g := none) 2008 rfl rfl fun K' hK' => ?_
  simp only [gZ, kX, sH, ↓sP, sA, tyS, simprocAttr, lD, lC]
  repeat refine AI ?_
  refine dJ (by first | rfl | simp) ?_
  try simp only [sH, ↓sP, sA, tyS, simprocAttr, lD, lC]
  refine AX (hK' _ _ ?_)
  clear hK' K'
  iterate 5 refine SGF ?_
  refine T2 (hK _ _ _ ?_)
  clear hK K
  refine aF (RT Tryz.results52 ?_)
  rw [tH ht hi hk1, wP ht hi]
  exact wQ (M := L ++ wlN l[i] :: (dV l i l[i].c.toNat ++ [[wEnd]])) rfl rfl (by simp) (by simp [lsC, wEnd])
 refine R0 ?_
 refine aK ?_
 refine R0 ?_
 refine aH (b := (l[i].k == 1)) rfl (fun hb => ?_) (fun hb => ?_)
 ·
  have hk : l[i].k = 1 := by simpa using hb
  obtain ⟨⟨r1, r2⟩, r3, r4⟩ := bN5 (bU8 hnode hk)
  clear hb
  refine aB fun K hK => Rg ?_
  have F := aI @lD @lC
  iterate 3 refine SF ?_
  refine HS rfl rfl fun K' hK' => T6 ?_
  refine eP (args := [_]) 0 (bN4 l[i].q ⟨by omega, by omega⟩ ⟨by omega, by omega⟩) rfl (by simp) ⟨rfl, rfl, rfl, rfl⟩ ?_
  rintro u rfl
  refine AX (hK' _ _ ?_)
  clear hK' K'
  iterate 5 refine SF ?_
  refine T2 (hK _ _ _ ?_)
  clear hK K
  refine aF (RT Tryz.results52 ?_)
  rw [wC hi hk, aL2 ht hi hk]
  exact wQ (M := L ++ [wlR l[i].q]) rfl rfl (by simp) (by simp)
 have hk1 : l[i].k ≠ 1 := by simpa using hb
 clear hb
 refine R0 ?_
 refine aH (b := (l[i].k == 2)) rfl (fun hb => ?_) (fun hb => ?_)
 ·
  have hk : l[i].k = 2 := by simpa using hb
  have hwl : wlN l[i] = [pD] := by simp [wlN, hk]
  clear hb
  refine bG (by kernel_rfl) ?_
  simp only [sR, simprocAttr]
  refine SG0 ?_
  refine cV (g := none) 74 rfl rfl fun K' hK' => ?_
  simp only [gZ, kX, sH, ↓sP, sA, tyS, simprocAttr]
  repeat refine AI ?_
  refine dJ (by first | rfl | simp) ?_
  try simp only [sH, ↓sP, sA, tyS, simprocAttr]
  refine AX (hK' _ _ ?_)
  clear hK' K'
  iterate 3 refine SG0 ?_
  refine T4 ?_
  exact key _ _ _ hk1 (by rw [hwl]; exact aN (by omega) (by simp [bA, fin_at, finA_at, upd_at, HV.men, HV.menL, HV.norm, HV.toC, HV.toCL, lsC, pD, pE, dC]) (by simp [aX, fob_at, upd_at, none0_at, bY, HO.men, HV.men, HV.menL, HV.norm, HV.toC, HV.toCL, lsC, pD, pE, dC]))
 have hk2 : l[i].k ≠ 2 := by simpa using hb
 clear hb
 refine R0 ?_
 refine aH (b := (l[i].k == 3)) rfl (fun hb => ?_) (fun hb => ?_)
 ·
  have hk : l[i].k = 3 := by simpa using hb
  have hwl : wlN l[i] = [pE] := by simp [wlN, hk]
  clear hb
  refine bG (by kernel_rfl) ?_
  simp only [sR, simprocAttr]
  refine SG0 ?_
  refine cV (g := none) 82 rfl rfl fun K' hK' => ?_
  simp only [gZ, kX, sH, ↓sP, sA, tyS, simprocAttr]
  repeat refine AI ?_
  refine dJ (by first | rfl | simp) ?_
  try simp only [sH, ↓sP, sA, tyS, simprocAttr]
  refine AX (hK' _ _ ?_)
  clear hK' K'
  iterate 3 refine SG0 ?_
  refine T4 ?_
  exact key _ _ _ hk1 (by rw [hwl]; exact aN (by omega) (by simp [bA, fin_at, finA_at, upd_at, HV.men, HV.menL, HV.norm, HV.toC, HV.toCL, lsC, pD, pE, dC]) (by simp [aX, fob_at, upd_at, none0_at, bY, HO.men, HV.men, HV.menL, HV.norm, HV.toC, HV.toCL, lsC, pD, pE, dC]))
 have hk3 : l[i].k ≠ 3 := by simpa using hb
 have hk4 := bU7 hnode hk1 hk2 hk3
 clear hb
 refine R0 ?_
 refine aH (b := (l[i].k == 4)) rfl (fun hb => ?_) (fun hb => ?_)
 ·
  have hwl : wlN l[i] = [dC, numW l[i].n] := by simp [wlN, hk2, hk3]
  have hnn := bU9 hnode hk4
  clear hb
  refine bG (by kernel_rfl) ?_
  simp only [sR, simprocAttr]
  iterate 3 refine SG0 ?_
  refine bJ (g := none) rfl rfl fun K' hK' => T5 ?_
  refine eP (args := [_]) 0 (wO l[i].n ⟨by omega, by omega⟩) rfl (by simp) ⟨rfl, rfl, rfl, rfl⟩ ?_
  rintro u rfl
  refine AX (hK' _ _ ?_)
  clear hK' K'
  refine cV (g := none) 102 rfl rfl fun K' hK' => ?_
  simp only [gZ, kX, sH, ↓sP, sA, tyS, simprocAttr]
  repeat refine AI ?_
  refine dJ (by first | rfl | simp) ?_
  try simp only [sH, ↓sP, sA, tyS, simprocAttr]
  refine AX (hK' _ _ ?_)
  clear hK' K'
  iterate 3 refine SG0 ?_
  refine T4 ?_
  exact key _ _ _ hk1 (by rw [hwl]; exact aN (by omega) (by simp [bA, fin_at, finA_at, upd_at, HV.men, HV.menL, HV.norm, HV.toC, HV.toCL, lsC, pD, pE, dC]) (by simp [aX, fob_at, upd_at, none0_at, bY, HO.men, HV.men, HV.menL, HV.norm, HV.toC, HV.toCL, lsC, pD, pE, dC]))
 rw [hk4] at hb
 cases hb

end Go.Proofs.YtlldglbooaefhaaGreatDoor

namespace Go.Pl
open Go Go.Hl

theorem zJ : ∀ (l : List Pr) (i : Nat), fU l = true → fU (l.take i) = true
 | [], i, h => by simpa using h
 | r :: l, 0, h => rfl
 | r :: l, i + 1, h => by
  simp only [fU, Bool.and_eq_true, Bool.not_eq_true'] at h
  simp only [List.take_succ_cons, fU, Bool.and_eq_true, Bool.not_eq_true']
  refine ⟨?_, zJ l i h.2⟩
  rw [← Bool.not_eq_true, List.contains_iff_mem] at h ⊢
  intro hm
  rw [List.map_take] at hm
  exact h.1 (List.mem_of_mem_take hm)
def bC4 (l : List Pr) (r : Pr) : Bool := (l.map Pr.a).contains r.a || (!dN r.a || (!(gL r.b).isSome || (!(gL r.c).isSome || (!inB r.g 0 vA || !cP r.t))))
structure RlSt (l : List Pr) (i : Nat) : Prop where
 le : i ≤ l.length
 all : (l.take i).all kE = true
 apart : fU (l.take i) = true
theorem RlSt.zero (l : List Pr) : RlSt l 0 := ⟨by omega, by simp, by simp [fU]⟩
theorem aV6 (l : List Pr) (r : Pr) : bC4 l r = !(!(l.map Pr.a).contains r.a && kE r) := by
 simp only [bC4, kE]
 cases (l.map Pr.a).contains r.a <;> cases dN r.a <;> cases (gL r.b).isSome <;> cases (gL r.c).isSome <;> cases inB r.g 0 vA <;> cases cP r.t <;> rfl
theorem RlSt.succ {l : List Pr} {i : Nat} (h : RlSt l i) (hi : i < l.length) (hb : bC4 (l.take i) l[i] = false) : RlSt l (i + 1) := by
 rw [aV6] at hb
 simp only [Bool.not_eq_false', Bool.and_eq_true] at hb
 refine ⟨hi, ?_, ?_⟩
 ·
  rw [List.take_succ_eq_append_getElem hi, List.all_append, h.all, List.all_cons, hb.2]; rfl
 ·
  rw [List.take_succ_eq_append_getElem hi, tG, h.apart, hb.1]; rfl
theorem bV0 {l : List Pr} {i : Nat} (hi : i < l.length) (hb : bC4 (l.take i) l[i] = true) : (l.all kE && fU l) = false := by
 rw [Bool.eq_false_iff]
 intro h
 simp only [Bool.and_eq_true] at h
 have h1 := zJ l (i + 1) h.2
 rw [List.take_succ_eq_append_getElem hi, tG] at h1
 simp only [Bool.and_eq_true] at h1
 have h2 := List.all_eq_true.1 h.1 _ (List.getElem_mem hi)
 rw [aV6, h1.2, h2] at hb
 cases hb
theorem bV1 {p : Po} (h : (p.r.all kE && fU p.r) = false) : fV p = false := by
 simp only [fV, h, Bool.and_false]
def nmD (l : List Pr) : MD := l.foldl (fun D r => jO D r.a (.val (.bool true))) []
theorem bN8 (l : List Pr) (r : Pr) : nmD (l ++ [r]) = jO (nmD l) r.a (.val (.bool true)) := by simp [nmD, List.foldl_append]
theorem cF0 (D : MD) (k j : aE) (h : k ≠ j) (m : MV) : cD (jO D k m) j = cD D j := by
 induction D with
 | nil => simp [jO, cD, h]
 | cons x D ih =>
  obtain ⟨a, b⟩ := x
  simp only [jO]
  split
  ·
   rename_i e; subst e; simp [cD, h]
  ·
   simp only [cD, ih]
theorem bN9 (s : aE) : ∀ (l : List Pr) (D : MD), cD (l.foldl (fun D r => jO D r.a (.val (.bool true))) D) s = if (l.map Pr.a).contains s then some (.val (.bool true)) else cD D s
 | [], D => rfl
 | r :: l, D => by
  rw [List.foldl_cons, bN9 s l, List.map_cons, List.contains_cons]
  by_cases h : r.a = s
  ·
   subst h
   rw [cC]
   simp
  ·
   rw [cF0 _ _ _ h]
   have h2 : (s == r.a) = false := by simp [Ne.symm h]
   rw [h2, Bool.false_or]
theorem aV7 (s : aE) (l : List Pr) : cD (nmD l) s = if (l.map Pr.a).contains s then some (.val (.bool true)) else none := bN9 s l []
def xK (p : Po) : Bool := !dN p.n || (!inB p.v 1 1099511627776 || decide ((16 : Int) < p.r.length))
def nL (c : Bool) (r : Pr) : Bool := c || (!dN r.a || (!(gL r.b).isSome || (!(gL r.c).isSome || (!inB r.g 0 1099511627776 || !cP r.t))))
theorem aL4 (l : List Pr) (r : Pr) : nL ((l.map Pr.a).contains r.a) r = bC4 l r := by simp only [nL, bC4, iF]
theorem bC5 {p : Po} (h : xK p = true) : fV p = false := by
 unfold xK at h
 rw [fV, iF]
 cases h1 : dN p.n
 ·
  rfl
 ·
  cases h2 : inB p.v 1 1099511627776
  ·
   rfl
  ·
   rw [h1, h2] at h
   have : (decide (p.r.length ≤ 16)) = false := by simp at h ⊢; omega
   rw [this]; rfl
theorem bO0 {p : Po} (h : xK p = false) (h2 : RlSt p.r p.r.length) : fV p = true := by
 unfold xK at h
 rw [fV, iF]
 have h3 := h2.all
 have h4 := h2.apart
 rw [List.take_length] at h3 h4
 simp only [Bool.or_eq_false_iff, Bool.not_eq_false', decide_eq_false_iff_not] at h
 have : (decide (p.r.length ≤ 16)) = true := by simp; omega
 rw [h.1, h.2.1, this, h3, h4]; rfl
structure PoSz (p : Po) : Prop where
 n : p.n.length < 2 ^ 63
 r : p.r.length < 2 ^ 40
 a : ∀ r ∈ p.r, r.a.length < 2 ^ 63
 t : ∀ r ∈ p.r, ∀ n ∈ r.t, n.q.t.length < 2 ^ 63
end Go.Pl

namespace Go.Proofs.YtlldglbooaefhaaGreatDoor
open Go Go.Hl Go.Pl
set_option maxRecDepth 10000
set_option maxHeartbeats 16000000

theorem sI (p : Po) (hp : PoSz p) : bQ Tryz.prog 29 [p.cv] (fun v => v = .bool (fV p)) := by
 have hpn := hp.n
 have hpr := hp.r
 refine FW Tryz.func29 ?_
 refine R0 ?_
 refine aB fun K hK => ?_
 refine aB fun K hK => ?_
 have key : ∀ (b : Bool) fr ob nx, b = xK p → Fits 0 fr ob (fin [(1, .ptr 0 0), (21, .c (.bool b))]) (fob [(0, .box 45 (.c p.cv))]) 600 → K fr ob nx := by
  rintro b fr ob nx rfl hf
  refine hK _ _ _ (bS hf ?_)
  clear hf hK K
  refine aH (b := xK p) rfl (fun hb => ?_) (fun hb => ?_)
  ·
   refine R0 ?_
   refine aF (RT Tryz.results29 ?_)
   exact aG [] (.bool false) rfl (by rw [bC5 hb])
  refine aJ ?_
  refine T0 (hK _ _ _ ?_)
  clear hK K
  refine R0 ?_
  refine aB fun K hK => ?_
  refine aB fun K hK => Rg ?_
  iterate 4 refine S0 ?_
  refine T2 (hK _ _ _ ?_)
  clear hK K
  refine aK ?_
  have hhead := hb
  clear hb
  refine bE (α := {i : Nat // RlSt p.r i}) (fun i => (fin [(3, .mapr 600), (24, .c (.slc (p.r.map Pr.cv))), (25, .c (.int .i64 p.r.length)), (26, .c (.int .i64 i.1))], fob [(600, .mp 0 0 (nmD (p.r.take i.1)))])) 2000 (fun i => p.r.length - i.1) ⟨0, RlSt.zero p.r⟩ (aN (by omega) (by simp [bA, fin_at, finA_at, upd_at, HV.men, HV.menL, HV.norm, HV.toC, HV.toCL, nmD]) (by simp [aX, fob_at, upd_at, none0_at, bY, HO.men, HV.men, HV.menL, HV.norm, HV.toC, HV.toCL, nmD])) ?_
  rintro ⟨i, hΦ⟩
  refine R0 ?_
  refine aB fun K hK => ?_
  refine aH (b := decide ((i : Int) < p.r.length)) rfl (fun hb => ?_) (fun hb => ?_)
  ·
   have hlt : i < p.r.length := by simpa using hb
   clear hb
   obtain ⟨r, hr⟩ : ∃ r, r = p.r[i] := ⟨_, rfl⟩
   have hmem : r ∈ p.r := by rw [hr]; exact List.getElem_mem hlt
   have hra := hp.a r hmem
   have hrt := hp.t r hmem
   have hra2 : r.a.length ≤ maxLen := by simp [maxLen]; omega
   have hiv : mG (cD (nmD (p.r.take i)) r.a) = true := by rw [aV7]; split <;> rfl
   have hva : Go.Hl.xR (CV.bool false) (cD (nmD (p.r.take i)) r.a) = CV.bool (((p.r.take i).map Pr.a).contains r.a) := by rw [aV7]; split <;> simp_all [Go.Hl.xR]
   refine aJ ?_
   refine T0 (hK _ _ _ ?_)
   clear hK K
   refine aB fun K hK => ?_
   refine aK ?_
   refine aB fun K hK => Rg ?_
   iterate 4 refine S0 ?_ (e := fun _ h_ => by simp only [sH, ↓sP, sA, tyS, simprocAttr, Int.natCast_nonneg, Int.ofNat_lt, hlt, bB hlt, ← hr]; exact AX h_)
   refine T2 (hK _ _ _ ?_)
   clear hK K
   refine aB fun K hK => ?_
   refine aB fun K hK => ?_
   have key : ∀ (b : Bool) fr ob nx, b = nL (((p.r.take i).map Pr.a).contains r.a) r → Fits 0 fr ob (fin [(3, .mapr 600), (24, .c (.slc (p.r.map Pr.cv))), (25, .c (.int .i64 p.r.length)), (26, .c (.int .i64 i)), (5, .ptr 2012 0), (63, .c (.bool b))]) (fob [(600, .mp 0 0 (nmD (p.r.take i))), (2012, .box 54 (.c r.cv))]) 3000 → K fr ob nx := by
    rintro b fr ob nx rfl hf
    refine hK _ _ _ (bS hf ?_)
    clear hf hK K
    refine aH (b := nL (((p.r.take i).map Pr.a).contains r.a) r) rfl (fun hb => ?_) (fun hb => ?_)
    ·
     refine R0 ?_
     refine aF (RT Tryz.results29 ?_)
     exact aG [] (.bool false) rfl (by rw [bV1 (bV0 hlt (by rw [← aL4, ← hr]; exact hb))])
    have hΦ2 := hΦ.succ hlt (by rw [← aL4, ← hr]; exact hb)
    have hnm : jO (nmD (p.r.take i)) r.a (.val (.bool true)) = nmD (p.r.take (i + 1)) := by rw [List.take_succ_eq_append_getElem hlt, bN8, hr]
    clear hb
    refine aJ ?_
    refine T0 (hK _ _ _ ?_)
    clear hK K
    refine Rg ?_
    have F := aI hra2 (aI hiv hnm)
    iterate 4 refine SF ?_
    refine T2 (hK _ _ _ ?_)
    clear hK K
    refine aL (by kernel_rfl) ?_
    refine TQ (IntWalk.i64_in ((i : Int) + 1) (by omega)) ?_
    refine ⟨⟨i + 1, hΦ2⟩, fF, ?_⟩
    show p.r.length - (i + 1) < p.r.length - i
    omega
   refine Rg ?_
   have F := aI hra2 (aI hiv hva)
   iterate 5 refine SF ?_
   refine aD 33 rfl (fun h7_33 => ?_) (fun h7_33 => ?_)
   ·
    have F := aI hra2 (aI hiv (aI hva h7_33))
    iterate 29 refine SF ?_
    refine T4 ?_
    exact key true _ _ _ (by simp only [nL, h7_33, Bool.not_true, Bool.not_false, Bool.true_or, Bool.false_or]) (fF)
   have F := aI hra2 (aI hiv (aI hva h7_33))
   iterate 2 refine SF ?_
   refine aU (g := some (34, false)) rfl rfl fun K' hK' => T6 ?_
   refine C1 (aB5 r.a (by omega)) ?_
   rintro u rfl
   refine AX (hK' _ _ ?_)
   clear hK' K'
   iterate 3 refine SF ?_
   refine aD 37 rfl (fun h7_37 => ?_) (fun h7_37 => ?_)
   ·
    have F := aI hra2 (aI hiv (aI hva (aI h7_33 h7_37)))
    iterate 2 refine SF ?_
    refine aU (g := some (40, false)) rfl rfl fun K' hK' => T6 ?_
    refine C1 (aV1 r.b) ?_
    rintro u rfl
    refine AX (hK' _ _ ?_)
    clear hK' K'
    iterate 3 refine SF ?_
    refine aD 43 rfl (fun h7_43 => ?_) (fun h7_43 => ?_)
    ·
     have F := aI hra2 (aI hiv (aI hva (aI h7_33 (aI h7_37 h7_43))))
     iterate 2 refine SF ?_
     refine aU (g := some (46, false)) rfl rfl fun K' hK' => T6 ?_
     refine C1 (aV1 r.c) ?_
     rintro u rfl
     refine AX (hK' _ _ ?_)
     clear hK' K'
     iterate 3 refine SF ?_
     refine aD 49 rfl (fun h7_49 => ?_) (fun h7_49 => ?_)
     ·
      have F := aI hra2 (aI hiv (aI hva (aI h7_33 (aI h7_37 (aI h7_43 h7_49)))))
      iterate 2 refine SF ?_
      refine aU (g := some (52, false)) rfl rfl fun K' hK' => T6 ?_
      refine C3 (gT _ _ _) ?_
      rintro u rfl
      refine AX (hK' _ _ ?_)
      clear hK' K'
      iterate 3 refine SF ?_
      refine aD 55 rfl (fun h7_55 => ?_) (fun h7_55 => ?_)
      ·
       have F := aI hra2 (aI hiv (aI hva (aI h7_33 (aI h7_37 (aI h7_43 (aI h7_49 h7_55))))))
       iterate 2 refine SF ?_
       refine aU (g := some (58, false)) rfl rfl fun K' hK' => T6 ?_
       refine C1 (qT r.t hrt) ?_
       rintro u rfl
       refine AX (hK' _ _ ?_)
       clear hK' K'
       iterate 2 refine SF ?_
       refine aD 61 rfl (fun h7_61 => ?_) (fun h7_61 => ?_)
       ·
        simp only [h7_61]
        refine T4 ?_
        exact key false _ _ _ (by simp only [nL, h7_33, h7_37, h7_43, h7_49, h7_55, h7_61, Bool.not_true, Bool.not_false, Bool.true_or, Bool.false_or]) (fF)
       simp only [h7_61]
       refine T4 ?_
       exact key true _ _ _ (by simp only [nL, h7_33, h7_37, h7_43, h7_49, h7_55, h7_61, Bool.not_true, Bool.not_false, Bool.true_or, Bool.false_or]) (fF)
      have F := aI hra2 (aI hiv (aI hva (aI h7_33 (aI h7_37 (aI h7_43 (aI h7_49 h7_55))))))
      iterate 5 refine SF ?_
      refine T4 ?_
      exact key true _ _ _ (by simp only [nL, h7_33, h7_37, h7_43, h7_49, h7_55, Bool.not_true, Bool.not_false, Bool.true_or, Bool.false_or]) (fF)
     have F := aI hra2 (aI hiv (aI hva (aI h7_33 (aI h7_37 (aI h7_43 h7_49)))))
     iterate 11 refine SF ?_
     refine T4 ?_
     exact key true _ _ _ (by simp only [nL, h7_33, h7_37, h7_43, h7_49, Bool.not_true, Bool.not_false, Bool.true_or, Bool.false_or]) (fF)
    have F := aI hra2 (aI hiv (aI hva (aI h7_33 (aI h7_37 h7_43))))
    iterate 17 refine SF ?_
    refine T4 ?_
    exact key true _ _ _ (by simp only [nL, h7_33, h7_37, h7_43, Bool.not_true, Bool.not_false, Bool.true_or, Bool.false_or]) (fF)
   have F := aI hra2 (aI hiv (aI hva (aI h7_33 h7_37)))
   iterate 23 refine SF ?_
   refine T4 ?_
   exact key true _ _ _ (by simp only [nL, h7_33, h7_37, Bool.not_true, Bool.not_false, Bool.true_or, Bool.false_or]) (fF)
  refine aZ (T3 ?_)
  clear hK K
  refine AX (hK _ _ _ ?_)
  clear hK K
  refine R0 ?_
  refine aF (RT Tryz.results29 ?_)
  have hie : i = p.r.length := by have := hΦ.le; simp at hb; omega
  subst hie
  exact aG [] (.bool true) rfl (by rw [bO0 hhead hΦ])
 refine Rg ?_
 iterate 2 refine S0 ?_
 refine HS rfl rfl fun K' hK' => T5 ?_
 refine C1 (aB5 p.n (by omega)) ?_
 rintro u rfl
 refine AX (hK' _ _ ?_)
 clear hK' K'
 iterate 2 refine S0 ?_
 refine aD 8 rfl (fun h1_8 => ?_) (fun h1_8 => ?_)
 ·
  have F := h1_8
  iterate 2 refine SF ?_
  refine aU (g := some (10, false)) rfl rfl fun K' hK' => T6 ?_
  refine C3 (gT _ _ _) ?_
  rintro u rfl
  refine AX (hK' _ _ ?_)
  clear hK' K'
  iterate 3 refine SF ?_
  refine aD 13 rfl (fun h1_13 => ?_) (fun h1_13 => ?_)
  ·
   have F := aI h1_8 h1_13
   iterate 5 refine SF ?_
   refine aD 20 rfl (fun h1_20 => ?_) (fun h1_20 => ?_)
   ·
    simp only [h1_20]
    refine T4 ?_
    exact key true _ _ _ (by simp only [xK, h1_8, h1_13, h1_20, Bool.not_true, Bool.not_false, Bool.true_or, Bool.false_or]) (fF)
   simp only [h1_20]
   refine T4 ?_
   exact key false _ _ _ (by simp only [xK, h1_8, h1_13, h1_20, Bool.not_true, Bool.not_false, Bool.true_or, Bool.false_or]) (fF)
  have F := aI h1_8 h1_13
  iterate 5 refine SF ?_
  refine T4 ?_
  exact key true _ _ _ (by simp only [xK, h1_8, h1_13, Bool.not_true, Bool.not_false, Bool.true_or, Bool.false_or]) (fF)
 have F := h1_8
 iterate 11 refine SF ?_
 refine T4 ?_
 exact key true _ _ _ (by simp only [xK, h1_8, Bool.not_true, Bool.not_false, Bool.true_or, Bool.false_or]) (fF)

end Go.Proofs.YtlldglbooaefhaaGreatDoor

namespace Go.Pl
open Go Go.Hl

theorem bV2 (q : Rq) : (wlR q).length ≤ 5 := by
 unfold wlR
 repeat' split
 all_goals simp
theorem bV3 (n : Nd) : (wlN n).length ≤ 5 := by
 unfold wlN
 repeat' split
 all_goals simp
theorem tZ : ∀ (f m : Nat) (l : List Nd), ∀ x ∈ dP f m l, x.length ≤ 5
 | 0, m, l, x, h => by simp [dP] at h
 | f + 1, 0, l, x, h => by cases l <;> simp [dP] at h
 | f + 1, m + 1, [], x, h => by simp [dP] at h
 | f + 1, m + 1, n :: l, x, h => by
  simp only [dP] at h
  split at h
  ·
   rcases List.mem_cons.1 h with rfl | h
   ·
    exact bV2 _
   ·
    exact tZ f _ _ x h
  ·
   rcases List.mem_cons.1 h with rfl | h
   ·
    exact bV3 _
   ·
    rcases List.mem_append.1 h with h | h
    ·
     exact tZ f _ _ x h
    ·
     rcases List.mem_cons.1 h with rfl | h
     ·
      simp
     ·
      exact tZ f _ _ x h
theorem wR (t : List Nd) : jK t 0 = aP9 t := by simp [jK, aP9]
def pK (p : Po) (i : Nat) : List (List aE) := [wPolicy, p.n, numW p.v] :: (p.r.take i).flatMap jJ
theorem zK {p : Po} {i : Nat} (hi : i < p.r.length) : pK p (i + 1) = pK p i ++ jJ p.r[i] := by
 simp only [pK, List.take_succ_eq_append_getElem hi, List.flatMap_append, List.flatMap_cons, List.flatMap_nil, List.append_nil, List.cons_append]
theorem aL5 (p : Po) : pK p p.r.length = pF p := by simp [pK, pF]
theorem bC6 {r : Pr} (h : kE r = true) : (jJ r).length ≤ 121 := by
 obtain ⟨_, ht, _⟩ := wE h
 have h0 : 0 < r.t.length := ht.ne
 have h1 := bN6 ht h0
 have h2 := (iN ht h0).2.1
 have h3 := ht.len
 rw [wR] at h1
 simp only [jJ, List.length_cons]
 omega
theorem aL6 {p : Po} (h : ∀ r ∈ p.r, kE r = true) : ∀ i, i ≤ p.r.length → (pK p i).length ≤ 1 + 121 * i
 | 0, _ => by simp [pK]
 | i + 1, hi => by
  have := aL6 h i (by omega)
  have h2 := bC6 (h p.r[i] (List.getElem_mem _))
  rw [zK (by omega), List.length_append]
  omega
theorem bV4 (p : Po) : ∀ x ∈ pF p, x.length < 2 ^ 40 := by
 intro x hx
 have : x.length ≤ 5 := by
  simp only [pF] at hx
  rcases List.mem_cons.1 hx with rfl | hx
  ·
   simp
  ·
   obtain ⟨r, _, hx⟩ := List.mem_flatMap.1 hx
   simp only [jJ] at hx
   rcases List.mem_cons.1 hx with rfl | hx
   ·
    simp
   ·
    exact tZ _ _ _ x hx
 omega
end Go.Pl

namespace Go.Proofs.YtlldglbooaefhaaGreatDoor
open Go Go.Hl Go.Pl
set_option maxRecDepth 10000
set_option maxHeartbeats 16000000

theorem bO1 (ls : List (List aE)) (h0 : ls.length < 2 ^ 40) (h1 : ∀ l ∈ ls, l.length < 2 ^ 40) : mU Tryz.prog 53 [.slc (ls.map lsC)] (fun u v => u = .slc ((pX ls).map dY) ∧ v = .int .i64 (lM ls)) := bY9 ls h0 h1
theorem aR1 (N n : Nat) (ob : Ob) (e : TypeId) (sz : Nat) (T : kY) (L : List CV) : lO (sub [0, N] n) ob 0 [.tab T, .row e sz L] = upd (upd ob 0 (some (.tab T))) N (some (.row e sz L)) := rfl

theorem aV8 (p : Po) (hp : PoSz p) : aT5 Tryz.prog 27 tabs [p.cv] (fun u v => u = .slc ((rY p).map dY) ∧ v = .int .i64 (xG p)) := by
 refine bU (args := [.c p.cv]) Tryz.func27 rfl (by kernel_rfl) (eW tabs [p.cv]) (Nat.le_of_ble_eq_true rfl) ?_
 unfold eD
 refine R0 ?_
 refine aB fun K hK => ?_
 refine aB fun K hK => Rg ?_
 refine S0 ?_
 refine HS rfl rfl fun K' hK' => T5 ?_
 refine C1 (sI p hp) ?_
 rintro u rfl
 refine AX (hK' _ _ ?_)
 clear hK' K'
 refine S0 ?_
 refine T2 (hK _ _ _ ?_)
 clear hK K
 refine aH (b := !fV p) rfl (fun hb => ?_) (fun hb => ?_)
 ·
  refine R0 ?_
  refine aF (RT Tryz.results27 ?_)
  have hv : fV p = false := by simpa using hb
  refine tC [] (.slc []) (.int .i64 1) ?_ rfl (by simp) ⟨by rw [rY, hv]; rfl, by rw [xG, hv]; rfl⟩
  simp [HV.close, HV.closeL, CV.denil, CV.denilL, HV.norm, HV.toC, HV.toCL]
 refine aJ ?_
 refine T0 (hK _ _ _ ?_)
 clear hK K
 have hv : fV p = true := by simpa using hb
 clear hb
 obtain ⟨⟨v1, v2⟩, hr16, _, hrules⟩ := aU8 hv
 refine aB fun K hK => eV mixed [(0, [], []), (1, [], []), (2, [], []), (3, [], []), (4, [], [0, 1]), (5, [], []), (6, [], []), (7, [], [])] [0, 1, 0, 4, 12, 31, 63, 127] (by kernel_rfl) (by kernel_rfl) (by kernel_rfl) (by kernel_rfl) rfl (by kernel_rfl) ?_
 iterate 4 refine WG0 ?_
 refine iT (g := none) rfl rfl fun K' hK' => T5 ?_
 refine eP (args := [_]) 0 (wO p.v ⟨by omega, by omega⟩) rfl (by simp) ⟨rfl, rfl, rfl, rfl⟩ ?_
 rintro u rfl
 refine AX (hK' _ _ ?_)
 clear hK' K'
 refine oP (g := none) 45 rfl rfl fun K' hK' => ?_
 simp only [gZ, kX, sH, ↓sP, sA, tyS, simprocAttr]
 repeat refine AI ?_
 refine dJ (by first | rfl | simp) ?_
 try simp only [sH, ↓sP, sA, tyS, simprocAttr]
 refine AX (hK' _ _ ?_)
 clear hK' K'
 iterate 2 refine WG0 ?_
 refine T2 (hK _ _ _ ?_)
 clear hK K
 refine aB fun K hK => ?_
 refine aB fun K hK => Rg ?_
 iterate 4 refine S0 ?_
 refine T2 (hK _ _ _ ?_)
 clear hK K
 refine aK ?_
 refine bE (α := {i : Nat // i ≤ p.r.length}) (fun i => (fin [(4, .own 49 (pK p i.1).length), (18, .c (.slc (p.r.map Pr.cv))), (19, .c (.int .i64 p.r.length)), (20, .c (.int .i64 i.1))], fob [(0, .tab tabs), (49, .row 60 1 ((pK p i.1).map lsC))])) 2000 (fun i => p.r.length - i.1) ⟨0, by omega⟩ (aN (by omega) (by simp [bA, fin_at, finA_at, upd_at, HV.men, HV.menL, HV.norm, HV.toC, HV.toCL, pK, lsC, wPolicy]) (by simp [aX, fob_at, upd_at, none0_at, bY, HO.men, HV.men, HV.menL, HV.norm, HV.toC, HV.toCL, pK, lsC, wPolicy])) ?_
 rintro ⟨i, hi⟩
 have hll := aL6 hrules i hi
 have hl0 : 0 < (pK p i).length := by simp [pK]
 refine R0 ?_
 refine aB fun K hK => ?_
 refine aH (b := decide ((i : Int) < p.r.length)) rfl (fun hb => ?_) (fun hb => ?_)
 ·
  have hlt : i < p.r.length := by simpa using hb
  clear hb
  obtain ⟨r, hr⟩ : ∃ r, r = p.r[i] := ⟨_, rfl⟩
  have hrule := hrules r (by rw [hr]; exact List.getElem_mem hlt)
  obtain ⟨⟨g1, g2⟩, ht, _⟩ := wE hrule
  have ht0 : 0 < r.t.length := ht.ne
  have htl := ht.len
  obtain ⟨L, hL⟩ : ∃ L, L = pK p i := ⟨_, rfl⟩
  rw [← hL] at hll hl0 ⊢
  refine aJ ?_
  refine T0 (hK _ _ _ ?_)
  clear hK K
  refine aB fun K hK => ?_
  refine aK ?_
  refine aB fun K hK => Rg ?_
  iterate 4 refine S0 ?_ (e := fun _ h_ => by simp only [sH, ↓sP, sA, tyS, simprocAttr, Int.natCast_nonneg, Int.ofNat_lt, hlt, bB hlt, ← hr]; exact AX h_)
  refine T2 (hK _ _ _ ?_)
  clear hK K
  refine aB fun K hK => eV mixed [(0, [], []), (1, [], []), (2, [], []), (3, [], []), (4, [], []), (5, [], []), (6, [], []), (7, [], []), (8, [], []), (9, [], [0, 1, 2, 3, 4, 5, 6]), (10, [], []), (11, [], []), (12, [], []), (13, [], [])] [0, 0, 2, 0, 8, 0, 32, 0, 128, 384, 1022, 2046, 4095, 8191] (by kernel_rfl) (by kernel_rfl) (by kernel_rfl) (by kernel_rfl) rfl (by kernel_rfl) ?_
  iterate 9 refine WG0 ?_
  refine iT (g := none) rfl rfl fun K' hK' => T5 ?_
  refine eP (args := [_]) 0 (wO r.g ⟨by omega, by omega⟩) rfl (by simp) ⟨rfl, rfl, rfl, rfl⟩ ?_
  rintro u rfl
  refine AX (hK' _ _ ?_)
  clear hK' K'
  refine oP (g := none) 2060 rfl rfl fun K' hK' => ?_
  simp only [gZ, kX, sH, ↓sP, sA, tyS, simprocAttr]
  repeat refine AI ?_
  refine dJ (by first | rfl | simp) ?_
  try simp only [sH, ↓sP, sA, tyS, simprocAttr]
  refine AX (hK' _ _ ?_)
  clear hK' K'
  iterate 3 refine WG0 ?_
  refine T2 (hK _ _ _ ?_)
  clear hK K
  obtain ⟨M, hM⟩ : ∃ M, M = L ++ [[wRule, r.a, r.b, r.c, numW r.g]] := ⟨_, rfl⟩
  have hMm : List.map lsC L ++ [CV.slc [CV.str [114, 117, 108, 101], CV.str r.a, CV.str r.b, CV.str r.c, CV.str (numW r.g)]] = List.map lsC M := by rw [hM]; simp [lsC, wRule]
  have hMl : L.length + 1 = M.length := by rw [hM]; simp
  rw [hMm]
  simp only [List.length_map]
  refine Rg ?_
  iterate 3 refine S0 ?_
  refine HS rfl rfl fun K' hK' => T5 ?_
  refine kC [0, 49] (bN7 r.t ht r.t.length M 0 ht0 (by omega) (by rw [hM]; simp) (by rw [hM]; simp; omega)) rfl ⟨rfl, rfl, trivial⟩ (by simp) (by simp) ⟨rfl, rfl, rfl, rfl⟩ (by simp [fX, HO.men, HV.men, HV.menL]) (by simp [HV.menL, HV.men]) ?_
  rintro q os' ⟨rfl, rfl⟩
  rw [aR1, zH]
  refine AX (hK' _ _ ?_)
  clear hK' K'
  iterate 4 refine S0 ?_
  refine T2 (hK _ _ _ ?_)
  clear hK K
  refine aL (by kernel_rfl) ?_
  refine TQ (IntWalk.i64_in ((i : Int) + 1) (by omega)) ?_
  refine ⟨⟨i + 1, hlt⟩, ?_, ?_⟩
  ·
   have e1 : M ++ jK r.t 0 = pK p (i + 1) := by rw [zK hlt, hM, hL, wR, ← hr]; simp [jJ]
   rw [e1]
   exact fF
  show p.r.length - (i + 1) < p.r.length - i
  omega
 refine aZ (T3 ?_)
 clear hK K
 refine AX (hK _ _ _ ?_)
 clear hK K
 have hei : i = p.r.length := by simp at hb; omega
 subst hei
 clear hb
 rw [aL5]
 refine fE [49] (bS (fr2 := fin [(4, .c (.slc ((pF p).map lsC)))]) (ob2 := fob [(0, .tab tabs)]) (nx2 := 3000) (aN (by omega) (by simp [bA, kN, fin_at, finA_at, upd_at, fob_at, HV.close, HV.closeL, CV.denil, CV.denilL, aP, HV.men, HV.menL, HV.norm, HV.toC, HV.toCL]) (by simp [aX, kO, fob_at, upd_at, none0_at, bY, HO.close, HV.close, HV.closeL, HO.men, HV.men, HV.menL, HV.norm, HV.toC, HV.toCL])) ?_)
 rw [aL5] at hll
 refine aB fun K hK => Rg ?_
 have F := @aP
 refine SF ?_
 refine HS rfl rfl fun K' hK' => T6 ?_
 refine D1 (bO1 (pF p) (by omega) (bV4 p)) ?_
 rintro u v ⟨rfl, rfl⟩
 refine AX (hK' _ _ ?_)
 clear hK' K'
 iterate 4 refine SF ?_
 refine T2 (hK _ _ _ ?_)
 clear hK K
 refine aF (RT Tryz.results27 ?_)
 exact tC [] (.slc ((pX (pF p)).map dY)) (.int .i64 (lM (pF p))) (by simp [HV.close, HV.closeL, CV.denil, CV.denilL, dT, HV.norm, HV.toC, HV.toCL]) rfl (by simp) ⟨by rw [rY, if_pos hv], by rw [xG, if_pos hv]⟩

end Go.Proofs.YtlldglbooaefhaaGreatDoor

namespace Go.Hl
open Go
def aV9 (P : Program) (f : FuncId) (T : kY) (args : List CV) (R : CV → CV → CV → Prop) : Prop :=
 HFn P f (args.map .c) 1 (eD T) (fun r ob' => ∃ u v x, r = .tup [.c u, .c v, .c x] ∧ ob' = eD T ∧ R u v x)
theorem iL {ob : Ob} {r : HV} {T : kY} {R : CV → CV → CV → Prop} (cl : List Nat) (u v x : CV) (h : (r.close ob cl).norm = .tup [.c u, .c v, .c x]) (hb : ob 0 = some (.tab T)) (h0 : 0 ∉ cl) (hR : R u v x) :
  oJ 1 r ob (fun r ob' => ∃ u v x, r = .tup [.c u, .c v, .c x] ∧ ob' = eD T ∧ R u v x) :=
 ⟨cl, id, .tup [.c u, .c v, .c x], eD T, ⟨u, v, x, rfl, rfl, hR⟩, by grind [HV.ren, HV.renL], fun _ _ => rfl, fun _ _ _ _ h => h, by simp [HV.men, HV.menL], aO5 hb h0⟩
theorem aL7 {P : Program} {av : List Nat} {f : FuncId} {ob : Ob} {nid : Nat} {K : HV → Ob → Prop} {T : kY} {args : List CV} {R : CV → CV → CV → Prop} (id : Nat) (h : aV9 P f T args R) (hid : ob id = some (.tab T)) (hav : id ∉ av)
  (hfree : ob nid = none ∧ ob (nid + 1) = none ∧ ob (nid + 2) = none ∧ ob (nid + 3) = none) (hK : ∀ u v x, R u v x → K (.tup [.c u, .c v, .c x]) ob) : HCall P av f (args.map .c) ob nid K := by
 refine ⟨[id], args.map .c, _, _, h, eW T args, ⟨by simp, by grind⟩, (HV.renL_c _ _).symm, rQ hid, fun r lob' hR _ => ?_⟩
 obtain ⟨u, v, x, rfl, rfl, hR⟩ := hR
 rw [mX hid hfree]
 exact hK u v x hR
end Go.Hl

namespace Go.Pl
open Go Go.Hl

def LsB (ls : List (List aE)) : Prop := ∀ l ∈ ls, ∀ w ∈ l, w.length < 2 ^ 40
theorem LsB.drop {ls : List (List aE)} (h : LsB ls) (j : Nat) : LsB (ls.drop j) := fun l hl => h l (List.mem_of_mem_drop hl)
theorem cA3 {l : List aE} (h : ∀ w ∈ l, w.length < 2 ^ 40) (i : Nat) : (wd l i).length < 2 ^ 40 := by
 unfold wd
 rw [List.getD_eq_getElem?_getD]
 rcases Nat.lt_or_ge i l.length with hi | hi
 ·
  rw [List.getElem?_eq_getElem hi]; exact h _ (List.getElem_mem hi)
 ·
  rw [List.getElem?_eq_none hi]; simp
theorem cA4 {w : List aE} (h : ∀ x ∈ w, x.length < 2 ^ 40) {q : Rq} (hq : eR w = some q) : q.t.length < 2 ^ 40 := by
 have h1 := cA3 h 1
 have hm : ∀ (k : Int) (o : Option Int), o.map (fun n => (⟨k, n, 0, []⟩ : Rq)) = some q → q.t.length < 2 ^ 40 := fun k o ho => by
  cases o with
  | none => cases ho
  | some n => cases ho; simp
 unfold eR at hq
 split at hq
 ·
  exact hm _ _ hq
 ·
  split at hq
  ·
   cases hq; exact h1
  ·
   split at hq
   ·
    exact hm _ _ hq
   ·
    split at hq
    ·
     split at hq
     ·
      cases hq; simp
     ·
      cases hq
    ·
     split at hq
     ·
      exact hm _ _ hq
     ·
      split at hq
      ·
       exact hm _ _ hq
      ·
       split at hq
       ·
        exact hm _ _ hq
       ·
        split at hq
        ·
         cases hq; simp
        ·
         cases hq
theorem cA5 {w : List aE} {n : Nd} (h : jL w = some n) : n.q = rq0 := by
 unfold jL at h
 split at h
 ·
  cases h; rfl
 ·
  split at h
  ·
   cases h; rfl
  ·
   split at h
   ·
    cases hn : bH (wd w 1) with
    | none => rw [hn] at h; cases h
    | some x => rw [hn] at h; cases h; rfl
   ·
    cases h
theorem cF1 : ∀ f, (∀ ls, LsB ls → ∀ t, (rdN f ls).1 = some t → ∀ n ∈ t, n.q.t.length < 2 ^ 40) ∧ (∀ ls, LsB ls → ∀ p, (rdK f ls).1 = some p → ∀ n ∈ p.1, n.q.t.length < 2 ^ 40)
 | 0 => ⟨fun ls _ t h => by simp [rdN] at h, fun ls _ t h => by simp [rdK] at h⟩
 | f + 1 => by
  obtain ⟨ihN, ihK⟩ := cF1 f
  refine ⟨fun ls hb t h => ?_, fun ls hb p h => ?_⟩
  ·
   match ls with
   | [] => simp [rdN] at h
   | w :: r =>
    cases h1 : eR w with
    | some q =>
     rw [nJ h1] at h
     cases h
     intro n hn
     rw [List.mem_singleton] at hn
     subst hn
     exact cA4 (hb w (by simp)) h1
    | none =>
     cases h2 : jL w with
     | none => rw [nK h1 h2] at h; cases h
     | some n =>
      rw [oG h1 h2] at h
      cases hk : (rdK f r).1 with
      | none => simp [xJ, hk] at h
      | some p =>
       simp only [xJ, hk, Option.map_some, Option.some.injEq] at h
       subst h
       intro x hx
       rcases List.mem_cons.1 hx with rfl | hx
       ·
        rw [cA5 h2]; simp [rq0]
       ·
        exact ihK r (fun l hl => hb l (by simp [hl])) p hk x hx
  ·
   cases he : iG (ls.headD []) with
   | true => rw [aC7 he] at h; cases h; simp
   | false =>
    match h2 : rdN f ls with
    | (none, r) => rw [aQ9 he h2] at h; cases h
    | (some t, r) =>
     rw [wN he h2] at h
     obtain ⟨j, hj, _⟩ := (aC8 f).1 ls
     rw [h2] at hj
     have hj' : r = ls.drop j := hj
     cases hk : (rdK f r).1 with
     | none => simp [pJ, hk] at h
     | some q =>
      simp only [pJ, hk, Option.map_some, Option.some.injEq] at h
      subst h
      intro x hx
      rcases List.mem_append.1 hx with hx | hx
      ·
       exact ihN ls hb t (by rw [h2]) x hx
      ·
       exact ihK r (by rw [hj']; exact hb.drop j) q hk x hx
def cA6 (r : Pr) : Prop := r.a.length < 2 ^ 40 ∧ ∀ n ∈ r.t, n.q.t.length < 2 ^ 63
theorem cF2 {ls : List (List aE)} (hb : LsB ls) {x : Pr} (h : (rdR ls).1 = some x) : cA6 x := by
 match ls with
 | [] => cases h
 | w :: r =>
  simp only [rdR] at h
  split at h
  ·
   cases hn : bH (wd w 4) with
   | none => rw [hn] at h; cases h
   | some g =>
    rw [hn] at h
    simp only at h
    match hm : rdT r with
    | (none, r') => rw [hm] at h; cases h
    | (some t, r') =>
     rw [hm] at h
     cases h
     have h1 := (cF1 (2 * r.length + 2)).1 r (fun l hl => hb l (by simp [hl])) t (by have := hm; unfold rdT at this; rw [this])
     exact ⟨cA3 (hb w (by simp)) 1, fun n hn => Nat.lt_trans (h1 n hn) (by decide)⟩
  ·
   cases h
theorem bO2 : ∀ (f : Nat) (ls : List (List aE)) (acc : List Pr), LsB ls → (∀ r ∈ acc, cA6 r) → ∀ l, (jS f ls acc).1 = some l → (∀ r ∈ l, cA6 r) ∧ l.length ≤ acc.length + f
 | 0, ls, acc, _, _, l, h => by simp [jS] at h
 | f + 1, ls, acc, hb, ha, l, h => by
  simp only [jS] at h
  split at h
  ·
   cases h; exact ⟨ha, by omega⟩
  ·
   match hm : rdR ls with
   | (none, r) => rw [hm] at h; cases h
   | (some x, r) =>
    rw [hm] at h
    obtain ⟨j, _, hj, _⟩ := aC9 ls
    rw [hm] at hj
    have hj' : r = ls.drop j := hj
    have hx := cF2 hb (x := x) (by rw [hm])
    obtain ⟨h1, h2⟩ := bO2 f r (acc ++ [x]) (by rw [hj']; exact hb.drop j) (fun y hy => by
     rcases List.mem_append.1 hy with hy | hy
     ·
      exact ha y hy
     ·
      rw [List.mem_singleton] at hy; rw [hy]; exact hx) l h
    exact ⟨h1, by simp at h2; omega⟩
theorem cF3 {ls : List (List aE)} (hb : LsB ls) (hl : ls.length < 2 ^ 39) {p : Po} (h : (rdP ls).1 = some p) : PoSz p := by
 match ls with
 | [] => cases h
 | w :: r =>
  simp only [rdP] at h
  split at h
  ·
   cases hn : bH (wd w 2) with
   | none => rw [hn] at h; cases h
   | some v =>
    rw [hn] at h
    simp only at h
    match hm : jS (r.length + 1) r [] with
    | (none, r') => rw [hm] at h; cases h
    | (some l, r') =>
     rw [hm] at h
     cases h
     obtain ⟨h1, h2⟩ := bO2 (r.length + 1) r [] (fun x hx => hb x (by simp [hx])) (by simp) l (by rw [hm])
     simp only [List.length_cons, List.length_nil] at hl h2
     exact ⟨Nat.lt_of_lt_of_le (cA3 (hb w (by simp)) 1) (by decide), by simp only; omega, fun x hx => Nat.lt_of_lt_of_le (h1 x hx).1 (by decide), fun x hx => (h1 x hx).2⟩
  ·
   cases h
end Go.Pl

namespace Go.Proofs.YtlldglbooaefhaaGreatDoor
open Go Go.Hl Go.Pl
set_option maxRecDepth 10000
set_option maxHeartbeats 16000000

theorem bV5 (b : aE) : LsB (fA b) := fun l hl w hw => by
 have := (bS3 (b := b) l hl).2.2 w hw
 omega

theorem bC7 (a b : aE) : bQ Tryz.prog 64 [.slc (a.map dY), .slc (b.map dY)] (fun v => v = .bool (a == b)) := by
 refine FW Tryz.func64 ?_
 refine R0 ?_
 refine aB fun K hK => Rg ?_
 have F := @bytesC_map
 iterate 6 refine SF ?_
 refine T2 (hK _ _ _ ?_)
 clear hK K
 refine aF (RT Tryz.results64 ?_)
 exact aG [] (.bool (a == b)) rfl rfl


theorem bV6 (b : aE) (hl : b.length < 2 ^ 40) : aV9 Tryz.prog 32 tabs [.slc (b.map u8)] (fun u v x => u = (dpO b).cv ∧ v = .int .i64 (dpL b : Nat) ∧ x = .int .i64 (dpE b)) := by
 refine bU (args := [.c (.slc (b.map u8))]) Tryz.func32 rfl (by kernel_rfl) (eW tabs [.slc (b.map u8)]) (Nat.le_of_ble_eq_true rfl) ?_
 unfold eD
 have hlen := bI8 (b := b)
 refine R0 ?_
 refine aB fun K hK => Rg ?_
 have F := @denilL_u8
 refine SF ?_
 refine HS rfl rfl fun K' hK' => T6 ?_
 refine D1 (bZ9 b hl) ?_
 rintro u v ⟨rfl, rfl⟩
 refine AX (hK' _ _ ?_)
 clear hK' K'
 iterate 5 refine SF ?_
 refine T2 (hK _ _ _ ?_)
 clear hK K
 refine aB fun K hK => ?_
 refine R0 ?_
 refine aH (b := !(iM b == 0)) rfl (fun hb => ?_) (fun hb => ?_)
 ·
  have he : iM b ≠ 0 := by simpa using hb
  have e1 : dpE b = iM b := by rw [dpE, if_pos he]
  have e2 : dpL b = 0 := by rw [dpL, if_pos he]
  have e3 : dpO b = po0 := by rw [dpO, e1, if_neg he]
  clear hb
  refine aB fun K hK => Rg ?_
  iterate 5 refine S0 ?_
  refine T2 (hK _ _ _ ?_)
  clear hK K
  refine aF (RT Tryz.results32 ?_)
  exact iL [] po0.cv (.int .i64 0) (.int .i64 (iM b)) (by simp [HV.close, HV.closeL, po0, Po.cv, CV.denil, CV.denilL, HV.norm, HV.toC, HV.toCL]) rfl (by simp) (by rw [e1, e2, e3]; exact ⟨rfl, rfl, rfl⟩)
 refine aJ ?_
 refine T0 (hK _ _ _ ?_)
 clear hK K
 have he : iM b = 0 := by simpa using hb
 clear hb
 refine aB fun K hK => Rg ?_
 iterate 4 refine S0 ?_
 refine T2 (hK _ _ _ ?_)
 clear hK K
 refine aB fun K hK => Rg ?_
 refine S0 ?_
 refine HS rfl rfl fun K' hK' => T5 ?_
 refine dR (args := []) (bN3 (fA b) (by omega)) rfl (by simp) ⟨rfl, rfl, rfl, rfl⟩ ?_
 rintro u x v' ⟨q, rfl, rfl, rfl, hq⟩
 refine AX (hK' _ _ ?_)
 clear hK' K'
 iterate 5 refine S0 ?_
 refine T2 (hK _ _ _ ?_)
 clear hK K
 refine aB fun K hK => ?_
 refine R0 ?_
 refine aH (b := !(rdP (fA b)).1.isSome) rfl (fun hb => ?_) (fun hb => ?_)
 ·
  have hno : (rdP (fA b)).1 = none := by simpa using hb
  have e1 : dpE b = 2 := by rw [dpE, if_neg (by simpa using he), hno]
  have e2 : dpL b = (fA b).length - (rdP (fA b)).2.length := by
   rw [dpL, if_neg (by simpa using he)]
   match h : rdP (fA b) with
   | (none, r) => rfl
   | (some p, r) => rw [h] at hno; cases hno
  have e3 : dpO b = po0 := by rw [dpO, e1, if_neg (by decide)]
  clear hb
  refine aB fun K hK => DW [(0, [], []), (1, [], []), (2, [], []), (3, [], []), (4, [], []), (5, [], [1, 2, 3, 4]), (6, [], []), (7, [], [])] [0, 0, 2, 6, 14, 1, 63, 127] ?_
  iterate 8 refine W0 ?_ (e := fun _ h_ => by simp only [sH, ↓sP, sA, tyS, simprocAttr, rdr]; exact AX h_)
  refine T2 (hK _ _ _ ?_)
  clear hK K
  refine aF (RT Tryz.results32 ?_)
  exact iL [] po0.cv (.int .i64 ((fA b).length - (rdP (fA b)).2.length : Nat)) (.int .i64 2) (by simp [HV.close, HV.closeL, po0, Po.cv, CV.denil, CV.denilL, HV.norm, HV.toC, HV.toCL]) rfl (by simp) (by rw [e1, e2, e3]; exact ⟨rfl, rfl, rfl⟩)
 refine aJ ?_
 refine T0 (hK _ _ _ ?_)
 clear hK K
 refine aB fun K hK => ?_
 obtain ⟨p, hp⟩ : ∃ p, (rdP (fA b)).1 = some p := by
  cases h : (rdP (fA b)).1 with
  | none => rw [h] at hb; simp at hb
  | some p => exact ⟨p, rfl⟩
 obtain rfl := hq p hp
 have hsz := cF3 (bV5 b) (by omega) hp
 have hr : rdP (fA b) = (some q, (rdP (fA b)).2) := Prod.ext hp rfl
 have hiff := bZ2 he hr
 have e1 : dpE b = if fV q then 0 else 1 := by rw [dpE, if_neg (by simpa using he), hp]
 have e2 : dpL b = 0 := by rw [dpL, if_neg (by simpa using he), hr]
 clear hb
 refine aB fun K hK => Rg ?_
 refine S0 ?_
 refine HS rfl rfl fun K' hK' => T5 ?_
 refine tD (args := [_]) 0 (aV8 q hsz) rfl (by simp) ⟨rfl, rfl, rfl, rfl⟩ ?_
 rintro u v ⟨rfl, rfl⟩
 refine AX (hK' _ _ ?_)
 clear hK' K'
 iterate 5 refine S0 ?_
 refine T2 (hK _ _ _ ?_)
 clear hK K
 refine aB fun K hK => Rg ?_
 have F := aI @dT @denilL_u8
 iterate 3 refine SF ?_
 refine aD 40 rfl (fun h9_40 => ?_) (fun h9_40 => ?_)
 ·
  have F := aI @dT (aI @denilL_u8 h9_40)
  iterate 5 refine SF ?_
  refine T2 (hK _ _ _ ?_)
  clear hK K
  refine CT rfl ?_
  refine aB fun K hK => Rg ?_
  have F := h9_40
  iterate 4 refine SF ?_
  refine T2 (hK _ _ _ ?_)
  clear hK K
  refine aF (RT Tryz.results32 ?_)
  have hpo : fV q = false := by
   cases h : fV q with
   | false => rfl
   | true => exact absurd (hiff.2 h).1 (by simpa using h9_40)
  rw [hpo] at e1
  have e1 : dpE b = 1 := e1
  have e3 : dpO b = po0 := by rw [dpO, e1, if_neg (by decide)]
  exact iL [] po0.cv (.int .i64 0) (.int .i64 1) (by simp [HV.close, HV.closeL, po0, Po.cv, CV.denil, CV.denilL, HV.norm, HV.toC, HV.toCL]) rfl (by simp) (by rw [e1, e2, e3]; exact ⟨rfl, rfl, rfl⟩)
 have F := aI @dT (aI @denilL_u8 h9_40)
 iterate 2 refine SF ?_
 refine aU (g := some (41, false)) rfl rfl fun K' hK' => T6 ?_
 refine C2 (bC7 (rY q) b) ?_
 rintro u rfl
 refine AX (hK' _ _ ?_)
 clear hK' K'
 iterate 2 refine SF ?_
 refine aD 44 rfl (fun h9_44 => ?_) (fun h9_44 => ?_)
 ·
  simp only [h9_44]
  refine T2 (hK _ _ _ ?_)
  clear hK K
  refine CF rfl ?_
  refine aJ ?_
  refine T0 (hK _ _ _ ?_)
  clear hK K
  refine aB fun K hK => Rg ?_
  have F := aI h9_40 h9_44
  iterate 4 refine SF ?_
  refine T2 (hK _ _ _ ?_)
  clear hK K
  refine aF (RT Tryz.results32 ?_)
  have hpo : fV q = true := hiff.1 ⟨by simpa using h9_40, by simpa using h9_44⟩
  rw [hpo] at e1
  have e1 : dpE b = 0 := e1
  have e3 : dpO b = q := by rw [dpO, if_pos e1, hp]; rfl
  exact iL [] q.cv (.int .i64 0) (.int .i64 0) (by simp [HV.close, HV.closeL, Po.denil, CV.denil, CV.denilL, HV.norm, HV.toC, HV.toCL]) rfl (by simp) (by rw [e1, e2, e3]; exact ⟨rfl, rfl, rfl⟩)
 simp only [h9_44]
 refine T2 (hK _ _ _ ?_)
 clear hK K
 refine CT rfl ?_
 refine aB fun K hK => Rg ?_
 have F := aI h9_40 h9_44
 iterate 4 refine SF ?_
 refine T2 (hK _ _ _ ?_)
 clear hK K
 refine aF (RT Tryz.results32 ?_)
 have hpo : fV q = false := by
  cases h : fV q with
  | false => rfl
  | true => exact absurd (hiff.2 h).2 (by simpa using h9_44)
 rw [hpo] at e1
 have e1 : dpE b = 1 := e1
 have e3 : dpO b = po0 := by rw [dpO, e1, if_neg (by decide)]
 exact iL [] po0.cv (.int .i64 0) (.int .i64 1) (by simp [HV.close, HV.closeL, po0, Po.cv, CV.denil, CV.denilL, HV.norm, HV.toC, HV.toCL]) rfl (by simp) (by rw [e1, e2, e3]; exact ⟨rfl, rfl, rfl⟩)

end Go.Proofs.YtlldglbooaefhaaGreatDoor

namespace Go.Proofs.YtlldglbooaefhaaGreatDoor
open Go Go.Hl Go.Pl
set_option maxRecDepth 10000
set_option maxHeartbeats 16000000

theorem bC8 (l : List Nd) (hl : l.length < 2 ^ 40) : aB4 Tryz.prog 76 [(22, .slc (l.map Nd.cv))] (bwL l) := by
 refine yO Tryz.func76 rfl (by kernel_rfl) (Nat.le_of_ble_eq_true rfl) rfl fun L J hS hY => ?_
 have e0 : jR [(22, CV.slc (l.map Nd.cv))] = fob [(0, .box 22 (.c (.slc (l.map Nd.cv))))] := by
  funext i
  match i with
  | 0 => rfl
  | i + 1 => simp [jR, fob, upd]
 have e1 : gH (List.range [((22 : Nat), CV.slc (l.map Nd.cv))].length) = [.ptr 0 0] := rfl
 rw [e0, e1]
 refine eJ fun K hK => mY hS rfl (aL (by kernel_rfl) ?_)
 simp only [sR, simprocAttr]
 iterate 4 refine S0 ?_ (e := fun _ h_ => by simp only [sH, ↓sP, sA, tyS, simprocAttr, rI, bN ((l.length : Int) - 1) (by omega), List.length_map]; exact AX h_)
 simp only [sE, ↓reduceIte, simprocAttr, rI]
 refine hK _ _ _ _ _ ?_
 clear hK K
 refine oA ?_
 refine aI1 (α := {j : Nat // j ≤ l.length}) hS (fun j => (fin [(0, .opq (.func (.yield L) #[] #[])), (1, .ptr 0 0), (3, .c (.int .i64 ((l.length : Int) - 1 - j.1)))], fob [(0, .box 22 (.c (.slc (l.map Nd.cv))))])) (fun j => j.1) 100 (fun j => l.length - j.1) ⟨0, Nat.zero_le _⟩ rfl (fF) rfl ?_
 rintro ⟨j, hj⟩
 refine eJ fun K hK => ?_
 refine eJ fun K1 hK1 => mY hS rfl (aL (by kernel_rfl) ?_)
 simp only [sR, simprocAttr]
 have F := rI
 iterate 2 refine SF ?_
 simp only [sE, ↓reduceIte, simprocAttr, rI]
 refine hK1 _ _ _ _ _ ?_
 clear hK1 K1
 refine jH (b := decide ((0 : Int) ≤ (l.length : Int) - 1 - j)) rfl (fun hb => ?_) (fun hb => ?_)
 ·
  have hlt : j < l.length := by simp at hb; omega
  have hi2 : l.length - 1 - j < l.length := by omega
  have hxl : j < (bwL l).length := by rw [qS]; exact hlt
  have hx := bL4 hxl hi2
  have hcast : (l.length : Int) - 1 - j = ((l.length - 1 - j : Nat) : Int) := by omega
  have hw1 : IntKind.i64.wrap (((l.length - 1 - j : Nat) : Int) - 1) = (l.length : Int) - 1 - ((j : Int) + 1) := by rw [bN _ (by omega)]; omega
  refine mZ ?_
  simp only [sE, ↓reduceIte, simprocAttr, rI]
  refine hK _ _ _ _ _ ?_
  clear hK K
  refine eJ fun K hK => ?_
  refine oA ?_
  refine eJ fun K1 hK1 => rR (l := L) 6 hS hY rfl (by kernel_rfl) (by decide) ?_
  simp only [sR, List.range', simprocAttr]
  have F := aI rI (aI hcast (aI @List.length_map.{0,0} (aI @Int.natCast_nonneg (aI @Int.ofNat_lt (aI hi2 (nM hi2))))))
  iterate 6 refine SF ?_
  rw [hlex]
  refine ⟨_, _, _, hxl, rfl, rfl, rfl, rfl, rfl, ?_, ?_, ?_⟩
  ·
   rw [hx]; simp only [hcast]; rfl
  ·
   simp only [sR, List.range', simprocAttr]
   have F := rI
   refine SF ?_
   simp only [sE, ↓reduceIte, simprocAttr, rI]
   refine hK1 _ _ _ _ _ ?_
   clear hK1 K1
   refine jH (b := false) rfl (fun hb => by cases hb) (fun _ => ?_)
   refine mZ ?_
   simp only [sE, ↓reduceIte, simprocAttr, rI]
   refine hK _ _ _ _ _ ?_
   clear hK K
   refine mY hS rfl (aL (by kernel_rfl) ?_)
   simp only [sR, simprocAttr]
   have F := aI rI (aI hcast hw1)
   iterate 3 refine SF ?_
   simp only [sE, ↓reduceIte, simprocAttr, rI]
   refine ⟨⟨j + 1, hlt⟩, fF, trivial, rfl, ?_⟩
   show l.length - (j + 1) < l.length - j
   omega
  simp only [sR, List.range', simprocAttr]
  have F := rI
  refine SF ?_
  simp only [sE, ↓reduceIte, simprocAttr, rI]
  refine hK1 _ _ _ _ _ ?_
  clear hK1 K1
  refine jH (b := true) rfl (fun _ => ?_) (fun hb => by cases hb)
  refine aT6 ?_
  simp only [sE, ↓reduceIte, simprocAttr, rI]
  exact ⟨by simp, fun h => by cases h⟩
 have hji : j = l.length := by simp at hb; omega
 refine aI0 ?_
 simp only [sE, ↓reduceIte, simprocAttr, rI]
 exact ⟨by simp, fun _ => by rw [qS]; exact hji⟩
end Go.Proofs.YtlldglbooaefhaaGreatDoor

namespace Go.Proofs.YtlldglbooaefhaaGreatDoor
open Go Go.Hl Go.Pl
set_option maxRecDepth 10000
set_option maxHeartbeats 16000000

theorem bV7 (l : List Nd) : aT7 Tryz.prog 46 76 [.slc (l.map Nd.cv)] [(22, .slc (l.map Nd.cv))] := by
 refine FW Tryz.func46 ?_
 refine R0 ?_
 refine R0 ?_
 refine aF (RT Tryz.results46 ?_)
 refine rT (gf := 76) (bs := [(22, .slc (l.map Nd.cv))]) (ids := [0]) rfl (by simp) (by decide) ?_ ?_
 ·
  intro j x hx
  match j, hx with
  | 0, hx => cases hx; rfl
 intro x hx
 simp only [List.mem_cons, List.not_mem_nil, or_false] at hx
 subst hx
 exact congrArg CV.slc (denilL_Nd l)


theorem aL8 (n : Nd) (L : List Bool) (lo m : Nat) (hl : L.length < 2 ^ 40) (h0 : 0 < L.length) (hlo : lo ≤ m) (hm : m ≤ L.length) :
  HGe Tryz.prog 47 [.c n.cv, .osl 0 L.length lo 1 m] [.row 4 1 (L.map bC)] (fun r os' => r = .c (.bool (iE n ((L.drop lo).take (m - lo)))) ∧ os' = [.row 4 1 (L.map bC)]) := by
 obtain ⟨V, hV⟩ : ∃ V, V = (L.drop lo).take (m - lo) := ⟨_, rfl⟩
 have hVl : V.length = m - lo := by rw [hV]; simp; omega
 rw [← hV]
 have hrd : List.take (m - lo) (List.drop lo (L.map bC)) = V.map bC := by rw [hV, List.map_take, List.map_drop]
 refine bU (args := [.c n.cv, .osl 0 L.length lo 1 m]) Tryz.func47 rfl (by kernel_rfl) (iB rfl (by simp [fX, HO.men]) (by simp [HV.menL, HV.men])) (Nat.le_of_ble_eq_true rfl) ?_
 have e0 : lst [.row 4 1 (L.map bC)] = fob [(0, .row 4 1 (L.map bC))] := by
  funext i
  match i with
  | 0 => rfl
  | i + 1 => simp [lst, fob, upd]
 show Hw _ _ 1 _ _ _ (lst _) 1
 rw [e0]
 refine R0 ?_
 refine R0 ?_
 refine aB fun K hK => ?_
 refine R0 ?_ (e := fun _ h_ => by simp only [↓sP, sA, tyS, simprocAttr, hrd, List.length_map, h0, hlo, hm]; exact AX h_)
 refine aK ?_
 refine bE (α := {i : Nat // i ≤ V.length}) (fun i => (fin [(1, .osl 0 L.length lo 1 m), (2, .ptr 1 0), (5, .c (.int .i64 (cnt (V.take i.1) : Nat))), (8, .osl 0 L.length lo 1 m), (9, .c (.int .i64 V.length)), (10, .c (.int .i64 i.1))], fob [(0, .row 4 1 (L.map bC)), (1, .box 40 (.c n.cv))])) 100 (fun i => V.length - i.1) ⟨0, by omega⟩ (aN (by omega) (by simp [bA, fin_at, finA_at, upd_at, HV.men, HV.menL, HV.norm, HV.toC, HV.toCL, cnt]) (by simp [aX, fob_at, upd_at, none0_at, bY, HO.men, HV.men, HV.menL, HV.norm, HV.toC, HV.toCL, cnt])) ?_
 rintro ⟨i, hi⟩
 have hcn : cnt (V.take i) ≤ i := by have := bH9 (V.take i); simp at this; omega
 refine R0 ?_
 refine aB fun K hK => ?_
 refine aH (b := decide ((i : Int) < V.length)) rfl (fun hb => ?_) (fun hb => ?_)
 ·
  have hlt : i < V.length := by simpa using hb
  have hct := kR (l := V) (k := i) hlt
  have hw3 : IntKind.i64.wrap ((cnt (V.take i) : Int) + 1) = ((cnt (V.take i) + 1 : Nat) : Int) := by rw [bN _ (by omega)]; rfl
  have hli : lo + i < L.length := by omega
  have hvi : L[lo + i] = V[i] := by simp [hV]
  have hli2 : lo + i < (L.map bC).length := by simpa using hli
  have hml : i < m - lo := by omega
  clear hb
  refine aJ ?_
  refine T0 (hK _ _ _ ?_)
  clear hK K
  refine aB fun K hK => ?_
  refine aK ?_
  refine R0 ?_ (e := fun _ h_ => by simp only [↓sP, sA, tyS, simprocAttr, List.length_map, Int.natCast_nonneg, Int.ofNat_lt, h0, hm, hml, hli, bB hli, bC]; exact AX h_)
  refine R0 ?_
  refine aH (b := L[lo + i]) rfl (fun hb => ?_) (fun hb => ?_)
  ·
   rw [hvi] at hb
   rw [if_pos (by simpa [hlt] using hb)] at hct
   refine aL (by kernel_rfl) ?_
   refine TQ hw3 ?_
   refine AX (hK _ _ _ ?_)
   clear hK K
   refine aL (by kernel_rfl) ?_
   simp only [↓sP, sA, tyS, simprocAttr, bN ((i : Int) + 1) (by omega)]
   refine ⟨⟨i + 1, hlt⟩, aN (by omega) (by simp [bA, fin_at, finA_at, upd_at, HV.men, HV.menL, HV.norm, HV.toC, HV.toCL, hct]) (by simp [aX, fob_at, upd_at, none0_at, bY, HO.men, HV.men, HV.menL, HV.norm, HV.toC, HV.toCL, hct]), ?_⟩
   show V.length - (i + 1) < V.length - i
   omega
  rw [hvi] at hb
  rw [if_neg (by simp [hlt, hb])] at hct
  refine aJ ?_
  refine T0 (hK _ _ _ ?_)
  clear hK K
  refine aL (by kernel_rfl) ?_
  simp only [↓sP, sA, tyS, simprocAttr, bN ((i : Int) + 1) (by omega)]
  refine ⟨⟨i + 1, hlt⟩, aN (by omega) (by simp [bA, fin_at, finA_at, upd_at, HV.men, HV.menL, HV.norm, HV.toC, HV.toCL, hct]) (by simp [aX, fob_at, upd_at, none0_at, bY, HO.men, HV.men, HV.menL, HV.norm, HV.toC, HV.toCL, hct]), ?_⟩
  show V.length - (i + 1) < V.length - i
  omega
 refine aZ (T3 ?_)
 clear hK K
 refine AX (hK _ _ _ ?_)
 clear hK K
 refine aB fun K hK => ?_
 have hei : i = V.length := by simp only [decide_eq_false_iff_not] at hb; omega
 subst hei
 rw [List.take_length] at hcn ⊢
 clear hb
 refine R0 ?_
 refine aK ?_
 refine R0 ?_
 refine aH (b := (n.k == 2)) rfl (fun hb => ?_) (fun hb => ?_)
 ·
  refine aB fun K hK => Rg ?_
  iterate 5 refine S0 ?_ (e := fun _ h_ => by simp only [sH, ↓sP, sA, tyS, simprocAttr, hrd, List.length_map, h0, hlo, hm]; exact AX h_)
  refine T2 (hK _ _ _ ?_)
  clear hK K
  refine aF (RT Tryz.results47 ?_)
  have h2 : n.k = 2 := by simpa using hb
  exact eI [] [] (.c (.bool ((cnt V : Int) == V.length))) [.row 4 1 (L.map bC)] rfl (by simp [HV.men]) ⟨⟨trivial, by simp, _, rfl, rfl⟩, trivial⟩ rfl List.nodup_nil (by simp) (by simp) ⟨by rw [iE, if_pos h2]; congr 2; rw [Bool.eq_iff_iff]; simp; omega, rfl⟩
 have h2 : n.k ≠ 2 := by simpa using hb
 refine R0 ?_
 refine aH (b := (n.k == 3)) rfl (fun hb => ?_) (fun hb => ?_)
 ·
  refine R0 ?_
  refine aF (RT Tryz.results47 ?_)
  have h3 : n.k = 3 := by simpa using hb
  exact eI [] [] (.c (.bool (decide ((1 : Int) ≤ cnt V)))) [.row 4 1 (L.map bC)] rfl (by simp [HV.men]) ⟨⟨trivial, by simp, _, rfl, rfl⟩, trivial⟩ rfl List.nodup_nil (by simp) (by simp) ⟨by rw [iE, if_neg h2, if_pos h3]; congr 2; rw [Bool.eq_iff_iff]; simp; omega, rfl⟩
 refine aJ ?_
 refine T0 (hK _ _ _ ?_)
 clear hK K
 refine aB fun K hK => Rg ?_
 iterate 5 refine S0 ?_
 refine T2 (hK _ _ _ ?_)
 clear hK K
 refine aF (RT Tryz.results47 ?_)
 have h3 : n.k ≠ 3 := by simpa using hb
 exact eI [] [] (.c (.bool (decide (n.n ≤ cnt V)))) [.row 4 1 (L.map bC)] rfl (by simp [HV.men]) ⟨⟨trivial, by simp, _, rfl, rfl⟩, trivial⟩ rfl List.nodup_nil (by simp) (by simp) ⟨by rw [iE, if_neg h2, if_neg h3], rfl⟩

end Go.Proofs.YtlldglbooaefhaaGreatDoor

namespace Go.Pl
open Go Go.Hl

def lF (w : List Bool) (m : Nat) (b : Bool) : List Bool := w.take m ++ [b] ++ w.drop (m + 1)
theorem lG {w : List Bool} {m : Nat} {b : Bool} (h : m + 1 ≤ w.length) : (lF w m b).length = w.length := by simp [lF]; omega
theorem zL {w : List Bool} {b : Bool} : lF w w.length b = w ++ [b] := by simp [lF]
theorem zM {w : List Bool} {m : Nat} {b : Bool} (h : m ≤ w.length) : (lF w m b).take (m + 1) = w.take m ++ [b] := by
 unfold lF
 rw [List.take_append_of_le_length (by simp; omega), List.take_of_length_le (by simp; omega)]
def aR2 (l : List Nd) (tr : List Bool) (p : Nat) (s : List Bool × Nat) : List Bool × Nat :=
 if (l.getD p nd0).k = 1 then (lF s.1 s.2 (tr.getD (lv (l.take p)) false), s.2 + 1)
 else (lF s.1 (s.2 - (l.getD p nd0).c.toNat) (iE (l.getD p nd0) ((s.1.drop (s.2 - (l.getD p nd0).c.toNat)).take (l.getD p nd0).c.toNat)), s.2 - (l.getD p nd0).c.toNat + 1)
def cA (l : List Nd) (tr : List Bool) : Nat → List Bool × Nat
 | 0 => ([], 0)
 | i + 1 => aR2 l tr (l.length - 1 - i) (cA l tr i)
structure EvOk (l : List Nd) (tr : List Bool) (i : Nat) : Prop where
 le : i ≤ l.length
 m : (cA l tr i).2 = (evS (lv l) tr (l.drop (l.length - i))).length
 row : (cA l tr i).1.take (cA l tr i).2 = (evS (lv l) tr (l.drop (l.length - i))).reverse
 fit : (cA l tr i).2 ≤ (cA l tr i).1.length
 small : (cA l tr i).1.length ≤ i
theorem EvOk.zero (l : List Nd) (tr : List Bool) : EvOk l tr 0 := ⟨by omega, by simp [cA, evS], by simp [cA, evS], by simp [cA], by simp [cA]⟩
theorem xL (n : Nd) (l : List Bool) : iE n l.reverse = iE n l := by simp only [iE, aI5, List.length_reverse]
theorem bO3 {E : List Bool} {c : Nat} : E.reverse.take (E.length - c) = (E.drop c).reverse := by rw [List.reverse_drop]
theorem bO4 {E : List Bool} {c : Nat} (h : c ≤ E.length) : E.reverse.drop (E.length - c) = (E.take c).reverse := by rw [List.reverse_take]
theorem EvOk.at_ {l : List Nd} {tr : List Bool} {i : Nat} (hi : i < l.length) : l.drop (l.length - (i + 1)) = l[l.length - 1 - i]'(by omega) :: l.drop (l.length - i) := by
 have e : l.length - (i + 1) = l.length - 1 - i := by omega
 rw [e, List.drop_eq_getElem_cons (by omega), show l.length - 1 - i + 1 = l.length - i from by omega]
theorem EvOk.leaf {l : List Nd} {tr : List Bool} {i : Nat} (h : EvOk l tr i) (hi : i < l.length) (hk : (l[l.length - 1 - i]'(by omega)).k = 1) :
  EvOk l tr (i + 1) ∧ cA l tr (i + 1) = (lF (cA l tr i).1 (cA l tr i).2 (tr.getD (lv (l.take (l.length - 1 - i))) false), (cA l tr i).2 + 1) := by
 have hp : l.length - 1 - i < l.length := by omega
 have hg : l.getD (l.length - 1 - i) nd0 = l[l.length - 1 - i] := by simp [hp]
 have e : cA l tr (i + 1) = (lF (cA l tr i).1 (cA l tr i).2 (tr.getD (lv (l.take (l.length - 1 - i))) false), (cA l tr i).2 + 1) := by
  simp only [cA, aR2, hg, if_pos hk]
 have hT := qH l (l.length - 1 - i)
 have hd := EvOk.at_ (tr := tr) hi
 rw [show l.length - (i + 1) = l.length - 1 - i from by omega] at hd
 have hE : evS (lv l) tr (l.drop (l.length - (i + 1))) = tr.getD (lv (l.take (l.length - 1 - i))) false :: evS (lv l) tr (l.drop (l.length - i)) := by
  rw [show l.length - (i + 1) = l.length - 1 - i from by omega, hd, evS, if_pos hk, ← hd]
  congr 2; omega
 refine ⟨⟨hi, ?_, ?_, ?_, ?_⟩, e⟩
 ·
  rw [e, hE]; simp [h.m]
 ·
  rw [e, hE]; simp only [List.reverse_cons]; rw [zM h.fit, h.row]
 ·
  rw [e]; have := h.fit; simp [lF]; omega
 ·
  rw [e]; have := h.fit; have := h.small; simp [lF]; omega
theorem EvOk.inner {l : List Nd} (ht : IsTree l) {tr : List Bool} {i : Nat} (h : EvOk l tr i) (hi : i < l.length) (hk : (l[l.length - 1 - i]'(by omega)).k ≠ 1) :
  (l[l.length - 1 - i]'(by omega)).c.toNat ≤ (cA l tr i).2 ∧ EvOk l tr (i + 1) ∧
  cA l tr (i + 1) = (lF (cA l tr i).1 ((cA l tr i).2 - (l[l.length - 1 - i]'(by omega)).c.toNat) (iE (l[l.length - 1 - i]'(by omega)) (((cA l tr i).1.drop ((cA l tr i).2 - (l[l.length - 1 - i]'(by omega)).c.toNat)).take (l[l.length - 1 - i]'(by omega)).c.toNat)), (cA l tr i).2 - (l[l.length - 1 - i]'(by omega)).c.toNat + 1) := by
 have hp : l.length - 1 - i < l.length := by omega
 have hg : l.getD (l.length - 1 - i) nd0 = l[l.length - 1 - i] := by simp [hp]
 have e : cA l tr (i + 1) = (lF (cA l tr i).1 ((cA l tr i).2 - (l[l.length - 1 - i]'(by omega)).c.toNat) (iE (l[l.length - 1 - i]'(by omega)) (((cA l tr i).1.drop ((cA l tr i).2 - (l[l.length - 1 - i]'(by omega)).c.toNat)).take (l[l.length - 1 - i]'(by omega)).c.toNat)), (cA l tr i).2 - (l[l.length - 1 - i]'(by omega)).c.toNat + 1) := by
  simp only [cA, aR2, hg, if_neg hk]
 have hkl := aI8 ht (tr := tr) hp
 rw [show l.length - 1 - i + 1 = l.length - i from by omega] at hkl
 obtain ⟨_, _, _, c4⟩ := cI (ht.node _ (List.getElem_mem hp))
 have c5 := c4 hk
 have c6 : 1 ≤ l[l.length - 1 - i].c.toNat := by omega
 have hd := EvOk.at_ (tr := tr) hi
 have hm := h.m
 have hr := h.row
 have hf := h.fit
 have hs := h.small
 have hE : evS (lv l) tr (l.drop (l.length - (i + 1))) = iE l[l.length - 1 - i] ((evS (lv l) tr (l.drop (l.length - i))).take l[l.length - 1 - i].c.toNat) :: (evS (lv l) tr (l.drop (l.length - i))).drop l[l.length - 1 - i].c.toNat := by
  rw [hd, evS, if_neg hk]
 generalize evS (lv l) tr (l.drop (l.length - i)) = E at hm hr hkl hE
 generalize l[l.length - 1 - i].c.toNat = c at *
 have h1 : (cA l tr i).1.take ((cA l tr i).2 - c) = (E.drop c).reverse := by
  rw [← bO3, ← hr, List.take_take, hm, Nat.min_eq_left (by omega)]
 have h2 : ((cA l tr i).1.drop ((cA l tr i).2 - c)).take c = (E.take c).reverse := by
  rw [← bO4 hkl, ← hr, List.drop_take, hm]
  congr 1; omega
 refine ⟨by omega, ⟨hi, ?_, ?_, ?_, ?_⟩, e⟩
 ·
  rw [e, hE]; simp only [List.length_cons, List.length_drop]; omega
 ·
  rw [e, hE]
  simp only [List.reverse_cons]
  rw [zM (by omega), h1, h2, xL]
 ·
  rw [e]; simp only; rw [lG (by omega)]; omega
 ·
  rw [e]; simp only; rw [lG (by omega)]; omega
theorem EvOk.fin {l : List Nd} (ht : IsTree l) {tr : List Bool} (h : EvOk l tr l.length) : (cA l tr l.length).2 = 1 ∧ ∃ h0 : 0 < (cA l tr l.length).1.length, oT l tr = (cA l tr l.length).1[0] := by
 have hl := aB6 (T := lv l) (tr := tr) l 1 ht.node ht.skip
 have hm := h.m
 have hr := h.row
 have hf := h.fit
 rw [Nat.sub_self, List.drop_zero] at hm hr
 rw [hl] at hm
 have h0 : 0 < (cA l tr l.length).1.length := by omega
 refine ⟨hm, h0, ?_⟩
 have ht' := bJ7 ht
 obtain ⟨x, hx⟩ : ∃ x, evS (lv l) tr l = [x] := by
  match hE : evS (lv l) tr l, hl with
  | [x], _ => exact ⟨x, rfl⟩
 rw [hx, hm] at hr
 rw [oT, ht', hx]
 have : (cA l tr l.length).1[0] = x := by
  have := congrArg (·.head?) hr
  simpa [List.head?_take, List.head?_eq_getElem?, h0] using this
 rw [this]; rfl
end Go.Pl
