/- Plain Lean: the lines of a policy, counted (28.4). By an AI agent. -/
import Derived.Test.YtlldglbooaefhaaGreatDoorHzU1
import Derived.Test.YtlldglbooaefhaaGreatDoorHzSb
import Derived.Test.YtlldglbooaefhaaGreatDoorHzFm
import Derived.Test.YtlldglbooaefhaaGreatDoorPl11v
import Derived.Test.YtlldglbooaefhaaGreatDoorHzV2
import Derived.Test.YtlldglbooaefhaaGreatDoorPl28k
import Derived.Test.YtlldglbooaefhaaGreatDoorPlSha
set_option linter.unusedSimpArgs false
set_option linter.unusedVariables false
set_option linter.defProp false
namespace Go.Proofs.YtlldglbooaefhaaGreatDoor
open Go Go.Hl Go.Pl
set_option maxRecDepth 10000
set_option maxHeartbeats 16000000

theorem qU (n : Int) (hn : -9223372036854775808 ≤ n ∧ n ≤ 9223372036854775807) : bT Tryz.prog 54 [.int .i64 n] (fun v => v = .str (numW n)) := by
 refine FW Tryz.func54 ?_
 refine R0 ?_
 refine aB fun K hK => ?_
 refine R0 ?_
 refine aH (b := n == 0) rfl (fun hb => ?_) (fun hb => ?_)
 ·
  refine R0 ?_
  refine aE (RT Tryz.results54 ?_)
  exact aF [] (.str [48]) rfl (by rw [show n = 0 from by simpa using hb, bB2])
 refine aJ ?_
 refine T0 (hK _ _ _ ?_)
 clear hK K
 have hne : n ≠ 0 := by simpa using hb
 clear hb
 refine aB fun K hK => Rg ?_
 iterate 4 refine S0 ?_
 refine T2 (hK _ _ _ ?_)
 clear hK K
 refine aB fun K hK => ?_
 have key : ∀ (sg : aG) (u : Nat) fr ob nx, (u < 18446744073709551616 ∧ u ≠ 0 ∧ sg.length ≤ 1 ∧ numW n = sg ++ Lib.decDigits u) → Fits 0 fr ob (fin [(3, .c (.str sg)), (4, .c (.int .u64 u))]) (fob []) 600 → K fr ob nx := by
  rintro sg u fr ob nx ⟨hu, hu0, hsg, hnum⟩ hf
  refine hK _ _ _ (bM hf ?_)
  clear hf hK K
  have hdl := bJ5 hu
  refine R0 ?_
  refine aB fun K hK => ?_
  refine aK ?_
  refine bE (α := {y : Nat × aG // y.1 ≤ u ∧ (if y.1 = 0 then [] else Lib.decDigits y.1) ++ y.2 = Lib.decDigits u}) (fun y => (fin [(3, .c (.str sg)), (4, .c (.int .u64 y.1.1)), (5, .c (.str y.1.2))], fob [])) 100 (fun y => y.1.1) ⟨(u, []), by simp, by simp [hu0]⟩ (fF) ?_
  rintro ⟨⟨v, s⟩, hv, hs⟩
  simp only at hv hs ⊢
  have hsl : s.length ≤ 20 := by
   have := congrArg List.length hs
   rw [List.length_append] at this
   omega
  refine aB fun K hK => ?_
  refine R0 ?_
  refine aH (b := decide ((0 : Int) < v)) rfl (fun hb => ?_) (fun hb => ?_)
  ·
   have hv0 : v ≠ 0 := by simp at hb; omega
   clear hb
   have hv64 : v < 18446744073709551616 := by omega
   have h10 : ((10 : Int) = 0) ↔ False := by simp
   have hsl1 : [UInt8.ofNat (48 + v % 10)].length + s.length ≤ 9223372036854775807 := by simp; omega
   rw [if_neg hv0, bJ4 hv0] at hs
   refine aJ ?_
   refine T0 (hK _ _ _ ?_)
   clear hK K
   refine aK ?_
   refine aB fun K hK => bD (by kernel_rfl) ?_
   simp only [sR, simprocAttr]
   have F := aI @vX (aI @oY (aI h10 hsl1))
   iterate 4 refine SGF ?_
   refine cB (g := none) 124 rfl rfl fun K' hK' => ?_
   simp only [eR, gU, sH, ↓sP, sA, tyS, simprocAttr, vX, oY, h10, hsl1]
   repeat refine AI ?_
   refine cE (by first | rfl | simp) ?_
   try simp only [sH, ↓sP, sA, tyS, simprocAttr, vX, oY, h10, hsl1]
   refine AX (hK' _ _ ?_)
   clear hK' K'
   iterate 4 refine SGF ?_
   refine T2 (hK _ _ _ ?_)
   clear hK K
   refine aL (by kernel_rfl) ?_
   simp only [↓sP, sA, tyS, simprocAttr, bS1 hv64, h10]
   refine ⟨⟨(v / 10, [UInt8.ofNat (48 + v % 10)] ++ s), by simp only; omega, by simp only; rw [← hs, List.append_assoc]⟩, fF, ?_⟩
   show v / 10 < v
   omega
  have hv0 : v = 0 := by simp at hb; omega
  clear hb
  subst hv0
  rw [if_pos rfl, List.nil_append] at hs
  subst hs
  have hle : sg.length + (Lib.decDigits u).length ≤ 9223372036854775807 := by omega
  refine aX (T3 ?_)
  clear hK K
  refine AX (hK _ _ _ ?_)
  clear hK K
  refine aB fun K hK => Rg ?_
  have F := hle
  iterate 4 refine SF ?_
  refine T2 (hK _ _ _ ?_)
  clear hK K
  refine aE (RT Tryz.results54 ?_)
  exact aF [] (.str _) rfl (by rw [hnum])
 refine R0 ?_
 refine aH (b := decide (n < 0)) rfl (fun hb => ?_) (fun hb => ?_)
 ·
  have hlt : n < 0 := by simpa using hb
  refine Rg ?_
  have F := aC6 hlt hn.1
  iterate 4 refine SF ?_
  refine T4 ?_
  first
   | exact key [45] n.natAbs _ _ _ ⟨by omega, by omega, by simp, aK1 (by simpa using hb)⟩ (by rw [← aC6 (by simpa using hb) hn.1]; exact fF)
   | (have h0 : 0 ≤ n := (by simp at hb; omega); exact key [] n.natAbs _ _ _ ⟨by omega, by omega, by simp, qI h0⟩ (by rw [← aV4 h0 hn.2]; exact fF))
 refine aJ (T3 ?_)
 first
  | exact key [45] n.natAbs _ _ _ ⟨by omega, by omega, by simp, aK1 (by simpa using hb)⟩ (by rw [← aC6 (by simpa using hb) hn.1]; exact fF)
  | (have h0 : 0 ≤ n := (by simp at hb; omega); exact key [] n.natAbs _ _ _ ⟨by omega, by omega, by simp, qI h0⟩ (by rw [← aV4 h0 hn.2]; exact fF))



theorem wM (n : Int) (hn : -9223372036854775808 ≤ n ∧ n ≤ 9223372036854775807) : mW Tryz.prog 51 tabs [.int .i64 n] (fun v => v = .str (numW n)) := by
 refine bY (args := [.c (.int .i64 n)]) Tryz.func51 rfl (by kernel_rfl) (fB tabs [.int .i64 n]) (Nat.le_of_ble_eq_true rfl) ?_
 refine R0 ?_
 refine aB fun K hK => Rg ?_
 refine S0 ?_
 refine HS rfl rfl fun K' hK' => T5 ?_
 refine eA (args := [_, _]) 0 (bD3 n hn) (fJ _ 0) (by simp) ⟨rfl, rfl, rfl, rfl⟩ ?_
 rintro u rfl
 refine AX (hK' _ _ ?_)
 clear hK' K'
 refine S0 ?_
 refine T2 (hK _ _ _ ?_)
 clear hK K
 refine aE (RT Tryz.results51 ?_)
 exact dC [] (.str _) rfl (fJ _ 0) (by simp) rfl

end Go.Proofs.YtlldglbooaefhaaGreatDoor

namespace Go.Proofs.YtlldglbooaefhaaGreatDoor
open Go Go.Hl Go.Pl
set_option maxRecDepth 10000
set_option maxHeartbeats 16000000

def bU4 (n : Int) : Prop := -9223372036854775808 ≤ n ∧ n ≤ 9223372036854775807

theorem bO1 (q : Rq) (hn : bU4 q.n) (hm : bU4 q.m) : mW Tryz.prog 78 tabs [q.cv] (fun v => v = lsC (wlR q)) := by
 refine bY (args := [.c q.cv]) Tryz.func78 rfl (by kernel_rfl) (fB tabs [q.cv]) (Nat.le_of_ble_eq_true rfl) ?_
 unfold eD
 refine R0 ?_
 refine aB fun K hK => Rg ?_
 iterate 2 refine S0 ?_
 refine HS rfl rfl fun K' hK' => T5 ?_
 refine eA (args := [_]) 0 (wM q.n hn) rfl (by simp) ⟨rfl, rfl, rfl, rfl⟩ ?_
 rintro u rfl
 refine AX (hK' _ _ ?_)
 clear hK' K'
 refine S0 ?_
 refine T2 (hK _ _ _ ?_)
 clear hK K
 refine aB fun K hK => ?_
 refine R0 ?_
 refine aK ?_
 refine R0 ?_
 refine aH (b := (q.k == 1)) rfl (fun hb => ?_) (fun hb => ?_)
 ·
  have hk : q.k = 1 := by simpa using hb
  clear hb
  refine R0 ?_
  refine aE (RT Tryz.results78 ?_)
  exact dC [45] (lsC (wlR q)) (by rw [show wlR q = [dA, numW q.n] from by simp [wlR, *]]; simp [lsC, HV.close, fob_at, upd_at, HV.norm, HV.toC, HV.closeL, HV.toCL, CV.denil]; rfl) rfl (by simp) rfl
 have hk1 : ¬ q.k = 1 := by simpa using hb
 clear hb
 refine R0 ?_
 refine aH (b := (q.k == 2)) rfl (fun hb => ?_) (fun hb => ?_)
 ·
  have hk : q.k = 2 := by simpa using hb
  clear hb
  refine aB fun K hK => Rg ?_
  iterate 4 refine S0 ?_
  refine T2 (hK _ _ _ ?_)
  clear hK K
  refine aE (RT Tryz.results78 ?_)
  exact dC [57] (lsC (wlR q)) (by rw [show wlR q = [dT, q.t] from by simp [wlR, *]]; simp [lsC, HV.close, fob_at, upd_at, HV.norm, HV.toC, HV.closeL, HV.toCL, CV.denil]; rfl) rfl (by simp) rfl
 have hk2 : ¬ q.k = 2 := by simpa using hb
 clear hb
 refine R0 ?_
 refine aH (b := (q.k == 3)) rfl (fun hb => ?_) (fun hb => ?_)
 ·
  have hk : q.k = 3 := by simpa using hb
  clear hb
  refine R0 ?_
  refine aE (RT Tryz.results78 ?_)
  exact dC [61] (lsC (wlR q)) (by rw [show wlR q = [dL, numW q.n] from by simp [wlR, *]]; simp [lsC, HV.close, fob_at, upd_at, HV.norm, HV.toC, HV.closeL, HV.toCL, CV.denil]; rfl) rfl (by simp) rfl
 have hk3 : ¬ q.k = 3 := by simpa using hb
 clear hb
 refine R0 ?_
 refine aH (b := (q.k == 4)) rfl (fun hb => ?_) (fun hb => ?_)
 ·
  have hk : q.k = 4 := by simpa using hb
  clear hb
  refine aB fun K hK => Rg ?_
  iterate 3 refine S0 ?_
  refine HS rfl rfl fun K' hK' => T5 ?_
  refine eA (args := [_]) 0 (wM q.m hm) rfl (by simp) ⟨rfl, rfl, rfl, rfl⟩ ?_
  rintro u rfl
  refine AX (hK' _ _ ?_)
  clear hK' K'
  iterate 2 refine S0 ?_
  refine T2 (hK _ _ _ ?_)
  clear hK K
  refine aE (RT Tryz.results78 ?_)
  exact dC [81] (lsC (wlR q)) (by rw [show wlR q = [eX, numW q.n, numW q.m] from by simp [wlR, *]]; simp [lsC, HV.close, fob_at, upd_at, HV.norm, HV.toC, HV.closeL, HV.toCL, CV.denil]; rfl) rfl (by simp) rfl
 have hk4 : ¬ q.k = 4 := by simpa using hb
 clear hb
 refine R0 ?_
 refine aH (b := (q.k == 5)) rfl (fun hb => ?_) (fun hb => ?_)
 ·
  have hk : q.k = 5 := by simpa using hb
  clear hb
  refine R0 ?_
  refine aE (RT Tryz.results78 ?_)
  exact dC [77] (lsC (wlR q)) (by rw [show wlR q = [fM, numW q.n] from by simp [wlR, *]]; simp [lsC, HV.close, fob_at, upd_at, HV.norm, HV.toC, HV.closeL, HV.toCL, CV.denil]; rfl) rfl (by simp) rfl
 have hk5 : ¬ q.k = 5 := by simpa using hb
 clear hb
 refine R0 ?_
 refine aH (b := (q.k == 6)) rfl (fun hb => ?_) (fun hb => ?_)
 ·
  have hk : q.k = 6 := by simpa using hb
  clear hb
  refine R0 ?_
  refine aE (RT Tryz.results78 ?_)
  exact dC [85] (lsC (wlR q)) (by rw [show wlR q = [jG, numW q.n] from by simp [wlR, *]]; simp [lsC, HV.close, fob_at, upd_at, HV.norm, HV.toC, HV.closeL, HV.toCL, CV.denil]; rfl) rfl (by simp) rfl
 have hk6 : ¬ q.k = 6 := by simpa using hb
 clear hb
 refine R0 ?_
 refine aH (b := (q.k == 7)) rfl (fun hb => ?_) (fun hb => ?_)
 ·
  have hk : q.k = 7 := by simpa using hb
  clear hb
  refine R0 ?_
  refine aE (RT Tryz.results78 ?_)
  exact dC [93] (lsC (wlR q)) (by rw [show wlR q = [kJ, numW q.n] from by simp [wlR, *]]; simp [lsC, HV.close, fob_at, upd_at, HV.norm, HV.toC, HV.closeL, HV.toCL, CV.denil]; rfl) rfl (by simp) rfl
 have hk7 : ¬ q.k = 7 := by simpa using hb
 clear hb
 refine aJ ?_
 refine T0 (hK _ _ _ ?_)
 clear hK K
 refine R0 ?_
 refine aE (RT Tryz.results78 ?_)
 exact dC [89] (lsC (wlR q)) (by rw [show wlR q = [gX] from by simp [wlR, *]]; simp [lsC, HV.close, fob_at, upd_at, HV.norm, HV.toC, HV.closeL, HV.toCL, CV.denil]; rfl) rfl (by simp) rfl

end Go.Proofs.YtlldglbooaefhaaGreatDoor

namespace Go.Pl
open Go Go.Hl

theorem aW6 {n : Nd} (h : bR n = true) (h1 : n.k ≠ 1) (h2 : n.k ≠ 2) (h3 : n.k ≠ 3) : n.k = 4 := by simp_all [bR, if_neg]
theorem aM1 {q : Rq} (h : dZ q = true) : (0 ≤ q.n ∧ q.n ≤ 1099511627776) ∧ (0 ≤ q.m ∧ q.m ≤ 1099511627776) := by
 unfold dZ inB at h
 repeat' split at h
 all_goals first
  | cases h; done
  | (simp only [Bool.and_eq_true, decide_eq_true_eq, beq_iff_eq] at h; (try rw [jF] at h); omega)
theorem aW7 {n : Nd} (h : bR n = true) (h1 : n.k = 1) : dZ n.q = true := by simp_all [bR, if_pos, Bool.and_eq_true]
theorem aW8 {n : Nd} (h : bR n = true) (h1 : n.k = 4) : 1 ≤ n.n ∧ n.n ≤ 60 := by
 unfold bR inB at h
 grind
theorem wN {l : List Nd} (ht : IsTree l) {i : Nat} (hi : i < l.length) (hk : l[i].k = 1) : aft l i = i + 1 := by
 obtain ⟨_, _, c3, _⟩ := dF (ht.node _ (List.getElem_mem hi))
 refine aQ1 hi ?_
 rw [List.drop_eq_getElem_cons hi]
 simp_all [skip, cL]
theorem qV {l : List Nd} (ht : IsTree l) {i : Nat} (hi : i < l.length) : cR l l[i].c.toNat (i + 1) = aft l i := by
 obtain ⟨h1, h2, h3⟩ := fU ht hi l[i].c.toNat (Nat.le_refl _)
 simp_all [gO, Nat.sub_self, cL, congrArg, List.length, Option.some.inj, List.length_drop]
theorem sD {l : List Nd} (ht : IsTree l) : ∀ (m : Nat) (i : Nat) (hi : i < l.length), l.length - i ≤ m → (eE l i).length ≤ 2 * (aft l i - i) ∧ ∀ k, k ≤ l[i].c.toNat → l[i].k ≠ 1 → (cP l i k).length ≤ 2 * (cR l k (i + 1) - (i + 1))
 | 0, i, hi, hm => by omega
 | m + 1, i, hi, hm => by
  have hkids : ∀ k, k ≤ l[i].c.toNat → l[i].k ≠ 1 → (cP l i k).length ≤ 2 * (cR l k (i + 1) - (i + 1)) := by
   intro k
   induction k with
   | zero => grind [gI]
   | succ k ih =>
    intro hk hn
    have h1 := ih (by omega) hn
    have hlt := kT ht hi (k := k) (by omega)
    obtain ⟨_, _, h3⟩ := fU ht hi k (by omega)
    have h4 := (sD ht m (cR l k (i + 1)) hlt (by omega)).1
    grind [gO, lQ, List.length_append, eV]
  refine ⟨?_, hkids⟩
  by_cases hk : l[i].k = 1
  ·
   grind [oZ, wN]
  ·
   have h1 := hkids _ (Nat.le_refl _) hk
   obtain ⟨_, _, h3⟩ := fU ht hi _ (Nat.le_refl l[i].c.toNat)
   grind [qV, nH, List.length_cons, List.length_append, List.length_nil]
theorem tH {l : List Nd} (ht : IsTree l) {i k : Nat} (hi : i < l.length) (hk : k ≤ l[i].c.toNat) (hn : l[i].k ≠ 1) : (cP l i k).length ≤ 2 * (cR l k (i + 1) - (i + 1)) := (sD ht _ i hi (Nat.le_refl _)).2 k hk hn
theorem wO {l : List Nd} (ht : IsTree l) {i : Nat} (hi : i < l.length) : (eE l i).length ≤ 2 * (aft l i - i) := (sD ht _ i hi (Nat.le_refl _)).1
end Go.Pl

namespace Go.Proofs.YtlldglbooaefhaaGreatDoor
open Go Go.Hl Go.Pl
set_option maxRecDepth 10000
set_option maxHeartbeats 16000000

theorem cE6 (L : List (List aG)) : lst [.tab tabs, .row 60 1 (L.map lsC)] = fob [(0, .tab tabs), (1, .row 60 1 (L.map lsC))] := by
 funext i
 match i with
 | 0 => rfl
 | 1 => rfl
 | i + 2 => simp [lst, fob, upd]
theorem aR7 (n : Nat) (ob : Ob) (e : TypeId) (sz : Nat) (T : kR) (L : List CV) : mU (sub [0, 1] n) ob 0 [.tab T, .row e sz L] = upd (upd ob 0 (some (.tab T))) 1 (some (.row e sz L)) := rfl
theorem wP {ob : Ob} {L : List CV} {M : List (List aG)} {m : Nat} {a : Nat} (h0 : ob 0 = some (.tab tabs)) (h1 : ob 1 = some (.row 60 1 L)) (hm : m = M.length) (hL : L = M.map lsC) :
  oH 2 (.tup [.own 1 m, .c (.int .i64 a)]) ob (fun r ob' => ∃ os', ob' = lst os' ∧ (2 ≤ os'.length ∧ os'.length ≤ 2 + 4) ∧ r = .tup [.own 1 M.length, .c (.int .i64 a)] ∧ os' = [.tab tabs, .row 60 1 (M.map lsC)]) := by
 subst hm hL
 exact fA [] [] (.tup [.own 1 M.length, .c (.int .i64 a)]) [.tab tabs, .row 60 1 (M.map lsC)] rfl (by simp [HV.men, HV.menL]) ⟨⟨by simp [HO.men], by simp, _, h0, rfl⟩, ⟨by simp [HO.men], by simp, _, h1, rfl⟩, trivial⟩ rfl List.nodup_nil (by simp) (by simp) ⟨rfl, rfl⟩

theorem bO2 (l : List Nd) (ht : IsTree l) (m : Nat) : ∀ (L : List (List aG)) (i : Nat) (hi : i < l.length), l.length - i ≤ m → 0 < L.length → L.length + 2 * (l.length - i) < 2 ^ 40 →
  HGe Tryz.prog 52 [.own 1 L.length, .c (.slc (l.map Nd.cv)), .c (.int .i64 i)] [.tab tabs, .row 60 1 (L.map lsC)] (fun r os' => r = .tup [.own 1 (L ++ eE l i).length, .c (.int .i64 (aft l i : Nat))] ∧ os' = [.tab tabs, .row 60 1 ((L ++ eE l i).map lsC)]) := by
 induction m using Nat.strongRecOn with
 | ind m ih => ?_
 intro L i hi hfu hL0 hLl
 refine bY (args := [.own 1 L.length, .c (.slc (l.map Nd.cv)), .c (.int .i64 i)]) Tryz.func52 rfl (by kernel_rfl) (jD rfl (by simp [gK, HO.men, HV.men, HV.menL]) (by simp [HV.menL, HV.men])) (Nat.le_of_ble_eq_true rfl) ?_
 show Hw _ _ 2 _ _ _ (lst _) 2
 rw [cE6]
 have hnode := ht.node _ (List.getElem_mem hi)
 obtain ⟨c1, c2, c3, c4⟩ := dF hnode
 have hll := ht.len
 have hwi : IntKind.i64.wrap ((i : Int) + 1) = ((i + 1 : Nat) : Int) := IntWalk.i64_in _ (by omega)
 obtain ⟨a1, a2, a3⟩ := gO ht hi
 refine R0 ?_
 refine aB fun K hK => Rg ?_
 have F := aI @Int.natCast_nonneg (aI @Int.ofNat_lt (aI hi (nM hi)))
 iterate 6 refine SF ?_
 refine T2 (hK _ _ _ ?_)
 clear hK K
 have F := hwi
 refine RF ?_
 refine aB fun K hK => ?_
 have key : ∀ fr ob nx, l[i].k ≠ 1 → Fits 2 fr ob (fin [(0, .own 1 (L.length + 1)), (1, .c (.slc (l.map Nd.cv))), (2, .c (.int .i64 ((i + 1 : Nat) : Int))), (8, .ptr 26 0)]) (fob [(0, .tab tabs), (1, .row 60 1 ((L ++ [wlN l[i]]).map lsC)), (26, .box 40 (.c l[i].cv))]) 300 → K fr ob nx := by
  rintro fr ob nx hk1 hf
  refine hK _ _ _ (bM hf ?_)
  clear hf hK K
  refine aB fun K hK => ?_
  refine R0 ?_
  refine aK ?_
  refine bE (α := {k : Nat // k ≤ l[i].c.toNat}) (fun k => (fin [(0, .own 1 (L.length + 1 + (cP l i k.1).length)), (1, .c (.slc (l.map Nd.cv))), (2, .c (.int .i64 (cR l k.1 (i + 1) : Nat))), (48, .c (.int .i64 l[i].c)), (49, .c (.int .i64 k.1))], fob [(0, .tab tabs), (1, .row 60 1 ((L ++ wlN l[i] :: cP l i k.1).map lsC))])) 2000 (fun k => l[i].c.toNat - k.1) ⟨0, by omega⟩ (aM (by omega) (by simp [aY, fin_at, finA_at, upd_at, HV.men, HV.menL, HV.norm, HV.toC, HV.toCL, gI, cR]) (by simp [bB, fob_at, upd_at, none0_at, bZ, HO.men, HV.men, HV.menL, HV.norm, HV.toC, HV.toCL, gI, cR])) ?_
  rintro ⟨k, hk⟩
  obtain ⟨k1, k2, k3⟩ := fU ht hi k hk
  have hkl := tH ht hi hk hk1
  refine R0 ?_
  refine aB fun K hK => ?_
  refine aH (b := decide ((k : Int) < l[i].c)) rfl (fun hb => ?_) (fun hb => ?_)
  ·
   have hlt : k < l[i].c.toNat := by simp at hb; omega
   have hkid := kT ht hi hlt
   clear hb
   obtain ⟨M, hM⟩ : ∃ M, M = L ++ wlN l[i] :: cP l i k := ⟨_, rfl⟩
   have hMl : L.length + 1 + (cP l i k).length = M.length := by rw [hM]; simp; omega
   rw [← hM, hMl]
   refine aJ ?_
   refine T0 (hK _ _ _ ?_)
   clear hK K
   refine aB fun K hK => ?_
   refine aK ?_
   refine Rg ?_
   iterate 3 refine S0 ?_
   refine HS rfl rfl fun K' hK' => T5 ?_
   refine lL [0, 1] (ih (l.length - cR l k (i + 1)) (by omega) M (cR l k (i + 1)) hkid (by omega) (by omega) (by omega)) rfl ⟨rfl, rfl, trivial⟩ (by simp) (by simp) ⟨rfl, rfl, rfl, rfl⟩ (by simp [gK, HO.men, HV.men, HV.menL]) (by simp [HV.menL, HV.men]) ?_
   rintro r os' ⟨rfl, rfl⟩
   rw [aR7, aM0]
   refine AX (hK' _ _ ?_)
   clear hK' K'
   iterate 5 refine S0 ?_
   refine T2 (hK _ _ _ ?_)
   clear hK K
   refine aL (by kernel_rfl) ?_
   refine TQ (IntWalk.i64_in ((k : Int) + 1) (by omega)) ?_
   refine ⟨⟨k + 1, hlt⟩, ?_, ?_⟩
   ·
    have e1 : M ++ eE l (cR l k (i + 1)) = L ++ wlN l[i] :: cP l i (k + 1) := by rw [hM, lQ ht hi hlt]; simp
    have e2 : (M ++ eE l (cR l k (i + 1))).length = L.length + 1 + (cP l i (k + 1)).length := by rw [e1]; simp; omega
    simp only []
    rw [← e1, ← e2, eV]
    exact fF
   show l[i].c.toNat - (k + 1) < l[i].c.toNat - k
   omega
  refine aX (T3 ?_)
  clear hK K
  refine AX (hK _ _ _ ?_)
  clear hK K
  have hke : k = l[i].c.toNat := by simp at hb; omega
  subst hke
  rw [qV ht hi] at hkl k3
  clear hb
  refine aB fun K hK => bD (by kernel_rfl) ?_
  simp only [sR, simprocAttr]
  have F := aI @dX @eH
  refine SGF ?_
  refine cB (g := none) 2008 rfl rfl fun K' hK' => ?_
  simp only [eR, gU, sH, ↓sP, sA, tyS, simprocAttr, dX, eH]
  repeat refine AI ?_
  refine cE (by first | rfl | simp) ?_
  try simp only [sH, ↓sP, sA, tyS, simprocAttr, dX, eH]
  refine AX (hK' _ _ ?_)
  clear hK' K'
  iterate 5 refine SGF ?_
  refine T2 (hK _ _ _ ?_)
  clear hK K
  refine aE (RT Tryz.results52 ?_)
  rw [nH ht hi hk1, qV ht hi]
  exact wP (M := L ++ wlN l[i] :: (cP l i l[i].c.toNat ++ [[wEnd]])) rfl rfl (by simp) (by simp [lsC, wEnd])
 refine R0 ?_
 refine aK ?_
 refine R0 ?_
 refine aH (b := (l[i].k == 1)) rfl (fun hb => ?_) (fun hb => ?_)
 ·
  have hk : l[i].k = 1 := by simpa using hb
  obtain ⟨⟨r1, r2⟩, r3, r4⟩ := aM1 (aW7 hnode hk)
  clear hb
  refine aB fun K hK => Rg ?_
  have F := aI @dX @eH
  iterate 3 refine SF ?_
  refine HS rfl rfl fun K' hK' => T6 ?_
  refine eA (args := [_]) 0 (bO1 l[i].q ⟨by omega, by omega⟩ ⟨by omega, by omega⟩) rfl (by simp) ⟨rfl, rfl, rfl, rfl⟩ ?_
  rintro u rfl
  refine AX (hK' _ _ ?_)
  clear hK' K'
  iterate 5 refine SF ?_
  refine T2 (hK _ _ _ ?_)
  clear hK K
  refine aE (RT Tryz.results52 ?_)
  rw [oZ hi hk, wN ht hi hk]
  exact wP (M := L ++ [wlR l[i].q]) rfl rfl (by simp) (by simp)
 have hk1 : l[i].k ≠ 1 := by simpa using hb
 clear hb
 refine R0 ?_
 refine aH (b := (l[i].k == 2)) rfl (fun hb => ?_) (fun hb => ?_)
 ·
  have hk : l[i].k = 2 := by simpa using hb
  have hwl : wlN l[i] = [kX] := by simp [wlN, hk]
  clear hb
  refine bD (by kernel_rfl) ?_
  simp only [sR, simprocAttr]
  refine SG0 ?_
  refine cB (g := none) 74 rfl rfl fun K' hK' => ?_
  simp only [eR, gU, sH, ↓sP, sA, tyS, simprocAttr]
  repeat refine AI ?_
  refine cE (by first | rfl | simp) ?_
  try simp only [sH, ↓sP, sA, tyS, simprocAttr]
  refine AX (hK' _ _ ?_)
  clear hK' K'
  iterate 3 refine SG0 ?_
  refine T4 ?_
  exact key _ _ _ hk1 (by rw [hwl]; exact aM (by omega) (by simp [aY, fin_at, finA_at, upd_at, HV.men, HV.menL, HV.norm, HV.toC, HV.toCL, lsC, kX, kY, cJ]) (by simp [bB, fob_at, upd_at, none0_at, bZ, HO.men, HV.men, HV.menL, HV.norm, HV.toC, HV.toCL, lsC, kX, kY, cJ]))
 have hk2 : l[i].k ≠ 2 := by simpa using hb
 clear hb
 refine R0 ?_
 refine aH (b := (l[i].k == 3)) rfl (fun hb => ?_) (fun hb => ?_)
 ·
  have hk : l[i].k = 3 := by simpa using hb
  have hwl : wlN l[i] = [kY] := by simp [wlN, hk]
  clear hb
  refine bD (by kernel_rfl) ?_
  simp only [sR, simprocAttr]
  refine SG0 ?_
  refine cB (g := none) 82 rfl rfl fun K' hK' => ?_
  simp only [eR, gU, sH, ↓sP, sA, tyS, simprocAttr]
  repeat refine AI ?_
  refine cE (by first | rfl | simp) ?_
  try simp only [sH, ↓sP, sA, tyS, simprocAttr]
  refine AX (hK' _ _ ?_)
  clear hK' K'
  iterate 3 refine SG0 ?_
  refine T4 ?_
  exact key _ _ _ hk1 (by rw [hwl]; exact aM (by omega) (by simp [aY, fin_at, finA_at, upd_at, HV.men, HV.menL, HV.norm, HV.toC, HV.toCL, lsC, kX, kY, cJ]) (by simp [bB, fob_at, upd_at, none0_at, bZ, HO.men, HV.men, HV.menL, HV.norm, HV.toC, HV.toCL, lsC, kX, kY, cJ]))
 have hk3 : l[i].k ≠ 3 := by simpa using hb
 have hk4 := aW6 hnode hk1 hk2 hk3
 clear hb
 refine R0 ?_
 refine aH (b := (l[i].k == 4)) rfl (fun hb => ?_) (fun hb => ?_)
 ·
  have hwl : wlN l[i] = [cJ, numW l[i].n] := by simp [wlN, hk2, hk3]
  have hnn := aW8 hnode hk4
  clear hb
  refine bD (by kernel_rfl) ?_
  simp only [sR, simprocAttr]
  iterate 3 refine SG0 ?_
  refine bI (g := none) rfl rfl fun K' hK' => T5 ?_
  refine eA (args := [_]) 0 (wM l[i].n ⟨by omega, by omega⟩) rfl (by simp) ⟨rfl, rfl, rfl, rfl⟩ ?_
  rintro u rfl
  refine AX (hK' _ _ ?_)
  clear hK' K'
  refine cB (g := none) 102 rfl rfl fun K' hK' => ?_
  simp only [eR, gU, sH, ↓sP, sA, tyS, simprocAttr]
  repeat refine AI ?_
  refine cE (by first | rfl | simp) ?_
  try simp only [sH, ↓sP, sA, tyS, simprocAttr]
  refine AX (hK' _ _ ?_)
  clear hK' K'
  iterate 3 refine SG0 ?_
  refine T4 ?_
  exact key _ _ _ hk1 (by rw [hwl]; exact aM (by omega) (by simp [aY, fin_at, finA_at, upd_at, HV.men, HV.menL, HV.norm, HV.toC, HV.toCL, lsC, kX, kY, cJ]) (by simp [bB, fob_at, upd_at, none0_at, bZ, HO.men, HV.men, HV.menL, HV.norm, HV.toC, HV.toCL, lsC, kX, kY, cJ]))
 rw [hk4] at hb
 cases hb

end Go.Proofs.YtlldglbooaefhaaGreatDoor

namespace Go.Pl
open Go Go.Hl

theorem zO : ∀ (l : List Pr) (i : Nat), gH l = true → gH (l.take i) = true
 | [], i, h => by grind
 | r :: l, 0, h => rfl
 | r :: l, i + 1, h => by
  simp only [gH, Bool.and_eq_true, Bool.not_eq_true'] at h
  simp only [List.take_succ_cons, gH, Bool.and_eq_true, Bool.not_eq_true']
  refine ⟨?_, zO l i h.2⟩
  grind
def aR8 (l : List Pr) (r : Pr) : Bool := (l.map Pr.a).contains r.a || (!dO r.a || (!(eC r.b).isSome || (!(eC r.c).isSome || (!inB r.g 0 vC || !cZ r.t))))
structure RlSt (l : List Pr) (i : Nat) : Prop where
 le : i ≤ l.length
 all : (l.take i).all jX = true
 apart : gH (l.take i) = true
theorem RlSt.zero (l : List Pr) : RlSt l 0 := ⟨by omega, by simp, by simp [gH]⟩
theorem aW9 (l : List Pr) (r : Pr) : aR8 l r = !(!(l.map Pr.a).contains r.a && jX r) := by simp_all [aR8, jX, Pr.a, dO, eC, inB, vC, cZ]
theorem RlSt.succ {l : List Pr} {i : Nat} (h : RlSt l i) (hi : i < l.length) (hb : aR8 (l.take i) l[i] = false) : RlSt l (i + 1) := by
 rw [aW9] at hb
 simp only [Bool.not_eq_false', Bool.and_eq_true] at hb
 refine ⟨hi, ?_, ?_⟩
 ·
  rw [List.take_succ_eq_append_getElem hi, List.all_append, h.all, List.all_cons, hb.2]; rfl
 ·
  rw [List.take_succ_eq_append_getElem hi, tD, h.apart, hb.1]; rfl
theorem aE0 {l : List Pr} {i : Nat} (hi : i < l.length) (hb : aR8 (l.take i) l[i] = true) : (l.all jX && gH l) = false := by
 rw [Bool.eq_false_iff]
 intro h
 simp only [Bool.and_eq_true] at h
 have h1 := zO l (i + 1) h.2
 rw [List.take_succ_eq_append_getElem hi, tD] at h1
 simp_all [Bool.and_eq_true, List.all_eq_true, List.getElem_mem, aW9]
theorem aE1 {p : Po} (h : (p.r.all jX && gH p.r) = false) : eW p = false := by
 simp only [eW, h, Bool.and_false]
def nmD (l : List Pr) : MD := l.foldl (fun D r => jK D r.a (.val (.bool true))) []
theorem bO3 (l : List Pr) (r : Pr) : nmD (l ++ [r]) = jK (nmD l) r.a (.val (.bool true)) := by simp [nmD, List.foldl_append]
theorem cE7 (D : MD) (k j : aG) (h : k ≠ j) (m : MV) : cD (jK D k m) j = cD D j := by
 induction D with
 | nil => simp [jK, cD, h]
 | cons x D ih =>
  grind [jK, cD]
theorem bO4 (s : aG) : ∀ (l : List Pr) (D : MD), cD (l.foldl (fun D r => jK D r.a (.val (.bool true))) D) s = if (l.map Pr.a).contains s then some (.val (.bool true)) else cD D s
 | [], D => rfl
 | r :: l, D => by
  rw [List.foldl_cons, bO4 s l, List.map_cons, List.contains_cons]
  by_cases h : r.a = s
  all_goals simp_all [cC, cE7, Ne.symm, Bool.false_or]
theorem aX0 (s : aG) (l : List Pr) : cD (nmD l) s = if (l.map Pr.a).contains s then some (.val (.bool true)) else none := bO4 s l []
def tQ (p : Po) : Bool := !dO p.n || (!inB p.v 1 1099511627776 || decide ((16 : Int) < p.r.length))
def nO (c : Bool) (r : Pr) : Bool := c || (!dO r.a || (!(eC r.b).isSome || (!(eC r.c).isSome || (!inB r.g 0 1099511627776 || !cZ r.t))))
theorem aM2 (l : List Pr) (r : Pr) : nO ((l.map Pr.a).contains r.a) r = aR8 l r := by simp only [nO, aR8, jF]
theorem zP {p : Po} (h : tQ p = true) : eW p = false := by grind [tQ, eW, jF, dO, inB, decide]
theorem aM3 {p : Po} (h : tQ p = false) (h2 : RlSt p.r p.r.length) : eW p = true := by
 unfold tQ at h
 rw [eW, jF]
 have h3 := h2.all
 have h4 := h2.apart
 grind
structure PoSz (p : Po) : Prop where
 n : p.n.length < 2 ^ 63
 r : p.r.length < 2 ^ 40
 a : ∀ r ∈ p.r, r.a.length < 2 ^ 63
 t : ∀ r ∈ p.r, ∀ n ∈ r.t, n.q.t.length < 2 ^ 63
end Go.Pl

namespace Go.Proofs.YtlldglbooaefhaaGreatDoor
open Go Go.Hl Go.Pl
set_option maxRecDepth 10000
set_option maxHeartbeats 16000000

def aE2 (p : Po) : Bool := !dO p.n || (decide (p.v < 1) || (decide ((1099511627776 : Int) < p.v) || decide ((16 : Int) < p.r.length)))
theorem aX1 (p : Po) : aE2 p = tQ p := by
 have h1 : decide (p.v < 1) = !decide (1 ≤ p.v) := by rw [← decide_not]; exact decide_eq_decide.2 (by omega)
 have h2 : decide ((1099511627776 : Int) < p.v) = !decide (p.v ≤ 1099511627776) := by rw [← decide_not]; exact decide_eq_decide.2 (by omega)
 rw [aE2, tQ, inB, h1, h2]
 cases dO p.n <;> cases decide (1 ≤ p.v) <;> cases decide (p.v ≤ 1099511627776) <;> rfl
def aE3 (r : Pr) : Bool := !dO r.a || (!(eC r.b).isSome || (!(eC r.c).isSome || (!inN r.g || !cZ r.t)))
theorem aR9 (l : List Pr) (r : Pr) : aR8 l r = ((l.map Pr.a).contains r.a || aE3 r) := rfl

theorem zQ (p : Po) (hp : PoSz p) : bT Tryz.prog 30 [p.cv] (fun v => v = .bool (eW p)) := by
 have hpn := hp.n
 have hpr := hp.r
 refine FW Tryz.func30 ?_
 refine R0 ?_
 refine aB fun K hK => ?_
 refine aB fun K hK => ?_
 have key : ∀ (b : Bool) fr ob nx, b = aE2 p → Fits 0 fr ob (fin [(1, .ptr 0 0), (25, .c (.bool b))]) (fob [(0, .box 45 (.c p.cv))]) 600 → K fr ob nx := by
  rintro b fr ob nx rfl hf
  refine hK _ _ _ (bM hf ?_)
  clear hf hK K
  refine aH (b := aE2 p) rfl (fun hb => ?_) (fun hb => ?_)
  ·
   refine R0 ?_
   refine aE (RT Tryz.results30 ?_)
   exact aF [] (.bool false) rfl (by rw [zP (by rw [← aX1]; exact hb)])
  refine aJ ?_
  refine T0 (hK _ _ _ ?_)
  clear hK K
  refine aB fun K hK => ?_
  refine R0 ?_
  refine aK ?_
  have hhead := hb
  rw [aX1] at hhead
  clear hb
  refine bE (α := {i : Nat // RlSt p.r i}) (fun i => (fin [(1, .ptr 0 0), (3, .c (.int .i64 i.1))], fob [(0, .box 45 (.c p.cv))])) 2000 (fun i => p.r.length - i.1) ⟨0, RlSt.zero p.r⟩ (fF) ?_
  rintro ⟨i, hΦ⟩
  refine aB fun K hK => ?_
  refine aB fun K hK => Rg ?_
  iterate 5 refine S0 ?_
  refine T2 (hK _ _ _ ?_)
  clear hK K
  refine aH (b := decide ((i : Int) < p.r.length)) rfl (fun hb => ?_) (fun hb => ?_)
  ·
   have hlt : i < p.r.length := by simpa using hb
   clear hb
   obtain ⟨r, hr⟩ : ∃ r, r = p.r[i] := ⟨_, rfl⟩
   have hmem : r ∈ p.r := by rw [hr]; exact List.getElem_mem hlt
   have hra := hp.a r hmem
   have hrt := hp.t r hmem
   refine aJ ?_
   refine T0 (hK _ _ _ ?_)
   clear hK K
   refine aB fun K hK => ?_
   refine aK ?_
   refine aB fun K hK => Rg ?_
   iterate 7 refine S0 ?_ (e := fun _ h_ => by simp only [sH, ↓sP, sA, tyS, simprocAttr, Int.natCast_nonneg, Int.ofNat_lt, hlt, bN hlt, ← hr]; exact AX h_)
   refine T2 (hK _ _ _ ?_)
   clear hK K
   refine aB fun K hK => ?_
   refine aB fun K hK => ?_
   have key : ∀ (b : Bool) fr ob nx, b = aE3 r → Fits 0 fr ob (fin [(1, .ptr 0 0), (3, .c (.int .i64 i)), (4, .ptr 2040 0), (65, .c (.bool b))]) (fob [(0, .box 45 (.c p.cv)), (2040, .box 54 (.c r.cv))]) 3000 → K fr ob nx := by
    rintro b fr ob nx rfl hf
    refine hK _ _ _ (bM hf ?_)
    clear hf hK K
    refine aH (b := aE3 r) rfl (fun hb => ?_) (fun hb => ?_)
    ·
     refine R0 ?_
     refine aE (RT Tryz.results30 ?_)
     exact aF [] (.bool false) rfl (by rw [aE1 (aE0 hlt (by rw [aR9, ← hr, hb, Bool.or_true]))])
    refine aJ ?_
    refine T0 (hK _ _ _ ?_)
    clear hK K
    refine R0 ?_
    refine aK ?_
    have hbn := hb
    clear hb
    refine bE (α := {k : Nat // k ≤ i ∧ ((p.r.take k).map Pr.a).contains r.a = false}) (fun k => (fin [(1, .ptr 0 0), (3, .c (.int .i64 i)), (4, .ptr 2040 0), (5, .c (.int .i64 k.1))], fob [(0, .box 45 (.c p.cv)), (2040, .box 54 (.c r.cv))])) 5000 (fun k => i - k.1) ⟨0, by omega, rfl⟩ (fF) ?_
    rintro ⟨k, hk, hno⟩
    refine aB fun K hK => ?_
    refine R0 ?_
    refine aH (b := decide ((k : Int) < (i : Int))) rfl (fun hb => ?_) (fun hb => ?_)
    ·
     have hki : k < i := by simpa using hb
     have hkl : k < p.r.length := by omega
     clear hb
     refine aJ ?_
     refine T0 (hK _ _ _ ?_)
     clear hK K
     refine aB fun K hK => ?_
     refine aK ?_
     refine aB fun K hK => QR ?_
     have F := aI @Int.natCast_nonneg (aI @Int.ofNat_lt (aI hkl (nM hkl)))
     iterate 9 refine SF ?_
     refine T2 (hK _ _ _ ?_)
     clear hK K
     refine aH (b := p.r[k].a == r.a) rfl (fun hb => ?_) (fun hb => ?_)
     ·
      refine R0 ?_
      refine aE (RT Tryz.results30 ?_)
      have he : p.r[k].a = r.a := by simpa using hb
      have hc : ((p.r.take i).map Pr.a).contains r.a = true := by
       rw [List.contains_iff_mem, ← he]
       exact List.mem_map_of_mem (List.mem_iff_getElem.2 ⟨k, by simp; omega, by simp⟩)
      exact aF [] (.bool false) rfl (by rw [aE1 (aE0 hlt (by rw [aR9, ← hr, hc, Bool.true_or]))])
     refine aJ ?_
     refine T0 (hK _ _ _ ?_)
     clear hK K
     refine aL (by kernel_rfl) ?_
     refine TQ (IntWalk.i64_in ((k : Int) + 1) (by omega)) ?_
     have he : (r.a == p.r[k].a) = false := by
      rw [beq_eq_false_iff_ne] at hb ⊢
      exact fun h => hb h.symm
     refine ⟨⟨k + 1, hki, by rw [List.take_succ_eq_append_getElem hkl]; simp only [List.map_append, List.contains_append, hno, List.map_cons, List.map_nil, List.contains_cons, List.contains_nil, he, Bool.or_false]⟩, fF, ?_⟩
     show i - (k + 1) < i - k
     omega
    refine aX (T3 ?_)
    clear hK K
    refine AX (hK _ _ _ ?_)
    clear hK K
    have hke : k = i := by simp at hb; omega
    subst hke
    have hΦ2 := hΦ.succ hlt (by rw [aR9, ← hr, hno, hbn]; rfl)
    clear hb
    refine aL (by kernel_rfl) ?_
    refine TQ (IntWalk.i64_in ((k : Int) + 1) (by omega)) ?_
    refine ⟨⟨k + 1, hΦ2⟩, fF, ?_⟩
    show p.r.length - (k + 1) < p.r.length - k
    omega
   refine Rg ?_
   iterate 2 refine S0 ?_
   refine HS rfl rfl fun K' hK' => T5 ?_
   refine C1 (vQ r.a (by omega)) ?_
   rintro u rfl
   refine AX (hK' _ _ ?_)
   clear hK' K'
   iterate 2 refine S0 ?_
   refine aD 40 rfl (fun h7_40 => ?_) (fun h7_40 => ?_)
   ·
    have F := h7_40
    iterate 2 refine SF ?_
    refine aZ (g := some (42, false)) rfl rfl fun K' hK' => T6 ?_
    refine C1 (aK9 r.b) ?_
    rintro u rfl
    refine AX (hK' _ _ ?_)
    clear hK' K'
    iterate 3 refine SF ?_
    refine aD 45 rfl (fun h7_45 => ?_) (fun h7_45 => ?_)
    ·
     have F := aI h7_40 h7_45
     iterate 2 refine SF ?_
     refine aZ (g := some (48, false)) rfl rfl fun K' hK' => T6 ?_
     refine C1 (aK9 r.c) ?_
     rintro u rfl
     refine AX (hK' _ _ ?_)
     clear hK' K'
     iterate 3 refine SF ?_
     refine aD 51 rfl (fun h7_51 => ?_) (fun h7_51 => ?_)
     ·
      have F := aI h7_40 (aI h7_45 h7_51)
      iterate 2 refine SF ?_
      refine aZ (g := some (54, false)) rfl rfl fun K' hK' => T6 ?_
      refine C1 (vP r.g) ?_
      rintro u rfl
      refine AX (hK' _ _ ?_)
      clear hK' K'
      iterate 3 refine SF ?_
      refine aD 57 rfl (fun h7_57 => ?_) (fun h7_57 => ?_)
      ·
       have F := aI h7_40 (aI h7_45 (aI h7_51 h7_57))
       iterate 2 refine SF ?_
       refine aZ (g := some (60, false)) rfl rfl fun K' hK' => T6 ?_
       refine C1 (bM9 r.t hrt) ?_
       rintro u rfl
       refine AX (hK' _ _ ?_)
       clear hK' K'
       iterate 2 refine SF ?_
       refine aD 63 rfl (fun h7_63 => ?_) (fun h7_63 => ?_)
       ·
        simp only [h7_63]
        refine T4 ?_
        exact key false _ _ _ (by simp only [aE3, h7_40, h7_45, h7_51, h7_57, h7_63, Bool.not_true, Bool.not_false, Bool.true_or, Bool.false_or]) (fF)
       simp only [h7_63]
       refine T4 ?_
       exact key true _ _ _ (by simp only [aE3, h7_40, h7_45, h7_51, h7_57, h7_63, Bool.not_true, Bool.not_false, Bool.true_or, Bool.false_or]) (fF)
      have F := aI h7_40 (aI h7_45 (aI h7_51 h7_57))
      iterate 5 refine SF ?_
      refine T4 ?_
      exact key true _ _ _ (by simp only [aE3, h7_40, h7_45, h7_51, h7_57, Bool.not_true, Bool.not_false, Bool.true_or, Bool.false_or]) (fF)
     have F := aI h7_40 (aI h7_45 h7_51)
     iterate 11 refine SF ?_
     refine T4 ?_
     exact key true _ _ _ (by simp only [aE3, h7_40, h7_45, h7_51, Bool.not_true, Bool.not_false, Bool.true_or, Bool.false_or]) (fF)
    have F := aI h7_40 h7_45
    iterate 17 refine SF ?_
    refine T4 ?_
    exact key true _ _ _ (by simp only [aE3, h7_40, h7_45, Bool.not_true, Bool.not_false, Bool.true_or, Bool.false_or]) (fF)
   have F := h7_40
   iterate 23 refine SF ?_
   refine T4 ?_
   exact key true _ _ _ (by simp only [aE3, h7_40, Bool.not_true, Bool.not_false, Bool.true_or, Bool.false_or]) (fF)
  refine aX (T3 ?_)
  clear hK K
  refine AX (hK _ _ _ ?_)
  clear hK K
  refine R0 ?_
  refine aE (RT Tryz.results30 ?_)
  have hie : i = p.r.length := by have := hΦ.le; simp at hb; omega
  subst hie
  exact aF [] (.bool true) rfl (by rw [aM3 hhead hΦ])
 refine Rg ?_
 iterate 2 refine S0 ?_
 refine HS rfl rfl fun K' hK' => T5 ?_
 refine C1 (vQ p.n (by omega)) ?_
 rintro u rfl
 refine AX (hK' _ _ ?_)
 clear hK' K'
 iterate 2 refine S0 ?_
 refine aD 8 rfl (fun h1_8 => ?_) (fun h1_8 => ?_)
 ·
  have F := h1_8
  iterate 5 refine SF ?_
  refine aD 13 rfl (fun h1_13 => ?_) (fun h1_13 => ?_)
  ·
   have F := aI h1_8 h1_13
   iterate 10 refine SF ?_
   refine T4 ?_
   exact key true _ _ _ (by simp only [aE2, h1_8, h1_13, Bool.not_true, Bool.not_false, Bool.true_or, Bool.false_or]) (fF)
  have F := aI h1_8 h1_13
  iterate 5 refine SF ?_
  refine aD 18 rfl (fun h1_18 => ?_) (fun h1_18 => ?_)
  ·
   have F := aI h1_8 (aI h1_13 h1_18)
   iterate 5 refine SF ?_
   refine T4 ?_
   exact key true _ _ _ (by simp only [aE2, h1_8, h1_13, h1_18, Bool.not_true, Bool.not_false, Bool.true_or, Bool.false_or]) (fF)
  have F := aI h1_8 (aI h1_13 h1_18)
  iterate 5 refine SF ?_
  refine aD 24 rfl (fun h1_24 => ?_) (fun h1_24 => ?_)
  ·
   simp only [h1_24]
   refine T4 ?_
   exact key true _ _ _ (by simp only [aE2, h1_8, h1_13, h1_18, h1_24, Bool.not_true, Bool.not_false, Bool.true_or, Bool.false_or]) (fF)
  simp only [h1_24]
  refine T4 ?_
  exact key false _ _ _ (by simp only [aE2, h1_8, h1_13, h1_18, h1_24, Bool.not_true, Bool.not_false, Bool.true_or, Bool.false_or]) (fF)
 have F := h1_8
 iterate 15 refine SF ?_
 refine T4 ?_
 exact key true _ _ _ (by simp only [aE2, h1_8, Bool.not_true, Bool.not_false, Bool.true_or, Bool.false_or]) (fF)


structure Few (p : Po) : Prop where
 r : p.r.length ≤ 20
 n : p.n.length ≤ 100
 t : ∀ r ∈ p.r, r.t.length ≤ 70

theorem bZ8 (p : Po) (hr : p.r.length < 2 ^ 63) : bT Tryz.prog 26 [p.cv] (fun v => ∃ b, v = .bool b ∧ (b = true → Few p)) := by
 refine FW Tryz.func26 ?_
 refine R0 ?_
 refine aB fun K hK => ?_
 refine R0 ?_
 refine aK ?_
 refine bE (α := {i : Nat // i ≤ p.r.length ∧ ∀ r ∈ p.r.take i, r.t.length ≤ 70}) (fun i => (fin [(1, .ptr 0 0), (3, .c (.int .i64 i.1))], fob [(0, .box 45 (.c p.cv))])) 2000 (fun i => p.r.length - i.1) ⟨0, by omega, by simp⟩ (fF) ?_
 rintro ⟨i, hi, hall⟩
 refine aB fun K hK => ?_
 refine aB fun K hK => Rg ?_
 iterate 5 refine S0 ?_
 refine T2 (hK _ _ _ ?_)
 clear hK K
 refine aH (b := decide ((i : Int) < p.r.length)) rfl (fun hb => ?_) (fun hb => ?_)
 ·
  have hlt : i < p.r.length := by simpa using hb
  clear hb
  refine aJ ?_
  refine T0 (hK _ _ _ ?_)
  clear hK K
  refine aB fun K hK => ?_
  refine aK ?_
  refine aB fun K hK => Rg ?_
  have F := aI @Int.natCast_nonneg (aI @Int.ofNat_lt (aI hlt (nM hlt)))
  iterate 7 refine SF ?_
  refine T2 (hK _ _ _ ?_)
  clear hK K
  refine aB fun K hK => ?_
  have key : ∀ (b : Bool) fr ob nx, (b = false → p.r[i].t.length ≤ 70) → Fits 0 fr ob (fin [(1, .ptr 0 0), (3, .c (.int .i64 i)), (34, .c (.bool b))]) (fob [(0, .box 45 (.c p.cv))]) 3000 → K fr ob nx := by
   rintro b fr ob nx hbf hf
   refine hK _ _ _ (bM hf ?_)
   clear hf hK K
   refine aH (b := b) rfl (fun hb => ?_) (fun hb => ?_)
   ·
    refine R0 ?_
    refine aE (RT Tryz.results26 ?_)
    exact aF [] (.bool false) rfl ⟨false, rfl, fun h => by cases h⟩
   refine aJ ?_
   refine T0 (hK _ _ _ ?_)
   clear hK K
   refine aL (by kernel_rfl) ?_
   refine TQ (IntWalk.i64_in ((i : Int) + 1) (by omega)) ?_
   refine ⟨⟨i + 1, hlt, fun r hr => ?_⟩, fF, ?_⟩
   ·
    rw [List.take_succ_eq_append_getElem hlt, List.mem_append, List.mem_singleton] at hr
    rcases hr with hr | rfl
    ·
     exact hall r hr
    exact hbf hb
   show p.r.length - (i + 1) < p.r.length - i
   omega
  refine Rg ?_
  iterate 5 refine S0 ?_
  refine aD 20 rfl (fun h5_20 => ?_) (fun h5_20 => ?_)
  ·
   have F := h5_20
   iterate 13 refine SF ?_
   refine T4 ?_
   exact key true _ _ _ (fun h => by cases h) (fF)
  have F := h5_20
  iterate 13 refine SF ?_
  refine aD 33 rfl (fun h5_33 => ?_) (fun h5_33 => ?_)
  ·
   simp only [h5_33]
   refine T4 ?_
   exact key true _ _ _ (fun _ => by simp at h5_20; omega) (fF)
  simp only [h5_33]
  refine T4 ?_
  exact key false _ _ _ (fun _ => by simp at h5_20; omega) (fF)
 refine aX (T3 ?_)
 clear hK K
 refine AX (hK _ _ _ ?_)
 clear hK K
 have hie : i = p.r.length := by simp at hb; omega
 subst hie
 rw [List.take_length] at hall
 clear hb
 refine aB fun K hK => Rg ?_
 iterate 5 refine S0 ?_
 refine aD 38 rfl (fun h7_38 => ?_) (fun h7_38 => ?_)
 ·
  have F := h7_38
  iterate 6 refine SF ?_
  refine T2 (hK _ _ _ ?_)
  clear hK K
  refine aE (RT Tryz.results26 ?_)
  exact aF [] (.bool _) rfl ⟨_, rfl, fun h => ⟨by simp at h7_38; omega, by simp at h; omega, hall⟩⟩
 have F := h7_38
 iterate 6 refine SF ?_
 refine T2 (hK _ _ _ ?_)
 clear hK K
 refine aE (RT Tryz.results26 ?_)
 exact aF [] (.bool false) rfl ⟨false, rfl, fun h => by cases h⟩

end Go.Proofs.YtlldglbooaefhaaGreatDoor

namespace Go.Proofs.YtlldglbooaefhaaGreatDoor
open Go Go.Hl Go.Pl
set_option maxRecDepth 10000
set_option maxHeartbeats 16000000

theorem aM4 (w : aG) (hl : w.length < 2 ^ 40) : bT Tryz.prog 67 [.str w] (fun v => v = .str (gJ w)) := by
 refine FW Tryz.func67 ?_
 refine R0 ?_
 refine aB fun K hK => ?_
 refine R0 ?_
 refine aH (b := w == []) rfl (fun hb => ?_) (fun hb => ?_)
 ·
  refine R0 ?_
  refine aE (RT Tryz.results67 ?_)
  exact aF [] (.str [126]) rfl (by rw [gJ, if_pos (by simpa using hb)])
 refine aJ ?_
 refine T0 (hK _ _ _ ?_)
 clear hK K
 have hne : w ≠ [] := by simpa using hb
 clear hb
 refine R0 ?_
 refine R0 ?_
 refine aB fun K hK => ?_
 refine R0 ?_
 refine aK ?_
 refine mM 4 0 5 1 rfl rfl rfl rfl ?_
 refine bE (α := {i : Nat // i ≤ w.length}) (fun i => (fin [(0, .c (.str w)), (3, .c (.str [48, 49, 50, 51, 52, 53, 54, 55, 56, 57, 65, 66, 67, 68, 69, 70])), (4, .own 24 (cH (w.take i.1)).length), (5, .c (.int .i64 i.1))], fob [(24, .row 5 1 ((cH (w.take i.1)).map cV))])) 100 (fun i => w.length - i.1) ⟨0, by omega⟩ (fF) ?_
 rintro ⟨i, hi⟩
 have hle := kH w i
 have hle3 := pT w
 refine aB fun K hK => ?_
 refine aB fun K hK => Rg ?_
 iterate 4 refine S0 ?_
 refine T2 (hK _ _ _ ?_)
 clear hK K
 refine aH (b := decide ((i : Int) < w.length)) rfl (fun hb => ?_) (fun hb => ?_)
 ·
  have hlt : i < w.length := by simpa using hb
  have hgd : w.getD i 0 = w[i] := by simp [hlt]
  have hs := oV hlt
  refine aJ ?_
  refine T0 (hK _ _ _ ?_)
  clear hK K
  refine aB fun K hK => ?_
  refine aK ?_
  refine aB fun K hK => Rg ?_
  iterate 3 refine S0 ?_ (e := fun _ h_ => by simp only [sH, ↓sP, sA, tyS, simprocAttr, Int.natCast_nonneg, Int.ofNat_lt, hlt, hgd]; exact AX h_)
  refine HS rfl rfl fun K' hK' => ?_
  simp only [sH, ↓sP, sA, tyS, simprocAttr, Int.natCast_nonneg, Int.ofNat_lt, hlt, hgd]
  refine C1 (bA4 w[i]) ?_
  rintro u rfl
  refine AX (hK' _ _ ?_)
  clear hK' K'
  refine T2 (hK _ _ _ ?_)
  clear hK K
  refine aH (b := cG w[i]) rfl (fun hb => ?_) (fun hb => ?_)
  ·
   refine Rg ?_
   iterate 7 refine S0 ?_ (e := fun _ h_ => by simp only [sH, ↓sP, sA, tyS, simprocAttr, Int.natCast_nonneg, Int.ofNat_lt, hlt, hgd, List.length_append, List.length_map]; exact AX h_)
   refine T2 (hK _ _ _ ?_)
   clear hK K
   refine aL (by kernel_rfl) ?_
   refine TQ (iQ i) ?_
   refine ⟨⟨i + 1, hlt⟩, aM (by omega) ?_ ?_, ?_⟩
   ·
    rw [hs, iP, if_pos hb]
    simp [aY, upd_at, fin_at, HV.men]
   ·
    rw [hs, iP, if_pos hb, List.map_append]
    exact ⟨rfl, by omega, trivial, trivial⟩
   show w.length - (i + 1) < w.length - i
   omega
  have h16 : ((w[i].toNat / 16 : Nat) : Int) < 16 := by have := w[i].toNat_lt; omega
  have h15 : ((w[i].toNat % 16 : Nat) : Int) < 16 := by omega
  refine DW [(0, [], []), (1, [], []), (2, [], []), (3, [], []), (4, [], []), (5, [], []), (6, [], []), (7, [], []), (8, [], []), (9, [], []), (10, [], []), (11, [], []), (12, [], []), (13, [], []), (14, [], []), (15, [], [])] [0, 0, 0, 0, 12, 28, 62, 0, 0, 0, 768, 1792, 3968, 8190, 16383, 32767] ?_
  iterate 16 refine W0 ?_ (e := fun _ h_ => by simp only [sH, ↓sP, sA, tyS, simprocAttr, Int.natCast_nonneg, Int.ofNat_lt, hlt, hgd, List.length_append, List.length_map, cC4, bW0, h16, h15]; exact AX h_)
  refine T2 (hK _ _ _ ?_)
  clear hK K
  refine aL (by kernel_rfl) ?_
  refine TQ (iQ i) ?_
  refine ⟨⟨i + 1, hlt⟩, aM (by omega) ?_ ?_, ?_⟩
  ·
   rw [hs, iP, if_neg (by rw [hb]; simp)]
   simp [aY, upd_at, fin_at, HV.men]
  ·
   rw [hs, iP, if_neg (by rw [hb]; simp), List.map_append]
   exact ⟨rfl, by omega, trivial, trivial⟩
  show w.length - (i + 1) < w.length - i
  omega
 refine aX (T3 ?_)
 clear hK K
 refine AX (hK _ _ _ ?_)
 clear hK K
 refine eB [24] (bM (fr2 := fin [(4, .c (.slc ((cH (w.take i)).map cV)))]) (ob2 := fob []) (nx2 := 200) (aM (by omega) (by simp [aY, iE, fin_at, finA_at, upd_at, fob_at, HV.close, HV.closeL, CV.denil, CV.denilL, cO, HV.men, HV.menL, HV.norm, HV.toC, HV.toCL]) (by simp [bB, iF, fob_at, upd_at, none0_at, bZ, HO.close, HV.close, HV.closeL, HO.men, HV.men, HV.menL, HV.norm, HV.toC, HV.toCL])) ?_)
 have F := @bytesC_map
 refine RF ?_
 refine aE (RT Tryz.results67 ?_)
 have hei : i = w.length := by simp at hb; omega
 subst hei
 exact aF [] (.str (cH w)) (by rw [List.take_length]; rfl) (by rw [gJ, if_neg hne])


theorem bU5 (ls : List (List aG)) (h0 : ls.length < 2 ^ 40) (h1 : ∀ l ∈ ls, l.length < 2 ^ 40) : gD Tryz.prog 37 [.slc (ls.map fun l => .slc (l.map .str))] (fun u v => u = .slc ((mR ls).map cV) ∧ v = .int .i64 (jM ls)) := by
 refine FW Tryz.func37 ?_
 refine R0 ?_
 refine aB fun K hK => ?_
 refine R0 ?_
 refine aH (b := decide ((1000 : Int) < ls.length)) rfl (fun hb => ?_) (fun hb => ?_)
 ·
  refine R0 ?_
  refine aE (RT Tryz.results37 ?_)
  have hE := yG (ls := ls) (by simp at hb; omega)
  refine aT [] (.slc []) (.int .i64 3) ?_ ⟨by rw [gW (by rw [hE]; decide)]; rfl, by rw [hE]⟩
  simp [HV.close, HV.closeL, CV.denil, CV.denilL, HV.norm, HV.toC, HV.toCL]
 refine aJ ?_
 refine T0 (hK _ _ _ ?_)
 clear hK K
 have hn : ls.length ≤ 1000 := by simp at hb; omega
 clear hb
 refine R0 ?_
 refine aB fun K hK => ?_
 refine R0 ?_
 refine aK ?_
 refine mM 4 0 5 1 rfl rfl rfl rfl ?_
 refine bE (α := {i : Nat // i ≤ ls.length ∧ ∀ x ∈ ls.take i, okL x = true}) (fun i => (fin [(0, .c (.slc (ls.map fun l => .slc (l.map .str)))), (4, .own 28 (eT (ls.take i.1)).length), (5, .c (.int .i64 i.1))], fob [(28, .row 5 1 ((eT (ls.take i.1)).map cV))])) 100 (fun i => ls.length - i.1) ⟨0, by omega, by simp⟩ (fF) ?_
 rintro ⟨i, hi, hk⟩
 refine aB fun K hK => ?_
 refine aB fun K hK => Rg ?_
 iterate 4 refine S0 ?_
 refine T2 (hK _ _ _ ?_)
 clear hK K
 refine aH (b := decide ((i : Int) < ls.length)) rfl (fun hb => ?_) (fun hb => ?_)
 ·
  have hlt : i < ls.length := by simpa using hb
  clear hb
  have hl1 := h1 ls[i] (List.getElem_mem hlt)
  have hne : ∀ l ∈ ls.take i, l ≠ [] := fun l hl => ((jT l).1 (hk l hl)).1
  have hsd := aT9 hk
  rw [List.length_take] at hsd
  have hdl := pV hne
  have hdt1 := yF hlt
  obtain ⟨l, hl⟩ : ∃ l, l = ls[i] := ⟨_, rfl⟩
  have hln : nth (ls.map fun l => CV.slc (l.map .str)) i = .slc (l.map .str) := by rw [bN hlt, hl]
  rw [← hl] at hdt1 hl1
  have hlti : (i : Int) < ls.length := by omega
  refine aJ ?_
  refine T0 (hK _ _ _ ?_)
  clear hK K
  refine aB fun K hK => ?_
  refine aK ?_
  refine aB fun K hK => ?_
  refine aB fun K hK => Rg ?_
  have F := aI @Int.natCast_nonneg (aI @Int.ofNat_lt (aI hlt hln))
  iterate 6 refine SF ?_
  refine T2 (hK _ _ _ ?_)
  clear hK K
  refine aH (b := (l.length : Int) == 0) rfl (fun hb => ?_) (fun hb => ?_)
  ·
   refine R0 ?_
   refine aE (RT Tryz.results37 ?_)
   have hc : lJ l = 1 := by rw [lJ, if_pos (by simp at hb; simp [hb])]
   have hE := pX hn hlt hk (by rw [← hl, okL, hc]; rfl)
   rw [← hl, hc] at hE
   refine aT [] (.slc []) (.int .i64 1) ?_ ⟨by rw [gW (by rw [hE]; decide)]; rfl, by rw [hE]⟩
   simp [HV.close, HV.closeL, CV.denil, CV.denilL, HV.norm, HV.toC, HV.toCL]
  refine aJ ?_
  refine T0 (hK _ _ _ ?_)
  clear hK K
  refine aB fun K hK => ?_
  have hn0 : l.length ≠ 0 := by simp at hb; simp [hb]
  clear hb
  refine aB fun K hK => Rg ?_
  iterate 6 refine SF ?_
  refine T2 (hK _ _ _ ?_)
  clear hK K
  refine aH (b := decide ((120 : Int) < l.length)) rfl (fun hb => ?_) (fun hb => ?_)
  ·
   refine R0 ?_
   refine aE (RT Tryz.results37 ?_)
   have hc : lJ l = 3 := by rw [lJ, if_neg hn0, if_pos (by simp at hb; omega)]
   have hE := pX hn hlt hk (by rw [← hl, okL, hc]; rfl)
   rw [← hl, hc] at hE
   refine aT [] (.slc []) (.int .i64 3) ?_ ⟨by rw [gW (by rw [hE]; decide)]; rfl, by rw [hE]⟩
   simp [HV.close, HV.closeL, CV.denil, CV.denilL, HV.norm, HV.toC, HV.toCL]
  refine aJ ?_
  refine T0 (hK _ _ _ ?_)
  clear hK K
  refine aB fun K hK => ?_
  have hn1 : l.length ≤ 120 := by simp at hb; omega
  clear hb
  refine R0 ?_
  refine aK ?_
  refine bE (α := {k : Nat // k ≤ l.length ∧ ∀ x ∈ l.take k, x.length ≤ 32768}) (fun k => (fin [(0, .c (.slc (ls.map fun l => .slc (l.map .str)))), (4, .own 28 (eT (ls.take i) ++ fS (l.take k.1)).length), (5, .c (.int .i64 i)), (6, .c (.int .i64 k.1))], fob [(28, .row 5 1 ((eT (ls.take i) ++ fS (l.take k.1)).map cV))])) 200 (fun k => l.length - k.1) ⟨0, by omega, by simp⟩ (fF) ?_
  rintro ⟨k, hk', hkw⟩
  have hsw := bG5 (l.take k) hkw
  rw [List.length_take] at hsw
  refine aB fun K hK => ?_
  refine aB fun K hK => Rg ?_
  have F := aI @Int.natCast_nonneg (aI hlti hln)
  iterate 7 refine SF ?_
  refine T2 (hK _ _ _ ?_)
  clear hK K
  refine aH (b := decide ((k : Int) < l.length)) rfl (fun hb => ?_) (fun hb => ?_)
  ·
   have hlk : k < l.length := by simpa using hb
   clear hb
   refine aJ ?_
   refine T0 (hK _ _ _ ?_)
   clear hK K
   refine aB fun K hK => ?_
   refine aK ?_
   refine aB fun K hK => ?_
   refine aB fun K hK => Rg ?_
   have F := aI @Int.natCast_nonneg (aI @Int.ofNat_lt (aI hlt (aI hln (aI hlk (nM hlk)))))
   iterate 9 refine SF ?_
   refine T2 (hK _ _ _ ?_)
   clear hK K
   refine aH (b := decide ((32768 : Int) < l[k].length)) rfl (fun hb => ?_) (fun hb => ?_)
   ·
    refine R0 ?_
    refine aE (RT Tryz.results37 ?_)
    have hc : lJ l = 3 := by rw [lJ, if_neg hn0, if_neg (by omega), if_pos]; simp only [List.any_eq_true, decide_eq_true_eq]; exact ⟨_, List.getElem_mem hlk, by simp at hb; omega⟩
    have hE := pX hn hlt hk (by rw [← hl, okL, hc]; rfl)
    rw [← hl, hc] at hE
    refine aT [] (.slc []) (.int .i64 3) ?_ ⟨by rw [gW (by rw [hE]; decide)]; rfl, by rw [hE]⟩
    simp [HV.close, HV.closeL, CV.denil, CV.denilL, HV.norm, HV.toC, HV.toCL]
   refine aJ ?_
   refine T0 (hK _ _ _ ?_)
   clear hK K
   refine aB fun K hK => ?_
   have hw2 : l[k].length ≤ 32768 := by simp at hb; omega
   clear hb
   have hel := pU l[k]
   have hsz := mQ l[k]
   have hsp := yD l[k]
   have hpe : 0 < (gJ l[k]).length := by omega
   have htk := yE hlk
   have hbe : (eT (ls.take i)).length + (fS (l.take k)).length + (gJ l[k]).length ≤ 140737488355328 := by omega
   have hbe1 : (eT (ls.take i)).length + (fS (l.take k)).length + 1 + (gJ l[k]).length ≤ 140737488355328 := by omega
   refine R0 ?_
   refine aH (b := decide ((0 : Int) < k)) rfl (fun hb => ?_) (fun hb => ?_)
   ·
    refine Rg ?_
    have F := aI @List.length_append.{0} @List.length_map.{0,0}
    iterate 4 refine SF ?_
    refine T2 (hK _ _ _ ?_)
    clear hK K
    refine Rg ?_
    iterate 8 refine S0 ?_ (e := fun _ h_ => by simp only [sH, ↓sP, sA, tyS, simprocAttr, Int.natCast_nonneg, Int.ofNat_lt, hlt, hln, hlk, bN hlk, List.length_append, List.length_map, hpe, hbe, hbe1]; exact AX h_)
    refine HS rfl rfl fun K' hK' => ?_
    simp only [sH, ↓sP, sA, tyS, simprocAttr, Int.natCast_nonneg, Int.ofNat_lt, hlt, hln, hlk, bN hlk, List.length_append, List.length_map, hpe, hbe, hbe1]
    refine C1 (aM4 l[k] (by omega)) ?_
    rintro u rfl
    refine AX (hK' _ _ ?_)
    clear hK' K'
    iterate 2 refine S0 ?_ (e := fun _ h_ => by simp only [sH, ↓sP, sA, tyS, simprocAttr, Int.natCast_nonneg, Int.ofNat_lt, hlt, hln, hlk, bN hlk, List.length_append, List.length_map, hpe, hbe, hbe1]; exact AX h_)
    refine T2 (hK _ _ _ ?_)
    clear hK K
    refine aL (by kernel_rfl) ?_
    refine TQ (iQ k) ?_
    have hk0 : k ≠ 0 := by simp at hb; omega
    refine ⟨⟨k + 1, hlk, rP (p := fun x => x.length ≤ 32768) hlk hw2 hkw⟩, aM (by omega) ?_ ?_, ?_⟩
    ·
     rw [htk, if_neg hk0]
     simp [aY, upd_at, fin_at, HV.men]
     omega
    ·
     rw [htk, if_neg hk0]
     simp only [List.map_append, ← List.append_assoc]
     exact ⟨rfl, by omega, trivial, trivial⟩
    show l.length - (k + 1) < l.length - k
    omega
   refine aJ ?_
   refine T0 (hK _ _ _ ?_)
   clear hK K
   refine Rg ?_
   iterate 8 refine S0 ?_ (e := fun _ h_ => by simp only [sH, ↓sP, sA, tyS, simprocAttr, Int.natCast_nonneg, Int.ofNat_lt, hlt, hln, hlk, bN hlk, List.length_append, List.length_map, hpe, hbe, hbe1]; exact AX h_)
   refine HS rfl rfl fun K' hK' => ?_
   simp only [sH, ↓sP, sA, tyS, simprocAttr, Int.natCast_nonneg, Int.ofNat_lt, hlt, hln, hlk, bN hlk, List.length_append, List.length_map, hpe, hbe, hbe1]
   refine C1 (aM4 l[k] (by omega)) ?_
   rintro u rfl
   refine AX (hK' _ _ ?_)
   clear hK' K'
   iterate 2 refine S0 ?_ (e := fun _ h_ => by simp only [sH, ↓sP, sA, tyS, simprocAttr, Int.natCast_nonneg, Int.ofNat_lt, hlt, hln, hlk, bN hlk, List.length_append, List.length_map, hpe, hbe, hbe1]; exact AX h_)
   refine T2 (hK _ _ _ ?_)
   clear hK K
   refine aL (by kernel_rfl) ?_
   refine TQ (iQ k) ?_
   have hk0 : k = 0 := by simp at hb; omega
   refine ⟨⟨k + 1, hlk, rP (p := fun x => x.length ≤ 32768) hlk hw2 hkw⟩, aM (by omega) ?_ ?_, ?_⟩
   ·
    rw [htk, if_pos hk0]
    simp [aY, upd_at, fin_at, HV.men]
    omega
   ·
    rw [htk, if_pos hk0, List.nil_append]
    simp only [List.map_append, ← List.append_assoc]
    exact ⟨rfl, by omega, trivial, trivial⟩
   show l.length - (k + 1) < l.length - k
   omega
  have hek : k = l.length := by simp at hb; omega
  subst hek
  clear hb
  rw [List.take_length] at *
  have hokl : okL l = true := (jT l).2 ⟨fun h => hn0 (by rw [h]; rfl), hn1, hkw⟩
  refine aX (T3 ?_)
  clear hK K
  refine AX (hK _ _ _ ?_)
  clear hK K
  refine Rg ?_
  have F := aI @List.length_append.{0} (aI @List.length_map.{0,0} @List.take_length.{0})
  iterate 4 refine SF ?_
  refine T2 (hK _ _ _ ?_)
  clear hK K
  refine aL (by kernel_rfl) ?_
  refine TQ (iQ i) ?_
  refine ⟨⟨i + 1, hlt, rP (p := fun x => okL x = true) hlt (by rw [← hl]; exact hokl) hk⟩, aM (by omega) ?_ ?_, ?_⟩
  ·
   rw [hdt1, xB]
   simp [aY, upd_at, fin_at, HV.men]
   try omega
  ·
   rw [hdt1, xB]
   simp only [List.map_append, ← List.append_assoc, List.take_length]
   exact ⟨rfl, by omega, trivial, trivial⟩
  show ls.length - (i + 1) < ls.length - i
  omega
 have hei : i = ls.length := by simp at hb; omega
 subst hei
 clear hb
 rw [List.take_length] at hk
 have hE := aB4 hn hk
 refine aX (T3 ?_)
 clear hK K
 refine AX (hK _ _ _ ?_)
 clear hK K
 refine aB fun K hK => ?_
 have F := aI @List.take_length.{0} @List.length_map.{0,0}
 refine RF ?_
 refine aH (b := decide ((262144 : Int) < (eT ls).length)) rfl (fun hb => ?_) (fun hb => ?_)
 ·
  refine R0 ?_
  refine aE (RT Tryz.results37 ?_)
  rw [if_pos (by simp at hb; omega)] at hE
  refine aT [] (.slc []) (.int .i64 3) ?_ ⟨by rw [gW (by rw [hE]; decide)]; rfl, by rw [hE]⟩
  simp [HV.close, HV.closeL, CV.denil, CV.denilL, HV.norm, HV.toC, HV.toCL]
 refine aJ ?_
 refine T0 (hK _ _ _ ?_)
 clear hK K
 refine R0 ?_
 refine aE (RT Tryz.results37 ?_)
 rw [if_neg (by simp at hb; omega)] at hE
 refine aT [28] (.slc ((eT ls).map cV)) (.int .i64 0) ?_ ⟨by rw [tV hE], by rw [hE]⟩
 simp [HV.close, fob_at, upd_at, HV.norm, HV.toC, HV.closeL, HV.toCL, List.take_of_length_le, CV.denil, cO]

end Go.Proofs.YtlldglbooaefhaaGreatDoor

namespace Go.Hl
open Go

def mvN (id d : Nat) : Nat → Nat := fun i => if i = id then d else i
def mvF (id d : Nat) (fr : Fr) : Fr := fun t => (fr t).ren (mvN id d)
def mvO (id d : Nat) (ob : Ob) : Ob := fun i => if i = d then (ob id).map (HO.ren (mvN id d)) else if i = id then none else (ob i).map (HO.ren (mvN id d))
section
variable {P : Program} {n k : Nat} {Q : dU} {fr : Fr} {ob : Ob} {nx : Nat}
theorem RepA.mv {c : Ctx} {a : Act} {w : World} {M : Nat → Prop} (hA : RepA c M fr ob a w) (hk' : c.M0 = (· < k)) (id d nx2 : Nat) (hk : k ≤ id) (hkd : k ≤ d) (hid : M id) (hM : ∀ i, M i → i < nx2 ∧ i ≠ d) (hd : d < nx2) : RepA c (· < nx2) (mvF id d fr) (mvO id d ob) a w := by
 obtain ⟨ρ, hA⟩ := hA
 have hne : id ≠ d := (hM id hid).2
 let ρ2 : Env := fun i => if i = d then ρ id else if i = id then none else ρ i
 have hm : ∀ i, M i → ρ2 (mvN id d i) = ρ i := fun i hi => by
  have := hM i hi
  simp only [ρ2, mvN]
  grind
 have hinv : ∀ i L, ρ2 i = some L → ∃ j, M j ∧ mvN id d j = i ∧ ρ j = some L := fun i L hL => by
  simp only [ρ2] at hL
  split at hL
  ·
   grind [mvN]
  ·
   split at hL
   ·
    grind
   ·
    rename_i e1 e2
    refine ⟨i, ?_, by simp [mvN, e2], hL⟩
    by_cases h1 : M i
    ·
     exact h1
    ·
     have := (hA.nid_none (nid := i) h1).2
     grind
 have hown : ∀ b, Own ρ2 b → Own ρ b := fun b ⟨i, L, h1, h2⟩ => let ⟨j, _, _, h3⟩ := hinv i L h1; ⟨j, L, h3, h2⟩
 have hst : Stay w (Owned ρ c.X) w (Owned ρ2 c.X) := Stay.same (fun b _ hb => hb.imp _root_.id (hown b))
 have hmv : Moves M ρ (fun i => ρ2 (mvN id d i)) := Moves.of_eq fun i hi => hm i hi
 have hobj : ∀ i o, mvO id d ob i = some o → ∃ j o', M j ∧ mvN id d j = i ∧ ob j = some o' ∧ o = o'.ren (mvN id d) := fun i o ho => by
  simp only [mvO] at ho
  split at ho
  ·
   grind [Option.map_eq_some_iff, mvN]
  ·
   split at ho
   ·
    grind
   ·
    rename_i e1 e2
    obtain ⟨o', h1, h2⟩ := Option.map_eq_some_iff.1 ho
    exact ⟨i, o', (hA.mo i o' h1).1, by simp [mvN, e2], h1, h2.symm⟩
 have hmen : ∀ i, M i → mvN id d i < nx2 := fun i hi => by
  have := hM i hi
  grind [mvN]
 refine ⟨ρ2, ⟨fun i o ho => ?_, fun i hi => ?_, fun i i' L L' b h1 h2 h3 h4 => ?_, fun i L b h1 h2 => ?_⟩, fun t ht => ?_, fun t => ?_, fun i o ho => ?_, fun i hi => ?_, ?_, ?_, hA.defers, hA.size, hA.xlt⟩
 ·
  obtain ⟨j, o', hj, rfl, h1, rfl⟩ := hobj i o ho
  exact RepO.unsub hst hmv (hA.mo j o' h1).2 (hm j hj) (hA.s.objs j o' h1)
 ·
  simp only [mvO] at hi
  simp only [ρ2]
  split at hi
  ·
   rename_i e
   rw [if_pos e]
   exact hA.s.none id (by simp_all)
  ·
   rename_i e
   rw [if_neg e]
   split at hi
   ·
    grind
   ·
    rename_i e2; rw [if_neg e2]; exact hA.s.none i (by simp_all)
 ·
  obtain ⟨j, _, rfl, e1⟩ := hinv i L h1
  obtain ⟨j', _, rfl, e2⟩ := hinv i' L' h2
  rw [hA.s.apart j j' L L' b e1 e2 h3 h4]
 ·
  obtain ⟨j, _, rfl, e1⟩ := hinv i L h1
  exact hA.s.xb j L b e1 h2
 ·
  have hj : fr t ≠ .junk := by intro e; apply ht; simp only [mvF, e, HV.ren]
  have hf := hA.f t hj
  exact ⟨iY.2 (RepH.stay hst hmv (hA.mf t) hf.1), by simp only [mvF, HV.ren_isAgg]; exact hf.2⟩
 ·
  exact men_ren.2 (HV.men_mono hmen (hA.mf t))
 ·
  obtain ⟨j, o', hj, rfl, h1, rfl⟩ := hobj i o ho
  exact ⟨hmen j hj, HO.men_ren.2 (HO.men_mono hmen (hA.mo j o' h1).2)⟩
 ·
  exact (hM i (hA.m0 i hi)).1
 ·
  exact hA.base.trans ⟨fun _ _ _ => rfl, fun b hb => .inl (hown b hb), Nat.le_refl _, rfl, rfl, rfl⟩
 ·
  refine Moves.trans (M' := c.M0) (fun i hi => hi) hA.moves fun i L hi hL => ⟨L, ?_, .inl rfl⟩
  rw [hk'] at hi
  have h1 : i < k := hi
  simp only [ρ2] at hL
  rwa [if_neg (by omega), if_neg (by omega)] at hL
theorem bW6 {code : Code} (id d : Nat) (hk : k ≤ id) (hid : id < nx) (hd : nx ≤ d) (h : Hw P n k code Q (mvF id d fr) (mvO id d ob) (d + 1)) : Hw P n k code Q fr ob nx := by
 intro c a w hn hk' hz hA
 exact h c a w hn hk' hz (hA.mv hk' id d (d + 1) hk (by omega) hid (fun i hi => by omega) (by omega))
end
end Go.Hl

namespace Go.Pl
open Go Go.Hl

theorem bU6 (q : Rq) : (wlR q).length ≤ 5 := by grind [wlR]
theorem bU7 (n : Nd) : (wlN n).length ≤ 5 := by grind [wlN]
theorem uB : ∀ (f m : Nat) (l : List Nd), ∀ x ∈ dN f m l, x.length ≤ 5
 | 0, m, l, x, h => by simp [dN] at h
 | f + 1, 0, l, x, h => by cases l <;> simp [dN] at h
 | f + 1, m + 1, [], x, h => by simp [dN] at h
 | f + 1, m + 1, n :: l, x, h => by
  simp only [dN] at h
  split at h
  ·
   rcases List.mem_cons.1 h with rfl | h
   ·
    exact bU6 _
   ·
    exact uB f _ _ x h
  ·
   rcases List.mem_cons.1 h with rfl | h
   ·
    exact bU7 _
   ·
    rcases List.mem_append.1 h with h | h
    ·
     exact uB f _ _ x h
    ·
     rcases List.mem_cons.1 h with rfl | h
     ·
      simp
     ·
      exact uB f _ _ x h
theorem pG (t : List Nd) : eE t 0 = aQ6 t := by simp [eE, aQ6]
def jJ (p : Po) (i : Nat) : List (List aG) := [wPolicy, p.n, numW p.v] :: (p.r.take i).flatMap iL
theorem sF {p : Po} {i : Nat} (hi : i < p.r.length) : jJ p (i + 1) = jJ p i ++ iL p.r[i] := by grind [jJ, List.take_succ_eq_append_getElem]
theorem qW (p : Po) : jJ p p.r.length = lP p := by simp [jJ, lP]
theorem bD4 {r : Pr} (h : jX r = true) : (iL r).length ≤ 121 := by
 obtain ⟨_, ht, _⟩ := qL h
 have h0 : 0 < r.t.length := ht.ne
 have h1 := wO ht h0
 have h2 := (gO ht h0).2.1
 have h3 := ht.len
 grind [pG, iL, List.length_cons]
theorem wQ {p : Po} (h : ∀ r ∈ p.r, jX r = true) : ∀ i, i ≤ p.r.length → (jJ p i).length ≤ 1 + 121 * i
 | 0, _ => by simp [jJ]
 | i + 1, hi => by
  have := wQ h i (by omega)
  grind [bD4, List.getElem_mem, sF, List.length_append]
theorem aX2 (p : Po) : ∀ x ∈ lP p, x.length < 2 ^ 40 := by
 intro x hx
 have : x.length ≤ 5 := by
  simp only [lP] at hx
  rcases List.mem_cons.1 hx with rfl | hx
  ·
   simp
  ·
   obtain ⟨r, _, hx⟩ := List.mem_flatMap.1 hx
   simp only [iL] at hx
   rcases List.mem_cons.1 hx with rfl | hx
   ·
    simp
   ·
    exact uB _ _ _ x hx
 omega
end Go.Pl
