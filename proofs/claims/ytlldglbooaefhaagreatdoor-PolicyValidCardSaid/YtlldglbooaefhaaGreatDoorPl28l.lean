/- Plain Lean: the rows that Eval makes (28.6). By an AI agent. -/
import Derived.Test.YtlldglbooaefhaaGreatDoorHzU1
import Derived.Test.YtlldglbooaefhaaGreatDoorPl28r
import Derived.Test.YtlldglbooaefhaaGreatDoorHzSb
import Derived.Test.YtlldglbooaefhaaGreatDoorHzV2
import Derived.Test.YtlldglbooaefhaaGreatDoorPl28k
import Derived.Test.YtlldglbooaefhaaGreatDoorPl11v
import Derived.Test.YtlldglbooaefhaaGreatDoorHlTlaw
import Derived.Test.YtlldglbooaefhaaGreatDoorHzFm
import Derived.Test.YtlldglbooaefhaaGreatDoorHzTn
import Derived.Test.YtlldglbooaefhaaGreatDoorHlIt
import Derived.Test.YtlldglbooaefhaaGreatDoorHzT7
set_option linter.unusedSimpArgs false
set_option linter.unusedVariables false
set_option linter.defProp false
namespace Go.Proofs.YtlldglbooaefhaaGreatDoor
open Go Go.Hl Go.Pl
set_option maxRecDepth 10000
set_option maxHeartbeats 16000000

theorem bU8 (q : Rq) (hn : bU4 q.n) (hm : bU4 q.m) : bT Tryz.prog 82 [q.cv] (fun v => v = lsC (wlR q)) := by
 refine FW Tryz.func82 ?_
 refine R0 ?_
 refine aB fun K hK => DW [(0, [], []), (1, [], []), (3, [], []), (4, [], []), (2, [], [3, 4]), (5, [], []), (6, [], []), (7, [], [])] [0, 1, 3, 0, 8, 31, 63, 127] ?_
 iterate 4 refine W0 ?_
 refine bX (g := none) rfl rfl fun K' hK' => T5 ?_
 refine C1 (qU q.n hn) ?_
 rintro u rfl
 refine AX (hK' _ _ ?_)
 clear hK' K'
 refine bX (g := none) rfl rfl fun K' hK' => T5 ?_
 refine C1 (qU q.m hm) ?_
 rintro u rfl
 refine AX (hK' _ _ ?_)
 clear hK' K'
 iterate 2 refine W0 ?_
 refine T2 (hK _ _ _ ?_)
 clear hK K
 refine aB fun K hK => ?_
 refine R0 ?_
 refine aK ?_
 refine R0 ?_
 refine aH (b := (q.k == 1)) rfl (fun hb => ?_) (fun hb => ?_)
 ·
  have hk : q.k = 1 := by simpa using hb
  clear hb
  refine R0 ?_
  refine aE (RT Tryz.results82 ?_)
  exact aF [60] (lsC (wlR q)) (by rw [show wlR q = [dA, numW q.n] from by simp [wlR, *]]; simp [lsC, HV.close, fob_at, upd_at, HV.norm, HV.toC, HV.closeL, HV.toCL, CV.denil]; rfl) rfl
 have hk1 : ¬ q.k = 1 := by simpa using hb
 clear hb
 refine R0 ?_
 refine aH (b := (q.k == 2)) rfl (fun hb => ?_) (fun hb => ?_)
 ·
  have hk : q.k = 2 := by simpa using hb
  clear hb
  refine aB fun K hK => Rg ?_
  iterate 4 refine S0 ?_
  refine T2 (hK _ _ _ ?_)
  clear hK K
  refine aE (RT Tryz.results82 ?_)
  exact aF [72] (lsC (wlR q)) (by rw [show wlR q = [dT, q.t] from by simp [wlR, *]]; simp [lsC, HV.close, fob_at, upd_at, HV.norm, HV.toC, HV.closeL, HV.toCL, CV.denil]; rfl) rfl
 have hk2 : ¬ q.k = 2 := by simpa using hb
 clear hb
 refine R0 ?_
 refine aH (b := (q.k == 3)) rfl (fun hb => ?_) (fun hb => ?_)
 ·
  have hk : q.k = 3 := by simpa using hb
  clear hb
  refine R0 ?_
  refine aE (RT Tryz.results82 ?_)
  exact aF [76] (lsC (wlR q)) (by rw [show wlR q = [dL, numW q.n] from by simp [wlR, *]]; simp [lsC, HV.close, fob_at, upd_at, HV.norm, HV.toC, HV.closeL, HV.toCL, CV.denil]; rfl) rfl
 have hk3 : ¬ q.k = 3 := by simpa using hb
 clear hb
 refine R0 ?_
 refine aH (b := (q.k == 4)) rfl (fun hb => ?_) (fun hb => ?_)
 ·
  have hk : q.k = 4 := by simpa using hb
  clear hb
  refine aB fun K hK => Rg ?_
  iterate 4 refine S0 ?_
  refine T2 (hK _ _ _ ?_)
  clear hK K
  refine aE (RT Tryz.results82 ?_)
  exact aF [88] (lsC (wlR q)) (by rw [show wlR q = [eX, numW q.n, numW q.m] from by simp [wlR, *]]; simp [lsC, HV.close, fob_at, upd_at, HV.norm, HV.toC, HV.closeL, HV.toCL, CV.denil]; rfl) rfl
 have hk4 : ¬ q.k = 4 := by simpa using hb
 clear hb
 refine R0 ?_
 refine aH (b := (q.k == 5)) rfl (fun hb => ?_) (fun hb => ?_)
 ·
  have hk : q.k = 5 := by simpa using hb
  clear hb
  refine R0 ?_
  refine aE (RT Tryz.results82 ?_)
  exact aF [92] (lsC (wlR q)) (by rw [show wlR q = [fM, numW q.n] from by simp [wlR, *]]; simp [lsC, HV.close, fob_at, upd_at, HV.norm, HV.toC, HV.closeL, HV.toCL, CV.denil]; rfl) rfl
 have hk5 : ¬ q.k = 5 := by simpa using hb
 clear hb
 refine R0 ?_
 refine aH (b := (q.k == 6)) rfl (fun hb => ?_) (fun hb => ?_)
 ·
  have hk : q.k = 6 := by simpa using hb
  clear hb
  refine R0 ?_
  refine aE (RT Tryz.results82 ?_)
  exact aF [100] (lsC (wlR q)) (by rw [show wlR q = [jG, numW q.n] from by simp [wlR, *]]; simp [lsC, HV.close, fob_at, upd_at, HV.norm, HV.toC, HV.closeL, HV.toCL, CV.denil]; rfl) rfl
 have hk6 : ¬ q.k = 6 := by simpa using hb
 clear hb
 refine R0 ?_
 refine aH (b := (q.k == 7)) rfl (fun hb => ?_) (fun hb => ?_)
 ·
  have hk : q.k = 7 := by simpa using hb
  clear hb
  refine R0 ?_
  refine aE (RT Tryz.results82 ?_)
  exact aF [108] (lsC (wlR q)) (by rw [show wlR q = [kJ, numW q.n] from by simp [wlR, *]]; simp [lsC, HV.close, fob_at, upd_at, HV.norm, HV.toC, HV.closeL, HV.toCL, CV.denil]; rfl) rfl
 have hk7 : ¬ q.k = 7 := by simpa using hb
 clear hb
 refine aJ ?_
 refine T0 (hK _ _ _ ?_)
 clear hK K
 refine R0 ?_
 refine aE (RT Tryz.results82 ?_)
 exact aF [104] (lsC (wlR q)) (by rw [show wlR q = [gX] from by simp [wlR, *]]; simp [lsC, HV.close, fob_at, upd_at, HV.norm, HV.toC, HV.closeL, HV.toCL, CV.denil]; rfl) rfl


theorem zR (l : List (List aG)) : (∀ v ∈ l.map lsC, v.cells = 1) = True := eq_true fun v h => by obtain ⟨d, _, rfl⟩ := List.mem_map.1 h; exact eH d

theorem bO5 (l : List Nd) (ht : IsTree l) (m : Nat) : ∀ (i : Nat) (hi : i < l.length), l.length - i ≤ m →
  gD Tryz.prog 55 [.slc (l.map Nd.cv), .int .i64 i] (fun u v => u = .slc ((eE l i).map lsC) ∧ v = .int .i64 (aft l i : Nat)) := by
 induction m using Nat.strongRecOn with
 | ind m ih => ?_
 intro i hi hfu
 have hnode := ht.node _ (List.getElem_mem hi)
 obtain ⟨c1, c2, c3, c4⟩ := dF hnode
 have hll := ht.len
 have hwi : IntKind.i64.wrap ((i : Int) + 1) = ((i + 1 : Nat) : Int) := IntWalk.i64_in _ (by omega)
 obtain ⟨a1, a2, a3⟩ := gO ht hi
 refine FW Tryz.func55 ?_
 refine R0 ?_
 refine aB fun K hK => Rg ?_
 have F := aI @Int.natCast_nonneg (aI @Int.ofNat_lt (aI hi (nM hi)))
 iterate 6 refine SF ?_
 refine T2 (hK _ _ _ ?_)
 clear hK K
 refine aB fun K hK => ?_
 refine R0 ?_
 refine aH (b := (l[i].k == 1)) rfl (fun hb => ?_) (fun hb => ?_)
 ·
  have hk : l[i].k = 1 := by simpa using hb
  obtain ⟨⟨r1, r2⟩, r3, r4⟩ := aM1 (aW7 hnode hk)
  clear hb
  refine aB fun K hK => Rg ?_
  have F := aI hwi (aI @dX @eH)
  iterate 2 refine SF ?_
  refine HS rfl rfl fun K' hK' => T6 ?_
  refine C1 (bU8 l[i].q ⟨by omega, by omega⟩ ⟨by omega, by omega⟩) ?_
  rintro u rfl
  refine AX (hK' _ _ ?_)
  clear hK' K'
  iterate 5 refine SF ?_
  refine T2 (hK _ _ _ ?_)
  clear hK K
  refine aE (RT Tryz.results55 ?_)
  exact aT [56] (.slc ((eE l i).map lsC)) (.int .i64 (aft l i : Nat)) (by rw [oZ hi hk, wN ht hi hk]; simp [HV.close, fob_at, upd_at, HV.norm, HV.toC, HV.closeL, HV.toCL, dX, CV.denilL, CV.denil]) ⟨rfl, rfl⟩
 have hk1 : l[i].k ≠ 1 := by simpa using hb
 clear hb
 refine aJ ?_
 refine T0 (hK _ _ _ ?_)
 clear hK K
 refine aB fun K hK => bD (by kernel_rfl) ?_
 simp only [sR, simprocAttr]
 refine cB (g := none) 44 rfl rfl fun K' hK' => ?_
 simp only [eR, gU, sH, ↓sP, sA, tyS, simprocAttr]
 repeat refine AI ?_
 refine cE (by first | rfl | simp) ?_
 try simp only [sH, ↓sP, sA, tyS, simprocAttr]
 refine AX (hK' _ _ ?_)
 clear hK' K'
 iterate 2 refine SG0 ?_
 refine T2 (hK _ _ _ ?_)
 clear hK K
 refine aB fun K hK => ?_
 have key : ∀ (A : Nat) (w : List aG) fr ob nx, A < nx → nx ≤ 300 → w = (if l[i].k = 3 then [kY] else [kX]) → Fits 0 (mvF A 300 fr) (mvO A 300 ob) (fin [(0, .c (.slc (l.map Nd.cv))), (1, .c (.int .i64 i)), (6, .ptr 24 0), (7, .own 300 1)]) (fob [(24, .box 40 (.c l[i].cv)), (300, .row 60 1 [lsC w])]) 301 → K fr ob nx := by
  rintro A w fr ob nx hA hnx rfl hf
  refine hK _ _ _ (bW6 A 300 (by omega) hA hnx (bM hf ?_))
  clear hf hK K
  refine aB fun K hK => ?_
  have key2 : ∀ (A : Nat) (w : List aG) fr ob nx, A < nx → nx ≤ 600 → w = wlN l[i] → Fits 0 (mvF A 600 fr) (mvO A 600 ob) (fin [(0, .c (.slc (l.map Nd.cv))), (1, .c (.int .i64 i)), (6, .ptr 24 0), (7, .own 600 1)]) (fob [(24, .box 40 (.c l[i].cv)), (600, .row 60 1 [lsC w])]) 601 → K fr ob nx := by
   rintro A w fr ob nx hA hnx rfl hf
   refine hK _ _ _ (bW6 A 600 (by omega) hA hnx (bM hf ?_))
   clear hf hK K
   have F := hwi
   refine RF ?_
   refine aB fun K hK => ?_
   refine R0 ?_
   refine aK ?_
   refine bE (α := {k : Nat // k ≤ l[i].c.toNat}) (fun k => (fin [(0, .c (.slc (l.map Nd.cv))), (1, .c (.int .i64 (cR l k.1 (i + 1) : Nat))), (6, .ptr 24 0), (7, .own 600 ((cP l i k.1).length + 1)), (8, .c (.int .i64 k.1))], fob [(24, .box 40 (.c l[i].cv)), (600, .row 60 1 ((wlN l[i] :: cP l i k.1).map lsC))])) 2000 (fun k => l[i].c.toNat - k.1) ⟨0, by omega⟩ (aM (by omega) (by simp [aY, fin_at, finA_at, upd_at, HV.men, HV.menL, HV.norm, HV.toC, HV.toCL, gI, cR]) (by simp [bB, fob_at, upd_at, none0_at, bZ, HO.men, HV.men, HV.menL, HV.norm, HV.toC, HV.toCL, gI, cR])) ?_
   rintro ⟨k, hk⟩
   obtain ⟨k1, k2, k3⟩ := fU ht hi k hk
   have hkl := tH ht hi hk hk1
   refine aB fun K hK => ?_
   refine aB fun K hK => Rg ?_
   iterate 4 refine S0 ?_
   refine T2 (hK _ _ _ ?_)
   clear hK K
   refine aH (b := decide ((k : Int) < l[i].c)) rfl (fun hb => ?_) (fun hb => ?_)
   ·
    have hlt : k < l[i].c.toNat := by simp at hb; omega
    have hkid := kT ht hi hlt
    clear hb
    refine aJ ?_
    refine T0 (hK _ _ _ ?_)
    clear hK K
    refine aB fun K hK => ?_
    refine aK ?_
    refine aB fun K hK => Rg ?_
    iterate 2 refine S0 ?_
    refine HS rfl rfl fun K' hK' => T5 ?_
    refine D2 (ih (l.length - cR l k (i + 1)) (by omega) (cR l k (i + 1)) hkid (by omega)) ?_
    rintro u v ⟨rfl, rfl⟩
    refine AX (hK' _ _ ?_)
    clear hK' K'
    iterate 5 refine S0 ?_
    refine T2 (hK _ _ _ ?_)
    clear hK K
    have hl2 := wO ht hkid
    have hw1 : (cP l i k).length + 1 + (eE l (cR l k (i + 1))).length ≤ 300 := by
     have := (gO ht hkid).2.1
     omega
    have hb1 : ((cP l i k).length + 1 + (eE l (cR l k (i + 1))).length) * 24 ≤ 140737488355328 := by omega
    have hb2 : (cP l i k).length + 1 + (eE l (cR l k (i + 1))).length ≤ maxLen := by unfold maxLen; omega
    refine Rg ?_
    have F := aI @zR (aI hb1 hb2)
    iterate 6 refine SF ?_
    refine T2 (hK _ _ _ ?_)
    clear hK K
    refine aL (by kernel_rfl) ?_
    refine TQ (IntWalk.i64_in ((k : Int) + 1) (by omega)) ?_
    refine ⟨⟨k + 1, hlt⟩, ?_, ?_⟩
    ·
     simp only []
     rw [lQ ht hi hlt, eV]
     exact fF
    show l[i].c.toNat - (k + 1) < l[i].c.toNat - k
    omega
   refine aX (T3 ?_)
   clear hK K
   refine AX (hK _ _ _ ?_)
   clear hK K
   have hke : k = l[i].c.toNat := by simp at hb; omega
   subst hke
   rw [qV ht hi] at hkl k3 ⊢
   clear hb
   refine aB fun K hK => bD (by kernel_rfl) ?_
   simp only [sR, simprocAttr]
   have F := aI @dX @eH
   refine SGF ?_
   refine cB (g := none) 2020 rfl rfl fun K' hK' => ?_
   simp only [eR, gU, sH, ↓sP, sA, tyS, simprocAttr, dX, eH]
   repeat refine AI ?_
   refine cE (by first | rfl | simp) ?_
   try simp only [sH, ↓sP, sA, tyS, simprocAttr, dX, eH]
   refine AX (hK' _ _ ?_)
   clear hK' K'
   iterate 5 refine SGF ?_
   refine T2 (hK _ _ _ ?_)
   clear hK K
   refine aE (RT Tryz.results55 ?_)
   exact aT [600] (.slc ((eE l i).map lsC)) (.int .i64 (aft l i : Nat)) (by rw [nH ht hi hk1]; simp [HV.close, fob_at, upd_at, HV.norm, HV.toC, HV.closeL, HV.toCL, aP, dX, CV.denilL, CV.denil, lsC, wEnd]) ⟨rfl, rfl⟩
  refine R0 ?_
  refine aH (b := _) rfl (fun hb => ?_) (fun hb => ?_)
  ·
   have hk4 : l[i].k = 4 := by simpa using hb
   have hnn := aW8 hnode hk4
   clear hb
   refine bD (by kernel_rfl) ?_
   simp only [sR, simprocAttr]
   iterate 2 refine SG0 ?_
   refine bI (g := none) rfl rfl fun K' hK' => T5 ?_
   refine C1 (qU l[i].n ⟨by omega, by omega⟩) ?_
   rintro u rfl
   refine AX (hK' _ _ ?_)
   clear hK' K'
   refine cB (g := none) 325 rfl rfl fun K' hK' => ?_
   simp only [eR, gU, sH, ↓sP, sA, tyS, simprocAttr]
   repeat refine AI ?_
   refine cE (by first | rfl | simp) ?_
   try simp only [sH, ↓sP, sA, tyS, simprocAttr]
   refine AX (hK' _ _ ?_)
   clear hK' K'
   iterate 2 refine SG0 ?_
   refine T4 ?_
   exact key2 329 [cJ, numW l[i].n] _ _ _ (by omega) (by omega) (by simp [wlN, hk4]) (aM (by omega) (by simp [aY, fin_at, finA_at, upd_at, HV.men, HV.menL, HV.norm, HV.toC, HV.toCL, mvF, mvO, mvN, HV.ren, HO.ren, lsC, cJ]) (by simp [bB, fob_at, upd_at, none0_at, bZ, HO.men, HV.men, HV.menL, HV.norm, HV.toC, HV.toCL, mvF, mvO, mvN, HV.ren, HO.ren, lsC, cJ]))
  refine aJ (T3 ?_)
  have hk4 : l[i].k ≠ 4 := by simpa using hb
  exact key2 300 (if l[i].k = 3 then [kY] else [kX]) _ _ _ (by omega) (by omega) (by
   by_cases h3 : l[i].k = 3
   ·
    simp [wlN, h3]
   have h2 : l[i].k = 2 := by
    apply Classical.byContradiction
    exact fun h => hk4 (aW6 hnode hk1 h h3)
   simp [wlN, h2]) (aM (by omega) (by simp [aY, fin_at, finA_at, upd_at, HV.men, HV.menL, HV.norm, HV.toC, HV.toCL, mvF, mvO, mvN, HV.ren, HO.ren]) (by simp [bB, fob_at, upd_at, none0_at, bZ, HO.men, HV.men, HV.menL, HV.norm, HV.toC, HV.toCL, mvF, mvO, mvN, HV.ren, HO.ren]))
 refine R0 ?_
 refine aH (b := _) rfl (fun hb => ?_) (fun hb => ?_)
 ·
  refine bD (by kernel_rfl) ?_
  simp only [sR, simprocAttr]
  refine cB (g := none) 68 rfl rfl fun K' hK' => ?_
  simp only [eR, gU, sH, ↓sP, sA, tyS, simprocAttr]
  repeat refine AI ?_
  refine cE (by first | rfl | simp) ?_
  try simp only [sH, ↓sP, sA, tyS, simprocAttr]
  refine AX (hK' _ _ ?_)
  clear hK' K'
  iterate 2 refine SG0 ?_
  refine T4 ?_
  exact key 72 [kY] _ _ _ (by omega) (by omega) (by rw [if_pos (by simpa using hb)]) (aM (by omega) (by simp [aY, fin_at, finA_at, upd_at, HV.men, HV.menL, HV.norm, HV.toC, HV.toCL, mvF, mvO, mvN, HV.ren, HO.ren, lsC, kY]) (by simp [bB, fob_at, upd_at, none0_at, bZ, HO.men, HV.men, HV.menL, HV.norm, HV.toC, HV.toCL, mvF, mvO, mvN, HV.ren, HO.ren, lsC, kY]))
 refine aJ (T3 ?_)
 exact key 48 [kX] _ _ _ (by omega) (by omega) (by rw [if_neg (by simpa using hb)]) (aM (by omega) (by simp [aY, fin_at, finA_at, upd_at, HV.men, HV.menL, HV.norm, HV.toC, HV.toCL, mvF, mvO, mvN, HV.ren, HO.ren, lsC, kX]) (by simp [bB, fob_at, upd_at, none0_at, bZ, HO.men, HV.men, HV.menL, HV.norm, HV.toC, HV.toCL, mvF, mvO, mvN, HV.ren, HO.ren, lsC, kX]))

theorem bD5 (ls : List (List aG)) (h0 : ls.length < 2 ^ 40) (h1 : ∀ l ∈ ls, l.length < 2 ^ 40) : gD Tryz.prog 37 [.slc (ls.map lsC)] (fun u v => u = .slc ((mR ls).map cV) ∧ v = .int .i64 (jM ls)) := bU5 ls h0 h1

theorem bU9 (p : Po) (hp : PoSz p) : gD Tryz.prog 28 [p.cv] (fun u v => u = .slc ((oI p).map cV) ∧ v = .int .i64 (rZ p)) := by
 refine FW Tryz.func28 ?_
 refine R0 ?_
 refine aB fun K hK => ?_
 refine aB fun K hK => Rg ?_
 refine S0 ?_
 refine HS rfl rfl fun K' hK' => T5 ?_
 refine C1 (zQ p hp) ?_
 rintro u rfl
 refine AX (hK' _ _ ?_)
 clear hK' K'
 refine S0 ?_
 refine T2 (hK _ _ _ ?_)
 clear hK K
 refine aH (b := !eW p) rfl (fun hb => ?_) (fun hb => ?_)
 ·
  refine R0 ?_
  refine aE (RT Tryz.results28 ?_)
  have hv : eW p = false := by simpa using hb
  exact aT [] (.slc []) (.int .i64 1) (by simp [HV.close, HV.closeL, CV.denil, CV.denilL, HV.norm, HV.toC, HV.toCL]) ⟨by rw [oI, hv]; rfl, by rw [rZ, hv]; rfl⟩
 refine aJ ?_
 refine T0 (hK _ _ _ ?_)
 clear hK K
 have hv : eW p = true := by simpa using hb
 clear hb
 obtain ⟨⟨v1, v2⟩, hr16, _, hrules⟩ := aC7 hv
 refine aB fun K hK => dV mixed [(0, [], []), (1, [], []), (2, [], []), (3, [], []), (4, [], [0, 1]), (5, [], []), (6, [], []), (7, [], [])] [0, 1, 0, 4, 12, 31, 63, 127] (by kernel_rfl) (by kernel_rfl) (by kernel_rfl) (by kernel_rfl) rfl (by kernel_rfl) ?_
 iterate 4 refine WG0 ?_
 refine eZ (g := none) rfl rfl fun K' hK' => T5 ?_
 refine C1 (qU p.v ⟨by omega, by omega⟩) ?_
 rintro u rfl
 refine AX (hK' _ _ ?_)
 clear hK' K'
 refine gR (g := none) 44 rfl rfl fun K' hK' => ?_
 simp only [eR, gU, sH, ↓sP, sA, tyS, simprocAttr]
 repeat refine AI ?_
 refine cE (by first | rfl | simp) ?_
 try simp only [sH, ↓sP, sA, tyS, simprocAttr]
 refine AX (hK' _ _ ?_)
 clear hK' K'
 iterate 2 refine WG0 ?_
 refine T2 (hK _ _ _ ?_)
 clear hK K
 refine aB fun K hK => ?_
 refine R0 ?_
 refine aK ?_
 refine bE (α := {i : Nat // i ≤ p.r.length}) (fun i => (fin [(1, .ptr 0 0), (4, .own 48 (jJ p i.1).length), (5, .c (.int .i64 i.1))], fob [(0, .box 45 (.c p.cv)), (48, .row 60 1 ((jJ p i.1).map lsC))])) 2000 (fun i => p.r.length - i.1) ⟨0, by omega⟩ (aM (by omega) (by simp [aY, fin_at, finA_at, upd_at, HV.men, HV.menL, HV.norm, HV.toC, HV.toCL, jJ, lsC, wPolicy]) (by simp [bB, fob_at, upd_at, none0_at, bZ, HO.men, HV.men, HV.menL, HV.norm, HV.toC, HV.toCL, jJ, lsC, wPolicy])) ?_
 rintro ⟨i, hi⟩
 have hll := wQ hrules i hi
 have hl0 : 0 < (jJ p i).length := by simp [jJ]
 refine aB fun K hK => ?_
 refine aB fun K hK => Rg ?_
 iterate 5 refine S0 ?_
 refine T2 (hK _ _ _ ?_)
 clear hK K
 refine aH (b := decide ((i : Int) < p.r.length)) rfl (fun hb => ?_) (fun hb => ?_)
 ·
  have hlt : i < p.r.length := by simpa using hb
  clear hb
  obtain ⟨r, hr⟩ : ∃ r, r = p.r[i] := ⟨_, rfl⟩
  have hrule := hrules r (by rw [hr]; exact List.getElem_mem hlt)
  obtain ⟨⟨g1, g2⟩, ht, _⟩ := qL hrule
  have ht0 : 0 < r.t.length := ht.ne
  have htl := ht.len
  obtain ⟨L, hL⟩ : ∃ L, L = jJ p i := ⟨_, rfl⟩
  rw [← hL] at hll hl0 ⊢
  refine aJ ?_
  refine T0 (hK _ _ _ ?_)
  clear hK K
  refine aB fun K hK => ?_
  refine aK ?_
  refine aB fun K hK => Rg ?_
  iterate 7 refine S0 ?_ (e := fun _ h_ => by simp only [sH, ↓sP, sA, tyS, simprocAttr, Int.natCast_nonneg, Int.ofNat_lt, hlt, bN hlt, ← hr]; exact AX h_)
  refine T2 (hK _ _ _ ?_)
  clear hK K
  refine aB fun K hK => dV mixed [(0, [], []), (1, [], []), (2, [], []), (3, [], []), (4, [], []), (5, [], []), (6, [], []), (7, [], []), (8, [], []), (9, [], [0, 1, 2, 3, 4, 5, 6]), (10, [], []), (11, [], []), (12, [], []), (13, [], [])] [0, 0, 2, 0, 8, 0, 32, 0, 128, 384, 1022, 2046, 4095, 8191] (by kernel_rfl) (by kernel_rfl) (by kernel_rfl) (by kernel_rfl) rfl (by kernel_rfl) ?_
  iterate 9 refine WG0 ?_
  refine eZ (g := none) rfl rfl fun K' hK' => T5 ?_
  refine C1 (qU r.g ⟨by omega, by omega⟩) ?_
  rintro u rfl
  refine AX (hK' _ _ ?_)
  clear hK' K'
  refine gR (g := none) 2088 rfl rfl fun K' hK' => ?_
  simp only [eR, gU, sH, ↓sP, sA, tyS, simprocAttr]
  repeat refine AI ?_
  refine cE (by first | rfl | simp) ?_
  try simp only [sH, ↓sP, sA, tyS, simprocAttr]
  refine AX (hK' _ _ ?_)
  clear hK' K'
  iterate 3 refine WG0 ?_
  refine T2 (hK _ _ _ ?_)
  clear hK K
  obtain ⟨M, hM⟩ : ∃ M, M = L ++ [[wRule, r.a, r.b, r.c, numW r.g]] := ⟨_, rfl⟩
  have hMm : List.map lsC L ++ [CV.slc [CV.str [114, 117, 108, 101], CV.str r.a, CV.str r.b, CV.str r.c, CV.str (numW r.g)]] = List.map lsC M := by rw [hM]; simp [lsC, wRule]
  have hMl : L.length + 1 = M.length := by rw [hM]; simp
  rw [hMm]
  simp only [List.length_map]
  refine aB fun K hK => Rg ?_
  iterate 2 refine S0 ?_
  refine HS rfl rfl fun K' hK' => T5 ?_
  refine D2 (bO5 r.t ht r.t.length 0 ht0 (by omega)) ?_
  rintro u v ⟨rfl, rfl⟩
  refine AX (hK' _ _ ?_)
  clear hK' K'
  iterate 5 refine S0 ?_
  refine T2 (hK _ _ _ ?_)
  clear hK K
  have hl2 := wO ht ht0
  have ha2 := (gO ht ht0).2.1
  have hw1 : M.length + (eE r.t 0).length ≤ 100000 := by omega
  have hb1 : (M.length + (eE r.t 0).length) * 24 ≤ 140737488355328 := by omega
  have hb2 : M.length + (eE r.t 0).length ≤ maxLen := by unfold maxLen; omega
  refine Rg ?_
  have F := aI @zR (aI hb1 (aI hb2 @List.length_map.{0,0}))
  iterate 4 refine SF ?_
  refine T2 (hK _ _ _ ?_)
  clear hK K
  refine aL (by kernel_rfl) ?_
  refine TQ (IntWalk.i64_in ((i : Int) + 1) (by omega)) ?_
  refine ⟨⟨i + 1, hlt⟩, ?_, ?_⟩
  ·
   have e1 : jJ p (i + 1) = M ++ eE r.t 0 := by rw [sF hlt, hM, hL, pG, ← hr]; simp [iL]
   simp only []
   rw [e1]
   exact fF
  show p.r.length - (i + 1) < p.r.length - i
  omega
 refine aX (T3 ?_)
 clear hK K
 refine AX (hK _ _ _ ?_)
 clear hK K
 have hei : i = p.r.length := by simp at hb; omega
 subst hei
 clear hb
 rw [qW]
 refine eB [48] (bM (fr2 := fin [(4, .c (.slc ((lP p).map lsC)))]) (ob2 := fob []) (nx2 := 3000) (aM (by omega) (by simp [aY, iE, fin_at, finA_at, upd_at, fob_at, HV.close, HV.closeL, CV.denil, CV.denilL, aP, HV.men, HV.menL, HV.norm, HV.toC, HV.toCL]) (by simp [bB, iF, fob_at, upd_at, none0_at, bZ, HO.close, HV.close, HV.closeL, HO.men, HV.men, HV.menL, HV.norm, HV.toC, HV.toCL])) ?_)
 rw [qW] at hll
 refine aB fun K hK => Rg ?_
 have F := @aP
 refine SF ?_
 refine HS rfl rfl fun K' hK' => T6 ?_
 refine D1 (bD5 (lP p) (by omega) (aX2 p)) ?_
 rintro u v ⟨rfl, rfl⟩
 refine AX (hK' _ _ ?_)
 clear hK' K'
 iterate 4 refine SF ?_
 refine T2 (hK _ _ _ ?_)
 clear hK K
 refine aE (RT Tryz.results28 ?_)
 exact aT [] (.slc ((mR (lP p)).map cV)) (.int .i64 (jM (lP p))) (by simp [HV.close, HV.closeL, CV.denil, CV.denilL, cO, HV.norm, HV.toC, HV.toCL]) ⟨by rw [oI, if_pos hv], by rw [rZ, if_pos hv]⟩

end Go.Proofs.YtlldglbooaefhaaGreatDoor

namespace Go.Proofs.YtlldglbooaefhaaGreatDoor
open Go Go.Hl Go.Pl
set_option maxRecDepth 10000
set_option maxHeartbeats 16000000

theorem oF (p : Po) (hp : PoSz p) : bT Tryz.prog 29 [p.cv] (fun v => v = .bool (eW p)) := by
 have hpn := hp.n
 have hpr := hp.r
 refine FW Tryz.func29 ?_
 refine R0 ?_
 refine aB fun K hK => ?_
 refine aB fun K hK => ?_
 have key : ∀ (b : Bool) fr ob nx, b = tQ p → Fits 0 fr ob (fin [(1, .ptr 0 0), (21, .c (.bool b))]) (fob [(0, .box 45 (.c p.cv))]) 600 → K fr ob nx := by
  rintro b fr ob nx rfl hf
  refine hK _ _ _ (bM hf ?_)
  clear hf hK K
  refine aH (b := tQ p) rfl (fun hb => ?_) (fun hb => ?_)
  ·
   refine R0 ?_
   refine aE (RT Tryz.results29 ?_)
   exact aF [] (.bool false) rfl (by rw [zP hb])
  refine aJ ?_
  refine T0 (hK _ _ _ ?_)
  clear hK K
  refine R0 ?_
  refine aB fun K hK => ?_
  refine aB fun K hK => Rg ?_
  iterate 4 refine S0 ?_
  refine T2 (hK _ _ _ ?_)
  clear hK K
  refine aK ?_
  have hhead := hb
  clear hb
  refine bE (α := {i : Nat // RlSt p.r i}) (fun i => (fin [(3, .mapr 600), (24, .c (.slc (p.r.map Pr.cv))), (25, .c (.int .i64 p.r.length)), (26, .c (.int .i64 i.1))], fob [(600, .mp 0 0 (nmD (p.r.take i.1)))])) 2000 (fun i => p.r.length - i.1) ⟨0, RlSt.zero p.r⟩ (aM (by omega) (by simp [aY, fin_at, finA_at, upd_at, HV.men, HV.menL, HV.norm, HV.toC, HV.toCL, nmD]) (by simp [bB, fob_at, upd_at, none0_at, bZ, HO.men, HV.men, HV.menL, HV.norm, HV.toC, HV.toCL, nmD])) ?_
  rintro ⟨i, hΦ⟩
  refine R0 ?_
  refine aB fun K hK => ?_
  refine aH (b := decide ((i : Int) < p.r.length)) rfl (fun hb => ?_) (fun hb => ?_)
  ·
   have hlt : i < p.r.length := by simpa using hb
   clear hb
   obtain ⟨r, hr⟩ : ∃ r, r = p.r[i] := ⟨_, rfl⟩
   have hmem : r ∈ p.r := by rw [hr]; exact List.getElem_mem hlt
   have hra := hp.a r hmem
   have hrt := hp.t r hmem
   have hra2 : r.a.length ≤ maxLen := by simp [maxLen]; omega
   have hiv : mC (cD (nmD (p.r.take i)) r.a) = true := by rw [aX0]; split <;> rfl
   have hva : Go.Hl.xO (CV.bool false) (cD (nmD (p.r.take i)) r.a) = CV.bool (((p.r.take i).map Pr.a).contains r.a) := by rw [aX0]; split <;> simp_all [Go.Hl.xO]
   refine aJ ?_
   refine T0 (hK _ _ _ ?_)
   clear hK K
   refine aB fun K hK => ?_
   refine aK ?_
   refine aB fun K hK => Rg ?_
   iterate 4 refine S0 ?_ (e := fun _ h_ => by simp only [sH, ↓sP, sA, tyS, simprocAttr, Int.natCast_nonneg, Int.ofNat_lt, hlt, bN hlt, ← hr]; exact AX h_)
   refine T2 (hK _ _ _ ?_)
   clear hK K
   refine aB fun K hK => ?_
   refine aB fun K hK => ?_
   have key : ∀ (b : Bool) fr ob nx, b = nO (((p.r.take i).map Pr.a).contains r.a) r → Fits 0 fr ob (fin [(3, .mapr 600), (24, .c (.slc (p.r.map Pr.cv))), (25, .c (.int .i64 p.r.length)), (26, .c (.int .i64 i)), (5, .ptr 2012 0), (63, .c (.bool b))]) (fob [(600, .mp 0 0 (nmD (p.r.take i))), (2012, .box 54 (.c r.cv))]) 3000 → K fr ob nx := by
    rintro b fr ob nx rfl hf
    refine hK _ _ _ (bM hf ?_)
    clear hf hK K
    refine aH (b := nO (((p.r.take i).map Pr.a).contains r.a) r) rfl (fun hb => ?_) (fun hb => ?_)
    ·
     refine R0 ?_
     refine aE (RT Tryz.results29 ?_)
     exact aF [] (.bool false) rfl (by rw [aE1 (aE0 hlt (by rw [← aM2, ← hr]; exact hb))])
    have hΦ2 := hΦ.succ hlt (by rw [← aM2, ← hr]; exact hb)
    have hnm : jK (nmD (p.r.take i)) r.a (.val (.bool true)) = nmD (p.r.take (i + 1)) := by rw [List.take_succ_eq_append_getElem hlt, bO3, hr]
    clear hb
    refine aJ ?_
    refine T0 (hK _ _ _ ?_)
    clear hK K
    refine Rg ?_
    have F := aI hra2 (aI hiv hnm)
    iterate 4 refine SF ?_
    refine T2 (hK _ _ _ ?_)
    clear hK K
    refine aL (by kernel_rfl) ?_
    refine TQ (IntWalk.i64_in ((i : Int) + 1) (by omega)) ?_
    refine ⟨⟨i + 1, hΦ2⟩, fF, ?_⟩
    show p.r.length - (i + 1) < p.r.length - i
    omega
   refine Rg ?_
   have F := aI hra2 (aI hiv hva)
   iterate 5 refine SF ?_
   refine aD 33 rfl (fun h7_33 => ?_) (fun h7_33 => ?_)
   ·
    have F := aI hra2 (aI hiv (aI hva h7_33))
    iterate 29 refine SF ?_
    refine T4 ?_
    exact key true _ _ _ (by simp only [nO, h7_33, Bool.not_true, Bool.not_false, Bool.true_or, Bool.false_or]) (fF)
   have F := aI hra2 (aI hiv (aI hva h7_33))
   iterate 2 refine SF ?_
   refine aZ (g := some (34, false)) rfl rfl fun K' hK' => T6 ?_
   refine C1 (aC2 r.a (by omega)) ?_
   rintro u rfl
   refine AX (hK' _ _ ?_)
   clear hK' K'
   iterate 3 refine SF ?_
   refine aD 37 rfl (fun h7_37 => ?_) (fun h7_37 => ?_)
   ·
    have F := aI hra2 (aI hiv (aI hva (aI h7_33 h7_37)))
    iterate 2 refine SF ?_
    refine aZ (g := some (40, false)) rfl rfl fun K' hK' => T6 ?_
    refine C1 (aW0 r.b) ?_
    rintro u rfl
    refine AX (hK' _ _ ?_)
    clear hK' K'
    iterate 3 refine SF ?_
    refine aD 43 rfl (fun h7_43 => ?_) (fun h7_43 => ?_)
    ·
     have F := aI hra2 (aI hiv (aI hva (aI h7_33 (aI h7_37 h7_43))))
     iterate 2 refine SF ?_
     refine aZ (g := some (46, false)) rfl rfl fun K' hK' => T6 ?_
     refine C1 (aW0 r.c) ?_
     rintro u rfl
     refine AX (hK' _ _ ?_)
     clear hK' K'
     iterate 3 refine SF ?_
     refine aD 49 rfl (fun h7_49 => ?_) (fun h7_49 => ?_)
     ·
      have F := aI hra2 (aI hiv (aI hva (aI h7_33 (aI h7_37 (aI h7_43 h7_49)))))
      iterate 2 refine SF ?_
      refine aZ (g := some (52, false)) rfl rfl fun K' hK' => T6 ?_
      refine C3 (gP _ _ _) ?_
      rintro u rfl
      refine AX (hK' _ _ ?_)
      clear hK' K'
      iterate 3 refine SF ?_
      refine aD 55 rfl (fun h7_55 => ?_) (fun h7_55 => ?_)
      ·
       have F := aI hra2 (aI hiv (aI hva (aI h7_33 (aI h7_37 (aI h7_43 (aI h7_49 h7_55))))))
       iterate 2 refine SF ?_
       refine aZ (g := some (58, false)) rfl rfl fun K' hK' => T6 ?_
       refine C1 (uA r.t hrt) ?_
       rintro u rfl
       refine AX (hK' _ _ ?_)
       clear hK' K'
       iterate 2 refine SF ?_
       refine aD 61 rfl (fun h7_61 => ?_) (fun h7_61 => ?_)
       ·
        simp only [h7_61]
        refine T4 ?_
        exact key false _ _ _ (by simp only [nO, h7_33, h7_37, h7_43, h7_49, h7_55, h7_61, Bool.not_true, Bool.not_false, Bool.true_or, Bool.false_or]) (fF)
       simp only [h7_61]
       refine T4 ?_
       exact key true _ _ _ (by simp only [nO, h7_33, h7_37, h7_43, h7_49, h7_55, h7_61, Bool.not_true, Bool.not_false, Bool.true_or, Bool.false_or]) (fF)
      have F := aI hra2 (aI hiv (aI hva (aI h7_33 (aI h7_37 (aI h7_43 (aI h7_49 h7_55))))))
      iterate 5 refine SF ?_
      refine T4 ?_
      exact key true _ _ _ (by simp only [nO, h7_33, h7_37, h7_43, h7_49, h7_55, Bool.not_true, Bool.not_false, Bool.true_or, Bool.false_or]) (fF)
     have F := aI hra2 (aI hiv (aI hva (aI h7_33 (aI h7_37 (aI h7_43 h7_49)))))
     iterate 11 refine SF ?_
     refine T4 ?_
     exact key true _ _ _ (by simp only [nO, h7_33, h7_37, h7_43, h7_49, Bool.not_true, Bool.not_false, Bool.true_or, Bool.false_or]) (fF)
    have F := aI hra2 (aI hiv (aI hva (aI h7_33 (aI h7_37 h7_43))))
    iterate 17 refine SF ?_
    refine T4 ?_
    exact key true _ _ _ (by simp only [nO, h7_33, h7_37, h7_43, Bool.not_true, Bool.not_false, Bool.true_or, Bool.false_or]) (fF)
   have F := aI hra2 (aI hiv (aI hva (aI h7_33 h7_37)))
   iterate 23 refine SF ?_
   refine T4 ?_
   exact key true _ _ _ (by simp only [nO, h7_33, h7_37, Bool.not_true, Bool.not_false, Bool.true_or, Bool.false_or]) (fF)
  refine aX (T3 ?_)
  clear hK K
  refine AX (hK _ _ _ ?_)
  clear hK K
  refine R0 ?_
  refine aE (RT Tryz.results29 ?_)
  have hie : i = p.r.length := by have := hΦ.le; simp at hb; omega
  subst hie
  exact aF [] (.bool true) rfl (by rw [aM3 hhead hΦ])
 refine Rg ?_
 iterate 2 refine S0 ?_
 refine HS rfl rfl fun K' hK' => T5 ?_
 refine C1 (aC2 p.n (by omega)) ?_
 rintro u rfl
 refine AX (hK' _ _ ?_)
 clear hK' K'
 iterate 2 refine S0 ?_
 refine aD 8 rfl (fun h1_8 => ?_) (fun h1_8 => ?_)
 ·
  have F := h1_8
  iterate 2 refine SF ?_
  refine aZ (g := some (10, false)) rfl rfl fun K' hK' => T6 ?_
  refine C3 (gP _ _ _) ?_
  rintro u rfl
  refine AX (hK' _ _ ?_)
  clear hK' K'
  iterate 3 refine SF ?_
  refine aD 13 rfl (fun h1_13 => ?_) (fun h1_13 => ?_)
  ·
   have F := aI h1_8 h1_13
   iterate 5 refine SF ?_
   refine aD 20 rfl (fun h1_20 => ?_) (fun h1_20 => ?_)
   ·
    simp only [h1_20]
    refine T4 ?_
    exact key true _ _ _ (by simp only [tQ, h1_8, h1_13, h1_20, Bool.not_true, Bool.not_false, Bool.true_or, Bool.false_or]) (fF)
   simp only [h1_20]
   refine T4 ?_
   exact key false _ _ _ (by simp only [tQ, h1_8, h1_13, h1_20, Bool.not_true, Bool.not_false, Bool.true_or, Bool.false_or]) (fF)
  have F := aI h1_8 h1_13
  iterate 5 refine SF ?_
  refine T4 ?_
  exact key true _ _ _ (by simp only [tQ, h1_8, h1_13, Bool.not_true, Bool.not_false, Bool.true_or, Bool.false_or]) (fF)
 have F := h1_8
 iterate 11 refine SF ?_
 refine T4 ?_
 exact key true _ _ _ (by simp only [tQ, h1_8, Bool.not_true, Bool.not_false, Bool.true_or, Bool.false_or]) (fF)

end Go.Proofs.YtlldglbooaefhaaGreatDoor

namespace Go.Proofs.YtlldglbooaefhaaGreatDoor
open Go Go.Hl Go.Pl
set_option maxRecDepth 10000
set_option maxHeartbeats 16000000

theorem bO6 (ls : List (List aG)) (h0 : ls.length < 2 ^ 40) (h1 : ∀ l ∈ ls, l.length < 2 ^ 40) : gD Tryz.prog 53 [.slc (ls.map lsC)] (fun u v => u = .slc ((mR ls).map cV) ∧ v = .int .i64 (jM ls)) := bY4 ls h0 h1
theorem aS0 (N n : Nat) (ob : Ob) (e : TypeId) (sz : Nat) (T : kR) (L : List CV) : mU (sub [0, N] n) ob 0 [.tab T, .row e sz L] = upd (upd ob 0 (some (.tab T))) N (some (.row e sz L)) := rfl

theorem aE4 (p : Po) (hp : PoSz p) : aU5 Tryz.prog 27 tabs [p.cv] (fun u v => u = .slc ((oI p).map cV) ∧ v = .int .i64 (rZ p)) := by
 refine bY (args := [.c p.cv]) Tryz.func27 rfl (by kernel_rfl) (fB tabs [p.cv]) (Nat.le_of_ble_eq_true rfl) ?_
 unfold eD
 refine R0 ?_
 refine aB fun K hK => ?_
 refine aB fun K hK => Rg ?_
 refine S0 ?_
 refine HS rfl rfl fun K' hK' => T5 ?_
 refine C1 (oF p hp) ?_
 rintro u rfl
 refine AX (hK' _ _ ?_)
 clear hK' K'
 refine S0 ?_
 refine T2 (hK _ _ _ ?_)
 clear hK K
 refine aH (b := !eW p) rfl (fun hb => ?_) (fun hb => ?_)
 ·
  refine R0 ?_
  refine aE (RT Tryz.results27 ?_)
  have hv : eW p = false := by simpa using hb
  refine tA [] (.slc []) (.int .i64 1) ?_ rfl (by simp) ⟨by rw [oI, hv]; rfl, by rw [rZ, hv]; rfl⟩
  simp [HV.close, HV.closeL, CV.denil, CV.denilL, HV.norm, HV.toC, HV.toCL]
 refine aJ ?_
 refine T0 (hK _ _ _ ?_)
 clear hK K
 have hv : eW p = true := by simpa using hb
 clear hb
 obtain ⟨⟨v1, v2⟩, hr16, _, hrules⟩ := aC7 hv
 refine aB fun K hK => dV mixed [(0, [], []), (1, [], []), (2, [], []), (3, [], []), (4, [], [0, 1]), (5, [], []), (6, [], []), (7, [], [])] [0, 1, 0, 4, 12, 31, 63, 127] (by kernel_rfl) (by kernel_rfl) (by kernel_rfl) (by kernel_rfl) rfl (by kernel_rfl) ?_
 iterate 4 refine WG0 ?_
 refine eZ (g := none) rfl rfl fun K' hK' => T5 ?_
 refine eA (args := [_]) 0 (wM p.v ⟨by omega, by omega⟩) rfl (by simp) ⟨rfl, rfl, rfl, rfl⟩ ?_
 rintro u rfl
 refine AX (hK' _ _ ?_)
 clear hK' K'
 refine gR (g := none) 45 rfl rfl fun K' hK' => ?_
 simp only [eR, gU, sH, ↓sP, sA, tyS, simprocAttr]
 repeat refine AI ?_
 refine cE (by first | rfl | simp) ?_
 try simp only [sH, ↓sP, sA, tyS, simprocAttr]
 refine AX (hK' _ _ ?_)
 clear hK' K'
 iterate 2 refine WG0 ?_
 refine T2 (hK _ _ _ ?_)
 clear hK K
 refine aB fun K hK => ?_
 refine aB fun K hK => Rg ?_
 iterate 4 refine S0 ?_
 refine T2 (hK _ _ _ ?_)
 clear hK K
 refine aK ?_
 refine bE (α := {i : Nat // i ≤ p.r.length}) (fun i => (fin [(4, .own 49 (jJ p i.1).length), (18, .c (.slc (p.r.map Pr.cv))), (19, .c (.int .i64 p.r.length)), (20, .c (.int .i64 i.1))], fob [(0, .tab tabs), (49, .row 60 1 ((jJ p i.1).map lsC))])) 2000 (fun i => p.r.length - i.1) ⟨0, by omega⟩ (aM (by omega) (by simp [aY, fin_at, finA_at, upd_at, HV.men, HV.menL, HV.norm, HV.toC, HV.toCL, jJ, lsC, wPolicy]) (by simp [bB, fob_at, upd_at, none0_at, bZ, HO.men, HV.men, HV.menL, HV.norm, HV.toC, HV.toCL, jJ, lsC, wPolicy])) ?_
 rintro ⟨i, hi⟩
 have hll := wQ hrules i hi
 have hl0 : 0 < (jJ p i).length := by simp [jJ]
 refine R0 ?_
 refine aB fun K hK => ?_
 refine aH (b := decide ((i : Int) < p.r.length)) rfl (fun hb => ?_) (fun hb => ?_)
 ·
  have hlt : i < p.r.length := by simpa using hb
  clear hb
  obtain ⟨r, hr⟩ : ∃ r, r = p.r[i] := ⟨_, rfl⟩
  have hrule := hrules r (by rw [hr]; exact List.getElem_mem hlt)
  obtain ⟨⟨g1, g2⟩, ht, _⟩ := qL hrule
  have ht0 : 0 < r.t.length := ht.ne
  have htl := ht.len
  obtain ⟨L, hL⟩ : ∃ L, L = jJ p i := ⟨_, rfl⟩
  rw [← hL] at hll hl0 ⊢
  refine aJ ?_
  refine T0 (hK _ _ _ ?_)
  clear hK K
  refine aB fun K hK => ?_
  refine aK ?_
  refine aB fun K hK => Rg ?_
  iterate 4 refine S0 ?_ (e := fun _ h_ => by simp only [sH, ↓sP, sA, tyS, simprocAttr, Int.natCast_nonneg, Int.ofNat_lt, hlt, bN hlt, ← hr]; exact AX h_)
  refine T2 (hK _ _ _ ?_)
  clear hK K
  refine aB fun K hK => dV mixed [(0, [], []), (1, [], []), (2, [], []), (3, [], []), (4, [], []), (5, [], []), (6, [], []), (7, [], []), (8, [], []), (9, [], [0, 1, 2, 3, 4, 5, 6]), (10, [], []), (11, [], []), (12, [], []), (13, [], [])] [0, 0, 2, 0, 8, 0, 32, 0, 128, 384, 1022, 2046, 4095, 8191] (by kernel_rfl) (by kernel_rfl) (by kernel_rfl) (by kernel_rfl) rfl (by kernel_rfl) ?_
  iterate 9 refine WG0 ?_
  refine eZ (g := none) rfl rfl fun K' hK' => T5 ?_
  refine eA (args := [_]) 0 (wM r.g ⟨by omega, by omega⟩) rfl (by simp) ⟨rfl, rfl, rfl, rfl⟩ ?_
  rintro u rfl
  refine AX (hK' _ _ ?_)
  clear hK' K'
  refine gR (g := none) 2060 rfl rfl fun K' hK' => ?_
  simp only [eR, gU, sH, ↓sP, sA, tyS, simprocAttr]
  repeat refine AI ?_
  refine cE (by first | rfl | simp) ?_
  try simp only [sH, ↓sP, sA, tyS, simprocAttr]
  refine AX (hK' _ _ ?_)
  clear hK' K'
  iterate 3 refine WG0 ?_
  refine T2 (hK _ _ _ ?_)
  clear hK K
  obtain ⟨M, hM⟩ : ∃ M, M = L ++ [[wRule, r.a, r.b, r.c, numW r.g]] := ⟨_, rfl⟩
  have hMm : List.map lsC L ++ [CV.slc [CV.str [114, 117, 108, 101], CV.str r.a, CV.str r.b, CV.str r.c, CV.str (numW r.g)]] = List.map lsC M := by rw [hM]; simp [lsC, wRule]
  have hMl : L.length + 1 = M.length := by rw [hM]; simp
  rw [hMm]
  simp only [List.length_map]
  refine Rg ?_
  iterate 3 refine S0 ?_
  refine HS rfl rfl fun K' hK' => T5 ?_
  refine lL [0, 49] (bO2 r.t ht r.t.length M 0 ht0 (by omega) (by rw [hM]; simp) (by rw [hM]; simp; omega)) rfl ⟨rfl, rfl, trivial⟩ (by simp) (by simp) ⟨rfl, rfl, rfl, rfl⟩ (by simp [gK, HO.men, HV.men, HV.menL]) (by simp [HV.menL, HV.men]) ?_
  rintro q os' ⟨rfl, rfl⟩
  rw [aS0, zM]
  refine AX (hK' _ _ ?_)
  clear hK' K'
  iterate 4 refine S0 ?_
  refine T2 (hK _ _ _ ?_)
  clear hK K
  refine aL (by kernel_rfl) ?_
  refine TQ (IntWalk.i64_in ((i : Int) + 1) (by omega)) ?_
  refine ⟨⟨i + 1, hlt⟩, ?_, ?_⟩
  ·
   have e1 : M ++ eE r.t 0 = jJ p (i + 1) := by rw [sF hlt, hM, hL, pG, ← hr]; simp [iL]
   rw [e1]
   exact fF
  show p.r.length - (i + 1) < p.r.length - i
  omega
 refine aX (T3 ?_)
 clear hK K
 refine AX (hK _ _ _ ?_)
 clear hK K
 have hei : i = p.r.length := by simp at hb; omega
 subst hei
 clear hb
 rw [qW]
 refine eB [49] (bM (fr2 := fin [(4, .c (.slc ((lP p).map lsC)))]) (ob2 := fob [(0, .tab tabs)]) (nx2 := 3000) (aM (by omega) (by simp [aY, iE, fin_at, finA_at, upd_at, fob_at, HV.close, HV.closeL, CV.denil, CV.denilL, aP, HV.men, HV.menL, HV.norm, HV.toC, HV.toCL]) (by simp [bB, iF, fob_at, upd_at, none0_at, bZ, HO.close, HV.close, HV.closeL, HO.men, HV.men, HV.menL, HV.norm, HV.toC, HV.toCL])) ?_)
 rw [qW] at hll
 refine aB fun K hK => Rg ?_
 have F := @aP
 refine SF ?_
 refine HS rfl rfl fun K' hK' => T6 ?_
 refine D1 (bO6 (lP p) (by omega) (aX2 p)) ?_
 rintro u v ⟨rfl, rfl⟩
 refine AX (hK' _ _ ?_)
 clear hK' K'
 iterate 4 refine SF ?_
 refine T2 (hK _ _ _ ?_)
 clear hK K
 refine aE (RT Tryz.results27 ?_)
 exact tA [] (.slc ((mR (lP p)).map cV)) (.int .i64 (jM (lP p))) (by simp [HV.close, HV.closeL, CV.denil, CV.denilL, cO, HV.norm, HV.toC, HV.toCL]) rfl (by simp) ⟨by rw [oI, if_pos hv], by rw [rZ, if_pos hv]⟩

end Go.Proofs.YtlldglbooaefhaaGreatDoor

namespace Go.Hl
open Go
def aX3 (P : Program) (f : FuncId) (T : kR) (args : List CV) (R : CV → CV → CV → Prop) : Prop :=
 HFn P f (args.map .c) 1 (eD T) (fun r ob' => ∃ u v x, r = .tup [.c u, .c v, .c x] ∧ ob' = eD T ∧ R u v x)
theorem iB {ob : Ob} {r : HV} {T : kR} {R : CV → CV → CV → Prop} (cl : List Nat) (u v x : CV) (h : (r.close ob cl).norm = .tup [.c u, .c v, .c x]) (hb : ob 0 = some (.tab T)) (h0 : 0 ∉ cl) (hR : R u v x) :
  oH 1 r ob (fun r ob' => ∃ u v x, r = .tup [.c u, .c v, .c x] ∧ ob' = eD T ∧ R u v x) :=
 ⟨cl, id, .tup [.c u, .c v, .c x], eD T, ⟨u, v, x, rfl, rfl, hR⟩, by grind [HV.ren, HV.renL], fun _ _ => rfl, fun _ _ _ _ h => h, by simp [HV.men, HV.menL], aP2 hb h0⟩
theorem aM5 {P : Program} {av : List Nat} {f : FuncId} {ob : Ob} {nid : Nat} {K : HV → Ob → Prop} {T : kR} {args : List CV} {R : CV → CV → CV → Prop} (id : Nat) (h : aX3 P f T args R) (hid : ob id = some (.tab T)) (hav : id ∉ av)
  (hfree : ob nid = none ∧ ob (nid + 1) = none ∧ ob (nid + 2) = none ∧ ob (nid + 3) = none) (hK : ∀ u v x, R u v x → K (.tup [.c u, .c v, .c x]) ob) : HCall P av f (args.map .c) ob nid K := by
 refine ⟨[id], args.map .c, _, _, h, fB T args, ⟨by simp, by grind⟩, (HV.renL_c _ _).symm, rR hid, fun r lob' hR _ => ?_⟩
 obtain ⟨u, v, x, rfl, rfl, hR⟩ := hR
 rw [mX hid hfree]
 exact hK u v x hR
end Go.Hl

namespace Go.Pl
open Go Go.Hl

def LsB (ls : List (List aG)) : Prop := ∀ l ∈ ls, ∀ w ∈ l, w.length < 2 ^ 40
theorem LsB.drop {ls : List (List aG)} (h : LsB ls) (j : Nat) : LsB (ls.drop j) := fun l hl => h l (List.mem_of_mem_drop hl)
theorem bZ9 {l : List aG} (h : ∀ w ∈ l, w.length < 2 ^ 40) (i : Nat) : (wd l i).length < 2 ^ 40 := by grind [wd, Nat.lt_or_ge, List.getElem?_eq_getElem, List.getElem_mem, List.getElem?_eq_none]
theorem cA0 {w : List aG} (h : ∀ x ∈ w, x.length < 2 ^ 40) {q : Rq} (hq : eY w = some q) : q.t.length < 2 ^ 40 := by
 have h1 := bZ9 h 1
 have hm : ∀ (k : Int) (o : Option Int), o.map (fun n => (⟨k, n, 0, []⟩ : Rq)) = some q → q.t.length < 2 ^ 40 := fun k o ho => by
  cases o with
  | none => grind
  | some n => grind
 unfold eY at hq
 split at hq
 ·
  exact hm _ _ hq
 ·
  split at hq
  ·
   grind
  ·
   split at hq
   ·
    exact hm _ _ hq
   ·
    split at hq
    ·
     grind
    ·
     split at hq
     ·
      exact hm _ _ hq
     ·
      split at hq
      ·
       exact hm _ _ hq
      ·
       split at hq
       ·
        exact hm _ _ hq
       grind
theorem cA1 {w : List aG} {n : Nd} (h : jH w = some n) : n.q = rq0 := by grind [jH, bG, wd]
theorem cE8 : ∀ f, (∀ ls, LsB ls → ∀ t, (rdN f ls).1 = some t → ∀ n ∈ t, n.q.t.length < 2 ^ 40) ∧ (∀ ls, LsB ls → ∀ p, (rdK f ls).1 = some p → ∀ n ∈ p.1, n.q.t.length < 2 ^ 40)
 | 0 => ⟨fun ls _ t h => by simp [rdN] at h, fun ls _ t h => by simp [rdK] at h⟩
 | f + 1 => by
  obtain ⟨ihN, ihK⟩ := cE8 f
  refine ⟨fun ls hb t h => ?_, fun ls hb p h => ?_⟩
  ·
   match ls with
   | [] => simp [rdN] at h
   | w :: r =>
    cases h1 : eY w with
    | some q =>
     rw [nL h1] at h
     cases h
     intro n hn
     rw [List.mem_singleton] at hn
     subst hn
     exact cA0 (hb w (by simp)) h1
    | none =>
     cases h2 : jH w with
     | none => grind [nN]
     | some n =>
      rw [oD h1 h2] at h
      cases hk : (rdK f r).1 with
      | none => simp [xH, hk] at h
      | some p =>
       simp only [xH, hk, Option.map_some, Option.some.injEq] at h
       subst h
       intro x hx
       rcases List.mem_cons.1 hx with rfl | hx
       ·
        grind [cA1, rq0]
       ·
        exact ihK r (fun l hl => hb l (by grind)) p hk x hx
  ·
   cases he : gY (ls.headD []) with
   | true => grind [aD6]
   | false =>
    match h2 : rdN f ls with
    | (none, r) => simp_all [aR6]
    | (some t, r) =>
     rw [wL he h2] at h
     obtain ⟨j, hj, _⟩ := (aD7 f).1 ls
     rw [h2] at hj
     have hj' : r = ls.drop j := hj
     cases hk : (rdK f r).1 with
     | none => simp [pF, hk] at h
     | some q =>
      simp only [pF, hk, Option.map_some, Option.some.injEq] at h
      subst h
      intro x hx
      rcases List.mem_append.1 hx with hx | hx
      ·
       grind
      ·
       exact ihK r (by rw [hj']; exact hb.drop j) q hk x hx
def cA2 (r : Pr) : Prop := r.a.length < 2 ^ 40 ∧ ∀ n ∈ r.t, n.q.t.length < 2 ^ 63
theorem cE9 {ls : List (List aG)} (hb : LsB ls) {x : Pr} (h : (rdR ls).1 = some x) : cA2 x := by
 match ls with
 | [] => cases h
 | w :: r =>
  simp only [rdR] at h
  split at h
  ·
   cases hn : bG (wd w 4) with
   | none => grind
   | some g =>
    rw [hn] at h
    simp only at h
    match hm : rdT r with
    | (none, r') => grind
    | (some t, r') =>
     rw [hm] at h
     cases h
     have h1 := (cE8 (2 * r.length + 2)).1 r (fun l hl => hb l (by grind)) t (by grind [rdT])
     exact ⟨bZ9 (hb w (by simp)) 1, fun n hn => Nat.lt_trans (h1 n hn) (by decide)⟩
  grind
theorem bO7 : ∀ (f : Nat) (ls : List (List aG)) (acc : List Pr), LsB ls → (∀ r ∈ acc, cA2 r) → ∀ l, (kK f ls acc).1 = some l → (∀ r ∈ l, cA2 r) ∧ l.length ≤ acc.length + f
 | 0, ls, acc, _, _, l, h => by simp [kK] at h
 | f + 1, ls, acc, hb, ha, l, h => by
  simp only [kK] at h
  split at h
  ·
   grind
  ·
   match hm : rdR ls with
   | (none, r) => grind
   | (some x, r) =>
    rw [hm] at h
    obtain ⟨j, _, hj, _⟩ := aD8 ls
    rw [hm] at hj
    have hj' : r = ls.drop j := hj
    have hx := cE9 hb (x := x) (by rw [hm])
    obtain ⟨h1, h2⟩ := bO7 f r (acc ++ [x]) (by rw [hj']; exact hb.drop j) (fun y hy => by grind) l h
    grind
theorem cF0 {ls : List (List aG)} (hb : LsB ls) (hl : ls.length < 2 ^ 39) {p : Po} (h : (rdP ls).1 = some p) : PoSz p := by
 match ls with
 | [] => cases h
 | w :: r =>
  simp only [rdP] at h
  split at h
  ·
   cases hn : bG (wd w 2) with
   | none => grind
   | some v =>
    rw [hn] at h
    simp only at h
    match hm : kK (r.length + 1) r [] with
    | (none, r') => grind
    | (some l, r') =>
     rw [hm] at h
     cases h
     obtain ⟨h1, h2⟩ := bO7 (r.length + 1) r [] (fun x hx => hb x (by grind)) (by simp) l (by rw [hm])
     simp only [List.length_cons, List.length_nil] at hl h2
     exact ⟨Nat.lt_of_lt_of_le (bZ9 (hb w (by simp)) 1) (by decide), by grind, fun x hx => Nat.lt_of_lt_of_le (h1 x hx).1 (by decide), fun x hx => (h1 x hx).2⟩
  grind
end Go.Pl

namespace Go.Proofs.YtlldglbooaefhaaGreatDoor
open Go Go.Hl Go.Pl
set_option maxRecDepth 10000
set_option maxHeartbeats 16000000

theorem bV0 (b : aG) : LsB (fE b) := fun l hl w hw => by
 have := (bS3 (b := b) l hl).2.2 w hw
 omega

theorem bD6 (a b : aG) : bT Tryz.prog 64 [.slc (a.map cV), .slc (b.map cV)] (fun v => v = .bool (a == b)) := by
 refine FW Tryz.func64 ?_
 refine R0 ?_
 refine aB fun K hK => Rg ?_
 have F := @bytesC_map
 iterate 6 refine SF ?_
 refine T2 (hK _ _ _ ?_)
 clear hK K
 refine aE (RT Tryz.results64 ?_)
 exact aF [] (.bool (a == b)) rfl rfl


theorem bV1 (b : aG) (hl : b.length < 2 ^ 40) : aX3 Tryz.prog 32 tabs [.slc (b.map u8)] (fun u v x => u = (dpO b).cv ∧ v = .int .i64 (dpL b : Nat) ∧ x = .int .i64 (dpE b)) := by
 refine bY (args := [.c (.slc (b.map u8))]) Tryz.func32 rfl (by kernel_rfl) (fB tabs [.slc (b.map u8)]) (Nat.le_of_ble_eq_true rfl) ?_
 unfold eD
 have hlen := bK0 (b := b)
 refine R0 ?_
 refine aB fun K hK => Rg ?_
 have F := @denilL_u8
 refine SF ?_
 refine HS rfl rfl fun K' hK' => T6 ?_
 refine D1 (bZ4 b hl) ?_
 rintro u v ⟨rfl, rfl⟩
 refine AX (hK' _ _ ?_)
 clear hK' K'
 iterate 5 refine SF ?_
 refine T2 (hK _ _ _ ?_)
 clear hK K
 refine aB fun K hK => ?_
 refine R0 ?_
 refine aH (b := !(iG b == 0)) rfl (fun hb => ?_) (fun hb => ?_)
 ·
  have he : iG b ≠ 0 := by simpa using hb
  have e1 : dpE b = iG b := by rw [dpE, if_pos he]
  have e2 : dpL b = 0 := by rw [dpL, if_pos he]
  have e3 : dpO b = po0 := by rw [dpO, e1, if_neg he]
  clear hb
  refine aB fun K hK => Rg ?_
  iterate 5 refine S0 ?_
  refine T2 (hK _ _ _ ?_)
  clear hK K
  refine aE (RT Tryz.results32 ?_)
  exact iB [] po0.cv (.int .i64 0) (.int .i64 (iG b)) (by simp [HV.close, HV.closeL, po0, Po.cv, CV.denil, CV.denilL, HV.norm, HV.toC, HV.toCL]) rfl (by simp) (by rw [e1, e2, e3]; exact ⟨rfl, rfl, rfl⟩)
 refine aJ ?_
 refine T0 (hK _ _ _ ?_)
 clear hK K
 have he : iG b = 0 := by simpa using hb
 clear hb
 refine aB fun K hK => Rg ?_
 iterate 4 refine S0 ?_
 refine T2 (hK _ _ _ ?_)
 clear hK K
 refine aB fun K hK => Rg ?_
 refine S0 ?_
 refine HS rfl rfl fun K' hK' => T5 ?_
 refine dQ (args := []) (bO0 (fE b) (by omega)) rfl (by simp) ⟨rfl, rfl, rfl, rfl⟩ ?_
 rintro u x v' ⟨q, rfl, rfl, rfl, hq⟩
 refine AX (hK' _ _ ?_)
 clear hK' K'
 iterate 5 refine S0 ?_
 refine T2 (hK _ _ _ ?_)
 clear hK K
 refine aB fun K hK => ?_
 refine R0 ?_
 refine aH (b := !(rdP (fE b)).1.isSome) rfl (fun hb => ?_) (fun hb => ?_)
 ·
  have hno : (rdP (fE b)).1 = none := by simpa using hb
  have e1 : dpE b = 2 := by rw [dpE, if_neg (by simpa using he), hno]
  have e2 : dpL b = (fE b).length - (rdP (fE b)).2.length := by
   rw [dpL, if_neg (by simpa using he)]
   match h : rdP (fE b) with
   | (none, r) => rfl
   | (some p, r) => rw [h] at hno; cases hno
  have e3 : dpO b = po0 := by rw [dpO, e1, if_neg (by decide)]
  clear hb
  refine aB fun K hK => DW [(0, [], []), (1, [], []), (2, [], []), (3, [], []), (4, [], []), (5, [], [1, 2, 3, 4]), (6, [], []), (7, [], [])] [0, 0, 2, 6, 14, 1, 63, 127] ?_
  iterate 8 refine W0 ?_ (e := fun _ h_ => by simp only [sH, ↓sP, sA, tyS, simprocAttr, rdr]; exact AX h_)
  refine T2 (hK _ _ _ ?_)
  clear hK K
  refine aE (RT Tryz.results32 ?_)
  exact iB [] po0.cv (.int .i64 ((fE b).length - (rdP (fE b)).2.length : Nat)) (.int .i64 2) (by simp [HV.close, HV.closeL, po0, Po.cv, CV.denil, CV.denilL, HV.norm, HV.toC, HV.toCL]) rfl (by simp) (by rw [e1, e2, e3]; exact ⟨rfl, rfl, rfl⟩)
 refine aJ ?_
 refine T0 (hK _ _ _ ?_)
 clear hK K
 refine aB fun K hK => ?_
 obtain ⟨p, hp⟩ : ∃ p, (rdP (fE b)).1 = some p := by
  cases h : (rdP (fE b)).1 with
  | none => rw [h] at hb; simp at hb
  | some p => exact ⟨p, rfl⟩
 obtain rfl := hq p hp
 have hsz := cF0 (bV0 b) (by omega) hp
 have hr : rdP (fE b) = (some q, (rdP (fE b)).2) := Prod.ext hp rfl
 have hiff := bY8 he hr
 have e1 : dpE b = if eW q then 0 else 1 := by rw [dpE, if_neg (by simpa using he), hp]
 have e2 : dpL b = 0 := by rw [dpL, if_neg (by simpa using he), hr]
 clear hb
 refine aB fun K hK => Rg ?_
 refine S0 ?_
 refine HS rfl rfl fun K' hK' => T5 ?_
 refine mY (args := [_]) 0 (aE4 q hsz) rfl (by simp) ⟨rfl, rfl, rfl, rfl⟩ ?_
 rintro u v ⟨rfl, rfl⟩
 refine AX (hK' _ _ ?_)
 clear hK' K'
 iterate 5 refine S0 ?_
 refine T2 (hK _ _ _ ?_)
 clear hK K
 refine aB fun K hK => Rg ?_
 have F := aI @cO @denilL_u8
 iterate 3 refine SF ?_
 refine aD 40 rfl (fun h9_40 => ?_) (fun h9_40 => ?_)
 ·
  have F := aI @cO (aI @denilL_u8 h9_40)
  iterate 5 refine SF ?_
  refine T2 (hK _ _ _ ?_)
  clear hK K
  refine CT rfl ?_
  refine aB fun K hK => Rg ?_
  have F := h9_40
  iterate 4 refine SF ?_
  refine T2 (hK _ _ _ ?_)
  clear hK K
  refine aE (RT Tryz.results32 ?_)
  have hpo : eW q = false := by
   cases h : eW q with
   | false => rfl
   | true => exact absurd (hiff.2 h).1 (by simpa using h9_40)
  rw [hpo] at e1
  have e1 : dpE b = 1 := e1
  have e3 : dpO b = po0 := by rw [dpO, e1, if_neg (by decide)]
  exact iB [] po0.cv (.int .i64 0) (.int .i64 1) (by simp [HV.close, HV.closeL, po0, Po.cv, CV.denil, CV.denilL, HV.norm, HV.toC, HV.toCL]) rfl (by simp) (by rw [e1, e2, e3]; exact ⟨rfl, rfl, rfl⟩)
 have F := aI @cO (aI @denilL_u8 h9_40)
 iterate 2 refine SF ?_
 refine aZ (g := some (41, false)) rfl rfl fun K' hK' => T6 ?_
 refine C2 (bD6 (oI q) b) ?_
 rintro u rfl
 refine AX (hK' _ _ ?_)
 clear hK' K'
 iterate 2 refine SF ?_
 refine aD 44 rfl (fun h9_44 => ?_) (fun h9_44 => ?_)
 ·
  simp only [h9_44]
  refine T2 (hK _ _ _ ?_)
  clear hK K
  refine CF rfl ?_
  refine aJ ?_
  refine T0 (hK _ _ _ ?_)
  clear hK K
  refine aB fun K hK => Rg ?_
  have F := aI h9_40 h9_44
  iterate 4 refine SF ?_
  refine T2 (hK _ _ _ ?_)
  clear hK K
  refine aE (RT Tryz.results32 ?_)
  have hpo : eW q = true := hiff.1 ⟨by simpa using h9_40, by simpa using h9_44⟩
  rw [hpo] at e1
  have e1 : dpE b = 0 := e1
  have e3 : dpO b = q := by rw [dpO, if_pos e1, hp]; rfl
  exact iB [] q.cv (.int .i64 0) (.int .i64 0) (by simp [HV.close, HV.closeL, Po.denil, CV.denil, CV.denilL, HV.norm, HV.toC, HV.toCL]) rfl (by simp) (by rw [e1, e2, e3]; exact ⟨rfl, rfl, rfl⟩)
 simp only [h9_44]
 refine T2 (hK _ _ _ ?_)
 clear hK K
 refine CT rfl ?_
 refine aB fun K hK => Rg ?_
 have F := aI h9_40 h9_44
 iterate 4 refine SF ?_
 refine T2 (hK _ _ _ ?_)
 clear hK K
 refine aE (RT Tryz.results32 ?_)
 have hpo : eW q = false := by
  cases h : eW q with
  | false => rfl
  | true => exact absurd (hiff.2 h).2 (by simpa using h9_44)
 rw [hpo] at e1
 have e1 : dpE b = 1 := e1
 have e3 : dpO b = po0 := by rw [dpO, e1, if_neg (by decide)]
 exact iB [] po0.cv (.int .i64 0) (.int .i64 1) (by simp [HV.close, HV.closeL, po0, Po.cv, CV.denil, CV.denilL, HV.norm, HV.toC, HV.toCL]) rfl (by simp) (by rw [e1, e2, e3]; exact ⟨rfl, rfl, rfl⟩)

end Go.Proofs.YtlldglbooaefhaaGreatDoor

namespace Go.Proofs.YtlldglbooaefhaaGreatDoor
open Go Go.Hl Go.Pl
set_option maxRecDepth 10000
set_option maxHeartbeats 16000000

theorem bD7 (l : List Nd) (hl : l.length < 2 ^ 40) : aC1 Tryz.prog 76 [(22, .slc (l.map Nd.cv))] (bwL l) := by
 refine yQ Tryz.func76 rfl (by kernel_rfl) (Nat.le_of_ble_eq_true rfl) rfl fun L J hS hY => ?_
 have e0 : jN [(22, CV.slc (l.map Nd.cv))] = fob [(0, .box 22 (.c (.slc (l.map Nd.cv))))] := by
  funext i
  match i with
  | 0 => rfl
  | i + 1 => simp [jN, fob, upd]
 have e1 : gF (List.range [((22 : Nat), CV.slc (l.map Nd.cv))].length) = [.ptr 0 0] := rfl
 rw [e0, e1]
 refine eK fun K hK => mZ hS rfl (aL (by kernel_rfl) ?_)
 simp only [sR, simprocAttr]
 iterate 4 refine S0 ?_ (e := fun _ h_ => by simp only [sH, ↓sP, sA, tyS, simprocAttr, rI, cK ((l.length : Int) - 1) (by omega), List.length_map]; exact AX h_)
 simp only [sE, ↓reduceIte, simprocAttr, rI]
 refine hK _ _ _ _ _ ?_
 clear hK K
 refine oC ?_
 refine aJ5 (α := {j : Nat // j ≤ l.length}) hS (fun j => (fin [(0, .opq (.func (.yield L) #[] #[])), (1, .ptr 0 0), (3, .c (.int .i64 ((l.length : Int) - 1 - j.1)))], fob [(0, .box 22 (.c (.slc (l.map Nd.cv))))])) (fun j => j.1) 100 (fun j => l.length - j.1) ⟨0, Nat.zero_le _⟩ rfl (fF) rfl ?_
 rintro ⟨j, hj⟩
 refine eK fun K hK => ?_
 refine eK fun K1 hK1 => mZ hS rfl (aL (by kernel_rfl) ?_)
 simp only [sR, simprocAttr]
 have F := rI
 iterate 2 refine SF ?_
 simp only [sE, ↓reduceIte, simprocAttr, rI]
 refine hK1 _ _ _ _ _ ?_
 clear hK1 K1
 refine jE (b := decide ((0 : Int) ≤ (l.length : Int) - 1 - j)) rfl (fun hb => ?_) (fun hb => ?_)
 ·
  have hlt : j < l.length := by simp at hb; omega
  have hi2 : l.length - 1 - j < l.length := by omega
  have hxl : j < (bwL l).length := by rw [qT]; exact hlt
  have hx := bM5 hxl hi2
  have hcast : (l.length : Int) - 1 - j = ((l.length - 1 - j : Nat) : Int) := by omega
  have hw1 : IntKind.i64.wrap (((l.length - 1 - j : Nat) : Int) - 1) = (l.length : Int) - 1 - ((j : Int) + 1) := by rw [cK _ (by omega)]; omega
  refine nA ?_
  simp only [sE, ↓reduceIte, simprocAttr, rI]
  refine hK _ _ _ _ _ ?_
  clear hK K
  refine eK fun K hK => ?_
  refine oC ?_
  refine eK fun K1 hK1 => rS (l := L) 6 hS hY rfl (by kernel_rfl) (by decide) ?_
  simp only [sR, List.range', simprocAttr]
  have F := aI rI (aI hcast (aI @List.length_map.{0,0} (aI @Int.natCast_nonneg (aI @Int.ofNat_lt (aI hi2 (nM hi2))))))
  iterate 6 refine SF ?_
  rw [hlex]
  refine ⟨_, _, _, hxl, rfl, rfl, rfl, rfl, rfl, ?_, ?_, ?_⟩
  ·
   rw [hx]; simp only [hcast]; rfl
  ·
   simp only [sR, List.range', simprocAttr]
   have F := rI
   refine SF ?_
   simp only [sE, ↓reduceIte, simprocAttr, rI]
   refine hK1 _ _ _ _ _ ?_
   clear hK1 K1
   refine jE (b := false) rfl (fun hb => by cases hb) (fun _ => ?_)
   refine nA ?_
   simp only [sE, ↓reduceIte, simprocAttr, rI]
   refine hK _ _ _ _ _ ?_
   clear hK K
   refine mZ hS rfl (aL (by kernel_rfl) ?_)
   simp only [sR, simprocAttr]
   have F := aI rI (aI hcast hw1)
   iterate 3 refine SF ?_
   simp only [sE, ↓reduceIte, simprocAttr, rI]
   refine ⟨⟨j + 1, hlt⟩, fF, trivial, rfl, ?_⟩
   show l.length - (j + 1) < l.length - j
   omega
  simp only [sR, List.range', simprocAttr]
  have F := rI
  refine SF ?_
  simp only [sE, ↓reduceIte, simprocAttr, rI]
  refine hK1 _ _ _ _ _ ?_
  clear hK1 K1
  refine jE (b := true) rfl (fun _ => ?_) (fun hb => by cases hb)
  refine aU6 ?_
  simp only [sE, ↓reduceIte, simprocAttr, rI]
  exact ⟨by simp, fun h => by cases h⟩
 have hji : j = l.length := by simp at hb; omega
 refine aJ4 ?_
 simp only [sE, ↓reduceIte, simprocAttr, rI]
 exact ⟨by simp, fun _ => by rw [qT]; exact hji⟩
end Go.Proofs.YtlldglbooaefhaaGreatDoor

namespace Go.Proofs.YtlldglbooaefhaaGreatDoor
open Go Go.Hl Go.Pl
set_option maxRecDepth 10000
set_option maxHeartbeats 16000000

theorem bV2 (l : List Nd) : aU7 Tryz.prog 46 76 [.slc (l.map Nd.cv)] [(22, .slc (l.map Nd.cv))] := by
 refine FW Tryz.func46 ?_
 refine R0 ?_
 refine R0 ?_
 refine aE (RT Tryz.results46 ?_)
 refine rU (gf := 76) (bs := [(22, .slc (l.map Nd.cv))]) (ids := [0]) rfl (by simp) (by decide) ?_ ?_
 ·
  intro j x hx
  match j, hx with
  | 0, hx => cases hx; rfl
 intro x hx
 simp only [List.mem_cons, List.not_mem_nil, or_false] at hx
 subst hx
 exact congrArg CV.slc (denilL_Nd l)


theorem aM6 (n : Nd) (L : List Bool) (lo m : Nat) (hl : L.length < 2 ^ 40) (h0 : 0 < L.length) (hlo : lo ≤ m) (hm : m ≤ L.length) :
  HGe Tryz.prog 47 [.c n.cv, .osl 0 L.length lo 1 m] [.row 4 1 (L.map bC)] (fun r os' => r = .c (.bool (kV n ((L.drop lo).take (m - lo)))) ∧ os' = [.row 4 1 (L.map bC)]) := by
 obtain ⟨V, hV⟩ : ∃ V, V = (L.drop lo).take (m - lo) := ⟨_, rfl⟩
 have hVl : V.length = m - lo := by rw [hV]; simp; omega
 rw [← hV]
 have hrd : List.take (m - lo) (List.drop lo (L.map bC)) = V.map bC := by rw [hV, List.map_take, List.map_drop]
 refine bY (args := [.c n.cv, .osl 0 L.length lo 1 m]) Tryz.func47 rfl (by kernel_rfl) (jD rfl (by simp [gK, HO.men]) (by simp [HV.menL, HV.men])) (Nat.le_of_ble_eq_true rfl) ?_
 have e0 : lst [.row 4 1 (L.map bC)] = fob [(0, .row 4 1 (L.map bC))] := by
  funext i
  match i with
  | 0 => rfl
  | i + 1 => simp [lst, fob, upd]
 show Hw _ _ 1 _ _ _ (lst _) 1
 rw [e0]
 refine R0 ?_
 refine R0 ?_
 refine aB fun K hK => ?_
 refine R0 ?_ (e := fun _ h_ => by simp only [↓sP, sA, tyS, simprocAttr, hrd, List.length_map, h0, hlo, hm]; exact AX h_)
 refine aK ?_
 refine bE (α := {i : Nat // i ≤ V.length}) (fun i => (fin [(1, .osl 0 L.length lo 1 m), (2, .ptr 1 0), (5, .c (.int .i64 (cnt (V.take i.1) : Nat))), (8, .osl 0 L.length lo 1 m), (9, .c (.int .i64 V.length)), (10, .c (.int .i64 i.1))], fob [(0, .row 4 1 (L.map bC)), (1, .box 40 (.c n.cv))])) 100 (fun i => V.length - i.1) ⟨0, by omega⟩ (aM (by omega) (by simp [aY, fin_at, finA_at, upd_at, HV.men, HV.menL, HV.norm, HV.toC, HV.toCL, cnt]) (by simp [bB, fob_at, upd_at, none0_at, bZ, HO.men, HV.men, HV.menL, HV.norm, HV.toC, HV.toCL, cnt])) ?_
 rintro ⟨i, hi⟩
 have hcn : cnt (V.take i) ≤ i := by have := bY6 (V.take i); simp at this; omega
 refine R0 ?_
 refine aB fun K hK => ?_
 refine aH (b := decide ((i : Int) < V.length)) rfl (fun hb => ?_) (fun hb => ?_)
 ·
  have hlt : i < V.length := by simpa using hb
  have hct := oQ (l := V) (k := i) hlt
  have hw3 : IntKind.i64.wrap ((cnt (V.take i) : Int) + 1) = ((cnt (V.take i) + 1 : Nat) : Int) := by rw [cK _ (by omega)]; rfl
  have hli : lo + i < L.length := by omega
  have hvi : L[lo + i] = V[i] := by simp [hV]
  have hli2 : lo + i < (L.map bC).length := by simpa using hli
  have hml : i < m - lo := by omega
  clear hb
  refine aJ ?_
  refine T0 (hK _ _ _ ?_)
  clear hK K
  refine aB fun K hK => ?_
  refine aK ?_
  refine R0 ?_ (e := fun _ h_ => by simp only [↓sP, sA, tyS, simprocAttr, List.length_map, Int.natCast_nonneg, Int.ofNat_lt, h0, hm, hml, hli, bN hli, bC]; exact AX h_)
  refine R0 ?_
  refine aH (b := L[lo + i]) rfl (fun hb => ?_) (fun hb => ?_)
  ·
   rw [hvi] at hb
   rw [if_pos (by simpa [hlt] using hb)] at hct
   refine aL (by kernel_rfl) ?_
   refine TQ hw3 ?_
   refine AX (hK _ _ _ ?_)
   clear hK K
   refine aL (by kernel_rfl) ?_
   simp only [↓sP, sA, tyS, simprocAttr, cK ((i : Int) + 1) (by omega)]
   refine ⟨⟨i + 1, hlt⟩, aM (by omega) (by simp [aY, fin_at, finA_at, upd_at, HV.men, HV.menL, HV.norm, HV.toC, HV.toCL, hct]) (by simp [bB, fob_at, upd_at, none0_at, bZ, HO.men, HV.men, HV.menL, HV.norm, HV.toC, HV.toCL, hct]), ?_⟩
   show V.length - (i + 1) < V.length - i
   omega
  rw [hvi] at hb
  rw [if_neg (by simp [hlt, hb])] at hct
  refine aJ ?_
  refine T0 (hK _ _ _ ?_)
  clear hK K
  refine aL (by kernel_rfl) ?_
  simp only [↓sP, sA, tyS, simprocAttr, cK ((i : Int) + 1) (by omega)]
  refine ⟨⟨i + 1, hlt⟩, aM (by omega) (by simp [aY, fin_at, finA_at, upd_at, HV.men, HV.menL, HV.norm, HV.toC, HV.toCL, hct]) (by simp [bB, fob_at, upd_at, none0_at, bZ, HO.men, HV.men, HV.menL, HV.norm, HV.toC, HV.toCL, hct]), ?_⟩
  show V.length - (i + 1) < V.length - i
  omega
 refine aX (T3 ?_)
 clear hK K
 refine AX (hK _ _ _ ?_)
 clear hK K
 refine aB fun K hK => ?_
 have hei : i = V.length := by simp only [decide_eq_false_iff_not] at hb; omega
 subst hei
 rw [List.take_length] at hcn ⊢
 clear hb
 refine R0 ?_
 refine aK ?_
 refine R0 ?_
 refine aH (b := (n.k == 2)) rfl (fun hb => ?_) (fun hb => ?_)
 ·
  refine aB fun K hK => Rg ?_
  iterate 5 refine S0 ?_ (e := fun _ h_ => by simp only [sH, ↓sP, sA, tyS, simprocAttr, hrd, List.length_map, h0, hlo, hm]; exact AX h_)
  refine T2 (hK _ _ _ ?_)
  clear hK K
  refine aE (RT Tryz.results47 ?_)
  have h2 : n.k = 2 := by simpa using hb
  exact fA [] [] (.c (.bool ((cnt V : Int) == V.length))) [.row 4 1 (L.map bC)] rfl (by simp [HV.men]) ⟨⟨trivial, by simp, _, rfl, rfl⟩, trivial⟩ rfl List.nodup_nil (by simp) (by simp) ⟨by rw [kV, if_pos h2]; congr 2; rw [Bool.eq_iff_iff]; simp; omega, rfl⟩
 have h2 : n.k ≠ 2 := by simpa using hb
 refine R0 ?_
 refine aH (b := (n.k == 3)) rfl (fun hb => ?_) (fun hb => ?_)
 ·
  refine R0 ?_
  refine aE (RT Tryz.results47 ?_)
  have h3 : n.k = 3 := by simpa using hb
  exact fA [] [] (.c (.bool (decide ((1 : Int) ≤ cnt V)))) [.row 4 1 (L.map bC)] rfl (by simp [HV.men]) ⟨⟨trivial, by simp, _, rfl, rfl⟩, trivial⟩ rfl List.nodup_nil (by simp) (by simp) ⟨by rw [kV, if_neg h2, if_pos h3]; congr 2; rw [Bool.eq_iff_iff]; simp; omega, rfl⟩
 refine aJ ?_
 refine T0 (hK _ _ _ ?_)
 clear hK K
 refine aB fun K hK => Rg ?_
 iterate 5 refine S0 ?_
 refine T2 (hK _ _ _ ?_)
 clear hK K
 refine aE (RT Tryz.results47 ?_)
 have h3 : n.k ≠ 3 := by simpa using hb
 exact fA [] [] (.c (.bool (decide (n.n ≤ cnt V)))) [.row 4 1 (L.map bC)] rfl (by simp [HV.men]) ⟨⟨trivial, by simp, _, rfl, rfl⟩, trivial⟩ rfl List.nodup_nil (by simp) (by simp) ⟨by rw [kV, if_neg h2, if_neg h3], rfl⟩

end Go.Proofs.YtlldglbooaefhaaGreatDoor

namespace Go.Pl
open Go Go.Hl

def lC (w : List Bool) (m : Nat) (b : Bool) : List Bool := w.take m ++ [b] ++ w.drop (m + 1)
theorem lD {w : List Bool} {m : Nat} {b : Bool} (h : m + 1 ≤ w.length) : (lC w m b).length = w.length := by simp [lC]; omega
theorem zS {w : List Bool} {b : Bool} : lC w w.length b = w ++ [b] := by simp [lC]
theorem zT {w : List Bool} {m : Nat} {b : Bool} (h : m ≤ w.length) : (lC w m b).take (m + 1) = w.take m ++ [b] := by grind [lC, List.take_of_length_le]
def aS1 (l : List Nd) (tr : List Bool) (p : Nat) (s : List Bool × Nat) : List Bool × Nat :=
 if (l.getD p nd0).k = 1 then (lC s.1 s.2 (tr.getD (lv (l.take p)) false), s.2 + 1)
 else (lC s.1 (s.2 - (l.getD p nd0).c.toNat) (kV (l.getD p nd0) ((s.1.drop (s.2 - (l.getD p nd0).c.toNat)).take (l.getD p nd0).c.toNat)), s.2 - (l.getD p nd0).c.toNat + 1)
def bV (l : List Nd) (tr : List Bool) : Nat → List Bool × Nat
 | 0 => ([], 0)
 | i + 1 => aS1 l tr (l.length - 1 - i) (bV l tr i)
structure EvOk (l : List Nd) (tr : List Bool) (i : Nat) : Prop where
 le : i ≤ l.length
 m : (bV l tr i).2 = (evS (lv l) tr (l.drop (l.length - i))).length
 row : (bV l tr i).1.take (bV l tr i).2 = (evS (lv l) tr (l.drop (l.length - i))).reverse
 fit : (bV l tr i).2 ≤ (bV l tr i).1.length
 small : (bV l tr i).1.length ≤ i
theorem EvOk.zero (l : List Nd) (tr : List Bool) : EvOk l tr 0 := ⟨by omega, by simp [bV, evS], by simp [bV, evS], by simp [bV], by simp [bV]⟩
theorem xI (n : Nd) (l : List Bool) : kV n l.reverse = kV n l := by simp only [kV, aJ9, List.length_reverse]
theorem bO8 {E : List Bool} {c : Nat} : E.reverse.take (E.length - c) = (E.drop c).reverse := by rw [List.reverse_drop]
theorem bO9 {E : List Bool} {c : Nat} (h : c ≤ E.length) : E.reverse.drop (E.length - c) = (E.take c).reverse := by rw [List.reverse_take]
theorem EvOk.at_ {l : List Nd} {tr : List Bool} {i : Nat} (hi : i < l.length) : l.drop (l.length - (i + 1)) = l[l.length - 1 - i]'(by omega) :: l.drop (l.length - i) := by grind [List.drop_eq_getElem_cons]
theorem EvOk.leaf {l : List Nd} {tr : List Bool} {i : Nat} (h : EvOk l tr i) (hi : i < l.length) (hk : (l[l.length - 1 - i]'(by omega)).k = 1) :
  EvOk l tr (i + 1) ∧ bV l tr (i + 1) = (lC (bV l tr i).1 (bV l tr i).2 (tr.getD (lv (l.take (l.length - 1 - i))) false), (bV l tr i).2 + 1) := by
 have hp : l.length - 1 - i < l.length := by omega
 have hg : l.getD (l.length - 1 - i) nd0 = l[l.length - 1 - i] := by simp [hp]
 have e : bV l tr (i + 1) = (lC (bV l tr i).1 (bV l tr i).2 (tr.getD (lv (l.take (l.length - 1 - i))) false), (bV l tr i).2 + 1) := by
  simp only [bV, aS1, hg, if_pos hk]
 have hT := aC4 l (l.length - 1 - i)
 have hd := EvOk.at_ (tr := tr) hi
 rw [show l.length - (i + 1) = l.length - 1 - i from by omega] at hd
 have hE : evS (lv l) tr (l.drop (l.length - (i + 1))) = tr.getD (lv (l.take (l.length - 1 - i))) false :: evS (lv l) tr (l.drop (l.length - i)) := by
  rw [show l.length - (i + 1) = l.length - 1 - i from by omega, hd, evS, if_pos hk, ← hd]
  congr 2; omega
 refine ⟨⟨hi, ?_, ?_, ?_, ?_⟩, e⟩
 ·
  rw [e, hE]; simp [h.m]
 ·
  rw [e, hE]; simp only [List.reverse_cons]; rw [zT h.fit, h.row]
 ·
  rw [e]; have := h.fit; simp [lC]; omega
 ·
  rw [e]; have := h.fit; have := h.small; simp [lC]; omega
theorem EvOk.inner {l : List Nd} (ht : IsTree l) {tr : List Bool} {i : Nat} (h : EvOk l tr i) (hi : i < l.length) (hk : (l[l.length - 1 - i]'(by omega)).k ≠ 1) :
  (l[l.length - 1 - i]'(by omega)).c.toNat ≤ (bV l tr i).2 ∧ EvOk l tr (i + 1) ∧
  bV l tr (i + 1) = (lC (bV l tr i).1 ((bV l tr i).2 - (l[l.length - 1 - i]'(by omega)).c.toNat) (kV (l[l.length - 1 - i]'(by omega)) (((bV l tr i).1.drop ((bV l tr i).2 - (l[l.length - 1 - i]'(by omega)).c.toNat)).take (l[l.length - 1 - i]'(by omega)).c.toNat)), (bV l tr i).2 - (l[l.length - 1 - i]'(by omega)).c.toNat + 1) := by
 have hp : l.length - 1 - i < l.length := by omega
 have hg : l.getD (l.length - 1 - i) nd0 = l[l.length - 1 - i] := by simp [hp]
 have e : bV l tr (i + 1) = (lC (bV l tr i).1 ((bV l tr i).2 - (l[l.length - 1 - i]'(by omega)).c.toNat) (kV (l[l.length - 1 - i]'(by omega)) (((bV l tr i).1.drop ((bV l tr i).2 - (l[l.length - 1 - i]'(by omega)).c.toNat)).take (l[l.length - 1 - i]'(by omega)).c.toNat)), (bV l tr i).2 - (l[l.length - 1 - i]'(by omega)).c.toNat + 1) := by
  simp only [bV, aS1, hg, if_neg hk]
 have hkl := bI9 ht (tr := tr) hp
 rw [show l.length - 1 - i + 1 = l.length - i from by omega] at hkl
 obtain ⟨_, _, _, c4⟩ := dF (ht.node _ (List.getElem_mem hp))
 have c5 := c4 hk
 have c6 : 1 ≤ l[l.length - 1 - i].c.toNat := by omega
 have hd := EvOk.at_ (tr := tr) hi
 have hm := h.m
 have hr := h.row
 have hf := h.fit
 have hs := h.small
 have hE : evS (lv l) tr (l.drop (l.length - (i + 1))) = kV l[l.length - 1 - i] ((evS (lv l) tr (l.drop (l.length - i))).take l[l.length - 1 - i].c.toNat) :: (evS (lv l) tr (l.drop (l.length - i))).drop l[l.length - 1 - i].c.toNat := by
  rw [hd, evS, if_neg hk]
 generalize evS (lv l) tr (l.drop (l.length - i)) = E at hm hr hkl hE
 generalize l[l.length - 1 - i].c.toNat = c at *
 have h1 : (bV l tr i).1.take ((bV l tr i).2 - c) = (E.drop c).reverse := by
  rw [← bO8, ← hr, List.take_take, hm, Nat.min_eq_left (by omega)]
 have h2 : ((bV l tr i).1.drop ((bV l tr i).2 - c)).take c = (E.take c).reverse := by
  rw [← bO9 hkl, ← hr, List.drop_take, hm]
  congr 1; omega
 refine ⟨by omega, ⟨hi, ?_, ?_, ?_, ?_⟩, e⟩
 ·
  rw [e, hE]; simp only [List.length_cons, List.length_drop]; omega
 ·
  rw [e, hE]
  simp only [List.reverse_cons]
  rw [zT (by omega), h1, h2, xI]
 ·
  rw [e]; simp only; rw [lD (by omega)]; omega
 ·
  rw [e]; simp only; rw [lD (by omega)]; omega
theorem EvOk.fin {l : List Nd} (ht : IsTree l) {tr : List Bool} (h : EvOk l tr l.length) : (bV l tr l.length).2 = 1 ∧ ∃ h0 : 0 < (bV l tr l.length).1.length, vU l tr = (bV l tr l.length).1[0] := by
 have hl := aC3 (T := lv l) (tr := tr) l 1 ht.node ht.skip
 have hm := h.m
 have hr := h.row
 have hf := h.fit
 rw [Nat.sub_self, List.drop_zero] at hm hr
 rw [hl] at hm
 have h0 : 0 < (bV l tr l.length).1.length := by omega
 refine ⟨hm, h0, ?_⟩
 have ht' := bK9 ht
 obtain ⟨x, hx⟩ : ∃ x, evS (lv l) tr l = [x] := by
  match hE : evS (lv l) tr l, hl with
  | [x], _ => exact ⟨x, rfl⟩
 rw [hx, hm] at hr
 rw [vU, ht', hx]
 have : (bV l tr l.length).1[0] = x := by
  have := congrArg (·.head?) hr
  simpa [List.head?_take, List.head?_eq_getElem?, h0] using this
 rw [this]; rfl
end Go.Pl
