/- Plain Lean: a policy that was read is of small size (28.5). By an AI agent. -/
import Derived.Test.YtlldglbooaefhaaGreatDoorHzU1
import Derived.Test.YtlldglbooaefhaaGreatDoorHzTt
import Derived.Test.YtlldglbooaefhaaGreatDoorHzSb
import Derived.Test.YtlldglbooaefhaaGreatDoorHzUj
import Derived.Test.YtlldglbooaefhaaGreatDoorPlSha
import Derived.Test.YtlldglbooaefhaaGreatDoorHzV2
import Derived.Test.YtlldglbooaefhaaGreatDoorPl11u
import Derived.Test.YtlldglbooaefhaaGreatDoorHlTlaw
set_option linter.unusedSimpArgs false
set_option linter.unusedVariables false
set_option linter.defProp false
namespace Go.Proofs.YtlldglbooaefhaaGreatDoor
open Go Go.Hl Go.Pl
set_option maxRecDepth 10000
set_option maxHeartbeats 16000000

theorem cM4 (L : List (List aJ)) : lst [.tab tabs, .row 60 1 (L.map lsC)] = fob [(0, .tab tabs), (1, .row 60 1 (L.map lsC))] := by
 funext i
 match i with
 | 0 => rfl
 | 1 => rfl
 | i + 2 => simp [lst, fob, upd]
theorem aW0 (n : Nat) (ob : Ob) (e : TypeId) (sz : Nat) (T : lI) (L : List CV) : kH (sub [0, 1] n) ob 0 [.tab T, .row e sz L] = upd (upd ob 0 (some (.tab T))) 1 (some (.row e sz L)) := rfl
theorem xY {ob : Ob} {L : List CV} {M : List (List aJ)} {m : Nat} {a : Nat} (h0 : ob 0 = some (.tab tabs)) (h1 : ob 1 = some (.row 60 1 L)) (hm : m = M.length) (hL : L = M.map lsC) :
  mO 2 (.tup [.own 1 m, .c (.int .i64 a)]) ob (fun r ob' => ∃ os', ob' = lst os' ∧ (2 ≤ os'.length ∧ os'.length ≤ 2 + 4) ∧ r = .tup [.own 1 M.length, .c (.int .i64 a)] ∧ os' = [.tab tabs, .row 60 1 (M.map lsC)]) := by
 subst hm hL
 exact eE [] [] (.tup [.own 1 M.length, .c (.int .i64 a)]) [.tab tabs, .row 60 1 (M.map lsC)] rfl (by simp [HV.men, HV.menL]) ⟨⟨by simp [HO.men], by simp, _, h0, rfl⟩, ⟨by simp [HO.men], by simp, _, h1, rfl⟩, trivial⟩ rfl List.nodup_nil (by simp) (by simp) ⟨rfl, rfl⟩

theorem bU8 (l : List Nd) (ht : IsTree l) (m : Nat) : ∀ (L : List (List aJ)) (i : Nat) (hi : i < l.length), l.length - i ≤ m → 0 < L.length → L.length + 2 * (l.length - i) < 2 ^ 40 →
  HGe Tryz.prog 52 [.own 1 L.length, .c (.slc (l.map Nd.cv)), .c (.int .i64 i)] [.tab tabs, .row 60 1 (L.map lsC)] (fun r os' => r = .tup [.own 1 (L ++ eR l i).length, .c (.int .i64 (aft l i : Nat))] ∧ os' = [.tab tabs, .row 60 1 ((L ++ eR l i).map lsC)]) := by
 induction m using Nat.strongRecOn with
 | ind m ih => ?_
 intro L i hi hfu hL0 hLl
 refine bR (args := [.own 1 L.length, .c (.slc (l.map Nd.cv)), .c (.int .i64 i)]) Tryz.func52 rfl (by kernel_rfl) (fX rfl (by simp [eO, HO.men, HV.men, HV.menL]) (by simp [HV.menL, HV.men])) (Nat.le_of_ble_eq_true rfl) ?_
 show Hw _ _ 2 _ _ _ (lst _) 2
 rw [cM4]
 have hnode := ht.node _ (List.getElem_mem hi)
 obtain ⟨c1, c2, c3, c4⟩ := dG hnode
 have hll := ht.len
 have hwi : IntKind.i64.wrap ((i : Int) + 1) = ((i + 1 : Nat) : Int) := IntWalk.i64_in _ (by omega)
 obtain ⟨a1, a2, a3⟩ := iO ht hi
 refine R0 ?_
 refine RS ?_
 have F := aI @Int.natCast_nonneg (aI @Int.ofNat_lt (aI hi (nM hi)))
 iterate 6 refine SF ?_
 refine RE ?_
 have F := hwi
 refine RF ?_
 refine aC fun K hK => ?_
 have key : ∀ fr ob nx, l[i].k ≠ 1 → Fits 2 fr ob (fin [(0, .own 1 (L.length + 1)), (1, .c (.slc (l.map Nd.cv))), (2, .c (.int .i64 ((i + 1 : Nat) : Int))), (8, .ptr 26 0)]) (fob [(0, .tab tabs), (1, .row 60 1 ((L ++ [wlN l[i]]).map lsC)), (26, .box 40 (.c l[i].cv))]) 300 → K fr ob nx := by
  rintro fr ob nx hk1 hf
  refine hK _ _ _ (bG hf ?_)
  clear hf hK K
  refine aC fun K hK => ?_
  refine R0 ?_
  refine aL ?_
  refine bE (α := {k : Nat // k ≤ l[i].c.toNat}) (fun k => (fin [(0, .own 1 (L.length + 1 + (cU l i k.1).length)), (1, .c (.slc (l.map Nd.cv))), (2, .c (.int .i64 (cX l k.1 (i + 1) : Nat))), (48, .c (.int .i64 l[i].c)), (49, .c (.int .i64 k.1))], fob [(0, .tab tabs), (1, .row 60 1 ((L ++ wlN l[i] :: cU l i k.1).map lsC))])) 2000 (fun k => l[i].c.toNat - k.1) ⟨0, by omega⟩ (aN (by omega) (by simp [aW, fin_at, finA_at, upd_at, HV.men, HV.menL, HV.norm, HV.toC, HV.toCL, iA, cX]) (by simp [aY, fob_at, upd_at, none0_at, bX, HO.men, HV.men, HV.menL, HV.norm, HV.toC, HV.toCL, iA, cX])) ?_
  rintro ⟨k, hk⟩
  obtain ⟨k1, k2, k3⟩ := gN ht hi k hk
  have hkl := uM ht hi hk hk1
  refine R0 ?_
  refine aC fun K hK => ?_
  refine aG (b := decide ((k : Int) < l[i].c)) rfl (fun hb => ?_) (fun hb => ?_)
  ·
   have hlt : k < l[i].c.toNat := by simp at hb; omega
   have hkid := lK ht hi hlt
   clear hb
   obtain ⟨M, hM⟩ : ∃ M, M = L ++ wlN l[i] :: cU l i k := ⟨_, rfl⟩
   have hMl : L.length + 1 + (cU l i k).length = M.length := by rw [hM]; simp; omega
   rw [← hM, hMl]
   refine aK ?_
   refine T0 (hK _ _ _ ?_)
   clear hK K
   refine aC fun K hK => ?_
   refine aL ?_
   refine Rg ?_
   refine AU ?_
   refine HS rfl rfl fun K' hK' => T5 ?_
   refine gW [0, 1] (ih (l.length - cX l k (i + 1)) (by omega) M (cX l k (i + 1)) hkid (by omega) (by omega) (by omega)) rfl ⟨rfl, rfl, trivial⟩ (by simp) (by simp) ⟨rfl, rfl, rfl, rfl⟩ (by simp [eO, HO.men, HV.men, HV.menL]) (by simp [HV.menL, HV.men]) ?_
   rintro r os' ⟨rfl, rfl⟩
   rw [aW0, aQ5]
   refine AX (hK' _ _ ?_)
   clear hK' K'
   refine AU ?_
   refine T2 (hK _ _ _ ?_)
   clear hK K
   refine aM (by kernel_rfl) ?_
   refine TQ (IntWalk.i64_in ((k : Int) + 1) (by omega)) ?_
   refine ⟨⟨k + 1, hlt⟩, ?_, ?_⟩
   ·
    have e1 : M ++ eR l (cX l k (i + 1)) = L ++ wlN l[i] :: cU l i (k + 1) := by rw [hM, mK ht hi hlt]; simp
    have e2 : (M ++ eR l (cX l k (i + 1))).length = L.length + 1 + (cU l i (k + 1)).length := by rw [e1]; simp; omega
    simp only []
    rw [← e1, ← e2, fJ]
    exact fF
   show l[i].c.toNat - (k + 1) < l[i].c.toNat - k
   omega
  refine bA (T3 ?_)
  clear hK K
  refine AX (hK _ _ _ ?_)
  clear hK K
  have hke : k = l[i].c.toNat := by simp at hb; omega
  subst hke
  rw [rR ht hi] at hkl k3
  clear hb
  refine aC fun K hK => bB (by kernel_rfl) ?_
  simp only [sR, simprocAttr]
  have F := aI @eI @eU
  refine SGF ?_
  refine bZ (g := none) 2008 rfl rfl fun K' hK' => ?_
  simp only [eN, iD, sH, ↓sP, sA, tyS, simprocAttr, eI, eU]
  repeat refine AI ?_
  refine cB (by first | rfl | simp) ?_
  try simp only [sH, ↓sP, sA, tyS, simprocAttr, eI, eU]
  refine AX (hK' _ _ ?_)
  clear hK' K'
  iterate 5 refine SGF ?_
  refine T2 (hK _ _ _ ?_)
  clear hK K
  refine aF (RT Tryz.results52 ?_)
  rw [nV ht hi hk1, rR ht hi]
  exact xY (M := L ++ wlN l[i] :: (cU l i l[i].c.toNat ++ [[wEnd]])) rfl rfl (by simp) (by simp [lsC, wEnd])
 refine R0 ?_
 refine aL ?_
 refine R0 ?_
 refine aG (b := (l[i].k == 1)) rfl (fun hb => ?_) (fun hb => ?_)
 ·
  have hk : l[i].k = 1 := by simpa using hb
  obtain ⟨⟨r1, r2⟩, r3, r4⟩ := aP6 (bB1 hnode hk)
  clear hb
  refine aC fun K hK => Rg ?_
  have F := aI @eI @eU
  refine AU ?_
  refine HS rfl rfl fun K' hK' => T6 ?_
  refine fH (args := [_]) 0 (bU7 l[i].q ⟨by omega, by omega⟩ ⟨by omega, by omega⟩) rfl (by simp) ⟨rfl, rfl, rfl, rfl⟩ ?_
  rintro u rfl
  refine AX (hK' _ _ ?_)
  clear hK' K'
  refine AU ?_
  refine T2 (hK _ _ _ ?_)
  clear hK K
  refine aF (RT Tryz.results52 ?_)
  rw [pP hi hk, xV ht hi hk]
  exact xY (M := L ++ [wlR l[i].q]) rfl rfl (by simp) (by simp)
 have hk1 : l[i].k ≠ 1 := by simpa using hb
 clear hb
 refine R0 ?_
 refine aG (b := (l[i].k == 2)) rfl (fun hb => ?_) (fun hb => ?_)
 ·
  have hk : l[i].k = 2 := by simpa using hb
  have hwl : wlN l[i] = [lN] := by simp [wlN, hk]
  clear hb
  refine bB (by kernel_rfl) ?_
  simp only [sR, simprocAttr]
  refine SG0 ?_
  refine bZ (g := none) 74 rfl rfl fun K' hK' => ?_
  simp only [eN, iD, sH, ↓sP, sA, tyS, simprocAttr]
  repeat refine AI ?_
  refine cB (by first | rfl | simp) ?_
  try simp only [sH, ↓sP, sA, tyS, simprocAttr]
  refine AX (hK' _ _ ?_)
  clear hK' K'
  iterate 3 refine SG0 ?_
  refine T4 ?_
  exact key _ _ _ hk1 (by rw [hwl]; exact aN (by omega) (by simp [aW, fin_at, finA_at, upd_at, HV.men, HV.menL, HV.norm, HV.toC, HV.toCL, lsC, lN, lO, cO]) (by simp [aY, fob_at, upd_at, none0_at, bX, HO.men, HV.men, HV.menL, HV.norm, HV.toC, HV.toCL, lsC, lN, lO, cO]))
 have hk2 : l[i].k ≠ 2 := by simpa using hb
 clear hb
 refine R0 ?_
 refine aG (b := (l[i].k == 3)) rfl (fun hb => ?_) (fun hb => ?_)
 ·
  have hk : l[i].k = 3 := by simpa using hb
  have hwl : wlN l[i] = [lO] := by simp [wlN, hk]
  clear hb
  refine bB (by kernel_rfl) ?_
  simp only [sR, simprocAttr]
  refine SG0 ?_
  refine bZ (g := none) 82 rfl rfl fun K' hK' => ?_
  simp only [eN, iD, sH, ↓sP, sA, tyS, simprocAttr]
  repeat refine AI ?_
  refine cB (by first | rfl | simp) ?_
  try simp only [sH, ↓sP, sA, tyS, simprocAttr]
  refine AX (hK' _ _ ?_)
  clear hK' K'
  iterate 3 refine SG0 ?_
  refine T4 ?_
  exact key _ _ _ hk1 (by rw [hwl]; exact aN (by omega) (by simp [aW, fin_at, finA_at, upd_at, HV.men, HV.menL, HV.norm, HV.toC, HV.toCL, lsC, lN, lO, cO]) (by simp [aY, fob_at, upd_at, none0_at, bX, HO.men, HV.men, HV.menL, HV.norm, HV.toC, HV.toCL, lsC, lN, lO, cO]))
 have hk3 : l[i].k ≠ 3 := by simpa using hb
 have hk4 := bB0 hnode hk1 hk2 hk3
 clear hb
 refine R0 ?_
 refine aG (b := (l[i].k == 4)) rfl (fun hb => ?_) (fun hb => ?_)
 ·
  have hwl : wlN l[i] = [cO, numW l[i].n] := by simp [wlN, hk2, hk3]
  have hnn := bB2 hnode hk4
  clear hb
  refine bB (by kernel_rfl) ?_
  simp only [sR, simprocAttr]
  iterate 3 refine SG0 ?_
  refine bI (g := none) rfl rfl fun K' hK' => T5 ?_
  refine fH (args := [_]) 0 (xX l[i].n ⟨by omega, by omega⟩) rfl (by simp) ⟨rfl, rfl, rfl, rfl⟩ ?_
  rintro u rfl
  refine AX (hK' _ _ ?_)
  clear hK' K'
  refine bZ (g := none) 102 rfl rfl fun K' hK' => ?_
  simp only [eN, iD, sH, ↓sP, sA, tyS, simprocAttr]
  repeat refine AI ?_
  refine cB (by first | rfl | simp) ?_
  try simp only [sH, ↓sP, sA, tyS, simprocAttr]
  refine AX (hK' _ _ ?_)
  clear hK' K'
  iterate 3 refine SG0 ?_
  refine T4 ?_
  exact key _ _ _ hk1 (by rw [hwl]; exact aN (by omega) (by simp [aW, fin_at, finA_at, upd_at, HV.men, HV.menL, HV.norm, HV.toC, HV.toCL, lsC, lN, lO, cO]) (by simp [aY, fob_at, upd_at, none0_at, bX, HO.men, HV.men, HV.menL, HV.norm, HV.toC, HV.toCL, lsC, lN, lO, cO]))
 rw [hk4] at hb
 cases hb

end Go.Proofs.YtlldglbooaefhaaGreatDoor

namespace Go.Proofs.YtlldglbooaefhaaGreatDoor
open Go Go.Hl Go.Pl
set_option maxRecDepth 10000
set_option maxHeartbeats 16000000

theorem aQ6 (w : aJ) (hl : w.length < 2 ^ 40) : bQ Tryz.prog 67 [.str w] (fun v => v = .str (iE w)) := by
 refine FW Tryz.func67 ?_
 refine R0 ?_
 refine aC fun K hK => ?_
 refine R0 ?_
 refine aG (b := w == []) rfl (fun hb => ?_) (fun hb => ?_)
 ·
  refine R0 ?_
  refine aF (RT Tryz.results67 ?_)
  exact aH [] (.str [126]) rfl (by rw [iE, if_pos (by simpa using hb)])
 refine aK ?_
 refine T0 (hK _ _ _ ?_)
 clear hK K
 have hne : w ≠ [] := by simpa using hb
 clear hb
 refine R0 ?_
 refine R0 ?_
 refine aC fun K hK => ?_
 refine R0 ?_
 refine aL ?_
 refine jW 4 0 5 1 rfl rfl rfl rfl ?_
 refine bE (α := {i : Nat // i ≤ w.length}) (fun i => (fin [(0, .c (.str w)), (3, .c (.str [48, 49, 50, 51, 52, 53, 54, 55, 56, 57, 65, 66, 67, 68, 69, 70])), (4, .own 24 (cK (w.take i.1)).length), (5, .c (.int .i64 i.1))], fob [(24, .row 5 1 ((cK (w.take i.1)).map cP))])) 100 (fun i => w.length - i.1) ⟨0, by omega⟩ (fF) ?_
 rintro ⟨i, hi⟩
 have hle := kY w i
 have hle3 := qM w
 refine aC fun K hK => ?_
 refine AU ?_
 refine aG (b := decide ((i : Int) < w.length)) rfl (fun hb => ?_) (fun hb => ?_)
 ·
  have hlt : i < w.length := by simpa using hb
  have hgd : w.getD i 0 = w[i] := by simp [hlt]
  have hs := pK hlt
  refine aK ?_
  refine T0 (hK _ _ _ ?_)
  clear hK K
  refine aC fun K hK => ?_
  refine aL ?_
  refine aC fun K hK => Rg ?_
  iterate 3 refine S0 ?_ (e := fun _ h_ => by simp only [sH, ↓sP, sA, tyS, simprocAttr, Int.natCast_nonneg, Int.ofNat_lt, hlt, hgd]; exact AX h_)
  refine HS rfl rfl fun K' hK' => ?_
  simp only [sH, ↓sP, sA, tyS, simprocAttr, Int.natCast_nonneg, Int.ofNat_lt, hlt, hgd]
  refine C1 (tB w[i]) ?_
  rintro u rfl
  refine AX (hK' _ _ ?_)
  clear hK' K'
  refine T2 (hK _ _ _ ?_)
  clear hK K
  refine aG (b := cG w[i]) rfl (fun hb => ?_) (fun hb => ?_)
  ·
   refine Rg ?_
   iterate 7 refine S0 ?_ (e := fun _ h_ => by simp only [sH, ↓sP, sA, tyS, simprocAttr, Int.natCast_nonneg, Int.ofNat_lt, hlt, hgd, List.length_append, List.length_map]; exact AX h_)
   refine T2 (hK _ _ _ ?_)
   clear hK K
   refine aM (by kernel_rfl) ?_
   refine TQ (iN i) ?_
   refine ⟨⟨i + 1, hlt⟩, aN (by omega) ?_ ?_, ?_⟩
   ·
    rw [hs, jH, if_pos hb]
    simp [aW, upd_at, fin_at, HV.men]
   ·
    rw [hs, jH, if_pos hb, List.map_append]
    exact ⟨rfl, by omega, trivial, trivial⟩
   show w.length - (i + 1) < w.length - i
   omega
  have h16 : ((w[i].toNat / 16 : Nat) : Int) < 16 := by have := w[i].toNat_lt; omega
  have h15 : ((w[i].toNat % 16 : Nat) : Int) < 16 := by omega
  refine DW [(0, [], []), (1, [], []), (2, [], []), (3, [], []), (4, [], []), (5, [], []), (6, [], []), (7, [], []), (8, [], []), (9, [], []), (10, [], []), (11, [], []), (12, [], []), (13, [], []), (14, [], []), (15, [], [])] [0, 0, 0, 0, 12, 28, 62, 0, 0, 0, 768, 1792, 3968, 8190, 16383, 32767] ?_
  iterate 16 refine W0 ?_ (e := fun _ h_ => by simp only [sH, ↓sP, sA, tyS, simprocAttr, Int.natCast_nonneg, Int.ofNat_lt, hlt, hgd, List.length_append, List.length_map, cK3, cD5, h16, h15]; exact AX h_)
  refine T2 (hK _ _ _ ?_)
  clear hK K
  refine aM (by kernel_rfl) ?_
  refine TQ (iN i) ?_
  refine ⟨⟨i + 1, hlt⟩, aN (by omega) ?_ ?_, ?_⟩
  ·
   rw [hs, jH, if_neg (by rw [hb]; simp)]
   simp [aW, upd_at, fin_at, HV.men]
  ·
   rw [hs, jH, if_neg (by rw [hb]; simp), List.map_append]
   exact ⟨rfl, by omega, trivial, trivial⟩
  show w.length - (i + 1) < w.length - i
  omega
 refine bA (T3 ?_)
 clear hK K
 refine AX (hK _ _ _ ?_)
 clear hK K
 refine dW [24] (bG (fr2 := fin [(4, .c (.slc ((cK (w.take i)).map cP)))]) (ob2 := fob []) (nx2 := 200) (aN (by omega) (by simp [aW, gJ, fin_at, finA_at, upd_at, fob_at, HV.close, HV.closeL, CV.denil, CV.denilL, cM, HV.men, HV.menL, HV.norm, HV.toC, HV.toCL]) (by simp [aY, gK, fob_at, upd_at, none0_at, bX, HO.close, HV.close, HV.closeL, HO.men, HV.men, HV.menL, HV.norm, HV.toC, HV.toCL])) ?_)
 have F := @bytesC_map
 refine RF ?_
 refine aF (RT Tryz.results67 ?_)
 have hei : i = w.length := by simp at hb; omega
 subst hei
 exact aH [] (.str (cK w)) (by rw [List.take_length]; rfl) (by rw [iE, if_neg hne])


theorem bB9 (ls : List (List aJ)) (h0 : ls.length < 2 ^ 40) (h1 : ∀ l ∈ ls, l.length < 2 ^ 40) : fR Tryz.prog 37 [.slc (ls.map fun l => .slc (l.map .str))] (fun u v => u = .slc ((iM ls).map cP) ∧ v = .int .i64 (gM ls)) := by
 refine FW Tryz.func37 ?_
 refine R0 ?_
 refine aC fun K hK => ?_
 refine R0 ?_
 refine aG (b := decide ((1000 : Int) < ls.length)) rfl (fun hb => ?_) (fun hb => ?_)
 ·
  refine R0 ?_
  refine aF (RT Tryz.results37 ?_)
  have hE := sT (ls := ls) (by simp at hb; omega)
  refine aR [] (.slc []) (.int .i64 3) ?_ ⟨by rw [iW (by rw [hE]; decide)]; rfl, by rw [hE]⟩
  simp [HV.close, HV.closeL, CV.denil, CV.denilL, HV.norm, HV.toC, HV.toCL]
 refine aK ?_
 refine T0 (hK _ _ _ ?_)
 clear hK K
 have hn : ls.length ≤ 1000 := by simp at hb; omega
 clear hb
 refine R0 ?_
 refine aC fun K hK => ?_
 refine R0 ?_
 refine aL ?_
 refine jW 4 0 5 1 rfl rfl rfl rfl ?_
 refine bE (α := {i : Nat // i ≤ ls.length ∧ ∀ x ∈ ls.take i, okL x = true}) (fun i => (fin [(0, .c (.slc (ls.map fun l => .slc (l.map .str)))), (4, .own 28 (eW (ls.take i.1)).length), (5, .c (.int .i64 i.1))], fob [(28, .row 5 1 ((eW (ls.take i.1)).map cP))])) 100 (fun i => ls.length - i.1) ⟨0, by omega, by simp⟩ (fF) ?_
 rintro ⟨i, hi, hk⟩
 refine aC fun K hK => ?_
 refine AU ?_
 refine aG (b := decide ((i : Int) < ls.length)) rfl (fun hb => ?_) (fun hb => ?_)
 ·
  have hlt : i < ls.length := by simpa using hb
  clear hb
  have hl1 := h1 ls[i] (List.getElem_mem hlt)
  have hne : ∀ l ∈ ls.take i, l ≠ [] := fun l hl => ((jI l).1 (hk l hl)).1
  have hsd := aX9 hk
  rw [List.length_take] at hsd
  have hdl := qO hne
  have hdt1 := zN hlt
  obtain ⟨l, hl⟩ : ∃ l, l = ls[i] := ⟨_, rfl⟩
  have hln : nth (ls.map fun l => CV.slc (l.map .str)) i = .slc (l.map .str) := by rw [bK hlt, hl]
  rw [← hl] at hdt1 hl1
  have hlti : (i : Int) < ls.length := by omega
  refine aK ?_
  refine T0 (hK _ _ _ ?_)
  clear hK K
  refine aC fun K hK => ?_
  refine aL ?_
  refine aC fun K hK => ?_
  refine RS ?_
  have F := aI @Int.natCast_nonneg (aI @Int.ofNat_lt (aI hlt hln))
  refine AU ?_
  refine aG (b := (l.length : Int) == 0) rfl (fun hb => ?_) (fun hb => ?_)
  ·
   refine R0 ?_
   refine aF (RT Tryz.results37 ?_)
   have hc : mE l = 1 := by rw [mE, if_pos (by simp at hb; simp [hb])]
   have hE := qQ hn hlt hk (by rw [← hl, okL, hc]; rfl)
   rw [← hl, hc] at hE
   refine aR [] (.slc []) (.int .i64 1) ?_ ⟨by rw [iW (by rw [hE]; decide)]; rfl, by rw [hE]⟩
   simp [HV.close, HV.closeL, CV.denil, CV.denilL, HV.norm, HV.toC, HV.toCL]
  refine aK ?_
  refine T0 (hK _ _ _ ?_)
  clear hK K
  refine aC fun K hK => ?_
  have hn0 : l.length ≠ 0 := by simp at hb; simp [hb]
  clear hb
  refine AU ?_
  refine aG (b := decide ((120 : Int) < l.length)) rfl (fun hb => ?_) (fun hb => ?_)
  ·
   refine R0 ?_
   refine aF (RT Tryz.results37 ?_)
   have hc : mE l = 3 := by rw [mE, if_neg hn0, if_pos (by simp at hb; omega)]
   have hE := qQ hn hlt hk (by rw [← hl, okL, hc]; rfl)
   rw [← hl, hc] at hE
   refine aR [] (.slc []) (.int .i64 3) ?_ ⟨by rw [iW (by rw [hE]; decide)]; rfl, by rw [hE]⟩
   simp [HV.close, HV.closeL, CV.denil, CV.denilL, HV.norm, HV.toC, HV.toCL]
  refine aK ?_
  refine T0 (hK _ _ _ ?_)
  clear hK K
  refine aC fun K hK => ?_
  have hn1 : l.length ≤ 120 := by simp at hb; omega
  clear hb
  refine R0 ?_
  refine aL ?_
  refine bE (α := {k : Nat // k ≤ l.length ∧ ∀ x ∈ l.take k, x.length ≤ 32768}) (fun k => (fin [(0, .c (.slc (ls.map fun l => .slc (l.map .str)))), (4, .own 28 (eW (ls.take i) ++ gL (l.take k.1)).length), (5, .c (.int .i64 i)), (6, .c (.int .i64 k.1))], fob [(28, .row 5 1 ((eW (ls.take i) ++ gL (l.take k.1)).map cP))])) 200 (fun k => l.length - k.1) ⟨0, by omega, by simp⟩ (fF) ?_
  rintro ⟨k, hk', hkw⟩
  have hsw := bM3 (l.take k) hkw
  rw [List.length_take] at hsw
  refine aC fun K hK => ?_
  refine RS ?_
  have F := aI @Int.natCast_nonneg (aI hlti hln)
  refine AU ?_
  refine aG (b := decide ((k : Int) < l.length)) rfl (fun hb => ?_) (fun hb => ?_)
  ·
   have hlk : k < l.length := by simpa using hb
   clear hb
   refine aK ?_
   refine T0 (hK _ _ _ ?_)
   clear hK K
   refine aC fun K hK => ?_
   refine aL ?_
   refine aC fun K hK => ?_
   refine RS ?_
   have F := aI @Int.natCast_nonneg (aI @Int.ofNat_lt (aI hlt (aI hln (aI hlk (nM hlk)))))
   refine AU ?_
   refine aG (b := decide ((32768 : Int) < l[k].length)) rfl (fun hb => ?_) (fun hb => ?_)
   ·
    refine R0 ?_
    refine aF (RT Tryz.results37 ?_)
    have hc : mE l = 3 := by rw [mE, if_neg hn0, if_neg (by omega), if_pos]; simp only [List.any_eq_true, decide_eq_true_eq]; exact ⟨_, List.getElem_mem hlk, by simp at hb; omega⟩
    have hE := qQ hn hlt hk (by rw [← hl, okL, hc]; rfl)
    rw [← hl, hc] at hE
    refine aR [] (.slc []) (.int .i64 3) ?_ ⟨by rw [iW (by rw [hE]; decide)]; rfl, by rw [hE]⟩
    simp [HV.close, HV.closeL, CV.denil, CV.denilL, HV.norm, HV.toC, HV.toCL]
   refine aK ?_
   refine T0 (hK _ _ _ ?_)
   clear hK K
   refine aC fun K hK => ?_
   have hw2 : l[k].length ≤ 32768 := by simp at hb; omega
   clear hb
   have hel := qN l[k]
   have hsz := lH l[k]
   have hsp := zL l[k]
   have hpe : 0 < (iE l[k]).length := by omega
   have htk := zM hlk
   have hbe : (eW (ls.take i)).length + (gL (l.take k)).length + (iE l[k]).length ≤ 140737488355328 := by omega
   have hbe1 : (eW (ls.take i)).length + (gL (l.take k)).length + 1 + (iE l[k]).length ≤ 140737488355328 := by omega
   refine R0 ?_
   refine aG (b := decide ((0 : Int) < k)) rfl (fun hb => ?_) (fun hb => ?_)
   ·
    refine Rg ?_
    have F := aI @List.length_append.{0} @List.length_map.{0,0}
    refine AU ?_
    refine T2 (hK _ _ _ ?_)
    clear hK K
    refine Rg ?_
    iterate 8 refine S0 ?_ (e := fun _ h_ => by simp only [sH, ↓sP, sA, tyS, simprocAttr, Int.natCast_nonneg, Int.ofNat_lt, hlt, hln, hlk, bK hlk, List.length_append, List.length_map, hpe, hbe, hbe1]; exact AX h_)
    refine HS rfl rfl fun K' hK' => ?_
    simp only [sH, ↓sP, sA, tyS, simprocAttr, Int.natCast_nonneg, Int.ofNat_lt, hlt, hln, hlk, bK hlk, List.length_append, List.length_map, hpe, hbe, hbe1]
    refine C1 (aQ6 l[k] (by omega)) ?_
    rintro u rfl
    refine AX (hK' _ _ ?_)
    clear hK' K'
    iterate 2 refine S0 ?_ (e := fun _ h_ => by simp only [sH, ↓sP, sA, tyS, simprocAttr, Int.natCast_nonneg, Int.ofNat_lt, hlt, hln, hlk, bK hlk, List.length_append, List.length_map, hpe, hbe, hbe1]; exact AX h_)
    refine T2 (hK _ _ _ ?_)
    clear hK K
    refine aM (by kernel_rfl) ?_
    refine TQ (iN k) ?_
    have hk0 : k ≠ 0 := by simp at hb; omega
    refine ⟨⟨k + 1, hlk, sS (p := fun x => x.length ≤ 32768) hlk hw2 hkw⟩, aN (by omega) ?_ ?_, ?_⟩
    ·
     rw [htk, if_neg hk0]
     simp [aW, upd_at, fin_at, HV.men]
     omega
    ·
     rw [htk, if_neg hk0]
     simp only [List.map_append, ← List.append_assoc]
     exact ⟨rfl, by omega, trivial, trivial⟩
    show l.length - (k + 1) < l.length - k
    omega
   refine aK ?_
   refine T0 (hK _ _ _ ?_)
   clear hK K
   refine Rg ?_
   iterate 8 refine S0 ?_ (e := fun _ h_ => by simp only [sH, ↓sP, sA, tyS, simprocAttr, Int.natCast_nonneg, Int.ofNat_lt, hlt, hln, hlk, bK hlk, List.length_append, List.length_map, hpe, hbe, hbe1]; exact AX h_)
   refine HS rfl rfl fun K' hK' => ?_
   simp only [sH, ↓sP, sA, tyS, simprocAttr, Int.natCast_nonneg, Int.ofNat_lt, hlt, hln, hlk, bK hlk, List.length_append, List.length_map, hpe, hbe, hbe1]
   refine C1 (aQ6 l[k] (by omega)) ?_
   rintro u rfl
   refine AX (hK' _ _ ?_)
   clear hK' K'
   iterate 2 refine S0 ?_ (e := fun _ h_ => by simp only [sH, ↓sP, sA, tyS, simprocAttr, Int.natCast_nonneg, Int.ofNat_lt, hlt, hln, hlk, bK hlk, List.length_append, List.length_map, hpe, hbe, hbe1]; exact AX h_)
   refine T2 (hK _ _ _ ?_)
   clear hK K
   refine aM (by kernel_rfl) ?_
   refine TQ (iN k) ?_
   have hk0 : k = 0 := by simp at hb; omega
   refine ⟨⟨k + 1, hlk, sS (p := fun x => x.length ≤ 32768) hlk hw2 hkw⟩, aN (by omega) ?_ ?_, ?_⟩
   ·
    rw [htk, if_pos hk0]
    simp [aW, upd_at, fin_at, HV.men]
    omega
   ·
    rw [htk, if_pos hk0, List.nil_append]
    simp only [List.map_append, ← List.append_assoc]
    exact ⟨rfl, by omega, trivial, trivial⟩
   show l.length - (k + 1) < l.length - k
   omega
  have hek : k = l.length := by simp at hb; omega
  subst hek
  clear hb
  rw [List.take_length] at *
  have hokl : okL l = true := (jI l).2 ⟨fun h => hn0 (by rw [h]; rfl), hn1, hkw⟩
  refine bA (T3 ?_)
  clear hK K
  refine AX (hK _ _ _ ?_)
  clear hK K
  refine Rg ?_
  have F := aI @List.length_append.{0} (aI @List.length_map.{0,0} @List.take_length.{0})
  refine AU ?_
  refine T2 (hK _ _ _ ?_)
  clear hK K
  refine aM (by kernel_rfl) ?_
  refine TQ (iN i) ?_
  refine ⟨⟨i + 1, hlt, sS (p := fun x => okL x = true) hlt (by rw [← hl]; exact hokl) hk⟩, aN (by omega) ?_ ?_, ?_⟩
  ·
   rw [hdt1, uU]
   simp [aW, upd_at, fin_at, HV.men]
   try omega
  ·
   rw [hdt1, uU]
   simp only [List.map_append, ← List.append_assoc, List.take_length]
   exact ⟨rfl, by omega, trivial, trivial⟩
  show ls.length - (i + 1) < ls.length - i
  omega
 have hei : i = ls.length := by simp at hb; omega
 subst hei
 clear hb
 rw [List.take_length] at hk
 have hE := qR hn hk
 refine bA (T3 ?_)
 clear hK K
 refine AX (hK _ _ _ ?_)
 clear hK K
 refine aC fun K hK => ?_
 have F := aI @List.take_length.{0} @List.length_map.{0,0}
 refine RF ?_
 refine aG (b := decide ((262144 : Int) < (eW ls).length)) rfl (fun hb => ?_) (fun hb => ?_)
 ·
  refine R0 ?_
  refine aF (RT Tryz.results37 ?_)
  rw [if_pos (by simp at hb; omega)] at hE
  refine aR [] (.slc []) (.int .i64 3) ?_ ⟨by rw [iW (by rw [hE]; decide)]; rfl, by rw [hE]⟩
  simp [HV.close, HV.closeL, CV.denil, CV.denilL, HV.norm, HV.toC, HV.toCL]
 refine aK ?_
 refine T0 (hK _ _ _ ?_)
 clear hK K
 refine R0 ?_
 refine aF (RT Tryz.results37 ?_)
 rw [if_neg (by simp at hb; omega)] at hE
 refine aR [28] (.slc ((eW ls).map cP)) (.int .i64 0) ?_ ⟨by rw [qS hE], by rw [hE]⟩
 simp [HV.close, fob_at, upd_at, HV.norm, HV.toC, HV.closeL, HV.toCL, List.take_of_length_le, CV.denil, cM]

end Go.Proofs.YtlldglbooaefhaaGreatDoor

namespace Go.Hl
open Go

def mvN (id d : Nat) : Nat → Nat := fun i => if i = id then d else i
def mvF (id d : Nat) (fr : Fr) : Fr := fun t => (fr t).ren (mvN id d)
def mvO (id d : Nat) (ob : Ob) : Ob := fun i => if i = d then (ob id).map (HO.ren (mvN id d)) else if i = id then none else (ob i).map (HO.ren (mvN id d))
section
variable {P : Program} {n k : Nat} {Q : dV} {fr : Fr} {ob : Ob} {nx : Nat}
theorem RepA.mv {c : Ctx} {a : Act} {w : World} {M : Nat → Prop} (hA : RepA c M fr ob a w) (hk' : c.M0 = (· < k)) (id d nx2 : Nat) (hk : k ≤ id) (hkd : k ≤ d) (hid : M id) (hM : ∀ i, M i → i < nx2 ∧ i ≠ d) (hd : d < nx2) : RepA c (· < nx2) (mvF id d fr) (mvO id d ob) a w := by
 obtain ⟨ρ, hA⟩ := hA
 have hne : id ≠ d := (hM id hid).2
 let ρ2 : Env := fun i => if i = d then ρ id else if i = id then none else ρ i
 have hm : ∀ i, M i → ρ2 (mvN id d i) = ρ i := fun i hi => by
  have := hM i hi
  simp only [ρ2, mvN]
  grind
 have hinv : ∀ i L, ρ2 i = some L → ∃ j, M j ∧ mvN id d j = i ∧ ρ j = some L := fun i L hL => by
  simp only [ρ2] at hL
  split at hL
  ·
   grind [mvN]
  ·
   split at hL
   ·
    grind
   ·
    rename_i e1 e2
    refine ⟨i, ?_, by simp [mvN, e2], hL⟩
    by_cases h1 : M i
    ·
     exact h1
    ·
     have := (hA.nid_none (nid := i) h1).2
     grind
 have hown : ∀ b, Own ρ2 b → Own ρ b := fun b ⟨i, L, h1, h2⟩ => let ⟨j, _, _, h3⟩ := hinv i L h1; ⟨j, L, h3, h2⟩
 have hst : Stay w (Owned ρ c.X) w (Owned ρ2 c.X) := Stay.same (fun b _ hb => hb.imp _root_.id (hown b))
 have hmv : Moves M ρ (fun i => ρ2 (mvN id d i)) := Moves.of_eq fun i hi => hm i hi
 have hobj : ∀ i o, mvO id d ob i = some o → ∃ j o', M j ∧ mvN id d j = i ∧ ob j = some o' ∧ o = o'.ren (mvN id d) := fun i o ho => by
  simp only [mvO] at ho
  split at ho
  ·
   grind [Option.map_eq_some_iff, mvN]
  ·
   split at ho
   ·
    grind
   ·
    rename_i e1 e2
    obtain ⟨o', h1, h2⟩ := Option.map_eq_some_iff.1 ho
    exact ⟨i, o', (hA.mo i o' h1).1, by simp [mvN, e2], h1, h2.symm⟩
 have hmen : ∀ i, M i → mvN id d i < nx2 := fun i hi => by
  have := hM i hi
  grind [mvN]
 refine ⟨ρ2, ⟨fun i o ho => ?_, fun i hi => ?_, fun i i' L L' b h1 h2 h3 h4 => ?_, fun i L b h1 h2 => ?_⟩, fun t ht => ?_, fun t => ?_, fun i o ho => ?_, fun i hi => ?_, ?_, ?_, hA.defers, hA.size, hA.xlt⟩
 ·
  obtain ⟨j, o', hj, rfl, h1, rfl⟩ := hobj i o ho
  exact RepO.unsub hst hmv (hA.mo j o' h1).2 (hm j hj) (hA.s.objs j o' h1)
 ·
  simp only [mvO] at hi
  simp only [ρ2]
  split at hi
  ·
   rename_i e
   rw [if_pos e]
   exact hA.s.none id (by simp_all)
  ·
   rename_i e
   rw [if_neg e]
   split at hi
   ·
    grind
   ·
    rename_i e2; rw [if_neg e2]; exact hA.s.none i (by simp_all)
 ·
  obtain ⟨j, _, rfl, e1⟩ := hinv i L h1
  obtain ⟨j', _, rfl, e2⟩ := hinv i' L' h2
  rw [hA.s.apart j j' L L' b e1 e2 h3 h4]
 ·
  obtain ⟨j, _, rfl, e1⟩ := hinv i L h1
  exact hA.s.xb j L b e1 h2
 ·
  have hj : fr t ≠ .junk := by intro e; apply ht; simp only [mvF, e, HV.ren]
  have hf := hA.f t hj
  exact ⟨jR.2 (RepH.stay hst hmv (hA.mf t) hf.1), by simp only [mvF, HV.ren_isAgg]; exact hf.2⟩
 ·
  exact men_ren.2 (HV.men_mono hmen (hA.mf t))
 ·
  obtain ⟨j, o', hj, rfl, h1, rfl⟩ := hobj i o ho
  exact ⟨hmen j hj, HO.men_ren.2 (HO.men_mono hmen (hA.mo j o' h1).2)⟩
 ·
  exact (hM i (hA.m0 i hi)).1
 ·
  exact hA.base.trans ⟨fun _ _ _ => rfl, fun b hb => .inl (hown b hb), Nat.le_refl _, rfl, rfl, rfl⟩
 ·
  refine Moves.trans (M' := c.M0) (fun i hi => hi) hA.moves fun i L hi hL => ⟨L, ?_, .inl rfl⟩
  rw [hk'] at hi
  have h1 : i < k := hi
  simp only [ρ2] at hL
  rwa [if_neg (by omega), if_neg (by omega)] at hL
theorem cE2 {code : Code} (id d : Nat) (hk : k ≤ id) (hid : id < nx) (hd : nx ≤ d) (h : Hw P n k code Q (mvF id d fr) (mvO id d ob) (d + 1)) : Hw P n k code Q fr ob nx := by
 intro c a w hn hk' hz hA
 exact h c a w hn hk' hz (hA.mv hk' id d (d + 1) hk (by omega) hid (fun i hi => by omega) (by omega))
end
end Go.Hl

namespace Go.Pl
open Go Go.Hl

theorem cC2 (q : Rq) : (wlR q).length ≤ 5 := by grind [wlR]
theorem cC3 (n : Nd) : (wlN n).length ≤ 5 := by grind [wlN]
theorem vJ : ∀ (f m : Nat) (l : List Nd), ∀ x ∈ cC f m l, x.length ≤ 5
 | 0, m, l, x, h => by simp [cC] at h
 | f + 1, 0, l, x, h => by cases l <;> simp [cC] at h
 | f + 1, m + 1, [], x, h => by simp [cC] at h
 | f + 1, m + 1, n :: l, x, h => by
  simp only [cC] at h
  split at h
  ·
   rcases List.mem_cons.1 h with rfl | h
   ·
    exact cC2 _
   ·
    exact vJ f _ _ x h
  ·
   rcases List.mem_cons.1 h with rfl | h
   ·
    exact cC3 _
   ·
    rcases List.mem_append.1 h with h | h
    ·
     exact vJ f _ _ x h
    ·
     rcases List.mem_cons.1 h with rfl | h
     ·
      simp
     ·
      exact vJ f _ _ x h
theorem pY (t : List Nd) : eR t 0 = mQ t := by simp [eR, mQ]
def kE (p : Po) (i : Nat) : List (List aJ) := [wPolicy, p.n, numW p.v] :: (p.r.take i).flatMap gB
theorem tL {p : Po} {i : Nat} (hi : i < p.r.length) : kE p (i + 1) = kE p i ++ gB p.r[i] := by grind [kE, List.take_succ_eq_append_getElem]
theorem rT (p : Po) : kE p p.r.length = dS p := by simp [kE, dS]
theorem bJ7 {r : Pr} (h : iX r = true) : (gB r).length ≤ 121 := by
 obtain ⟨_, ht, _⟩ := iB h
 have h0 : 0 < r.t.length := ht.ne
 have h1 := xW ht h0
 have h2 := (iO ht h0).2.1
 have h3 := ht.len
 grind [pY, gB, List.length_cons]
theorem xZ {p : Po} (h : ∀ r ∈ p.r, iX r = true) : ∀ i, i ≤ p.r.length → (kE p i).length ≤ 1 + 121 * i
 | 0, _ => by simp [kE]
 | i + 1, hi => by
  have := xZ h i (by omega)
  grind [bJ7, List.getElem_mem, tL, List.length_append]
theorem bC0 (p : Po) : ∀ x ∈ dS p, x.length < 2 ^ 40 := by
 intro x hx
 have : x.length ≤ 5 := by
  simp only [dS] at hx
  rcases List.mem_cons.1 hx with rfl | hx
  ·
   simp
  ·
   obtain ⟨r, _, hx⟩ := List.mem_flatMap.1 hx
   simp only [gB] at hx
   rcases List.mem_cons.1 hx with rfl | hx
   ·
    simp
   ·
    exact vJ _ _ _ x hx
 omega
end Go.Pl

namespace Go.Proofs.YtlldglbooaefhaaGreatDoor
open Go Go.Hl Go.Pl
set_option maxRecDepth 10000
set_option maxHeartbeats 16000000

theorem cC4 (q : Rq) (hn : cC1 q.n) (hm : cC1 q.m) : bQ Tryz.prog 82 [q.cv] (fun v => v = lsC (wlR q)) := by
 refine FW Tryz.func82 ?_
 refine R0 ?_
 refine aC fun K hK => DW [(0, [], []), (1, [], []), (3, [], []), (4, [], []), (2, [], [3, 4]), (5, [], []), (6, [], []), (7, [], [])] [0, 1, 3, 0, 8, 31, 63, 127] ?_
 iterate 4 refine W0 ?_
 refine cF (g := none) rfl rfl fun K' hK' => T5 ?_
 refine C1 (rS q.n hn) ?_
 rintro u rfl
 refine AX (hK' _ _ ?_)
 clear hK' K'
 refine cF (g := none) rfl rfl fun K' hK' => T5 ?_
 refine C1 (rS q.m hm) ?_
 rintro u rfl
 refine AX (hK' _ _ ?_)
 clear hK' K'
 iterate 2 refine W0 ?_
 refine T2 (hK _ _ _ ?_)
 clear hK K
 refine aC fun K hK => ?_
 refine R0 ?_
 refine aL ?_
 refine R0 ?_
 refine aG (b := (q.k == 1)) rfl (fun hb => ?_) (fun hb => ?_)
 ·
  have hk : q.k = 1 := by simpa using hb
  clear hb
  refine R0 ?_
  refine aF (RT Tryz.results82 ?_)
  exact aH [60] (lsC (wlR q)) (by rw [show wlR q = [dI, numW q.n] from by simp [wlR, *]]; simp [lsC, HV.close, fob_at, upd_at, HV.norm, HV.toC, HV.closeL, HV.toCL, CV.denil]; rfl) rfl
 have hk1 : ¬ q.k = 1 := by simpa using hb
 clear hb
 refine R0 ?_
 refine aG (b := (q.k == 2)) rfl (fun hb => ?_) (fun hb => ?_)
 ·
  have hk : q.k = 2 := by simpa using hb
  clear hb
  refine AU ?_
  refine aF (RT Tryz.results82 ?_)
  exact aH [72] (lsC (wlR q)) (by rw [show wlR q = [dY, q.t] from by simp [wlR, *]]; simp [lsC, HV.close, fob_at, upd_at, HV.norm, HV.toC, HV.closeL, HV.toCL, CV.denil]; rfl) rfl
 have hk2 : ¬ q.k = 2 := by simpa using hb
 clear hb
 refine R0 ?_
 refine aG (b := (q.k == 3)) rfl (fun hb => ?_) (fun hb => ?_)
 ·
  have hk : q.k = 3 := by simpa using hb
  clear hb
  refine R0 ?_
  refine aF (RT Tryz.results82 ?_)
  exact aH [76] (lsC (wlR q)) (by rw [show wlR q = [dR, numW q.n] from by simp [wlR, *]]; simp [lsC, HV.close, fob_at, upd_at, HV.norm, HV.toC, HV.closeL, HV.toCL, CV.denil]; rfl) rfl
 have hk3 : ¬ q.k = 3 := by simpa using hb
 clear hb
 refine R0 ?_
 refine aG (b := (q.k == 4)) rfl (fun hb => ?_) (fun hb => ?_)
 ·
  have hk : q.k = 4 := by simpa using hb
  clear hb
  refine AU ?_
  refine aF (RT Tryz.results82 ?_)
  exact aH [88] (lsC (wlR q)) (by rw [show wlR q = [eQ, numW q.n, numW q.m] from by simp [wlR, *]]; simp [lsC, HV.close, fob_at, upd_at, HV.norm, HV.toC, HV.closeL, HV.toCL, CV.denil]; rfl) rfl
 have hk4 : ¬ q.k = 4 := by simpa using hb
 clear hb
 refine R0 ?_
 refine aG (b := (q.k == 5)) rfl (fun hb => ?_) (fun hb => ?_)
 ·
  have hk : q.k = 5 := by simpa using hb
  clear hb
  refine R0 ?_
  refine aF (RT Tryz.results82 ?_)
  exact aH [92] (lsC (wlR q)) (by rw [show wlR q = [gE, numW q.n] from by simp [wlR, *]]; simp [lsC, HV.close, fob_at, upd_at, HV.norm, HV.toC, HV.closeL, HV.toCL, CV.denil]; rfl) rfl
 have hk5 : ¬ q.k = 5 := by simpa using hb
 clear hb
 refine R0 ?_
 refine aG (b := (q.k == 6)) rfl (fun hb => ?_) (fun hb => ?_)
 ·
  have hk : q.k = 6 := by simpa using hb
  clear hb
  refine R0 ?_
  refine aF (RT Tryz.results82 ?_)
  exact aH [100] (lsC (wlR q)) (by rw [show wlR q = [jZ, numW q.n] from by simp [wlR, *]]; simp [lsC, HV.close, fob_at, upd_at, HV.norm, HV.toC, HV.closeL, HV.toCL, CV.denil]; rfl) rfl
 have hk6 : ¬ q.k = 6 := by simpa using hb
 clear hb
 refine R0 ?_
 refine aG (b := (q.k == 7)) rfl (fun hb => ?_) (fun hb => ?_)
 ·
  have hk : q.k = 7 := by simpa using hb
  clear hb
  refine R0 ?_
  refine aF (RT Tryz.results82 ?_)
  exact aH [108] (lsC (wlR q)) (by rw [show wlR q = [kZ, numW q.n] from by simp [wlR, *]]; simp [lsC, HV.close, fob_at, upd_at, HV.norm, HV.toC, HV.closeL, HV.toCL, CV.denil]; rfl) rfl
 have hk7 : ¬ q.k = 7 := by simpa using hb
 clear hb
 refine aK ?_
 refine T0 (hK _ _ _ ?_)
 clear hK K
 refine R0 ?_
 refine aF (RT Tryz.results82 ?_)
 exact aH [104] (lsC (wlR q)) (by rw [show wlR q = [gZ] from by simp [wlR, *]]; simp [lsC, HV.close, fob_at, upd_at, HV.norm, HV.toC, HV.closeL, HV.toCL, CV.denil]; rfl) rfl


theorem lV (l : List (List aJ)) : (∀ v ∈ l.map lsC, v.cells = 1) = True := eq_true fun v h => by obtain ⟨d, _, rfl⟩ := List.mem_map.1 h; exact eU d

theorem bU9 (l : List Nd) (ht : IsTree l) (m : Nat) : ∀ (i : Nat) (hi : i < l.length), l.length - i ≤ m →
  fR Tryz.prog 55 [.slc (l.map Nd.cv), .int .i64 i] (fun u v => u = .slc ((eR l i).map lsC) ∧ v = .int .i64 (aft l i : Nat)) := by
 induction m using Nat.strongRecOn with
 | ind m ih => ?_
 intro i hi hfu
 have hnode := ht.node _ (List.getElem_mem hi)
 obtain ⟨c1, c2, c3, c4⟩ := dG hnode
 have hll := ht.len
 have hwi : IntKind.i64.wrap ((i : Int) + 1) = ((i + 1 : Nat) : Int) := IntWalk.i64_in _ (by omega)
 obtain ⟨a1, a2, a3⟩ := iO ht hi
 refine FW Tryz.func55 ?_
 refine R0 ?_
 refine RS ?_
 have F := aI @Int.natCast_nonneg (aI @Int.ofNat_lt (aI hi (nM hi)))
 iterate 6 refine SF ?_
 refine RE ?_
 refine aC fun K hK => ?_
 refine R0 ?_
 refine aG (b := (l[i].k == 1)) rfl (fun hb => ?_) (fun hb => ?_)
 ·
  have hk : l[i].k = 1 := by simpa using hb
  obtain ⟨⟨r1, r2⟩, r3, r4⟩ := aP6 (bB1 hnode hk)
  clear hb
  refine RS ?_
  have F := aI hwi (aI @eI @eU)
  refine AU ?_
  refine SCF (cC4 l[i].q ⟨by omega, by omega⟩ ⟨by omega, by omega⟩) ?_
  refine AU ?_
  refine aF (RT Tryz.results55 ?_)
  exact aR [56] (.slc ((eR l i).map lsC)) (.int .i64 (aft l i : Nat)) (by rw [pP hi hk, xV ht hi hk]; simp [HV.close, fob_at, upd_at, HV.norm, HV.toC, HV.closeL, HV.toCL, eI, CV.denilL, CV.denil]) ⟨rfl, rfl⟩
 have hk1 : l[i].k ≠ 1 := by simpa using hb
 clear hb
 refine aK ?_
 refine T0 (hK _ _ _ ?_)
 clear hK K
 refine aC fun K hK => bB (by kernel_rfl) ?_
 simp only [sR, simprocAttr]
 refine bZ (g := none) 44 rfl rfl fun K' hK' => ?_
 simp only [eN, iD, sH, ↓sP, sA, tyS, simprocAttr]
 repeat refine AI ?_
 refine cB (by first | rfl | simp) ?_
 try simp only [sH, ↓sP, sA, tyS, simprocAttr]
 refine AX (hK' _ _ ?_)
 clear hK' K'
 iterate 2 refine SG0 ?_
 refine T2 (hK _ _ _ ?_)
 clear hK K
 refine aC fun K hK => ?_
 have key : ∀ (A : Nat) (w : List aJ) fr ob nx, A < nx → nx ≤ 300 → w = (if l[i].k = 3 then [lO] else [lN]) → Fits 0 (mvF A 300 fr) (mvO A 300 ob) (fin [(0, .c (.slc (l.map Nd.cv))), (1, .c (.int .i64 i)), (6, .ptr 24 0), (7, .own 300 1)]) (fob [(24, .box 40 (.c l[i].cv)), (300, .row 60 1 [lsC w])]) 301 → K fr ob nx := by
  rintro A w fr ob nx hA hnx rfl hf
  refine hK _ _ _ (cE2 A 300 (by omega) hA hnx (bG hf ?_))
  clear hf hK K
  refine aC fun K hK => ?_
  have key2 : ∀ (A : Nat) (w : List aJ) fr ob nx, A < nx → nx ≤ 600 → w = wlN l[i] → Fits 0 (mvF A 600 fr) (mvO A 600 ob) (fin [(0, .c (.slc (l.map Nd.cv))), (1, .c (.int .i64 i)), (6, .ptr 24 0), (7, .own 600 1)]) (fob [(24, .box 40 (.c l[i].cv)), (600, .row 60 1 [lsC w])]) 601 → K fr ob nx := by
   rintro A w fr ob nx hA hnx rfl hf
   refine hK _ _ _ (cE2 A 600 (by omega) hA hnx (bG hf ?_))
   clear hf hK K
   have F := hwi
   refine RF ?_
   refine aC fun K hK => ?_
   refine R0 ?_
   refine aL ?_
   refine bE (α := {k : Nat // k ≤ l[i].c.toNat}) (fun k => (fin [(0, .c (.slc (l.map Nd.cv))), (1, .c (.int .i64 (cX l k.1 (i + 1) : Nat))), (6, .ptr 24 0), (7, .own 600 ((cU l i k.1).length + 1)), (8, .c (.int .i64 k.1))], fob [(24, .box 40 (.c l[i].cv)), (600, .row 60 1 ((wlN l[i] :: cU l i k.1).map lsC))])) 2000 (fun k => l[i].c.toNat - k.1) ⟨0, by omega⟩ (aN (by omega) (by simp [aW, fin_at, finA_at, upd_at, HV.men, HV.menL, HV.norm, HV.toC, HV.toCL, iA, cX]) (by simp [aY, fob_at, upd_at, none0_at, bX, HO.men, HV.men, HV.menL, HV.norm, HV.toC, HV.toCL, iA, cX])) ?_
   rintro ⟨k, hk⟩
   obtain ⟨k1, k2, k3⟩ := gN ht hi k hk
   have hkl := uM ht hi hk hk1
   refine aC fun K hK => ?_
   refine AU ?_
   refine aG (b := decide ((k : Int) < l[i].c)) rfl (fun hb => ?_) (fun hb => ?_)
   ·
    have hlt : k < l[i].c.toNat := by simp at hb; omega
    have hkid := lK ht hi hlt
    clear hb
    refine aK ?_
    refine T0 (hK _ _ _ ?_)
    clear hK K
    refine aC fun K hK => ?_
    refine aL ?_
    refine aC fun K hK => Rg ?_
    refine AU ?_
    refine HS rfl rfl fun K' hK' => T5 ?_
    refine D2 (ih (l.length - cX l k (i + 1)) (by omega) (cX l k (i + 1)) hkid (by omega)) ?_
    rintro u v ⟨rfl, rfl⟩
    refine AX (hK' _ _ ?_)
    clear hK' K'
    refine AU ?_
    refine T2 (hK _ _ _ ?_)
    clear hK K
    have hl2 := xW ht hkid
    have hw1 : (cU l i k).length + 1 + (eR l (cX l k (i + 1))).length ≤ 300 := by
     have := (iO ht hkid).2.1
     omega
    have hb1 : ((cU l i k).length + 1 + (eR l (cX l k (i + 1))).length) * 24 ≤ 140737488355328 := by omega
    have hb2 : (cU l i k).length + 1 + (eR l (cX l k (i + 1))).length ≤ maxLen := by unfold maxLen; omega
    refine Rg ?_
    have F := aI @lV (aI hb1 hb2)
    refine AU ?_
    refine T2 (hK _ _ _ ?_)
    clear hK K
    refine aM (by kernel_rfl) ?_
    refine TQ (IntWalk.i64_in ((k : Int) + 1) (by omega)) ?_
    refine ⟨⟨k + 1, hlt⟩, ?_, ?_⟩
    ·
     simp only []
     rw [mK ht hi hlt, fJ]
     exact fF
    show l[i].c.toNat - (k + 1) < l[i].c.toNat - k
    omega
   refine bA (T3 ?_)
   clear hK K
   refine AX (hK _ _ _ ?_)
   clear hK K
   have hke : k = l[i].c.toNat := by simp at hb; omega
   subst hke
   rw [rR ht hi] at hkl k3 ⊢
   clear hb
   refine aC fun K hK => bB (by kernel_rfl) ?_
   simp only [sR, simprocAttr]
   have F := aI @eI @eU
   refine SGF ?_
   refine bZ (g := none) 2020 rfl rfl fun K' hK' => ?_
   simp only [eN, iD, sH, ↓sP, sA, tyS, simprocAttr, eI, eU]
   repeat refine AI ?_
   refine cB (by first | rfl | simp) ?_
   try simp only [sH, ↓sP, sA, tyS, simprocAttr, eI, eU]
   refine AX (hK' _ _ ?_)
   clear hK' K'
   iterate 5 refine SGF ?_
   refine T2 (hK _ _ _ ?_)
   clear hK K
   refine aF (RT Tryz.results55 ?_)
   exact aR [600] (.slc ((eR l i).map lsC)) (.int .i64 (aft l i : Nat)) (by rw [nV ht hi hk1]; simp [HV.close, fob_at, upd_at, HV.norm, HV.toC, HV.closeL, HV.toCL, aQ, eI, CV.denilL, CV.denil, lsC, wEnd]) ⟨rfl, rfl⟩
  refine R0 ?_
  refine aG (b := _) rfl (fun hb => ?_) (fun hb => ?_)
  ·
   have hk4 : l[i].k = 4 := by simpa using hb
   have hnn := bB2 hnode hk4
   clear hb
   refine bB (by kernel_rfl) ?_
   simp only [sR, simprocAttr]
   iterate 2 refine SG0 ?_
   refine bI (g := none) rfl rfl fun K' hK' => T5 ?_
   refine C1 (rS l[i].n ⟨by omega, by omega⟩) ?_
   rintro u rfl
   refine AX (hK' _ _ ?_)
   clear hK' K'
   refine bZ (g := none) 325 rfl rfl fun K' hK' => ?_
   simp only [eN, iD, sH, ↓sP, sA, tyS, simprocAttr]
   repeat refine AI ?_
   refine cB (by first | rfl | simp) ?_
   try simp only [sH, ↓sP, sA, tyS, simprocAttr]
   refine AX (hK' _ _ ?_)
   clear hK' K'
   iterate 2 refine SG0 ?_
   refine T4 ?_
   exact key2 329 [cO, numW l[i].n] _ _ _ (by omega) (by omega) (by simp [wlN, hk4]) (aN (by omega) (by simp [aW, fin_at, finA_at, upd_at, HV.men, HV.menL, HV.norm, HV.toC, HV.toCL, mvF, mvO, mvN, HV.ren, HO.ren, lsC, cO]) (by simp [aY, fob_at, upd_at, none0_at, bX, HO.men, HV.men, HV.menL, HV.norm, HV.toC, HV.toCL, mvF, mvO, mvN, HV.ren, HO.ren, lsC, cO]))
  refine aK (T3 ?_)
  have hk4 : l[i].k ≠ 4 := by simpa using hb
  exact key2 300 (if l[i].k = 3 then [lO] else [lN]) _ _ _ (by omega) (by omega) (by
   by_cases h3 : l[i].k = 3
   ·
    simp [wlN, h3]
   have h2 : l[i].k = 2 := by
    apply Classical.byContradiction
    exact fun h => hk4 (bB0 hnode hk1 h h3)
   simp [wlN, h2]) (aN (by omega) (by simp [aW, fin_at, finA_at, upd_at, HV.men, HV.menL, HV.norm, HV.toC, HV.toCL, mvF, mvO, mvN, HV.ren, HO.ren]) (by simp [aY, fob_at, upd_at, none0_at, bX, HO.men, HV.men, HV.menL, HV.norm, HV.toC, HV.toCL, mvF, mvO, mvN, HV.ren, HO.ren]))
 refine R0 ?_
 refine aG (b := _) rfl (fun hb => ?_) (fun hb => ?_)
 ·
  refine bB (by kernel_rfl) ?_
  simp only [sR, simprocAttr]
  refine bZ (g := none) 68 rfl rfl fun K' hK' => ?_
  simp only [eN, iD, sH, ↓sP, sA, tyS, simprocAttr]
  repeat refine AI ?_
  refine cB (by first | rfl | simp) ?_
  try simp only [sH, ↓sP, sA, tyS, simprocAttr]
  refine AX (hK' _ _ ?_)
  clear hK' K'
  iterate 2 refine SG0 ?_
  refine T4 ?_
  exact key 72 [lO] _ _ _ (by omega) (by omega) (by rw [if_pos (by simpa using hb)]) (aN (by omega) (by simp [aW, fin_at, finA_at, upd_at, HV.men, HV.menL, HV.norm, HV.toC, HV.toCL, mvF, mvO, mvN, HV.ren, HO.ren, lsC, lO]) (by simp [aY, fob_at, upd_at, none0_at, bX, HO.men, HV.men, HV.menL, HV.norm, HV.toC, HV.toCL, mvF, mvO, mvN, HV.ren, HO.ren, lsC, lO]))
 refine aK (T3 ?_)
 exact key 48 [lN] _ _ _ (by omega) (by omega) (by rw [if_neg (by simpa using hb)]) (aN (by omega) (by simp [aW, fin_at, finA_at, upd_at, HV.men, HV.menL, HV.norm, HV.toC, HV.toCL, mvF, mvO, mvN, HV.ren, HO.ren, lsC, lN]) (by simp [aY, fob_at, upd_at, none0_at, bX, HO.men, HV.men, HV.menL, HV.norm, HV.toC, HV.toCL, mvF, mvO, mvN, HV.ren, HO.ren, lsC, lN]))

theorem aC3 (ls : List (List aJ)) (h0 : ls.length < 2 ^ 40) (h1 : ∀ l ∈ ls, l.length < 2 ^ 40) : fR Tryz.prog 37 [.slc (ls.map lsC)] (fun u v => u = .slc ((iM ls).map cP) ∧ v = .int .i64 (gM ls)) := bB9 ls h0 h1

theorem cC5 (p : Po) (hp : PoSz p) : fR Tryz.prog 28 [p.cv] (fun u v => u = .slc ((lA p).map cP) ∧ v = .int .i64 (oW p)) := by
 refine FW Tryz.func28 ?_
 refine R0 ?_
 refine aC fun K hK => ?_
 refine AU ?_
 refine SC (bI4 p hp) ?_
 refine AU ?_
 refine aG (b := !eK p) rfl (fun hb => ?_) (fun hb => ?_)
 ·
  refine R0 ?_
  refine aF (RT Tryz.results28 ?_)
  have hv : eK p = false := by simpa using hb
  exact aR [] (.slc []) (.int .i64 1) (by simp [HV.close, HV.closeL, CV.denil, CV.denilL, HV.norm, HV.toC, HV.toCL]) ⟨by rw [lA, hv]; rfl, by rw [oW, hv]; rfl⟩
 refine aK ?_
 refine T0 (hK _ _ _ ?_)
 clear hK K
 have hv : eK p = true := by simpa using hb
 clear hb
 obtain ⟨⟨v1, v2⟩, hr16, _, hrules⟩ := oR hv
 refine aC fun K hK => eF mixed [(0, [], []), (1, [], []), (2, [], []), (3, [], []), (4, [], [0, 1]), (5, [], []), (6, [], []), (7, [], [])] [0, 1, 0, 4, 12, 31, 63, 127] (by kernel_rfl) (by kernel_rfl) (by kernel_rfl) (by kernel_rfl) rfl (by kernel_rfl) ?_
 iterate 4 refine WG0 ?_
 refine fM (g := none) rfl rfl fun K' hK' => T5 ?_
 refine C1 (rS p.v ⟨by omega, by omega⟩) ?_
 rintro u rfl
 refine AX (hK' _ _ ?_)
 clear hK' K'
 refine iT (g := none) 44 rfl rfl fun K' hK' => ?_
 simp only [eN, iD, sH, ↓sP, sA, tyS, simprocAttr]
 repeat refine AI ?_
 refine cB (by first | rfl | simp) ?_
 try simp only [sH, ↓sP, sA, tyS, simprocAttr]
 refine AX (hK' _ _ ?_)
 clear hK' K'
 iterate 2 refine WG0 ?_
 refine T2 (hK _ _ _ ?_)
 clear hK K
 refine aC fun K hK => ?_
 refine R0 ?_
 refine aL ?_
 refine bE (α := {i : Nat // i ≤ p.r.length}) (fun i => (fin [(1, .ptr 0 0), (4, .own 48 (kE p i.1).length), (5, .c (.int .i64 i.1))], fob [(0, .box 45 (.c p.cv)), (48, .row 60 1 ((kE p i.1).map lsC))])) 2000 (fun i => p.r.length - i.1) ⟨0, by omega⟩ (aN (by omega) (by simp [aW, fin_at, finA_at, upd_at, HV.men, HV.menL, HV.norm, HV.toC, HV.toCL, kE, lsC, wPolicy]) (by simp [aY, fob_at, upd_at, none0_at, bX, HO.men, HV.men, HV.menL, HV.norm, HV.toC, HV.toCL, kE, lsC, wPolicy])) ?_
 rintro ⟨i, hi⟩
 have hll := xZ hrules i hi
 have hl0 : 0 < (kE p i).length := by simp [kE]
 refine aC fun K hK => ?_
 refine AU ?_
 refine aG (b := decide ((i : Int) < p.r.length)) rfl (fun hb => ?_) (fun hb => ?_)
 ·
  have hlt : i < p.r.length := by simpa using hb
  clear hb
  obtain ⟨r, hr⟩ : ∃ r, r = p.r[i] := ⟨_, rfl⟩
  have hrule := hrules r (by rw [hr]; exact List.getElem_mem hlt)
  obtain ⟨⟨g1, g2⟩, ht, _⟩ := iB hrule
  have ht0 : 0 < r.t.length := ht.ne
  have htl := ht.len
  obtain ⟨L, hL⟩ : ∃ L, L = kE p i := ⟨_, rfl⟩
  rw [← hL] at hll hl0 ⊢
  refine aK ?_
  refine T0 (hK _ _ _ ?_)
  clear hK K
  refine aC fun K hK => ?_
  refine aL ?_
  refine RS ?_
  iterate 7 refine S0 ?_ (e := fun _ h_ => by simp only [sH, ↓sP, sA, tyS, simprocAttr, Int.natCast_nonneg, Int.ofNat_lt, hlt, bK hlt, ← hr]; exact AX h_)
  refine RE ?_
  refine aC fun K hK => eF mixed [(0, [], []), (1, [], []), (2, [], []), (3, [], []), (4, [], []), (5, [], []), (6, [], []), (7, [], []), (8, [], []), (9, [], [0, 1, 2, 3, 4, 5, 6]), (10, [], []), (11, [], []), (12, [], []), (13, [], [])] [0, 0, 2, 0, 8, 0, 32, 0, 128, 384, 1022, 2046, 4095, 8191] (by kernel_rfl) (by kernel_rfl) (by kernel_rfl) (by kernel_rfl) rfl (by kernel_rfl) ?_
  iterate 9 refine WG0 ?_
  refine fM (g := none) rfl rfl fun K' hK' => T5 ?_
  refine C1 (rS r.g ⟨by omega, by omega⟩) ?_
  rintro u rfl
  refine AX (hK' _ _ ?_)
  clear hK' K'
  refine iT (g := none) 2088 rfl rfl fun K' hK' => ?_
  simp only [eN, iD, sH, ↓sP, sA, tyS, simprocAttr]
  repeat refine AI ?_
  refine cB (by first | rfl | simp) ?_
  try simp only [sH, ↓sP, sA, tyS, simprocAttr]
  refine AX (hK' _ _ ?_)
  clear hK' K'
  iterate 3 refine WG0 ?_
  refine T2 (hK _ _ _ ?_)
  clear hK K
  obtain ⟨M, hM⟩ : ∃ M, M = L ++ [[wRule, r.a, r.b, r.c, numW r.g]] := ⟨_, rfl⟩
  have hMm : List.map lsC L ++ [CV.slc [CV.str [114, 117, 108, 101], CV.str r.a, CV.str r.b, CV.str r.c, CV.str (numW r.g)]] = List.map lsC M := by rw [hM]; simp [lsC, wRule]
  have hMl : L.length + 1 = M.length := by rw [hM]; simp
  rw [hMm]
  simp only [List.length_map]
  refine aC fun K hK => Rg ?_
  refine AU ?_
  refine HS rfl rfl fun K' hK' => T5 ?_
  refine D2 (bU9 r.t ht r.t.length 0 ht0 (by omega)) ?_
  rintro u v ⟨rfl, rfl⟩
  refine AX (hK' _ _ ?_)
  clear hK' K'
  refine AU ?_
  refine T2 (hK _ _ _ ?_)
  clear hK K
  have hl2 := xW ht ht0
  have ha2 := (iO ht ht0).2.1
  have hw1 : M.length + (eR r.t 0).length ≤ 100000 := by omega
  have hb1 : (M.length + (eR r.t 0).length) * 24 ≤ 140737488355328 := by omega
  have hb2 : M.length + (eR r.t 0).length ≤ maxLen := by unfold maxLen; omega
  refine Rg ?_
  have F := aI @lV (aI hb1 (aI hb2 @List.length_map.{0,0}))
  refine AU ?_
  refine T2 (hK _ _ _ ?_)
  clear hK K
  refine aM (by kernel_rfl) ?_
  refine TQ (IntWalk.i64_in ((i : Int) + 1) (by omega)) ?_
  refine ⟨⟨i + 1, hlt⟩, ?_, ?_⟩
  ·
   have e1 : kE p (i + 1) = M ++ eR r.t 0 := by rw [tL hlt, hM, hL, pY, ← hr]; simp [gB]
   simp only []
   rw [e1]
   exact fF
  show p.r.length - (i + 1) < p.r.length - i
  omega
 refine bA (T3 ?_)
 clear hK K
 refine AX (hK _ _ _ ?_)
 clear hK K
 have hei : i = p.r.length := by simp at hb; omega
 subst hei
 clear hb
 rw [rT]
 refine dW [48] (bG (fr2 := fin [(4, .c (.slc ((dS p).map lsC)))]) (ob2 := fob []) (nx2 := 3000) (aN (by omega) (by simp [aW, gJ, fin_at, finA_at, upd_at, fob_at, HV.close, HV.closeL, CV.denil, CV.denilL, aQ, HV.men, HV.menL, HV.norm, HV.toC, HV.toCL]) (by simp [aY, gK, fob_at, upd_at, none0_at, bX, HO.close, HV.close, HV.closeL, HO.men, HV.men, HV.menL, HV.norm, HV.toC, HV.toCL])) ?_)
 rw [rT] at hll
 refine aC fun K hK => Rg ?_
 have F := @aQ
 refine SF ?_
 refine HS rfl rfl fun K' hK' => T6 ?_
 refine D1 (aC3 (dS p) (by omega) (bC0 p)) ?_
 rintro u v ⟨rfl, rfl⟩
 refine AX (hK' _ _ ?_)
 clear hK' K'
 refine AU ?_
 refine T2 (hK _ _ _ ?_)
 clear hK K
 refine aF (RT Tryz.results28 ?_)
 exact aR [] (.slc ((iM (dS p)).map cP)) (.int .i64 (gM (dS p))) (by simp [HV.close, HV.closeL, CV.denil, CV.denilL, cM, HV.norm, HV.toC, HV.toCL]) ⟨by rw [lA, if_pos hv], by rw [oW, if_pos hv]⟩

end Go.Proofs.YtlldglbooaefhaaGreatDoor

namespace Go.Proofs.YtlldglbooaefhaaGreatDoor
open Go Go.Hl Go.Pl
set_option maxRecDepth 10000
set_option maxHeartbeats 16000000

theorem bV0 (ls : List (List aJ)) (h0 : ls.length < 2 ^ 40) (h1 : ∀ l ∈ ls, l.length < 2 ^ 40) : fR Tryz.prog 53 [.slc (ls.map lsC)] (fun u v => u = .slc ((iM ls).map cP) ∧ v = .int .i64 (gM ls)) := cF9 ls h0 h1
theorem aW1 (N n : Nat) (ob : Ob) (e : TypeId) (sz : Nat) (T : lI) (L : List CV) : kH (sub [0, N] n) ob 0 [.tab T, .row e sz L] = upd (upd ob 0 (some (.tab T))) N (some (.row e sz L)) := rfl

theorem bC2 (p : Po) (hp : PoSz p) : aY7 Tryz.prog 27 tabs [p.cv] (fun u v => u = .slc ((lA p).map cP) ∧ v = .int .i64 (oW p)) := by
 refine bR (args := [.c p.cv]) Tryz.func27 rfl (by kernel_rfl) (fO tabs [p.cv]) (Nat.le_of_ble_eq_true rfl) ?_
 unfold eP
 refine R0 ?_
 refine aC fun K hK => ?_
 refine AU ?_
 refine SC (tJ p hp) ?_
 refine AU ?_
 refine aG (b := !eK p) rfl (fun hb => ?_) (fun hb => ?_)
 ·
  refine R0 ?_
  refine aF (RT Tryz.results27 ?_)
  have hv : eK p = false := by simpa using hb
  refine uE [] (.slc []) (.int .i64 1) ?_ rfl (by simp) ⟨by rw [lA, hv]; rfl, by rw [oW, hv]; rfl⟩
  simp [HV.close, HV.closeL, CV.denil, CV.denilL, HV.norm, HV.toC, HV.toCL]
 refine aK ?_
 refine T0 (hK _ _ _ ?_)
 clear hK K
 have hv : eK p = true := by simpa using hb
 clear hb
 obtain ⟨⟨v1, v2⟩, hr16, _, hrules⟩ := oR hv
 refine aC fun K hK => eF mixed [(0, [], []), (1, [], []), (2, [], []), (3, [], []), (4, [], [0, 1]), (5, [], []), (6, [], []), (7, [], [])] [0, 1, 0, 4, 12, 31, 63, 127] (by kernel_rfl) (by kernel_rfl) (by kernel_rfl) (by kernel_rfl) rfl (by kernel_rfl) ?_
 iterate 4 refine WG0 ?_
 refine fM (g := none) rfl rfl fun K' hK' => T5 ?_
 refine fH (args := [_]) 0 (xX p.v ⟨by omega, by omega⟩) rfl (by simp) ⟨rfl, rfl, rfl, rfl⟩ ?_
 rintro u rfl
 refine AX (hK' _ _ ?_)
 clear hK' K'
 refine iT (g := none) 45 rfl rfl fun K' hK' => ?_
 simp only [eN, iD, sH, ↓sP, sA, tyS, simprocAttr]
 repeat refine AI ?_
 refine cB (by first | rfl | simp) ?_
 try simp only [sH, ↓sP, sA, tyS, simprocAttr]
 refine AX (hK' _ _ ?_)
 clear hK' K'
 iterate 2 refine WG0 ?_
 refine T2 (hK _ _ _ ?_)
 clear hK K
 refine aC fun K hK => ?_
 refine AU ?_
 refine aL ?_
 refine bE (α := {i : Nat // i ≤ p.r.length}) (fun i => (fin [(4, .own 49 (kE p i.1).length), (18, .c (.slc (p.r.map Pr.cv))), (19, .c (.int .i64 p.r.length)), (20, .c (.int .i64 i.1))], fob [(0, .tab tabs), (49, .row 60 1 ((kE p i.1).map lsC))])) 2000 (fun i => p.r.length - i.1) ⟨0, by omega⟩ (aN (by omega) (by simp [aW, fin_at, finA_at, upd_at, HV.men, HV.menL, HV.norm, HV.toC, HV.toCL, kE, lsC, wPolicy]) (by simp [aY, fob_at, upd_at, none0_at, bX, HO.men, HV.men, HV.menL, HV.norm, HV.toC, HV.toCL, kE, lsC, wPolicy])) ?_
 rintro ⟨i, hi⟩
 have hll := xZ hrules i hi
 have hl0 : 0 < (kE p i).length := by simp [kE]
 refine R0 ?_
 refine aC fun K hK => ?_
 refine aG (b := decide ((i : Int) < p.r.length)) rfl (fun hb => ?_) (fun hb => ?_)
 ·
  have hlt : i < p.r.length := by simpa using hb
  clear hb
  obtain ⟨r, hr⟩ : ∃ r, r = p.r[i] := ⟨_, rfl⟩
  have hrule := hrules r (by rw [hr]; exact List.getElem_mem hlt)
  obtain ⟨⟨g1, g2⟩, ht, _⟩ := iB hrule
  have ht0 : 0 < r.t.length := ht.ne
  have htl := ht.len
  obtain ⟨L, hL⟩ : ∃ L, L = kE p i := ⟨_, rfl⟩
  rw [← hL] at hll hl0 ⊢
  refine aK ?_
  refine T0 (hK _ _ _ ?_)
  clear hK K
  refine aC fun K hK => ?_
  refine aL ?_
  refine RS ?_
  iterate 4 refine S0 ?_ (e := fun _ h_ => by simp only [sH, ↓sP, sA, tyS, simprocAttr, Int.natCast_nonneg, Int.ofNat_lt, hlt, bK hlt, ← hr]; exact AX h_)
  refine RE ?_
  refine aC fun K hK => eF mixed [(0, [], []), (1, [], []), (2, [], []), (3, [], []), (4, [], []), (5, [], []), (6, [], []), (7, [], []), (8, [], []), (9, [], [0, 1, 2, 3, 4, 5, 6]), (10, [], []), (11, [], []), (12, [], []), (13, [], [])] [0, 0, 2, 0, 8, 0, 32, 0, 128, 384, 1022, 2046, 4095, 8191] (by kernel_rfl) (by kernel_rfl) (by kernel_rfl) (by kernel_rfl) rfl (by kernel_rfl) ?_
  iterate 9 refine WG0 ?_
  refine fM (g := none) rfl rfl fun K' hK' => T5 ?_
  refine fH (args := [_]) 0 (xX r.g ⟨by omega, by omega⟩) rfl (by simp) ⟨rfl, rfl, rfl, rfl⟩ ?_
  rintro u rfl
  refine AX (hK' _ _ ?_)
  clear hK' K'
  refine iT (g := none) 2060 rfl rfl fun K' hK' => ?_
  simp only [eN, iD, sH, ↓sP, sA, tyS, simprocAttr]
  repeat refine AI ?_
  refine cB (by first | rfl | simp) ?_
  try simp only [sH, ↓sP, sA, tyS, simprocAttr]
  refine AX (hK' _ _ ?_)
  clear hK' K'
  iterate 3 refine WG0 ?_
  refine T2 (hK _ _ _ ?_)
  clear hK K
  obtain ⟨M, hM⟩ : ∃ M, M = L ++ [[wRule, r.a, r.b, r.c, numW r.g]] := ⟨_, rfl⟩
  have hMm : List.map lsC L ++ [CV.slc [CV.str [114, 117, 108, 101], CV.str r.a, CV.str r.b, CV.str r.c, CV.str (numW r.g)]] = List.map lsC M := by rw [hM]; simp [lsC, wRule]
  have hMl : L.length + 1 = M.length := by rw [hM]; simp
  rw [hMm]
  simp only [List.length_map]
  refine Rg ?_
  refine AU ?_
  refine HS rfl rfl fun K' hK' => T5 ?_
  refine gW [0, 49] (bU8 r.t ht r.t.length M 0 ht0 (by omega) (by rw [hM]; simp) (by rw [hM]; simp; omega)) rfl ⟨rfl, rfl, trivial⟩ (by simp) (by simp) ⟨rfl, rfl, rfl, rfl⟩ (by simp [eO, HO.men, HV.men, HV.menL]) (by simp [HV.menL, HV.men]) ?_
  rintro q os' ⟨rfl, rfl⟩
  rw [aW1, aC2]
  refine AX (hK' _ _ ?_)
  clear hK' K'
  refine AU ?_
  refine T2 (hK _ _ _ ?_)
  clear hK K
  refine aM (by kernel_rfl) ?_
  refine TQ (IntWalk.i64_in ((i : Int) + 1) (by omega)) ?_
  refine ⟨⟨i + 1, hlt⟩, ?_, ?_⟩
  ·
   have e1 : M ++ eR r.t 0 = kE p (i + 1) := by rw [tL hlt, hM, hL, pY, ← hr]; simp [gB]
   rw [e1]
   exact fF
  show p.r.length - (i + 1) < p.r.length - i
  omega
 refine bA (T3 ?_)
 clear hK K
 refine AX (hK _ _ _ ?_)
 clear hK K
 have hei : i = p.r.length := by simp at hb; omega
 subst hei
 clear hb
 rw [rT]
 refine dW [49] (bG (fr2 := fin [(4, .c (.slc ((dS p).map lsC)))]) (ob2 := fob [(0, .tab tabs)]) (nx2 := 3000) (aN (by omega) (by simp [aW, gJ, fin_at, finA_at, upd_at, fob_at, HV.close, HV.closeL, CV.denil, CV.denilL, aQ, HV.men, HV.menL, HV.norm, HV.toC, HV.toCL]) (by simp [aY, gK, fob_at, upd_at, none0_at, bX, HO.close, HV.close, HV.closeL, HO.men, HV.men, HV.menL, HV.norm, HV.toC, HV.toCL])) ?_)
 rw [rT] at hll
 refine aC fun K hK => Rg ?_
 have F := @aQ
 refine SF ?_
 refine HS rfl rfl fun K' hK' => T6 ?_
 refine D1 (bV0 (dS p) (by omega) (bC0 p)) ?_
 rintro u v ⟨rfl, rfl⟩
 refine AX (hK' _ _ ?_)
 clear hK' K'
 refine AU ?_
 refine T2 (hK _ _ _ ?_)
 clear hK K
 refine aF (RT Tryz.results27 ?_)
 exact uE [] (.slc ((iM (dS p)).map cP)) (.int .i64 (gM (dS p))) (by simp [HV.close, HV.closeL, CV.denil, CV.denilL, cM, HV.norm, HV.toC, HV.toCL]) rfl (by simp) ⟨by rw [lA, if_pos hv], by rw [oW, if_pos hv]⟩

end Go.Proofs.YtlldglbooaefhaaGreatDoor

namespace Go.Hl
open Go
def bC3 (P : Program) (f : FuncId) (T : lI) (args : List CV) (R : CV → CV → CV → Prop) : Prop :=
 HFn P f (args.map .c) 1 (eP T) (fun r ob' => ∃ u v x, r = .tup [.c u, .c v, .c x] ∧ ob' = eP T ∧ R u v x)
theorem jB {ob : Ob} {r : HV} {T : lI} {R : CV → CV → CV → Prop} (cl : List Nat) (u v x : CV) (h : (r.close ob cl).norm = .tup [.c u, .c v, .c x]) (hb : ob 0 = some (.tab T)) (h0 : 0 ∉ cl) (hR : R u v x) :
  mO 1 r ob (fun r ob' => ∃ u v x, r = .tup [.c u, .c v, .c x] ∧ ob' = eP T ∧ R u v x) :=
 ⟨cl, id, .tup [.c u, .c v, .c x], eP T, ⟨u, v, x, rfl, rfl, hR⟩, by grind [HV.ren, HV.renL], fun _ _ => rfl, fun _ _ _ _ h => h, by simp [HV.men, HV.menL], aT3 hb h0⟩
theorem uN {P : Program} {av : List Nat} {f : FuncId} {ob : Ob} {nid : Nat} {K : HV → Ob → Prop} {T : lI} {args : List CV} {R : CV → CV → CV → Prop} (id : Nat) (h : bC3 P f T args R) (hid : ob id = some (.tab T)) (hav : id ∉ av)
  (hfree : ob nid = none ∧ ob (nid + 1) = none ∧ ob (nid + 2) = none ∧ ob (nid + 3) = none) (hK : ∀ u v x, R u v x → K (.tup [.c u, .c v, .c x]) ob) : HCall P av f (args.map .c) ob nid K := by
 refine ⟨[id], args.map .c, _, _, h, fO T args, ⟨by simp, by grind⟩, (HV.renL_c _ _).symm, sX hid, fun r lob' hR _ => ?_⟩
 obtain ⟨u, v, x, rfl, rfl, hR⟩ := hR
 rw [nN hid hfree]
 exact hK u v x hR
end Go.Hl

namespace Go.Pl
open Go Go.Hl

def LsB (ls : List (List aJ)) : Prop := ∀ l ∈ ls, ∀ w ∈ l, w.length < 2 ^ 40
theorem LsB.drop {ls : List (List aJ)} (h : LsB ls) (j : Nat) : LsB (ls.drop j) := fun l hl => h l (List.mem_of_mem_drop hl)
theorem cH7 {l : List aJ} (h : ∀ w ∈ l, w.length < 2 ^ 40) (i : Nat) : (wd l i).length < 2 ^ 40 := by grind [wd, Nat.lt_or_ge, List.getElem?_eq_getElem, List.getElem_mem, List.getElem?_eq_none]
theorem cH8 {w : List aJ} (h : ∀ x ∈ w, x.length < 2 ^ 40) {q : Rq} (hq : fK w = some q) : q.t.length < 2 ^ 40 := by
 have h1 := cH7 h 1
 have hm : ∀ (k : Int) (o : Option Int), o.map (fun n => (⟨k, n, 0, []⟩ : Rq)) = some q → q.t.length < 2 ^ 40 := fun k o ho => by
  cases o with
  | none => grind
  | some n => grind
 unfold fK at hq
 split at hq
 ·
  exact hm _ _ hq
 ·
  split at hq
  ·
   grind
  ·
   split at hq
   ·
    exact hm _ _ hq
   ·
    split at hq
    ·
     grind
    ·
     split at hq
     ·
      exact hm _ _ hq
     ·
      split at hq
      ·
       exact hm _ _ hq
      ·
       split at hq
       ·
        exact hm _ _ hq
       grind
theorem cH9 {w : List aJ} {n : Nd} (h : kC w = some n) : n.q = rq0 := by grind [kC, bJ, wd]
theorem cM5 : ∀ f, (∀ ls, LsB ls → ∀ t, (rdN f ls).1 = some t → ∀ n ∈ t, n.q.t.length < 2 ^ 40) ∧ (∀ ls, LsB ls → ∀ p, (rdK f ls).1 = some p → ∀ n ∈ p.1, n.q.t.length < 2 ^ 40)
 | 0 => ⟨fun ls _ t h => by simp [rdN] at h, fun ls _ t h => by simp [rdK] at h⟩
 | f + 1 => by
  obtain ⟨ihN, ihK⟩ := cM5 f
  refine ⟨fun ls hb t h => ?_, fun ls hb p h => ?_⟩
  ·
   match ls with
   | [] => simp [rdN] at h
   | w :: r =>
    cases h1 : fK w with
    | some q =>
     rw [nX h1] at h
     cases h
     intro n hn
     rw [List.mem_singleton] at hn
     subst hn
     exact cH8 (hb w (by simp)) h1
    | none =>
     cases h2 : kC w with
     | none => grind [nY]
     | some n =>
      rw [oT h1 h2] at h
      cases hk : (rdK f r).1 with
      | none => simp [yO, hk] at h
      | some p =>
       simp only [yO, hk, Option.map_some, Option.some.injEq] at h
       subst h
       intro x hx
       rcases List.mem_cons.1 hx with rfl | hx
       ·
        grind [cH9, rq0]
       ·
        exact ihK r (fun l hl => hb l (by grind)) p hk x hx
  ·
   cases he : gR (ls.headD []) with
   | true => grind [aG7]
   | false =>
    match h2 : rdN f ls with
    | (none, r) => simp_all [aV4]
    | (some t, r) =>
     rw [xU he h2] at h
     obtain ⟨j, hj, _⟩ := (aG8 f).1 ls
     rw [h2] at hj
     have hj' : r = ls.drop j := hj
     cases hk : (rdK f r).1 with
     | none => simp [pX, hk] at h
     | some q =>
      simp only [pX, hk, Option.map_some, Option.some.injEq] at h
      subst h
      intro x hx
      rcases List.mem_append.1 hx with hx | hx
      ·
       grind
      ·
       exact ihK r (by rw [hj']; exact hb.drop j) q hk x hx
def cI0 (r : Pr) : Prop := r.a.length < 2 ^ 40 ∧ ∀ n ∈ r.t, n.q.t.length < 2 ^ 63
theorem cM6 {ls : List (List aJ)} (hb : LsB ls) {x : Pr} (h : (rdR ls).1 = some x) : cI0 x := by
 match ls with
 | [] => cases h
 | w :: r =>
  simp only [rdR] at h
  split at h
  ·
   cases hn : bJ (wd w 4) with
   | none => grind
   | some g =>
    rw [hn] at h
    simp only at h
    match hm : rdT r with
    | (none, r') => grind
    | (some t, r') =>
     rw [hm] at h
     cases h
     have h1 := (cM5 (2 * r.length + 2)).1 r (fun l hl => hb l (by grind)) t (by grind [rdT])
     exact ⟨cH7 (hb w (by simp)) 1, fun n hn => Nat.lt_trans (h1 n hn) (by decide)⟩
  grind
theorem bV1 : ∀ (f : Nat) (ls : List (List aJ)) (acc : List Pr), LsB ls → (∀ r ∈ acc, cI0 r) → ∀ l, (kJ f ls acc).1 = some l → (∀ r ∈ l, cI0 r) ∧ l.length ≤ acc.length + f
 | 0, ls, acc, _, _, l, h => by simp [kJ] at h
 | f + 1, ls, acc, hb, ha, l, h => by
  simp only [kJ] at h
  split at h
  ·
   grind
  ·
   match hm : rdR ls with
   | (none, r) => grind
   | (some x, r) =>
    rw [hm] at h
    obtain ⟨j, _, hj, _⟩ := aG9 ls
    rw [hm] at hj
    have hj' : r = ls.drop j := hj
    have hx := cM6 hb (x := x) (by rw [hm])
    obtain ⟨h1, h2⟩ := bV1 f r (acc ++ [x]) (by rw [hj']; exact hb.drop j) (fun y hy => by grind) l h
    grind
theorem cM7 {ls : List (List aJ)} (hb : LsB ls) (hl : ls.length < 2 ^ 39) {p : Po} (h : (rdP ls).1 = some p) : PoSz p := by
 match ls with
 | [] => cases h
 | w :: r =>
  simp only [rdP] at h
  split at h
  ·
   cases hn : bJ (wd w 2) with
   | none => grind
   | some v =>
    rw [hn] at h
    simp only at h
    match hm : kJ (r.length + 1) r [] with
    | (none, r') => grind
    | (some l, r') =>
     rw [hm] at h
     cases h
     obtain ⟨h1, h2⟩ := bV1 (r.length + 1) r [] (fun x hx => hb x (by grind)) (by simp) l (by rw [hm])
     simp only [List.length_cons, List.length_nil] at hl h2
     exact ⟨Nat.lt_of_lt_of_le (cH7 (hb w (by simp)) 1) (by decide), by grind, fun x hx => Nat.lt_of_lt_of_le (h1 x hx).1 (by decide), fun x hx => (h1 x hx).2⟩
  grind
end Go.Pl
