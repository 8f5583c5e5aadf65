/- HL: functions that fill a root document behind a pointer, line by line. By an AI agent. -/
import Derived.Test.YtenbfeemmpjdhaaGreatDoorPl02e
import Derived.Test.YtenbfeemmpjdhaaGreatDoorHyTk
import Derived.Test.YtenbfeemmpjdhaaGreatDoorHySb
import Derived.Test.YtenbfeemmpjdhaaGreatDoorPl11m
import Derived.Test.YtenbfeemmpjdhaaGreatDoorHlFl
set_option linter.unusedSimpArgs false
set_option linter.unusedVariables false
set_option linter.defProp false
namespace Go.Proofs.YtenbfeemmpjdhaaGreatDoor
open Go Go.Hl Go.Pl
set_option maxRecDepth 10000
set_option maxHeartbeats 4000000

theorem aP1 (l : List aK) (hl : l.length < 2 ^ 40) : bU2 Tryz.prog 84 9 1 (l.map .str) (fun u => u = .slc ((bW l).map .str)) := by
 show HFn _ _ [.own 0 (l.map CV.str).length] 1 _ _
 rw [List.length_map]
 refine bS (args := [.own 0 l.length]) Tryz.func84 rfl (by kernel_rfl) (kJ 9 1 l.length _) (Nat.le_of_ble_eq_true rfl) ?_
 refine R0 ?_
 refine aB fun K hK => ?_
 refine R0 ?_
 refine aJ (b := decide ((l.length : Int) < 2)) rfl (fun hb => ?_) (fun hb => ?_)
 ·
  refine R0 ?_
  refine aD (RT Tryz.results84 ?_)
  exact pW [0] (.slc (l.map .str)) (by simp [HV.close, HV.norm, HV.toC, fob_at]) (by rw [rD (by simp at hb; omega)])
 refine aG ?_
 refine T0 (hK _ _ _ ?_)
 clear hK K
 refine aB fun K hK => ?_
 refine R0 ?_
 refine aH ?_
 have h2 : 2 ≤ l.length := by simp at hb; omega
 refine aS (α := {k : Nat // 1 ≤ k ∧ k ≤ l.length ∧ bW (l.take k) = l.take k}) (fun k => (fin [(0, .own 0 l.length), (3, .c (.int .i64 k.1))], fob [(0, .row 9 1 (l.map .str))])) 100 (fun k => l.length - k.1) ⟨1, by omega, by omega, rD (by simp; omega)⟩ (fF) ?_
 clear hb
 rintro ⟨k, hk1, hk, hd⟩
 refine aB fun K hK => ?_
 refine aB fun K hK => Rg ?_
 iterate 4 refine S0 ?_
 refine T2 (hK _ _ _ ?_)
 clear hK K
 refine aJ (b := decide ((k : Int) < l.length)) rfl (fun hb => ?_) (fun hb => ?_)
 ·
  have hlt : k < l.length := by simpa using hb
  have hlt1 : k - 1 < l.length := by omega
  have m1 : IntKind.i64.wrap ((k : Int) - 1) = ((k - 1 : Nat) : Int) := by rw [IntWalk.i64_in _ (by omega)]; omega
  refine aG ?_
  refine T0 (hK _ _ _ ?_)
  clear hK K
  refine aB fun K hK => ?_
  refine aH ?_
  refine aB fun K hK => QR ?_
  have F := aI m1 (aI @Int.natCast_nonneg (aI @Int.ofNat_lt (aI hlt (aI hlt1 (aI (nM hlt) (nM hlt1))))))
  iterate 10 refine SF ?_
  refine T2 (hK _ _ _ ?_)
  clear hK K
  refine aJ (b := l[k] == l[k - 1]) rfl (fun hb => ?_) (fun hb => ?_)
  ·
   refine aB fun K hK => Rg ?_
   iterate 4 refine S0 ?_
   refine T2 (hK _ _ _ ?_)
   clear hK K
   refine aB fun K hK => ?_
   refine R0 ?_
   refine aH ?_
   refine aS (α := {x : Nat × Nat × List aK // x.2.2.length = l.length ∧ 1 ≤ x.1 ∧ x.1 < x.2.1 ∧ x.2.1 ≤ l.length ∧ k < x.2.1 ∧ x.2.2.take x.1 = bW (l.take x.2.1) ∧ x.2.2.drop (x.2.1 - 1) = l.drop (x.2.1 - 1)}) (fun x => (fin [(0, .own 0 l.length), (3, .c (.int .i64 x.1.1)), (4, .osl 0 l.length k 1 l.length), (5, .c (.int .i64 ((x.1.2.1 - k : Nat) : Int)))], fob [(0, .row 9 1 (x.1.2.2.map .str))])) 300 (fun x => l.length - x.1.2.1) ⟨(k, k + 1, l), rfl, hk1, by simp, hlt, by simp, by rw [tW hk1 hlt hb, hd], rfl⟩ (fF) ?_
   rintro ⟨⟨i, j, r⟩, hr, hi1, hij, hj, hkj, g1, g2⟩
   simp only at hr hi1 hij hj hkj g1 g2 ⊢
   have hrl : (r.map CV.str).length = l.length := by rw [List.length_map, hr]
   have p0 : 0 < l.length := by omega
   have e9 : (List.take (l.length - k) (List.drop k (r.map CV.str))).length = l.length - k := by simp [hr]
   refine aB fun K hK => ?_
   refine aB fun K hK => Rg ?_
   have F := aI hr (aI p0 (aI hk (aI @Nat.le_refl e9)))
   iterate 4 refine SF ?_
   refine T2 (hK _ _ _ ?_)
   clear hK K
   refine aJ (b := decide (((j - k : Nat) : Int) < ((l.length - k : Nat) : Int))) rfl (fun hb => ?_) (fun hb => ?_)
   ·
    have hjl : j < l.length := by simp at hb; omega
    have hjr : j < r.length := by omega
    have hj1r : j - 1 < r.length := by omega
    have hir : i < r.length := by omega
    have hil : i < l.length := by omega
    have hj1l : j - 1 < l.length := by omega
    have z1 : ((j - k : Nat) : Int) < ((l.length - k : Nat) : Int) := by omega
    have z2 : ((j - k - 1 : Nat) : Int) < ((l.length - k : Nat) : Int) := by omega
    have e1 : k + (j - k) = j := by omega
    have e2 : k + (j - k - 1) = j - 1 := by omega
    have m2 : IntKind.i64.wrap (((j - k : Nat) : Int) - 1) = ((j - k - 1 : Nat) : Int) := by rw [IntWalk.i64_in _ (by omega)]; omega
    have m3 : IntKind.i64.wrap (((j - k : Nat) : Int) + 1) = ((j + 1 - k : Nat) : Int) := by rw [IntWalk.i64_in _ (by omega)]; omega
    have q0 : r[j - 1] = l[j - 1] ∧ r[j] = l[j] := by
     have a1 : (r.drop (j - 1))[0]? = (l.drop (j - 1))[0]? := by rw [g2]
     have a2 : (r.drop (j - 1))[1]? = (l.drop (j - 1))[1]? := by rw [g2]
     simp only [List.getElem?_drop, Nat.add_zero, show j - 1 + 1 = j by omega, List.getElem?_eq_getElem hjr, List.getElem?_eq_getElem hj1r, List.getElem?_eq_getElem hjl, List.getElem?_eq_getElem hj1l, Option.some.injEq] at a1 a2
     exact ⟨a1, a2⟩
    have q1 : nth (r.map CV.str) j = .str l[j] := by rw [aW hjr, q0.2]
    have q2 : nth (r.map CV.str) (j - 1) = .str l[j - 1] := by rw [aW hj1r, q0.1]
    have g3 : r.drop j = l.drop j := by
     have : (r.drop (j - 1)).drop 1 = (l.drop (j - 1)).drop 1 := by rw [g2]
     rwa [List.drop_drop, List.drop_drop, show j - 1 + 1 = j by omega] at this
    refine aG ?_
    refine T0 (hK _ _ _ ?_)
    clear hK K
    refine aB fun K hK => ?_
    have key : ∀ (i' : Nat) (r' : List aK) fr ob nx, r'.length = l.length → 1 ≤ i' → i' < j + 1 → r'.take i' = bW (l.take (j + 1)) → r'.drop j = l.drop j → Fits 1 fr ob (fin [(0, .own 0 l.length), (3, .c (.int .i64 i')), (4, .osl 0 l.length k 1 l.length), (5, .c (.int .i64 ((j - k : Nat) : Int)))]) (fob [(0, .row 9 1 (r'.map .str))]) 500 → K fr ob nx := by
     rintro i' r' fr ob nx w1 w2 w3 w4 w5 hf
     refine hK _ _ _ (bE hf ?_)
     clear hf hK K
     refine aM (by kernel_rfl) ?_
     refine TQ m3 ?_
     refine ⟨⟨(i', j + 1, r'), w1, w2, w3, hjl, by simp only; omega, w4, w5⟩, fF, ?_⟩
     show l.length - (j + 1) < l.length - j
     omega
    refine aH ?_
    refine aB fun K hK => QR ?_
    have F := aI hr (aI m2 (aI e1 (aI e2 (aI z1 (aI z2 (aI q1 (aI q2 (aI hjl (aI hj1l (aI hjr (aI hj1r (aI @Int.natCast_nonneg @Int.ofNat_lt))))))))))))
    iterate 10 refine SF ?_
    refine T2 (hK _ _ _ ?_)
    clear hK K
    refine aJ (b := !(l[j] == l[j - 1])) rfl (fun hb => ?_) (fun hb => ?_)
    ·
     refine aB fun K hK => Rg ?_
     iterate 8 refine S0 ?_ (e := fun _ h_ => by simp only [sH, ↓sP, sA, tyS, simprocAttr, hr, e1, z1, q1, aW hir, hil, hir, hjl, hjr, Int.natCast_nonneg, Int.ofNat_lt, ← List.map_set]; exact AX h_)
     refine T2 (hK _ _ _ ?_)
     clear hK K
     refine aM (by kernel_rfl) ?_
     refine TQ (bK i) ?_
     refine key (i + 1) (r.set i l[j]) _ _ _ (by simp [hr]) (by omega) (by omega) ?_ ?_ (fF)
     ·
      rw [aV8 (by omega) hjl (by simpa using hb), ← g1, List.take_succ_eq_append_getElem (by simp; omega), List.take_set_of_le (by omega)]
      simp
     rw [List.drop_set_of_lt (by omega), g3]
    refine aG (T3 ?_)
    exact key i r _ _ _ hr hi1 (by omega) (by rw [tW (by omega) hjl (by simpa using hb), g1]) g3 (fF)
   have hjl : j = l.length := by simp at hb; omega
   subst hjl
   rw [List.take_length] at g1
   refine aR (T3 ?_)
   clear hK K
   refine AX (hK _ _ _ ?_)
   clear hK K
   refine aB fun K hK => Rg ?_
   have F := hr
   iterate 4 refine SF ?_
   refine T2 (hK _ _ _ ?_)
   clear hK K
   refine aB fun K hK => Rg ?_
   iterate 4 refine SF ?_
   refine T2 (hK _ _ _ ?_)
   clear hK K
   refine aD (RT Tryz.results84 ?_)
   refine pW [0] (.slc ((r.take i).map .str)) ?_ (by rw [g1])
   simp [HV.close, HV.norm, fob_at]
   rw [if_pos ⟨by omega, by omega, by omega⟩]
   show HV.c (CV.slc _) = _
   rw [List.take_append_of_le_length (by simp; omega), List.take_take, Nat.min_self]
  refine aG ?_
  refine T0 (hK _ _ _ ?_)
  clear hK K
  refine aM (by kernel_rfl) ?_
  refine TQ (bK k) ?_
  refine ⟨⟨k + 1, by omega, hlt, aL3 hk1 hlt hb hd⟩, fF, ?_⟩
  show l.length - (k + 1) < l.length - k
  omega
 refine aR (T3 ?_)
 clear hK K
 refine AX (hK _ _ _ ?_)
 clear hK K
 refine R0 ?_
 refine aD (RT Tryz.results84 ?_)
 have hkl : k = l.length := by simp at hb; omega
 subst hkl
 rw [List.take_length] at hd
 exact pW [0] (.slc (l.map .str)) (by simp [HV.close, HV.norm, HV.toC, fob_at]) (by rw [hd])

end Go.Proofs.YtenbfeemmpjdhaaGreatDoor

namespace Go.Proofs.YtenbfeemmpjdhaaGreatDoor
open Go Go.Hl Go.Pl
set_option maxRecDepth 10000
set_option maxHeartbeats 4000000

theorem bS3 (r : Rt) (k : Ky) (t : Int) (hr : rSz r) : aV Tryz.prog 56 [r.cv, k.cv, .int .i64 t] (fun v => v = .bool (oO r k t)) := by
 refine FW Tryz.func56 ?_
 refine R0 ?_
 refine aB fun K hK => DW [(0, [], []), (1, [], []), (2, [], []), (3, [], [0]), (4, [], []), (5, [], []), (6, [], []), (7, [], []), (8, [], []), (9, [], [])] [0, 0, 2, 6, 15, 31, 63, 63, 127, 511] ?_
 iterate 3 refine W0 ?_
 refine aN (g := none) rfl rfl fun K' hK' => T5 ?_
 refine C1 (aO9 k.p) ?_
 rintro u rfl
 refine AX (hK' _ _ ?_)
 refine aN (g := none) rfl rfl fun K' hK' => T5 ?_
 refine D2 (uM r (pid k.p) hr.2.2) ?_
 rintro u v ⟨rfl, rfl⟩
 refine AX (hK' _ _ ?_)
 iterate 5 refine W0 ?_
 refine T2 (hK _ _ _ ?_)
 clear hK K
 refine aB fun K hK => Rg ?_
 iterate 5 refine S0 ?_
 refine aE 20 rfl (fun h2_20 => ?_) (fun h2_20 => ?_)
 ·
  have F := h2_20
  iterate 6 refine SF ?_
  refine aE 25 rfl (fun h2_25 => ?_) (fun h2_25 => ?_)
  ·
   have F := aI h2_20 h2_25
   iterate 6 refine SF ?_
   refine aE 31 rfl (fun h2_31 => ?_) (fun h2_31 => ?_)
   ·
    have F := aI h2_20 (aI h2_25 h2_31)
    iterate 2 refine SF ?_
    refine aE 34 rfl (fun h2_34 => ?_) (fun h2_34 => ?_)
    ·
     have F := aI h2_20 (aI h2_25 (aI h2_31 h2_34))
     iterate 7 refine SF ?_
     refine aE 38 rfl (fun h2_38 => ?_) (fun h2_38 => ?_)
     ·
      simp only [h2_38]
      refine T2 (hK _ _ _ ?_)
      clear hK K
      refine aD (RT Tryz.results56 ?_)
      exact aC [] (.bool false) rfl (by simp only [fV, h2_20, h2_25, h2_31, h2_34, h2_38, Bool.and_true, Bool.and_false, Bool.true_and, Bool.false_and, Bool.not_true, Bool.not_false])
     simp only [h2_38]
     refine T2 (hK _ _ _ ?_)
     clear hK K
     refine aD (RT Tryz.results56 ?_)
     exact aC [] (.bool true) rfl (by simp only [fV, h2_20, h2_25, h2_31, h2_34, h2_38, Bool.and_true, Bool.and_false, Bool.true_and, Bool.false_and, Bool.not_true, Bool.not_false])
    have F := aI h2_20 (aI h2_25 (aI h2_31 h2_34))
    iterate 7 refine SF ?_
    refine T2 (hK _ _ _ ?_)
    clear hK K
    refine aD (RT Tryz.results56 ?_)
    exact aC [] (.bool true) rfl (by simp only [fV, h2_20, h2_25, h2_31, h2_34, Bool.and_true, Bool.and_false, Bool.true_and, Bool.false_and, Bool.not_true, Bool.not_false])
   have F := aI h2_20 (aI h2_25 h2_31)
   iterate 9 refine SF ?_
   refine T2 (hK _ _ _ ?_)
   clear hK K
   refine aD (RT Tryz.results56 ?_)
   exact aC [] (.bool false) rfl (by simp only [fV, h2_20, h2_25, h2_31, Bool.and_true, Bool.and_false, Bool.true_and, Bool.false_and, Bool.not_true, Bool.not_false])
  have F := aI h2_20 h2_25
  iterate 15 refine SF ?_
  refine T2 (hK _ _ _ ?_)
  clear hK K
  refine aD (RT Tryz.results56 ?_)
  exact aC [] (.bool false) rfl (by simp only [fV, h2_20, h2_25, Bool.and_true, Bool.and_false, Bool.true_and, Bool.false_and, Bool.not_true, Bool.not_false])
 have F := h2_20
 iterate 21 refine SF ?_
 refine T2 (hK _ _ _ ?_)
 clear hK K
 refine aD (RT Tryz.results56 ?_)
 exact aC [] (.bool false) rfl (by simp only [fV, h2_20, Bool.and_true, Bool.and_false, Bool.true_and, Bool.false_and, Bool.not_true, Bool.not_false])


theorem bS4 (r : Rt) (l : List Dig) (t : Int) (hr : rSz r) (hl : l.length < 2 ^ 40) (k : Ky) : aV Tryz.prog 121 [k.cv, .rp (.slc (l.map dg)), .rp r.cv, .rp (.int .i64 t)] (fun v => v = .bool (l.contains (kid k) && oO r k t)) := by
 refine FW Tryz.func121 ?_
 refine R0 ?_
 refine aB fun K hK => DW [(0, [], []), (1, [], []), (2, [], []), (3, [], [0]), (4, [], []), (5, [], []), (6, [], []), (7, [], []), (8, [], []), (9, [], []), (10, [], []), (11, [], [])] [0, 0, 2, 6, 15, 31, 63, 63, 63, 511, 1023, 2047] ?_
 have F := @denilL_dg
 iterate 3 refine WF ?_
 refine aN (g := none) rfl rfl fun K' hK' => T6 ?_
 refine C1 (aO9 k.p) ?_
 rintro u rfl
 refine AX (hK' _ _ ?_)
 refine aN (g := none) rfl rfl fun K' hK' => T6 ?_
 refine C2 (bH1 l (pid k.p) hl) ?_
 rintro u rfl
 refine AX (hK' _ _ ?_)
 refine WF ?_
 refine bD 10 rfl (fun h1_10 => ?_) (fun h1_10 => ?_)
 ·
  have F := aI @denilL_dg h1_10
  iterate 3 refine WF ?_
  refine aN (g := some (11, true)) rfl rfl fun K' hK' => T6 ?_
  refine C3 (bS3 r k t hr) ?_
  rintro u rfl
  refine AX (hK' _ _ ?_)
  iterate 2 refine WF ?_
  refine bD 15 rfl (fun h1_15 => ?_) (fun h1_15 => ?_)
  ·
   simp only [h1_15]
   refine T2 (hK _ _ _ ?_)
   clear hK K
   refine aD (RT Tryz.results121 ?_)
   exact aC [] (.bool true) rfl (by simp only [kid, h1_10, h1_15, Bool.and_true, Bool.and_false, Bool.true_and, Bool.false_and])
  simp only [h1_15]
  refine T2 (hK _ _ _ ?_)
  clear hK K
  refine aD (RT Tryz.results121 ?_)
  exact aC [] (.bool false) rfl (by simp only [kid, h1_10, h1_15, Bool.and_true, Bool.and_false, Bool.true_and, Bool.false_and])
 have F := aI @denilL_dg h1_10
 iterate 6 refine WF ?_
 refine T2 (hK _ _ _ ?_)
 clear hK K
 refine aD (RT Tryz.results121 ?_)
 exact aC [] (.bool false) rfl (by simp only [kid, h1_10, Bool.and_true, Bool.and_false, Bool.true_and, Bool.false_and])


theorem vF (r : Rt) (role : aK) (g : FuncId) (caps : List CV) (p : Ky → Bool) (hr : rSz r) (hp : ∀ k ∈ r.k, aV Tryz.prog g (k.cv :: caps) (fun v => v = .bool (p k))) :
  zD Tryz.prog 36 [.c r.cv, .c (.str role), .clo g (caps.map .c)] (fun v => v = .slc ((rP r.k role p).map .str)) := by
 refine bS Tryz.func36 rfl (by kernel_rfl) (aQ9 (by simp [HV.menL, HV.men, HV.menL_c])) (Nat.le_of_ble_eq_true rfl) ?_
 have hlk : r.k.length < 2 ^ 40 := hr.2.1.1
 refine R0 ?_
 refine R0 ?_
 refine aB fun K hK => ?_
 refine aB fun K hK => Rg ?_
 iterate 4 refine S0 ?_
 refine T2 (hK _ _ _ ?_)
 clear hK K
 refine aH ?_
 refine eE 7 0 9 1 rfl rfl rfl rfl ?_
 refine aS (α := {i : Nat // i ≤ r.k.length}) (fun i => (fin [(1, .c (.str role)), (2, .clo g (caps.map .c)), (7, .own 28 (fU (r.k.take i.1) role p).length), (11, .c (.slc (r.k.map Ky.cv))), (12, .c (.int .i64 r.k.length)), (13, .c (.int .i64 i.1))], fob [(28, .row 9 1 ((fU (r.k.take i.1) role p).map .str))])) 100 (fun i => r.k.length - i.1) ⟨0, by omega⟩ (aP (by omega) (by simp [aX, fin_at, finA_at, upd_at, HV.men, HV.menL, HV.norm, HV.toC, HV.toCL, HV.menL_c, fU]) (by simp [bB, fob_at, upd_at, none0_at, bU, HO.men, HV.men, HV.menL, HV.norm, HV.toC, HV.toCL, fU])) ?_
 rintro ⟨i, hi⟩
 refine R0 ?_
 refine aB fun K hK => ?_
 refine aJ (b := decide ((i : Int) < r.k.length)) rfl (fun hb => ?_) (fun hb => ?_)
 ·
  have hlt : i < r.k.length := by simpa using hb
  have hk := hr.2.1.2 _ (List.getElem_mem hlt)
  have hof := tX (r.k.take i) role p
  have hti : (r.k.take i).length = i := by simp; omega
  refine aG ?_
  refine T0 (hK _ _ _ ?_)
  clear hK K
  refine aB fun K hK => ?_
  have key : ∀ (m : List aK) fr ob nx, m = fU (r.k.take (i + 1)) role p → Fits 0 fr ob (fin [(1, .c (.str role)), (2, .clo g (caps.map .c)), (7, .own 28 m.length), (11, .c (.slc (r.k.map Ky.cv))), (12, .c (.int .i64 r.k.length)), (13, .c (.int .i64 i))]) (fob [(28, .row 9 1 (m.map .str))]) 500 → K fr ob nx := by
   rintro m fr ob nx rfl hf
   refine hK _ _ _ (bE hf ?_)
   clear hf hK K
   refine aM (by kernel_rfl) ?_
   refine TQ (bK i) ?_
   refine ⟨⟨i + 1, hlt⟩, aP (by omega) (by simp [aX, fin_at, finA_at, upd_at, HV.men, HV.menL, HV.norm, HV.toC, HV.toCL, HV.menL_c]) (by simp [bB, fob_at, upd_at, none0_at, bU, HO.men, HV.men, HV.menL, HV.norm, HV.toC, HV.toCL]), ?_⟩
   show r.k.length - (i + 1) < r.k.length - i
   omega
  refine aH ?_
  refine aB fun K hK => Rg ?_
  have F := aI @Int.natCast_nonneg (aI @Int.ofNat_lt (aI hlt (nM hlt)))
  iterate 4 refine SF ?_
  refine T2 (hK _ _ _ ?_)
  clear hK K
  refine aB fun K hK => Rg ?_
  iterate 3 refine S0 ?_
  refine HS fun K' hK' => T5 ?_
  refine C2 (bP0 r.k[i].rs role hk.2.1) ?_
  rintro u rfl
  refine AX (hK' _ _ ?_)
  refine S0 ?_
  refine aE 20 rfl (fun h5_20 => ?_) (fun h5_20 => ?_)
  ·
   have F := h5_20
   iterate 2 refine SF ?_
   refine aZ (g := some (21, true)) rfl rfl fun K' hK' => T6 ?_
   refine fC (args := r.k[i].cv :: caps) (hp _ (List.getElem_mem hlt)) ⟨rfl, rfl, rfl, rfl⟩ ?_
   rintro u rfl
   refine AX (hK' _ _ ?_)
   refine SF ?_
   refine aE 24 rfl (fun h5_24 => ?_) (fun h5_24 => ?_)
   ·
    simp only [h5_24]
    refine T2 (hK _ _ _ ?_)
    clear hK K
    refine CT rfl ?_
    refine Rg ?_
    have F := aI @List.length_append.{0} (aI hti (aI h5_20 h5_24))
    iterate 6 refine SF ?_
    refine T4 ?_
    refine key (fU (r.k.take i) role p ++ [r.k[i].o]) _ _ _ (by rw [jL hlt]; simp only [h5_20, h5_24, Bool.and_self, if_true]) ?_
    exact aP (by omega) (by simp [aX, fin_at, finA_at, upd_at, HV.men, HV.menL, HV.norm, HV.toC, HV.toCL, HV.menL_c]) (by simp [bB, fob_at, upd_at, none0_at, bU, HO.men, HV.men, HV.menL, HV.norm, HV.toC, HV.toCL])
   simp only [h5_24]
   refine T2 (hK _ _ _ ?_)
   clear hK K
   refine CF rfl ?_
   refine aG (T3 ?_)
   refine key (fU (r.k.take i) role p) _ _ _ (by rw [jL hlt]; simp only [h5_20, h5_24, Bool.and_true, Bool.and_false, Bool.true_and, Bool.false_and]; try simp) ?_
   exact aP (by omega) (by simp [aX, fin_at, finA_at, upd_at, HV.men, HV.menL, HV.norm, HV.toC, HV.toCL, HV.menL_c]) (by simp [bB, fob_at, upd_at, none0_at, bU, HO.men, HV.men, HV.menL, HV.norm, HV.toC, HV.toCL])
  have F := h5_20
  iterate 4 refine SF ?_
  refine T2 (hK _ _ _ ?_)
  clear hK K
  refine CF rfl ?_
  refine aG (T3 ?_)
  refine key (fU (r.k.take i) role p) _ _ _ (by rw [jL hlt]; simp only [h5_20, Bool.and_true, Bool.and_false, Bool.true_and, Bool.false_and]; try simp) ?_
  exact aP (by omega) (by simp [aX, fin_at, finA_at, upd_at, HV.men, HV.menL, HV.norm, HV.toC, HV.toCL, HV.menL_c]) (by simp [bB, fob_at, upd_at, none0_at, bU, HO.men, HV.men, HV.menL, HV.norm, HV.toC, HV.toCL])
 have hei : i = r.k.length := by simp at hb; omega
 subst hei
 clear hb
 rw [List.take_length]
 have hof := tX r.k role p
 have hsl : ((fU r.k role p).mergeSort leW).length = (fU r.k role p).length := (List.mergeSort_perm _ _).length_eq
 refine aR (T3 ?_)
 clear hK K
 refine AX (hK _ _ _ ?_)
 clear hK K
 refine aB fun K hK => Rg ?_
 refine S0 ?_
 refine HS fun K' hK' => T5 ?_
 refine aV4 (bS2 (fU r.k role p) (by omega)) rfl rfl (by simp) ⟨rfl, rfl, rfl, rfl⟩ ?_
 refine AX (hK' _ _ ?_)
 refine T2 (hK _ _ _ ?_)
 clear hK K
 refine aB fun K hK => Rg ?_
 refine S0 ?_
 refine HS fun K' hK' => T5 ?_
 refine aV2 (aP1 ((fU r.k role p).mergeSort leW) (by omega)) rfl (by rw [List.length_map, hsl]) (by simp) ⟨rfl, rfl, rfl, rfl⟩ ?_
 rintro u rfl
 refine AX (hK' _ _ ?_)
 refine S0 ?_
 refine T2 (hK _ _ _ ?_)
 clear hK K
 refine aD (RT Tryz.results36 ?_)
 refine aC [] (.slc ((rP r.k role p).map .str)) ?_ rfl
 rw [bE5]
 exact eA (by simp only [CV.denil, denilL_str])


theorem bY9 (k : Ky) : aV Tryz.prog 37 [k.cv] (fun v => v = .bool true) := by
 refine FW Tryz.func37 ?_
 refine R0 ?_
 refine R0 ?_
 refine aD (RT Tryz.results37 ?_)
 exact aC [] (.bool true) rfl rfl


theorem mH (r : Rt) (hr : rSz r) : aV Tryz.prog 10 [r.cv] (fun v => v = .bool (bJ r)) := by
 refine FW Tryz.func10 ?_
 refine R0 ?_
 refine aB fun K hK => ?_
 refine aB fun K hK => Rg ?_
 iterate 2 refine S0 ?_
 refine HS fun K' hK' => T5 ?_
 refine C2 (jN 1 r.v) ?_
 rintro u rfl
 refine AX (hK' _ _ ?_)
 iterate 2 refine S0 ?_
 refine aE 6 rfl (fun h1_6 => ?_) (fun h1_6 => ?_)
 ·
  have F := h1_6
  iterate 2 refine SF ?_
  refine aZ (g := some (8, false)) rfl rfl fun K' hK' => T6 ?_
  refine C2 (jN 0 r.e) ?_
  rintro u rfl
  refine AX (hK' _ _ ?_)
  iterate 3 refine SF ?_
  refine aE 11 rfl (fun h1_11 => ?_) (fun h1_11 => ?_)
  ·
   have F := aI h1_6 h1_11
   iterate 2 refine SF ?_
   refine aZ (g := some (14, false)) rfl rfl fun K' hK' => T6 ?_
   refine C1 (bA2 r.q hr.1.1 hr.1.2) ?_
   rintro u rfl
   refine AX (hK' _ _ ?_)
   iterate 3 refine SF ?_
   refine aE 17 rfl (fun h1_17 => ?_) (fun h1_17 => ?_)
   ·
    have F := aI h1_6 (aI h1_11 h1_17)
    iterate 2 refine SF ?_
    refine aZ (g := some (20, false)) rfl rfl fun K' hK' => T6 ?_
    refine C1 (bR8 aO9 r.k hr.2.1.1 hr.2.1.2) ?_
    rintro u rfl
    refine AX (hK' _ _ ?_)
    iterate 3 refine SF ?_
    refine aE 23 rfl (fun h1_23 => ?_) (fun h1_23 => ?_)
    ·
     have F := aI h1_6 (aI h1_11 (aI h1_17 h1_23))
     iterate 2 refine SF ?_
     refine aZ (g := some (26, false)) rfl rfl fun K' hK' => T6 ?_
     refine C1 (vE r.x hr.2.2) ?_
     rintro u rfl
     refine AX (hK' _ _ ?_)
     iterate 2 refine SF ?_
     refine aE 29 rfl (fun h1_29 => ?_) (fun h1_29 => ?_)
     ·
      simp only [h1_29]
      refine T2 (hK _ _ _ ?_)
      clear hK K
      refine CF rfl ?_
      refine aG ?_
      refine T0 (hK _ _ _ ?_)
      clear hK K
      refine aB fun K hK => Rg ?_
      have F := aI h1_6 (aI h1_11 (aI h1_17 (aI h1_23 h1_29)))
      refine SF ?_
      refine HS fun K' hK' => T6 ?_
      refine C2 (aS5 r fE hr.1.1) ?_
      rintro u rfl
      refine AX (hK' _ _ ?_)
      refine SF ?_
      refine T2 (hK _ _ _ ?_)
      clear hK K
      refine aB fun K hK => Rg ?_
      iterate 3 refine SF ?_
      refine aE 35 rfl (fun h4_35 => ?_) (fun h4_35 => ?_)
      ·
       have F := aI h1_6 (aI h1_11 (aI h1_17 (aI h1_23 (aI h1_29 h4_35))))
       refine SF ?_
       refine aZ (g := some (36, true)) rfl rfl fun K' hK' => T6 ?_
       refine tD (aW0 (vF r fE 37 [] (fun _ => true) hr fun k _ => bY9 k)) (by simp [HV.menL, HV.men]) (fun m => by simp [HV.renL, HV.ren]) ⟨rfl, rfl, rfl, rfl⟩ ?_
       rintro u rfl
       refine AX (hK' _ _ ?_)
       iterate 5 refine SF ?_
       refine aE 41 rfl (fun h4_41 => ?_) (fun h4_41 => ?_)
       ·
        simp only [h4_41]
        refine T2 (hK _ _ _ ?_)
        clear hK K
        refine aD (RT Tryz.results10 ?_)
        exact aC [] (.bool true) rfl (by simp only [eF, h1_6, h1_11, h1_17, h1_23, h1_29, h4_35, h4_41, Bool.and_true, Bool.true_and])
       simp only [h4_41]
       refine T2 (hK _ _ _ ?_)
       clear hK K
       refine aD (RT Tryz.results10 ?_)
       exact aC [] (.bool false) rfl (by simp only [eF, h1_6, h1_11, h1_17, h1_23, h1_29, h4_35, h4_41, Bool.and_true, Bool.and_false, Bool.true_and, Bool.false_and])
      have F := aI h1_6 (aI h1_11 (aI h1_17 (aI h1_23 (aI h1_29 h4_35))))
      iterate 7 refine SF ?_
      refine T2 (hK _ _ _ ?_)
      clear hK K
      refine aD (RT Tryz.results10 ?_)
      exact aC [] (.bool false) rfl (by simp only [eF, h1_6, h1_11, h1_17, h1_23, h1_29, h4_35, Bool.and_true, Bool.and_false, Bool.true_and, Bool.false_and])
     simp only [h1_29]
     refine T2 (hK _ _ _ ?_)
     clear hK K
     refine CT rfl ?_
     refine R0 ?_
     refine aD (RT Tryz.results10 ?_)
     exact aC [] (.bool false) rfl (by simp only [eF, h1_6, h1_11, h1_17, h1_23, h1_29, Bool.and_true, Bool.and_false, Bool.true_and, Bool.false_and])
    have F := aI h1_6 (aI h1_11 (aI h1_17 h1_23))
    iterate 5 refine SF ?_
    refine T2 (hK _ _ _ ?_)
    clear hK K
    refine CT rfl ?_
    refine R0 ?_
    refine aD (RT Tryz.results10 ?_)
    exact aC [] (.bool false) rfl (by simp only [eF, h1_6, h1_11, h1_17, h1_23, Bool.and_true, Bool.and_false, Bool.true_and, Bool.false_and])
   have F := aI h1_6 (aI h1_11 h1_17)
   iterate 11 refine SF ?_
   refine T2 (hK _ _ _ ?_)
   clear hK K
   refine CT rfl ?_
   refine R0 ?_
   refine aD (RT Tryz.results10 ?_)
   exact aC [] (.bool false) rfl (by simp only [eF, h1_6, h1_11, h1_17, Bool.and_true, Bool.and_false, Bool.true_and, Bool.false_and])
  have F := aI h1_6 h1_11
  iterate 17 refine SF ?_
  refine T2 (hK _ _ _ ?_)
  clear hK K
  refine CT rfl ?_
  refine R0 ?_
  refine aD (RT Tryz.results10 ?_)
  exact aC [] (.bool false) rfl (by simp only [eF, h1_6, h1_11, Bool.and_true, Bool.and_false, Bool.true_and, Bool.false_and])
 have F := h1_6
 iterate 23 refine SF ?_
 refine T2 (hK _ _ _ ?_)
 clear hK K
 refine CT rfl ?_
 refine R0 ?_
 refine aD (RT Tryz.results10 ?_)
 exact aC [] (.bool false) rfl (by simp only [eF, h1_6, Bool.and_true, Bool.and_false, Bool.true_and, Bool.false_and])


theorem aI7 (r : Rt) (w : aK) (hr : rSz r) : aV Tryz.prog 45 [r.cv, .str w] (fun v => v = .int .i64 (oP r w)) := by
 refine FW Tryz.func45 ?_
 refine R0 ?_
 refine aB fun K hK => ?_
 refine aB fun K hK => Rg ?_
 refine S0 ?_
 refine HS fun K' hK' => T5 ?_
 refine C1 (mH r hr) ?_
 rintro u rfl
 refine AX (hK' _ _ ?_)
 refine S0 ?_
 refine T2 (hK _ _ _ ?_)
 clear hK K
 refine aJ (b := !bJ r) rfl (fun hb => ?_) (fun hb => ?_)
 ·
  refine R0 ?_
  refine aD (RT Tryz.results45 ?_)
  exact aC [] (.int .i64 0) rfl (by unfold oP; rw [if_neg (by simpa using hb)])
 refine aG ?_
 refine T0 (hK _ _ _ ?_)
 clear hK K
 refine aB fun K hK => Rg ?_
 iterate 2 refine S0 ?_
 refine HS fun K' hK' => T5 ?_
 refine C2 (aS5 r w hr.1.1) ?_
 rintro u rfl
 refine AX (hK' _ _ ?_)
 refine S0 ?_
 refine T2 (hK _ _ _ ?_)
 clear hK K
 refine aD (RT Tryz.results45 ?_)
 exact aC [] (.int .i64 _) rfl (by unfold oP; rw [if_pos (by simpa using hb)])


theorem aP2 (r : Rt) (role : aK) (l : List Dig) (t : Int) (hr : rSz r) (hl : l.length < 2 ^ 40) : aV Tryz.prog 90 [r.cv, .str role, .slc (l.map dg), .int .i64 t] (fun v => v = .slc ((fP r role l t).map .str)) := by
 refine FW Tryz.func90 ?_
 refine aB fun K hK => Rg ?_
 iterate 4 refine S0 ?_
 refine T2 (hK _ _ _ ?_)
 clear hK K
 refine aB fun K hK => ?_
 refine aB fun K hK => Rg ?_
 refine S0 ?_
 refine HS fun K' hK' => T5 ?_
 refine C1 (mH r hr) ?_
 rintro u rfl
 refine AX (hK' _ _ ?_)
 refine S0 ?_
 refine T2 (hK _ _ _ ?_)
 clear hK K
 refine aJ (b := !bJ r) rfl (fun hb => ?_) (fun hb => ?_)
 ·
  refine R0 ?_
  refine aD (RT Tryz.results90 ?_)
  exact aC [] (.slc []) rfl (by unfold fP; rw [if_neg (by simpa using hb)]; rfl)
 refine aG ?_
 refine T0 (hK _ _ _ ?_)
 clear hK K
 refine eI 4 0 rfl rfl ?_
 refine eI 6 4 rfl rfl ?_
 refine eI 7 8 rfl rfl ?_
 refine aB fun K hK => Rg ?_
 iterate 3 refine S0 ?_
 refine HS fun K' hK' => T5 ?_
 refine tD (vF r role 121 [.rp (.slc (l.map dg)), .rp r.cv, .rp (.int .i64 t)] (fun k => l.contains (kid k) && oO r k t) hr fun k _ => bS4 r l t hr hl k) (by simp [HV.menL, HV.men]) (fun m => by simp [HV.renL, HV.ren]) ⟨rfl, rfl, rfl, rfl⟩ ?_
 rintro u rfl
 refine AX (hK' _ _ ?_)
 refine S0 ?_
 refine T2 (hK _ _ _ ?_)
 clear hK K
 refine aD (RT Tryz.results90 ?_)
 refine aC [] (.slc ((rP r.k role fun k => l.contains (kid k) && oO r k t).map .str)) ?_ (by unfold fP; rw [if_pos (by simpa using hb)])
 exact eA (by simp only [CV.denil, denilL_str])


theorem qL (r : Rt) (role : aK) (l : List Dig) (t : Int) (hr : rSz r) (hl : l.length < 2 ^ 40) : aV Tryz.prog 46 [r.cv, .str role, .slc (l.map dg), .int .i64 t] (fun v => v = .bool (gY r role l t)) := by
 refine FW Tryz.func46 ?_
 refine R0 ?_
 refine aB fun K hK => Rg ?_
 iterate 2 refine S0 ?_
 refine HS fun K' hK' => T5 ?_
 refine C2 (aI7 r role hr) ?_
 rintro u rfl
 refine AX (hK' _ _ ?_)
 refine S0 ?_
 refine T2 (hK _ _ _ ?_)
 clear hK K
 refine aB fun K hK => Rg ?_
 have F := @denilL_dg
 iterate 3 refine SF ?_
 refine aE 14 rfl (fun h2_14 => ?_) (fun h2_14 => ?_)
 ·
  have F := aI @denilL_dg h2_14
  iterate 5 refine SF ?_
  refine aZ (g := some (15, true)) rfl rfl fun K' hK' => T6 ?_
  refine C4 (aP2 r role l t hr hl) ?_
  rintro u rfl
  refine AX (hK' _ _ ?_)
  iterate 4 refine SF ?_
  refine aE 23 rfl (fun h2_23 => ?_) (fun h2_23 => ?_)
  ·
   simp only [h2_23]
   refine T2 (hK _ _ _ ?_)
   clear hK K
   refine aD (RT Tryz.results46 ?_)
   exact aC [] (.bool true) rfl (by simp only [gY, h2_14, h2_23, Bool.and_true, Bool.and_false, Bool.true_and, Bool.false_and])
  simp only [h2_23]
  refine T2 (hK _ _ _ ?_)
  clear hK K
  refine aD (RT Tryz.results46 ?_)
  exact aC [] (.bool false) rfl (by simp only [gY, h2_14, h2_23, Bool.and_true, Bool.and_false, Bool.true_and, Bool.false_and])
 have F := aI @denilL_dg h2_14
 iterate 10 refine SF ?_
 refine T2 (hK _ _ _ ?_)
 clear hK K
 refine aD (RT Tryz.results46 ?_)
 exact aC [] (.bool false) rfl (by simp only [gY, h2_14, Bool.and_true, Bool.and_false, Bool.true_and, Bool.false_and])

end Go.Proofs.YtenbfeemmpjdhaaGreatDoor

namespace Go.Proofs.YtenbfeemmpjdhaaGreatDoor
open Go Go.Hl Go.Pl
set_option maxRecDepth 10000
set_option maxHeartbeats 8000000

theorem aP3 (r : Rt) (role : aK) (hr : rSz r) : aV Tryz.prog 44 [r.cv, .str role] (fun v => v = .slc ((rP r.k role fun _ => true).map .str)) := by
 have hlk : r.k.length < 2 ^ 40 := hr.2.1.1
 refine FW Tryz.func44 ?_
 refine R0 ?_
 refine R0 ?_
 refine aB fun K hK => ?_
 refine R0 ?_
 refine aH ?_
 refine bT [] ?_
 refine aS (α := {i : Nat // i ≤ r.k.length}) (fun i => (fin [(1, .c (.str role)), (2, .ptr 0 0), (5, .c (.slc ((lQ (fU (r.k.take i.1) role fun _ => true)).map .str))), (6, .c (.int .i64 i.1))], fob [(0, .box 26 (.c r.cv))])) 100 (fun i => r.k.length - i.1) ⟨0, by omega⟩ (aP (by omega) (by simp [aX, cB, fin_at, finA_at, upd_at, fob_at, HV.close, CV.denil, denilL_str, HV.men, HV.menL, HV.norm, HV.toC, HV.toCL, fU, lQ]) (by simp [bB, cC, fob_at, upd_at, none0_at, bU, HO.close, HV.close, HO.men, HV.men, HV.menL, HV.norm, HV.toC, HV.toCL, Rt.denil])) ?_
 rintro ⟨i, hi⟩
 have hof := tX (r.k.take i) role fun _ => true
 have hti : (r.k.take i).length = i := by simp; omega
 have hsl := bE8 (fU (r.k.take i) role fun _ => true)
 refine aB fun K hK => ?_
 refine aB fun K hK => Rg ?_
 iterate 5 refine S0 ?_
 refine T2 (hK _ _ _ ?_)
 clear hK K
 refine aJ (b := decide ((i : Int) < r.k.length)) rfl (fun hb => ?_) (fun hb => ?_)
 ·
  have hlt : i < r.k.length := by simpa using hb
  have hk := hr.2.1.2 _ (List.getElem_mem hlt)
  refine aG ?_
  refine T0 (hK _ _ _ ?_)
  clear hK K
  refine aB fun K hK => ?_
  have key : ∀ (m : List aK) fr ob nx, m = lQ (fU (r.k.take (i + 1)) role fun _ => true) → Fits 0 fr ob (fin [(1, .c (.str role)), (2, .ptr 0 0), (5, .c (.slc (m.map .str))), (6, .c (.int .i64 i))]) (fob [(0, .box 26 (.c r.cv))]) 500 → K fr ob nx := by
   rintro m fr ob nx rfl hf
   refine hK _ _ _ (bE hf ?_)
   clear hf hK K
   refine aM (by kernel_rfl) ?_
   refine TQ (bK i) ?_
   refine ⟨⟨i + 1, hlt⟩, fF, ?_⟩
   show r.k.length - (i + 1) < r.k.length - i
   omega
  refine aH ?_
  refine aB fun K hK => Rg ?_
  have F := aI @Int.natCast_nonneg (aI @Int.ofNat_lt (aI hlt (nM hlt)))
  iterate 7 refine SF ?_
  refine HS fun K' hK' => T6 ?_
  refine C2 (aN5 r.k[i].rs role (by have := hk.2.1; omega)) ?_
  rintro u rfl
  refine AX (hK' _ _ ?_)
  refine T2 (hK _ _ _ ?_)
  clear hK K
  refine aJ (b := r.k[i].rs.contains role) rfl (fun hb => ?_) (fun hb => ?_)
  ·
   refine Rg ?_
   iterate 7 refine SF ?_
   refine HS fun K' hK' => T6 ?_
   refine C2 (bG9 (lQ (fU (r.k.take i) role fun _ => true)) r.k[i].o (by omega)) ?_
   rintro u rfl
   refine AX (hK' _ _ ?_)
   refine SF ?_
   refine T4 ?_
   exact key (kV (lQ (fU (r.k.take i) role fun _ => true)) r.k[i].o) _ _ _ (by rw [jL hlt, hb]; simp only [Bool.and_true, if_true]; rw [aW1]) (fF)
  refine aG (T3 ?_)
  exact key (lQ (fU (r.k.take i) role fun _ => true)) _ _ _ (by rw [jL hlt, hb]; simp) (fF)
 refine aR (T3 ?_)
 clear hK K
 refine AX (hK _ _ _ ?_)
 clear hK K
 refine R0 ?_
 refine aD (RT Tryz.results44 ?_)
 have hei : i = r.k.length := by simp at hb; omega
 subst hei
 rw [List.take_length]
 exact aC [] (.slc ((rP r.k role fun _ => true).map .str)) (eA (by simp only [CV.denil, denilL_str])) rfl


theorem gP (r : Rt) (hr : rSz r) : aV Tryz.prog 11 [r.cv] (fun v => v = .bool (bJ r)) := by
 have hlq : r.q.length < 2 ^ 40 := hr.1.1
 have hlk : r.k.length < 2 ^ 40 := hr.2.1.1
 have hlx : r.x.length < 2 ^ 40 := hr.2.2
 refine FW Tryz.func11 ?_
 refine R0 ?_
 refine aB fun K hK => ?_
 refine aB fun K hK => Rg ?_
 iterate 4 refine S0 ?_
 refine aE 10 rfl (fun h1_10 => ?_) (fun h1_10 => ?_)
 ·
  have F := h1_10
  iterate 28 refine SF ?_
  refine T2 (hK _ _ _ ?_)
  clear hK K
  refine CT rfl ?_
  refine R0 ?_
  refine aD (RT Tryz.results11 ?_)
  exact aC [] (.bool false) rfl (by simp only [cG, fH, gM, gN, h1_10, Bool.not_true, Bool.not_false, Bool.and_true, Bool.and_false, Bool.true_and, Bool.false_and])
 have F := h1_10
 iterate 5 refine SF ?_
 refine aE 14 rfl (fun h1_14 => ?_) (fun h1_14 => ?_)
 ·
  have F := aI h1_10 h1_14
  iterate 23 refine SF ?_
  refine T2 (hK _ _ _ ?_)
  clear hK K
  refine CT rfl ?_
  refine R0 ?_
  refine aD (RT Tryz.results11 ?_)
  exact aC [] (.bool false) rfl (by simp only [cG, fH, gM, gN, h1_10, h1_14, Bool.not_true, Bool.not_false, Bool.and_true, Bool.and_false, Bool.true_and, Bool.false_and])
 have F := aI h1_10 h1_14
 iterate 2 refine SF ?_
 refine aZ (g := some (16, false)) rfl rfl fun K' hK' => T6 ?_
 refine C1 (uL r.e) ?_
 rintro u rfl
 refine AX (hK' _ _ ?_)
 iterate 3 refine SF ?_
 refine aE 19 rfl (fun h1_19 => ?_) (fun h1_19 => ?_)
 ·
  have F := aI h1_10 (aI h1_14 h1_19)
  iterate 6 refine SF ?_
  refine aE 26 rfl (fun h1_26 => ?_) (fun h1_26 => ?_)
  ·
   have F := aI h1_10 (aI h1_14 (aI h1_19 h1_26))
   iterate 11 refine SF ?_
   refine T2 (hK _ _ _ ?_)
   clear hK K
   refine CT rfl ?_
   refine R0 ?_
   refine aD (RT Tryz.results11 ?_)
   exact aC [] (.bool false) rfl (by simp only [cG, fH, gM, gN, h1_10, h1_14, h1_19, h1_26, Bool.not_true, Bool.not_false, Bool.and_true, Bool.and_false, Bool.true_and, Bool.false_and])
  have F := aI h1_10 (aI h1_14 (aI h1_19 h1_26))
  iterate 6 refine SF ?_
  refine aE 32 rfl (fun h1_32 => ?_) (fun h1_32 => ?_)
  ·
   have F := aI h1_10 (aI h1_14 (aI h1_19 (aI h1_26 h1_32)))
   iterate 5 refine SF ?_
   refine T2 (hK _ _ _ ?_)
   clear hK K
   refine CT rfl ?_
   refine R0 ?_
   refine aD (RT Tryz.results11 ?_)
   exact aC [] (.bool false) rfl (by simp only [cG, fH, gM, gN, h1_10, h1_14, h1_19, h1_26, h1_32, Bool.not_true, Bool.not_false, Bool.and_true, Bool.and_false, Bool.true_and, Bool.false_and])
  have F := aI h1_10 (aI h1_14 (aI h1_19 (aI h1_26 h1_32)))
  iterate 5 refine SF ?_
  refine aE 38 rfl (fun h1_38 => ?_) (fun h1_38 => ?_)
  ·
   simp only [h1_38]
   refine T2 (hK _ _ _ ?_)
   clear hK K
   refine CT rfl ?_
   refine R0 ?_
   refine aD (RT Tryz.results11 ?_)
   exact aC [] (.bool false) rfl (by simp only [cG, fH, gM, gN, h1_10, h1_14, h1_19, h1_26, h1_32, h1_38, Bool.not_true, Bool.not_false, Bool.and_true, Bool.and_false, Bool.true_and, Bool.false_and])
  simp only [h1_38]
  refine T2 (hK _ _ _ ?_)
  clear hK K
  refine CF rfl ?_
  refine aG ?_
  refine T0 (hK _ _ _ ?_)
  clear hK K
  refine aB fun K hK => ?_
  refine R0 ?_
  refine aH ?_
  refine aS (α := {i : Nat // i ≤ r.q.length ∧ GoodTo kL (fun a b => slt a.r b.r) r.q i}) (fun i => (fin [(1, .ptr 0 0), (3, .c (.int .i64 i.1))], fob [(0, .box 26 (.c r.cv))])) 200 (fun i => r.q.length - i.1) ⟨0, by omega, GoodTo.zero⟩ (fF) ?_
  rintro ⟨i, hi, h0⟩
  refine aB fun K hK => ?_
  refine aB fun K hK => Rg ?_
  have F := aI h1_10 (aI h1_14 (aI h1_19 (aI h1_26 (aI h1_32 h1_38))))
  iterate 5 refine SF ?_
  refine T2 (hK _ _ _ ?_)
  clear hK K
  refine aJ (b := decide ((i : Int) < r.q.length)) rfl (fun hb => ?_) (fun hb => ?_)
  ·
   have hlt : i < r.q.length := by simpa using hb
   have hi1 : i - 1 < r.q.length := by omega
   have hm : decide ((0 : Int) < (i : Int)) = true → IntKind.i64.wrap ((i : Int) - 1) = ((i - 1 : Nat) : Int) := fun h => by
    have : 0 < i := by simpa using h
    rw [IntWalk.i64_in _ (by omega)]; omega
   refine aG ?_
   refine T0 (hK _ _ _ ?_)
   clear hK K
   refine aB fun K hK => ?_
   refine aH ?_
   refine aB fun K hK => Rg ?_
   have F := aI @Int.natCast_nonneg (aI @Int.ofNat_lt (aI hlt (aI (nM hlt) (aI h1_10 (aI h1_14 (aI h1_19 (aI h1_26 (aI h1_32 h1_38))))))))
   iterate 7 refine SF ?_
   refine T2 (hK _ _ _ ?_)
   clear hK K
   refine aB fun K hK => DW [(0, [], []), (1, [], []), (2, [], []), (3, [], []), (4, [], []), (5, [], []), (6, [], []), (7, [], []), (8, [], []), (9, [], []), (10, [], []), (11, [], []), (12, [], []), (13, [], []), (14, [], []), (15, [], []), (16, [], []), (17, [], []), (18, [], []), (19, [], []), (20, [], []), (21, [], []), (22, [], []), (23, [], []), (24, [], []), (25, [], []), (26, [], []), (27, [], []), (28, [], []), (29, [], [])] [0, 1, 3, 7, 15, 31, 63, 127, 255, 511, 1023, 2047, 4095, 8191, 16383, 32767, 65535, 131071, 262143, 524287, 262143, 1310719, 4194303, 8388607, 16777215, 262143, 33816575, 134217727, 268435455, 536870911] ?_
   have F := aI hm (aI @Int.natCast_nonneg (aI @Int.ofNat_lt (aI hi1 (aI (nM hi1) (aI h1_10 (aI h1_14 (aI h1_19 (aI h1_26 (aI h1_32 h1_38)))))))))
   iterate 2 refine WF ?_
   refine aN (g := none) rfl rfl fun K' hK' => T6 ?_
   refine C1 (vD r.q[i].r (hr.1.2 _ (List.getElem_mem hlt))) ?_
   rintro u rfl
   refine AX (hK' _ _ ?_)
   iterate 2 refine WF ?_
   refine bD 54 rfl (fun h7_54 => ?_) (fun h7_54 => ?_)
   ·
    have F := aI hm (aI @Int.natCast_nonneg (aI @Int.ofNat_lt (aI hi1 (aI (nM hi1) (aI h1_10 (aI h1_14 (aI h1_19 (aI h1_26 (aI h1_32 (aI h1_38 h7_54))))))))))
    iterate 5 refine WF ?_
    refine bD 59 rfl (fun h7_59 => ?_) (fun h7_59 => ?_)
    ·
     have F := aI hm (aI @Int.natCast_nonneg (aI @Int.ofNat_lt (aI hi1 (aI (nM hi1) (aI h1_10 (aI h1_14 (aI h1_19 (aI h1_26 (aI h1_32 (aI h1_38 (aI h7_54 h7_59)))))))))))
     iterate 20 refine WF ?_
     refine T2 (hK _ _ _ ?_)
     clear hK K
     refine CT rfl ?_
     refine R0 ?_
     refine aD (RT Tryz.results11 ?_)
     have hbad : dZ r.q = false := by rw [dB, cV hlt (by simp only [cY, h1_10, h1_14, h1_19, h1_26, h1_32, h1_38, h7_54, h7_59, Bool.not_true, Bool.not_false, Bool.false_and, Bool.and_false]), Bool.false_and]
     exact aC [] (.bool false) rfl (by simp only [cG, hbad, Bool.and_false, Bool.false_and])
    have F := aI hm (aI @Int.natCast_nonneg (aI @Int.ofNat_lt (aI hi1 (aI (nM hi1) (aI h1_10 (aI h1_14 (aI h1_19 (aI h1_26 (aI h1_32 (aI h1_38 (aI h7_54 h7_59)))))))))))
    iterate 5 refine WF ?_
    refine bD 64 rfl (fun h7_64 => ?_) (fun h7_64 => ?_)
    ·
     have F := aI hm (aI @Int.natCast_nonneg (aI @Int.ofNat_lt (aI hi1 (aI (nM hi1) (aI h1_10 (aI h1_14 (aI h1_19 (aI h1_26 (aI h1_32 (aI h1_38 (aI h7_54 (aI h7_59 h7_64))))))))))))
     iterate 15 refine WF ?_
     refine T2 (hK _ _ _ ?_)
     clear hK K
     refine CT rfl ?_
     refine R0 ?_
     refine aD (RT Tryz.results11 ?_)
     have hbad : dZ r.q = false := by rw [dB, cV hlt (by simp only [cY, h1_10, h1_14, h1_19, h1_26, h1_32, h1_38, h7_54, h7_59, h7_64, Bool.not_true, Bool.not_false, Bool.false_and, Bool.and_false]), Bool.false_and]
     exact aC [] (.bool false) rfl (by simp only [cG, hbad, Bool.and_false, Bool.false_and])
    have F := aI hm (aI @Int.natCast_nonneg (aI @Int.ofNat_lt (aI hi1 (aI (nM hi1) (aI h1_10 (aI h1_14 (aI h1_19 (aI h1_26 (aI h1_32 (aI h1_38 (aI h7_54 (aI h7_59 h7_64))))))))))))
    iterate 3 refine WF ?_
    refine bD 68 rfl (fun h7_68 => ?_) (fun h7_68 => ?_)
    ·
     have F := aI hm (aI @Int.natCast_nonneg (aI @Int.ofNat_lt (aI hi1 (aI (nM hi1) (aI h1_10 (aI h1_14 (aI h1_19 (aI h1_26 (aI h1_32 (aI h1_38 (aI h7_54 (aI h7_59 (aI h7_64 h7_68)))))))))))))
     iterate 12 refine WF ?_
     refine bD 79 rfl (fun h7_79 => ?_) (fun h7_79 => ?_)
     ·
      simp only [h7_79]
      refine T2 (hK _ _ _ ?_)
      clear hK K
      refine CT rfl ?_
      refine R0 ?_
      refine aD (RT Tryz.results11 ?_)
      obtain ⟨j, rfl⟩ : ∃ j, i = j + 1 := ⟨i - 1, by simp at h7_68; omega⟩
      have hbad : dZ r.q = false := by rw [dB, kP (i := j) hlt (by simpa using h7_79), Bool.false_and]
      exact aC [] (.bool false) rfl (by simp only [cG, hbad, Bool.and_false, Bool.false_and])
     simp only [h7_79]
     refine T2 (hK _ _ _ ?_)
     clear hK K
     refine CF rfl ?_
     refine aG ?_
     refine T0 (hK _ _ _ ?_)
     clear hK K
     refine aM (by kernel_rfl) ?_
     refine TQ (bK i) ?_
     obtain ⟨j, rfl⟩ : ∃ j, i = j + 1 := ⟨i - 1, by simp at h7_68; omega⟩
     refine ⟨⟨j + 1 + 1, hlt, h0.succ hlt (by simp only [cY, h1_10, h1_14, h1_19, h1_26, h1_32, h1_38, h7_54, h7_59, h7_64, h7_68, h7_79]; rfl) (by simpa using h7_79)⟩, fF, ?_⟩
     show r.q.length - (j + 1 + 1) < r.q.length - (j + 1)
     omega
    have F := aI hm (aI @Int.natCast_nonneg (aI @Int.ofNat_lt (aI hi1 (aI (nM hi1) (aI h1_10 (aI h1_14 (aI h1_19 (aI h1_26 (aI h1_32 (aI h1_38 (aI h7_54 (aI h7_59 (aI h7_64 h7_68)))))))))))))
    iterate 12 refine WF ?_
    refine T2 (hK _ _ _ ?_)
    clear hK K
    refine CF rfl ?_
    refine aG ?_
    refine T0 (hK _ _ _ ?_)
    clear hK K
    refine aM (by kernel_rfl) ?_
    refine TQ (bK i) ?_
    obtain rfl : i = 0 := by simp at h7_68; omega
    refine ⟨⟨1, hlt, GoodTo.one hlt (by simp only [cY, h1_10, h1_14, h1_19, h1_26, h1_32, h1_38, h7_54, h7_59, h7_64, h7_68]; rfl)⟩, fF, ?_⟩
    show r.q.length - 1 < r.q.length - 0
    omega
   have F := aI hm (aI @Int.natCast_nonneg (aI @Int.ofNat_lt (aI hi1 (aI (nM hi1) (aI h1_10 (aI h1_14 (aI h1_19 (aI h1_26 (aI h1_32 (aI h1_38 h7_54))))))))))
   iterate 25 refine WF ?_
   refine T2 (hK _ _ _ ?_)
   clear hK K
   refine CT rfl ?_
   refine R0 ?_
   refine aD (RT Tryz.results11 ?_)
   have hbad : dZ r.q = false := by rw [dB, cV hlt (by simp only [cY, h1_10, h1_14, h1_19, h1_26, h1_32, h1_38, h7_54, Bool.not_true, Bool.not_false, Bool.false_and, Bool.and_false]), Bool.false_and]
   exact aC [] (.bool false) rfl (by simp only [cG, hbad, Bool.and_false, Bool.false_and])
  refine aR (T3 ?_)
  clear hK K
  refine AX (hK _ _ _ ?_)
  clear hK K
  refine aB fun K hK => ?_
  refine R0 ?_
  refine aH ?_
  have hei : i = r.q.length := by simp at hb; omega
  subst hei
  have hq := aL4 h1_26 h0
  clear hb h0 hi
  refine aS (α := {i : Nat // i ≤ r.k.length ∧ GoodTo tL (fun a b => dlt (kid a) (kid b)) r.k i}) (fun i => (fin [(1, .ptr 0 0), (5, .c (.int .i64 i.1))], fob [(0, .box 26 (.c r.cv))])) 300 (fun i => r.k.length - i.1) ⟨0, by omega, GoodTo.zero⟩ (fF) ?_
  rintro ⟨i, hi, h0⟩
  refine aB fun K hK => ?_
  refine aB fun K hK => Rg ?_
  iterate 5 refine SF ?_
  refine T2 (hK _ _ _ ?_)
  clear hK K
  refine aJ (b := decide ((i : Int) < r.k.length)) rfl (fun hb => ?_) (fun hb => ?_)
  ·
   have hlt : i < r.k.length := by simpa using hb
   have hk := hr.2.1.2 _ (List.getElem_mem hlt)
   have hi1 : i - 1 < r.k.length := by omega
   have hm : decide ((0 : Int) < (i : Int)) = true → IntKind.i64.wrap ((i : Int) - 1) = ((i - 1 : Nat) : Int) := fun h => by
    have : 0 < i := by simpa using h
    rw [IntWalk.i64_in _ (by omega)]; omega
   refine aG ?_
   refine T0 (hK _ _ _ ?_)
   clear hK K
   refine aB fun K hK => ?_
   refine aH ?_
   refine aB fun K hK => DW [(0, [], []), (1, [], []), (2, [], []), (3, [], []), (4, [], []), (5, [], []), (6, [], []), (7, [], []), (8, [], []), (9, [], []), (10, [], []), (11, [], []), (12, [], []), (13, [], []), (14, [], []), (15, [], []), (16, [], []), (17, [], []), (19, [], []), (20, [], []), (21, [], []), (22, [], []), (23, [], []), (24, [], []), (18, [], [19, 20, 21, 22, 23, 24]), (25, [], []), (26, [], []), (27, [], []), (28, [], []), (29, [], [])] [0, 1, 0, 7, 15, 31, 63, 127, 255, 511, 1023, 2047, 4095, 2047, 10239, 32767, 65535, 131071, 262143, 2047, 526335, 2047, 3672063, 7866367, 16254975, 33554431, 67108863, 134217727, 268435455, 536870911] ?_
   have F := aI hm (aI @Int.natCast_nonneg (aI @Int.ofNat_lt (aI hlt (aI (nM hlt) (aI hi1 (aI (nM hi1) (aI h1_10 (aI h1_14 (aI h1_19 (aI h1_26 (aI h1_32 h1_38)))))))))))
   iterate 5 refine WF ?_
   refine aN (g := none) rfl rfl fun K' hK' => T6 ?_
   refine C1 (bR7 r.k[i] hk) ?_
   rintro u rfl
   refine AX (hK' _ _ ?_)
   iterate 2 refine WF ?_
   refine bD 94 rfl (fun h12_94 => ?_) (fun h12_94 => ?_)
   ·
    have F := aI hm (aI @Int.natCast_nonneg (aI @Int.ofNat_lt (aI hlt (aI (nM hlt) (aI hi1 (aI (nM hi1) (aI h1_10 (aI h1_14 (aI h1_19 (aI h1_26 (aI h1_32 (aI h1_38 h12_94))))))))))))
    iterate 3 refine WF ?_
    refine bD 98 rfl (fun h12_98 => ?_) (fun h12_98 => ?_)
    ·
     have F := aI hm (aI @Int.natCast_nonneg (aI @Int.ofNat_lt (aI hlt (aI (nM hlt) (aI hi1 (aI (nM hi1) (aI h1_10 (aI h1_14 (aI h1_19 (aI h1_26 (aI h1_32 (aI h1_38 (aI h12_94 h12_98)))))))))))))
     iterate 13 refine WF ?_
     refine aN (g := some (99, true)) rfl rfl fun K' hK' => T6 ?_
     refine C1 (qK r.k[i - 1].p) ?_
     rintro u rfl
     refine AX (hK' _ _ ?_)
     refine aN (g := some (99, true)) rfl rfl fun K' hK' => T6 ?_
     refine C1 (qK r.k[i].p) ?_
     rintro u rfl
     refine AX (hK' _ _ ?_)
     refine aN (g := some (99, true)) rfl rfl fun K' hK' => T6 ?_
     refine C2 (pE (pid r.k[i - 1].p) (pid r.k[i].p)) ?_
     rintro u rfl
     refine AX (hK' _ _ ?_)
     iterate 3 refine WF ?_
     refine bD 115 rfl (fun h12_115 => ?_) (fun h12_115 => ?_)
     ·
      simp only [h12_115]
      refine T2 (hK _ _ _ ?_)
      clear hK K
      refine CF rfl ?_
      refine aG ?_
      refine T0 (hK _ _ _ ?_)
      clear hK K
      refine aM (by kernel_rfl) ?_
      refine TQ (bK i) ?_
      obtain ⟨j, rfl⟩ : ∃ j, i = j + 1 := ⟨i - 1, by simp at h12_98; omega⟩
      refine ⟨⟨j + 1 + 1, hlt, h0.succ hlt (h12_94) (h12_115)⟩, fF, ?_⟩
      show r.k.length - (j + 1 + 1) < r.k.length - (j + 1)
      omega
     simp only [h12_115]
     refine T2 (hK _ _ _ ?_)
     clear hK K
     refine CT rfl ?_
     refine R0 ?_
     refine aD (RT Tryz.results11 ?_)
     obtain ⟨j, rfl⟩ : ∃ j, i = j + 1 := ⟨i - 1, by simp at h12_98; omega⟩
     have hbad : gH r.k = false := by rw [dH, kP (i := j) hlt h12_115, Bool.false_and]
     exact aC [] (.bool false) rfl (by simp only [cG, hbad, Bool.and_false, Bool.false_and])
    have F := aI hm (aI @Int.natCast_nonneg (aI @Int.ofNat_lt (aI hlt (aI (nM hlt) (aI hi1 (aI (nM hi1) (aI h1_10 (aI h1_14 (aI h1_19 (aI h1_26 (aI h1_32 (aI h1_38 (aI h12_94 h12_98)))))))))))))
    iterate 19 refine WF ?_
    refine T2 (hK _ _ _ ?_)
    clear hK K
    refine CF rfl ?_
    refine aG ?_
    refine T0 (hK _ _ _ ?_)
    clear hK K
    refine aM (by kernel_rfl) ?_
    refine TQ (bK i) ?_
    obtain rfl : i = 0 := by simp at h12_98; omega
    refine ⟨⟨1, hlt, GoodTo.one hlt (h12_94)⟩, fF, ?_⟩
    show r.k.length - 1 < r.k.length - 0
    omega
   have F := aI hm (aI @Int.natCast_nonneg (aI @Int.ofNat_lt (aI hlt (aI (nM hlt) (aI hi1 (aI (nM hi1) (aI h1_10 (aI h1_14 (aI h1_19 (aI h1_26 (aI h1_32 (aI h1_38 h12_94))))))))))))
   iterate 22 refine WF ?_
   refine T2 (hK _ _ _ ?_)
   clear hK K
   refine CT rfl ?_
   refine R0 ?_
   refine aD (RT Tryz.results11 ?_)
   have hbad : gH r.k = false := by rw [dH, cV hlt h12_94, Bool.false_and]
   exact aC [] (.bool false) rfl (by simp only [cG, hbad, Bool.and_false, Bool.false_and])
  refine aR (T3 ?_)
  clear hK K
  refine AX (hK _ _ _ ?_)
  clear hK K
  refine aB fun K hK => ?_
  refine R0 ?_
  refine aH ?_
  have hei : i = r.k.length := by simp at hb; omega
  subst hei
  have hkk := bE6 h1_32 h0
  clear hb h0 hi
  refine aS (α := {i : Nat // i ≤ r.x.length ∧ GoodTo (fun x : Rv => inN x.t) (fun a b => dlt a.k b.k) r.x i}) (fun i => (fin [(1, .ptr 0 0), (6, .c (.int .i64 i.1))], fob [(0, .box 26 (.c r.cv))])) 400 (fun i => r.x.length - i.1) ⟨0, by omega, GoodTo.zero⟩ (fF) ?_
  rintro ⟨i, hi, h0⟩
  refine aB fun K hK => ?_
  refine aB fun K hK => Rg ?_
  iterate 5 refine SF ?_
  refine T2 (hK _ _ _ ?_)
  clear hK K
  refine aJ (b := decide ((i : Int) < r.x.length)) rfl (fun hb => ?_) (fun hb => ?_)
  ·
   have hlt : i < r.x.length := by simpa using hb
   have hi1 : i - 1 < r.x.length := by omega
   have hm : decide ((0 : Int) < (i : Int)) = true → IntKind.i64.wrap ((i : Int) - 1) = ((i - 1 : Nat) : Int) := fun h => by
    have : 0 < i := by simpa using h
    rw [IntWalk.i64_in _ (by omega)]; omega
   refine aG ?_
   refine T0 (hK _ _ _ ?_)
   clear hK K
   refine aB fun K hK => ?_
   refine aH ?_
   refine aB fun K hK => DW [(0, [], []), (1, [], []), (2, [], []), (3, [], []), (4, [], []), (5, [], []), (6, [], []), (7, [], []), (8, [], []), (9, [], []), (10, [], []), (11, [], []), (12, [], []), (13, [], []), (14, [], []), (15, [], []), (16, [], []), (17, [], []), (18, [], []), (19, [], []), (20, [], []), (21, [], []), (22, [], []), (23, [], []), (24, [], []), (25, [], []), (26, [], []), (27, [], []), (28, [], [])] [0, 1, 0, 7, 15, 31, 63, 127, 255, 511, 1023, 2047, 4095, 8191, 4095, 20479, 65535, 131071, 262143, 4095, 528383, 4095, 3674111, 7868415, 16257023, 33554431, 67108863, 134217727, 268435455] ?_
   have F := aI hm (aI @Int.natCast_nonneg (aI @Int.ofNat_lt (aI hlt (aI (nM hlt) (aI hi1 (aI (nM hi1) (aI h1_10 (aI h1_14 (aI h1_19 (aI h1_26 (aI h1_32 h1_38)))))))))))
   iterate 6 refine WF ?_
   refine aN (g := none) rfl rfl fun K' hK' => T6 ?_
   refine C1 (uL r.x[i].t) ?_
   rintro u rfl
   refine AX (hK' _ _ ?_)
   iterate 2 refine WF ?_
   refine bD 132 rfl (fun h17_132 => ?_) (fun h17_132 => ?_)
   ·
    have F := aI hm (aI @Int.natCast_nonneg (aI @Int.ofNat_lt (aI hlt (aI (nM hlt) (aI hi1 (aI (nM hi1) (aI h1_10 (aI h1_14 (aI h1_19 (aI h1_26 (aI h1_32 (aI h1_38 h17_132))))))))))))
    iterate 3 refine WF ?_
    refine bD 136 rfl (fun h17_136 => ?_) (fun h17_136 => ?_)
    ·
     have F := aI hm (aI @Int.natCast_nonneg (aI @Int.ofNat_lt (aI hlt (aI (nM hlt) (aI hi1 (aI (nM hi1) (aI h1_10 (aI h1_14 (aI h1_19 (aI h1_26 (aI h1_32 (aI h1_38 (aI h17_132 h17_136)))))))))))))
     iterate 13 refine WF ?_
     refine aN (g := some (137, true)) rfl rfl fun K' hK' => T6 ?_
     refine C2 (pE r.x[i - 1].k r.x[i].k) ?_
     rintro u rfl
     refine AX (hK' _ _ ?_)
     iterate 3 refine WF ?_
     refine bD 151 rfl (fun h17_151 => ?_) (fun h17_151 => ?_)
     ·
      simp only [h17_151]
      refine T2 (hK _ _ _ ?_)
      clear hK K
      refine CF rfl ?_
      refine aG ?_
      refine T0 (hK _ _ _ ?_)
      clear hK K
      refine aM (by kernel_rfl) ?_
      refine TQ (bK i) ?_
      obtain ⟨j, rfl⟩ : ∃ j, i = j + 1 := ⟨i - 1, by simp at h17_136; omega⟩
      refine ⟨⟨j + 1 + 1, hlt, h0.succ hlt (h17_132) (h17_151)⟩, fF, ?_⟩
      show r.x.length - (j + 1 + 1) < r.x.length - (j + 1)
      omega
     simp only [h17_151]
     refine T2 (hK _ _ _ ?_)
     clear hK K
     refine CT rfl ?_
     refine R0 ?_
     refine aD (RT Tryz.results11 ?_)
     obtain ⟨j, rfl⟩ : ∃ j, i = j + 1 := ⟨i - 1, by simp at h17_136; omega⟩
     have hbad : gI r.x = false := by rw [gZ, kP (i := j) hlt h17_151, Bool.false_and]
     exact aC [] (.bool false) rfl (by simp only [cG, hbad, Bool.and_false, Bool.false_and])
    have F := aI hm (aI @Int.natCast_nonneg (aI @Int.ofNat_lt (aI hlt (aI (nM hlt) (aI hi1 (aI (nM hi1) (aI h1_10 (aI h1_14 (aI h1_19 (aI h1_26 (aI h1_32 (aI h1_38 (aI h17_132 h17_136)))))))))))))
    iterate 17 refine WF ?_
    refine T2 (hK _ _ _ ?_)
    clear hK K
    refine CF rfl ?_
    refine aG ?_
    refine T0 (hK _ _ _ ?_)
    clear hK K
    refine aM (by kernel_rfl) ?_
    refine TQ (bK i) ?_
    obtain rfl : i = 0 := by simp at h17_136; omega
    refine ⟨⟨1, hlt, GoodTo.one hlt (h17_132)⟩, fF, ?_⟩
    show r.x.length - 1 < r.x.length - 0
    omega
   have F := aI hm (aI @Int.natCast_nonneg (aI @Int.ofNat_lt (aI hlt (aI (nM hlt) (aI hi1 (aI (nM hi1) (aI h1_10 (aI h1_14 (aI h1_19 (aI h1_26 (aI h1_32 (aI h1_38 h17_132))))))))))))
   iterate 20 refine WF ?_
   refine T2 (hK _ _ _ ?_)
   clear hK K
   refine CT rfl ?_
   refine R0 ?_
   refine aD (RT Tryz.results11 ?_)
   have hbad : gI r.x = false := by rw [gZ, cV hlt h17_132, Bool.false_and]
   exact aC [] (.bool false) rfl (by simp only [cG, hbad, Bool.and_false, Bool.false_and])
  refine aR (T3 ?_)
  clear hK K
  refine AX (hK _ _ _ ?_)
  clear hK K
  have hei : i = r.x.length := by simp at hb; omega
  subst hei
  have hxx := bE7 h1_38 h0
  clear hb h0 hi
  refine aB fun K hK => Rg ?_
  refine SF ?_
  refine HS fun K' hK' => T6 ?_
  refine C2 (aF8 r fE hlq) ?_
  rintro u rfl
  refine AX (hK' _ _ ?_)
  refine SF ?_
  refine T2 (hK _ _ _ ?_)
  clear hK K
  refine aB fun K hK => Rg ?_
  iterate 3 refine SF ?_
  refine aE 158 rfl (fun h20_158 => ?_) (fun h20_158 => ?_)
  ·
   have F := aI h1_10 (aI h1_14 (aI h1_19 (aI h1_26 (aI h1_32 (aI h1_38 h20_158)))))
   refine SF ?_
   refine aZ (g := some (159, true)) rfl rfl fun K' hK' => T6 ?_
   refine C2 (aP3 r fE hr) ?_
   rintro u rfl
   refine AX (hK' _ _ ?_)
   iterate 5 refine SF ?_
   refine aE 164 rfl (fun h20_164 => ?_) (fun h20_164 => ?_)
   ·
    simp only [h20_164]
    refine T2 (hK _ _ _ ?_)
    clear hK K
    refine aD (RT Tryz.results11 ?_)
    exact aC [] (.bool true) rfl (by simp only [cG, hq, hkk, hxx, h1_10, h1_14, h1_19, h1_26, h1_32, h1_38, h20_158, h20_164, Bool.not_true, Bool.not_false, Bool.and_true, Bool.and_false, Bool.true_and, Bool.false_and])
   simp only [h20_164]
   refine T2 (hK _ _ _ ?_)
   clear hK K
   refine aD (RT Tryz.results11 ?_)
   exact aC [] (.bool false) rfl (by simp only [cG, hq, hkk, hxx, h1_10, h1_14, h1_19, h1_26, h1_32, h1_38, h20_158, h20_164, Bool.not_true, Bool.not_false, Bool.and_true, Bool.and_false, Bool.true_and, Bool.false_and])
  have F := aI h1_10 (aI h1_14 (aI h1_19 (aI h1_26 (aI h1_32 (aI h1_38 h20_158)))))
  iterate 7 refine SF ?_
  refine T2 (hK _ _ _ ?_)
  clear hK K
  refine aD (RT Tryz.results11 ?_)
  exact aC [] (.bool false) rfl (by simp only [cG, hq, hkk, hxx, h1_10, h1_14, h1_19, h1_26, h1_32, h1_38, h20_158, Bool.not_true, Bool.not_false, Bool.and_true, Bool.and_false, Bool.true_and, Bool.false_and])
 have F := aI h1_10 (aI h1_14 h1_19)
 iterate 17 refine SF ?_
 refine T2 (hK _ _ _ ?_)
 clear hK K
 refine CT rfl ?_
 refine R0 ?_
 refine aD (RT Tryz.results11 ?_)
 exact aC [] (.bool false) rfl (by simp only [cG, fH, gM, gN, h1_10, h1_14, h1_19, Bool.not_true, Bool.not_false, Bool.and_true, Bool.and_false, Bool.true_and, Bool.false_and])

end Go.Proofs.YtenbfeemmpjdhaaGreatDoor

namespace Go.Hl
open Go Go.Pl

def pOb (T tq tk tx : TypeId) (x : Rt) : Ob := fob [(0, .box T (.agg [.c (.int .i64 x.v), .c (.int .i64 x.e), .own 1 x.q.length, .own 2 x.k.length, .own 3 x.x.length])),
 (1, .row tq 2 (x.q.map Qt.cv)), (2, .row tk 21 (x.k.map Ky.cv)), (3, .row tx 33 (x.x.map Rv.cv))]
def yC (P : Program) (f : FuncId) (T tq tk tx : TypeId) (l : List aK) (x : Rt) (F : Option Rt) : Prop :=
 HFn P f [.ptr 0 0, .c (.slc (l.map .str))] 4 (pOb T tq tk tx x) (fun r ob' => ∃ y, r = .c (.bool F.isSome) ∧ ob' = pOb T tq tk tx y ∧ ∀ z, F = some z → y = z)
theorem iF (T tq tk tx : TypeId) (v : CV) (x : Rt) : LocOk 4 [.ptr 0 0, .c v] (pOb T tq tk tx x) := by
 refine ⟨fun j h => ?_, fun id o h => ?_, by simp [HV.menL, HV.men]⟩
 ·
  match j, h with
  | 0, _ => exact ⟨_, rfl⟩
  | 1, _ => exact ⟨_, rfl⟩
  | 2, _ => exact ⟨_, rfl⟩
  | 3, _ => exact ⟨_, rfl⟩
 ·
  simp only [pOb, fob_at, fob_nil] at h
  split at h
  ·
   rename_i e; subst e; cases h; exact ⟨by omega, by simp [HO.men, HV.men, HV.menL]⟩
  ·
   split at h
   ·
    rename_i e; subst e; cases h; exact ⟨by omega, trivial⟩
   ·
    split at h
    ·
     rename_i e; subst e; cases h; exact ⟨by omega, trivial⟩
    ·
     split at h
     ·
      rename_i e; subst e; cases h; exact ⟨by omega, trivial⟩
     ·
      cases h
structure PIn (ob : Ob) (T tq tk tx : TypeId) (p q k r : Nat) (x : Rt) : Prop where
 p : ob p = some (.box T (.agg [.c (.int .i64 x.v), .c (.int .i64 x.e), .own q x.q.length, .own k x.k.length, .own r x.x.length]))
 q : ob q = some (.row tq 2 (x.q.map Qt.cv))
 k : ob k = some (.row tk 21 (x.k.map Ky.cv))
 r : ob r = some (.row tx 33 (x.x.map Rv.cv))
def bK5 (ob : Ob) (T tq tk tx : TypeId) (p q k r : Nat) (y : Rt) : Ob :=
 upd (upd (upd (upd ob r (some (.row tx 33 (y.x.map Rv.cv)))) k (some (.row tk 21 (y.k.map Ky.cv)))) q (some (.row tq 2 (y.q.map Qt.cv)))) p
  (some (.box T (.agg [.c (.int .i64 y.v), .c (.int .i64 y.e), .own q y.q.length, .own k y.k.length, .own r y.x.length])))
theorem yD {P : Program} {av : List Nat} {f : FuncId} {ob : Ob} {nid : Nat} {K : HV → Ob → Prop} {T tq tk tx : TypeId} {l : List aK} {x : Rt} {F : Option Rt} (p q k r : Nat) (h : yC P f T tq tk tx l x F)
  (hin : PIn ob T tq tk tx p q k r x) (hd : [p, q, k, r].Nodup) (hav : p ∉ av ∧ q ∉ av ∧ k ∉ av ∧ r ∉ av) (hfree : Free4 ob nid)
  (hK : ∀ y, (∀ z, F = some z → y = z) → K (.c (.bool F.isSome)) (bK5 ob T tq tk tx p q k r y)) : HCall P av f [.ptr p 0, .c (.slc (l.map .str))] ob nid K := by
 have h0 : sub [p, q, k, r] nid 0 = p := rfl
 have h1 : sub [p, q, k, r] nid 1 = q := rfl
 have h2 : sub [p, q, k, r] nid 2 = k := rfl
 have h3 : sub [p, q, k, r] nid 3 = r := rfl
 refine ⟨[p, q, k, r], _, _, _, h, iF T tq tk tx _ x, ⟨hd, by simp only [List.mem_cons, List.not_mem_nil, or_false, forall_eq_or_imp, forall_eq]; exact hav⟩, by simp only [HV.renL, HV.ren, h0], fun j o hj => ?_, fun r' lob' hR _ => ?_⟩
 ·
  simp only [pOb, fob_at, fob_nil] at hj
  split at hj
  ·
   rename_i e; subst e; cases hj; simpa [HO.ren, HV.ren, HV.renL, h1, h2, h3] using hin.p
  ·
   split at hj
   ·
    rename_i e; subst e; cases hj; simpa [HO.ren] using hin.q
   ·
    split at hj
    ·
     rename_i e; subst e; cases hj; simpa [HO.ren] using hin.k
    ·
     split at hj
     ·
      rename_i e; subst e; cases hj; simpa [HO.ren] using hin.r
     ·
      cases hj
 ·
  obtain ⟨y, rfl, rfl, hy⟩ := hR
  have e2 : bG ob [p, q, k, r] nid (pOb T tq tk tx y) = bK5 ob T tq tk tx p q k r y := by
   simp only [List.nodup_cons, List.mem_cons, List.not_mem_nil, or_false, not_or, List.nodup_nil, and_true, not_false_eq_true] at hd
   obtain ⟨⟨d1, d2, d3⟩, ⟨d4, d5⟩, d6⟩ := hd
   funext i
   unfold bK5
   by_cases e0 : i = p
   ·
    subst e0
    rw [aQ]
    simp only [bG, List.findIdx?_cons, beq_self_eq_true, if_true, pOb, fob_at, Option.map_some, HO.ren, HV.ren, HV.renL, h1, h2, h3]
   ·
    have b0 : (p == i) = false := by simp; exact fun h => e0 h.symm
    rw [aU _ _ e0]
    by_cases e1 : i = q
    ·
     subst e1
     rw [aQ]
     simp [bG, List.findIdx?_cons, b0, pOb, fob_at, HO.ren]
    ·
     have b1 : (q == i) = false := by simp; exact fun h => e1 h.symm
     rw [aU _ _ e1]
     by_cases e2 : i = k
     ·
      subst e2
      rw [aQ]
      simp [bG, List.findIdx?_cons, b0, b1, pOb, fob_at, HO.ren]
     ·
      have b2 : (k == i) = false := by simp; exact fun h => e2 h.symm
      rw [aU _ _ e2]
      by_cases e3 : i = r
      ·
       subst e3
       rw [aQ]
       simp [bG, List.findIdx?_cons, b0, b1, b2, pOb, fob_at, HO.ren]
      ·
       have b3 : (r == i) = false := by simp; exact fun h => e3 h.symm
       rw [aU _ _ e3]
       simp only [bG, List.findIdx?_cons, b0, b1, b2, b3, List.findIdx?_nil, Option.map_none, Bool.false_eq_true, if_false]
       split
       ·
        rename_i hr
        have hl : [p, q, k, r].length = 4 := rfl
        have n0 : [p, q, k, r].length + (i - nid) ≠ 0 := by omega
        have n1 : [p, q, k, r].length + (i - nid) ≠ 1 := by omega
        have n2 : [p, q, k, r].length + (i - nid) ≠ 2 := by omega
        have n3 : [p, q, k, r].length + (i - nid) ≠ 3 := by omega
        simp only [pOb]
        rw [fob_at, if_neg n0, fob_at, if_neg n1, fob_at, if_neg n2, fob_at, if_neg n3, fob_nil]
        exact (hfree.all i hr.1 hr.2).symm
       ·
        rfl
  rw [e2]
  exact hK y hy
theorem cZ {ob : Ob} {T tq tk tx : TypeId} {y : Rt} {F : Option Rt} {b : Bool} (hb : b = F.isSome) (h : PIn ob T tq tk tx 0 1 2 3 y) (hy : ∀ z, F = some z → y = z) :
  rO 4 (.c (.bool b)) ob (fun r ob' => ∃ y, r = .c (.bool F.isSome) ∧ ob' = pOb T tq tk tx y ∧ ∀ z, F = some z → y = z) := by
 refine ⟨[], id, .c (.bool b), pOb T tq tk tx y, ⟨y, by rw [hb], rfl, hy⟩, rfl, fun _ _ => rfl, fun _ _ _ _ h => h, by simp [HV.men], fun j o hj => ?_⟩
 simp only [pOb, fob_at, fob_nil] at hj
 split at hj
 ·
  rename_i e
  subst e; cases hj
  exact ⟨by omega, by simp [HO.men, HV.men, HV.menL], by simp, _, h.p, by simp [HO.ren, HV.ren, HV.renL, HV.close, HV.closeL, HV.norm, HV.toC, HV.toCL, CV.denil]⟩
 ·
  split at hj
  ·
   rename_i e; subst e; cases hj; exact ⟨by omega, trivial, by simp, _, h.q, rfl⟩
  ·
   split at hj
   ·
    rename_i e; subst e; cases hj; exact ⟨by omega, trivial, by simp, _, h.k, rfl⟩
   ·
    split at hj
    ·
     rename_i e; subst e; cases hj; exact ⟨by omega, trivial, by simp, _, h.r, rfl⟩
    ·
     cases hj
end Go.Hl
