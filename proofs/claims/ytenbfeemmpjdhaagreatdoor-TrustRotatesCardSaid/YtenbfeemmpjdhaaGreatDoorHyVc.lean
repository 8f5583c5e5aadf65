/- Part of a proof: walks of functions of the program, by contracts, and the rules they use. By an AI agent. -/
import Derived.Test.YtenbfeemmpjdhaaGreatDoorHyT4
import Derived.Test.YtenbfeemmpjdhaaGreatDoorPl11y
import Derived.Test.YtenbfeemmpjdhaaGreatDoorHySb
import Derived.Test.YtenbfeemmpjdhaaGreatDoorHyT5
import Derived.Test.YtenbfeemmpjdhaaGreatDoorHyTe
import Derived.Test.YtenbfeemmpjdhaaGreatDoorPl11v
import Derived.Test.YtenbfeemmpjdhaaGreatDoorPl11w
import Derived.Test.YtenbfeemmpjdhaaGreatDoorHyTz
import Derived.Test.YtenbfeemmpjdhaaGreatDoorHyV3
set_option linter.unusedSimpArgs false
set_option linter.unusedVariables false
set_option linter.defProp false
namespace Go.Proofs.YtenbfeemmpjdhaaGreatDoor
open Go Go.Hl Go.Pl
set_option maxRecDepth 10000
set_option maxHeartbeats 16000000

theorem yP {l : List (List aK)} : (∀ a ∈ l.map lsC, a.cells = 1) ↔ True := iff_true_intro fun v h => by obtain ⟨d, _, rfl⟩ := List.mem_map.1 h; rfl
theorem gB (v : CV) (l : List CV) : nth (v :: l) 0 = v := rfl
def secC : List CV := [.agg [.str (dR 0), .fn 62], .agg [.str (dR 1), .fn 63], .agg [.str (dR 2), .fn 64]]
theorem bS8 {j : Nat} (h : j < 3) : nth secC j = .agg [.str (dR j), .fn (62 + j)] := by
 match j, h with
 | 0, _ => rfl
 | 1, _ => rfl
 | 2, _ => rfl
theorem bS9 (j : Nat) (hj : j < 3) (l : List aK) (x : Rt) (hl : l.length < 2 ^ 40) (hw : ∀ w ∈ l, w.length < 2 ^ 40) (hx : x.q.length + x.k.length + x.x.length < 2 ^ 40) : yK Tryz.prog (62 + j) 104 64 70 51 l x (jC j l x) := by
 match j, hj with
 | 0, _ => exact bA6 l x hl (by omega)
 | 1, _ => exact bS7 l x hl hw (by omega)
 | 2, _ => exact bS6 l x hl hw (by omega)

theorem bT0 (b : aK) (hl : b.length < 2 ^ 40) : cW Tryz.prog 20 [.slc (b.map u8)] (fun u v => u = (bY b).cv ∧ v = .int .i64 (cP b)) := by
 refine FW Tryz.func20 ?_
 refine R0 ?_
 refine aB fun K hK => Rg ?_
 have F := @denilL_u8
 refine SF ?_
 refine HS rfl rfl fun K' hK' => T6 ?_
 refine D1 (bY8 b hl) ?_
 rintro u v ⟨rfl, rfl⟩
 refine AX (hK' _ _ ?_)
 clear hK' K'
 iterate 5 refine SF ?_
 refine T2 (hK _ _ _ ?_)
 clear hK K
 refine aB fun K hK => ?_
 refine R0 ?_
 refine aJ (b := eF b != 0) rfl (fun hb => ?_) (fun hb => ?_)
 ·
  refine aB fun K hK => Rg ?_
  iterate 4 refine S0 ?_
  refine T2 (hK _ _ _ ?_)
  clear hK K
  refine aD (RT Tryz.results20 ?_)
  have hE : cP b = eF b := by unfold cP; rw [if_pos (by simpa using hb)]
  have hO : bY b = rt0 := by unfold bY; rw [if_neg (by rw [hE]; simpa using hb)]
  exact aL [] rt0.cv (.int .i64 (eF b)) rfl ⟨by rw [hO], by rw [hE]⟩
 have hd0 : eF b = 0 := by simpa using hb
 clear hb
 obtain ⟨lines, hlines⟩ : ∃ lines, lines = iK b := ⟨_, rfl⟩
 have hok := aA5 (b := b)
 have hlen := vR (b := b)
 have hEn : eE lines = none → cP b = 2 := fun h => by unfold cP; rw [if_neg (by rw [hd0]; simp), ← hlines, h]
 have hOn : cP b ≠ 0 → bY b = rt0 := fun h => by unfold bY; rw [if_neg h]
 have hEs : ∀ x, eE lines = some x → cP b = if bJ x then 0 else 1 := fun x h => by unfold cP; rw [if_neg (by rw [hd0]; simp), ← hlines, h]
 have hOs : ∀ x, eE lines = some x → cP b = 0 → bY b = x := fun x h h0 => by unfold bY; rw [if_pos h0, ← hlines, h]; rfl
 rw [← hlines] at hok hlen ⊢
 clear hlines hd0
 refine aG ?_
 refine T0 (hK _ _ _ ?_)
 clear hK K
 refine aB fun K hK => ?_
 cases lines
 ·
  refine aB fun K hK => Rg ?_
  iterate 11 refine S0 ?_
  refine T2 (hK _ _ _ ?_)
  clear hK K
  refine CT rfl ?_
  refine R0 ?_
  refine aD (RT Tryz.results20 ?_)
  have hE := hEn rfl
  exact aL [] rt0.cv (.int .i64 2) rfl ⟨by rw [hOn (by rw [hE]; decide)], by rw [hE]⟩
 rename_i l0 ls
 have hw0 := hok l0 List.mem_cons_self
 have hl00 : 0 < l0.length := List.length_pos_iff.2 hw0.1
 have hz0 : (((ls.length + 1 : Nat) : Int) == 0) = false := by rw [beq_eq_false_iff_ne]; omega
 refine aB fun K hK => Rg ?_
 clear F
 have F := aI @List.map_cons.{0,0} (aI hz0 (aI @gB (aI @lsC.eq_1 (aI (bP hl00) (aI @List.length_map.{0,0} @cT)))))
 iterate 11 refine SF ?_
 refine T2 (hK _ _ _ ?_)
 clear hK K
 refine aJ (b := wd l0 0 != mQ) rfl (fun hb => ?_) (fun hb => ?_)
 ·
  refine R0 ?_
  refine aD (RT Tryz.results20 ?_)
  have hE := hEn (vO (by simpa using hb))
  exact aL [] rt0.cv (.int .i64 2) rfl ⟨by rw [hOn (by rw [hE]; decide)], by rw [hE]⟩
 refine aG ?_
 refine T0 (hK _ _ _ ?_)
 clear hK K
 have hroot : wd l0 0 = mQ := by simpa using hb
 clear hb
 refine R0 ?_
 refine aB fun K hK => ?_
 refine bR0 88 rfl ?_
 refine gL 88 2 64 2 rfl rfl rfl rfl ?_
 refine gL 88 3 70 21 rfl rfl rfl rfl ?_
 refine gL 88 4 51 33 rfl rfl rfl rfl ?_
 refine aB fun K hK => Rg ?_
 clear F
 have F := aI @List.map_cons.{0,0} (aI @gB (aI @lsC.eq_1 (aI @List.length_map.{0,0} @cT)))
 iterate 3 refine SF ?_
 refine HS rfl rfl fun K' hK' => T6 ?_
 refine yL 88 92 93 94 (bS5 l0 rt0 (by have := hw0.2.1; omega)) ⟨rfl, rfl, rfl, rfl⟩ (by decide) (by simp) ⟨rfl, rfl, rfl, rfl⟩ ?_
 intro y hy
 unfold bK5
 refine AX (hK' _ _ ?_)
 clear hK' K'
 refine SF ?_
 refine T2 (hK _ _ _ ?_)
 clear hK K
 refine aJ (b := !(iE l0 rt0).isSome) rfl (fun hb => ?_) (fun hb => ?_)
 ·
  refine R0 ?_
  refine aD (RT Tryz.results20 ?_)
  have hE := hEn (qV hroot (by simpa using hb))
  exact aL [] rt0.cv (.int .i64 2) rfl ⟨by rw [hOn (by rw [hE]; decide)], by rw [hE]⟩
 refine aG ?_
 refine T0 (hK _ _ _ ?_)
 clear hK K
 obtain ⟨x1, hx1⟩ := Option.isSome_iff_exists.1 (show (iE l0 rt0).isSome = true by simpa using hb)
 clear hb
 have := hy x1 hx1
 subst this
 have hrd1 := qW hx1 aP5
 have hz1 : (1 : Int) ≤ ((ls.length + 1 : Nat) : Int) := by omega
 have htk0 : List.take ls.length (ls.map lsC) = ls.map lsC := List.take_of_length_le (by simp)
 refine R0 ?_ (e := fun _ h_ => by simp only [↓sP, sA, tyS, simprocAttr, List.map_cons, List.length_cons, List.length_map, List.drop_succ_cons, List.drop_zero, Nat.add_sub_cancel, htk0, cT, yP, hz1, Int.le_refl, CV.cells]; exact AX h_)
 refine aB fun K hK => ?_
 refine aB fun K hK => eZ (by kernel_rfl) ?_
 simp only [sR, simprocAttr]
 iterate 3 refine SG0 ?_
 refine fH (g := none) 139 rfl rfl fun K' hK' => ?_
 simp only [iO, lQ, sH, ↓sP, sA, tyS, simprocAttr]
 repeat refine AI ?_
 refine eA (by first | rfl | simp) ?_
 try simp only [sH, ↓sP, sA, tyS, simprocAttr]
 refine AX (hK' _ _ ?_)
 clear hK' K'
 iterate 2 refine SG0 ?_
 refine T2 (hK _ _ _ ?_)
 clear hK K
 refine aH ?_
 refine bT [] ?_
 refine aT (α := {z : Nat × List (List aK) × Rt // RtSt ls y z.1 z.2.1 z.2.2}) (fun z => (fin [(2, .ptr 0 0), (4, .c (.slc (z.1.2.1.map lsC))), (6, .ptr 88 0), (41, .c (.slc secC)), (42, .c (.int .i64 3)), (43, .c (.int .i64 z.1.1))], fob [(0, .box 26 (.c rt0.cv)), (88, .box 104 (.agg [.c (.int .i64 z.1.2.2.v), .c (.int .i64 z.1.2.2.e), .own 92 z.1.2.2.q.length, .own 93 z.1.2.2.k.length, .own 94 z.1.2.2.x.length])), (92, .row 64 2 (z.1.2.2.q.map Qt.cv)), (93, .row 70 21 (z.1.2.2.k.map Ky.cv)), (94, .row 51 33 (z.1.2.2.x.map Rv.cv))])) 300 (fun z => 3 - z.1.1) ⟨(0, ls, y), RtSt.init (fun l h => hok l (List.mem_cons_of_mem _ h)) hrd1⟩ (aQ (by omega) (by simp [aX, cD, fin_at, finA_at, upd_at, fob_at, HV.close, HV.closeL, CV.denil, CV.denilL, fC, nK, secC, dR, HV.men, HV.menL, HV.norm, HV.toC, HV.toCL]) (by simp [bB, cE, fob_at, upd_at, none0_at, bU, rt0, Rt.cv, HO.close, HV.close, HV.closeL, CV.denil, CV.denilL, HO.men, HV.men, HV.menL, HV.norm, HV.toC, HV.toCL])) ?_
 rintro ⟨⟨j, rest, x⟩, hst⟩
 simp only at hst
 refine R0 ?_
 refine aB fun K hK => ?_
 refine aJ (b := decide ((j : Int) < 3)) rfl (fun hb => ?_) (fun hb => ?_)
 ·
  have hj : j < 3 := by simp at hb; omega
  clear hb
  have hsec := bS8 hj
  have hsl : secC.length = 3 := rfl
  refine aG ?_
  refine T0 (hK _ _ _ ?_)
  clear hK K
  refine aB fun K hK => ?_
  refine aH ?_
  refine aB fun K hK => Rg ?_
  clear F
  have F := aI hsl (aI hsec @Int.natCast_nonneg)
  iterate 4 refine SF ?_
  refine T2 (hK _ _ _ ?_)
  clear hK K
  refine aH ?_
  refine aT (α := {z : List (List aK) × Rt // RtSt ls y j z.1 z.2}) (fun z => (fin [(2, .ptr 0 0), (4, .c (.slc (z.1.1.map lsC))), (6, .ptr 88 0), (8, .ptr 312 0), (41, .c (.slc secC)), (42, .c (.int .i64 3)), (43, .c (.int .i64 j))], fob [(0, .box 26 (.c rt0.cv)), (88, .box 104 (.agg [.c (.int .i64 z.1.2.v), .c (.int .i64 z.1.2.e), .own 92 z.1.2.q.length, .own 93 z.1.2.k.length, .own 94 z.1.2.x.length])), (92, .row 64 2 (z.1.2.q.map Qt.cv)), (93, .row 70 21 (z.1.2.k.map Ky.cv)), (94, .row 51 33 (z.1.2.x.map Rv.cv)), (312, .box 109 (.c (.agg [.str (dR j), .fn (62 + j)])))])) 400 (fun z => z.1.1.length) ⟨(rest, x), hst⟩ (fF) ?_
  rintro ⟨⟨rest, x⟩, hst⟩
  simp only at hst
  have hrl := hst.2.2.2.1
  have hrd := hst.2.2.2.2.1
  refine aB fun K hK => ?_
  by_cases hre : rest = []
  ·
   subst hre
   refine aB fun K hK => QR ?_
   iterate 13 refine S0 ?_
   refine T2 (hK _ _ _ ?_)
   clear hK K
   refine CF rfl ?_
   refine aS (T3 ?_)
   clear hK K
   refine AX (hK _ _ _ ?_)
   clear hK K
   refine aM (by kernel_rfl) ?_
   refine TQ (bK j) ?_
   exact ⟨⟨(j + 1, [], x), hst.next hj (fun l ls h => by cases h)⟩, fF, (by show 3 - (j + 1) < 3 - j; omega)⟩
  obtain ⟨l, rest', rfl⟩ := List.exists_cons_of_ne_nil hre
  clear hre
  have hwl := hst.2.2.1 l List.mem_cons_self
  have hl0' : 0 < l.length := List.length_pos_iff.2 hwl.1
  have hzb : decide ((0 : Int) < ((rest'.length + 1 : Nat) : Int)) = true := decide_eq_true (by omega)
  have hzc : (1 : Int) ≤ ((rest'.length + 1 : Nat) : Int) := by omega
  have htk1 : List.take rest'.length (rest'.map lsC) = rest'.map lsC := List.take_of_length_le (by simp)
  refine aB fun K hK => QR ?_
  iterate 13 refine S0 ?_ (e := fun _ h_ => by simp only [sH, ↓sP, sA, tyS, simprocAttr, List.map_cons, List.length_cons, List.length_map, hzb, gB, lsC, bP hl0', cT, CV.cells]; exact AX h_)
  refine T2 (hK _ _ _ ?_)
  clear hK K
  refine aJ (b := wd l 0 == dR j) rfl (fun hb => ?_) (fun hb => ?_)
  ·
   have hws : wd l 0 = dR j := by simpa using hb
   clear hb
   refine aG ?_
   refine T0 (hK _ _ _ ?_)
   clear hK K
   refine aH ?_
   refine aB fun K hK => ?_
   refine aB fun K hK => DW [(0, [], []), (1, [], []), (2, [], []), (3, [], []), (4, [], []), (5, [], []), (6, [], [])] [0, 1, 0, 4, 12, 31, 63] ?_
   iterate 5 refine W0 ?_ (e := fun _ h_ => by simp only [sH, ↓sP, sA, tyS, simprocAttr, List.map_cons, List.length_cons, List.length_map, gB, lsC, cT, CV.cells]; exact AX h_)
   refine aN (g := none) rfl rfl fun K' hK' => ?_
   simp only [sH, ↓sP, sA, tyS, simprocAttr, List.map_cons, List.length_cons, List.length_map, gB, lsC, cT, CV.cells]
   refine yL 88 92 93 94 (bS9 j hj l x (by have := hwl.2.1; omega) (fun w hw => by have := hwl.2.2 w hw; omega) (by simp only [List.length_cons] at *; omega)) ⟨rfl, rfl, rfl, rfl⟩ (by decide) (by simp) ⟨rfl, rfl, rfl, rfl⟩ ?_
   intro y' hy'
   unfold bK5
   refine AX (hK' _ _ ?_)
   clear hK' K'
   refine W0 ?_ (e := fun _ h_ => by simp only [sH, ↓sP, sA, tyS, simprocAttr, List.map_cons, List.length_cons, List.length_map, gB, lsC, cT, CV.cells]; exact AX h_)
   refine T2 (hK _ _ _ ?_)
   clear hK K
   refine aJ (b := !(jC j l x).isSome) rfl (fun hb => ?_) (fun hb => ?_)
   ·
    refine R0 ?_
    refine aD (RT Tryz.results20 ?_)
    have hE := hEn (gS hroot hx1 (hst.fail hj hws (by simpa using hb)))
    exact aL [] rt0.cv (.int .i64 2) rfl ⟨by rw [hOn (by rw [hE]; decide)], by rw [hE]⟩
   refine aG ?_
   refine T0 (hK _ _ _ ?_)
   clear hK K
   obtain ⟨z, hz⟩ := Option.isSome_iff_exists.1 (show (jC j l x).isSome = true by simpa using hb)
   clear hb
   have := hy' z hz
   subst this
   refine aM (by kernel_rfl) ?_
   simp only [↓sP, sA, tyS, simprocAttr, List.map_cons, List.length_cons, List.length_map, List.drop_succ_cons, List.drop_zero, Nat.add_sub_cancel, htk1, cT, yP, hzc, Int.le_refl, CV.cells]
   exact ⟨⟨(rest', y'), hst.hit hj hws hz⟩, fF, Nat.lt_succ_self _⟩
  refine aS (T3 ?_)
  clear hK K
  refine AX (hK _ _ _ ?_)
  clear hK K
  refine aM (by kernel_rfl) ?_
  refine TQ (bK j) ?_
  exact ⟨⟨(j + 1, l :: rest', x), hst.next hj (fun l' ls' h => by cases h; simpa using hb)⟩, aQ (by omega) (by simp [aX, fin_at, finA_at, upd_at, HV.men, HV.menL, HV.norm, HV.toC, HV.toCL, lsC]) (by simp [bB, fob_at, upd_at, none0_at, bU, HO.men, HV.men, HV.menL, HV.norm, HV.toC, HV.toCL]), (by show 3 - (j + 1) < 3 - j; omega)⟩
 refine aS (T3 ?_)
 clear hK K
 refine AX (hK _ _ _ ?_)
 clear hK K
 refine aB fun K hK => ?_
 have hj3 : j = 3 := by have := hst.1; simp at hb; omega
 subst hj3
 clear hb
 have hfin := hst.fin
 have hrd := hst.2.2.2.2
 have hrl := hst.2.2.2.1
 clear F
 have F := @List.length_map.{0,0}
 refine RF ?_
 refine aJ (b := decide ((0 : Int) < rest.length)) rfl (fun hb => ?_) (fun hb => ?_)
 ·
  refine R0 ?_
  refine aD (RT Tryz.results20 ?_)
  have hE := hEn (by
   cases hr : rest with
   | nil => rw [hr] at hb; simp at hb
   | cons l ls' => rw [hr] at hfin; exact vP hroot hx1 hfin)
  exact aL [] rt0.cv (.int .i64 2) rfl ⟨by rw [hOn (by rw [hE]; decide)], by rw [hE]⟩
 refine aG ?_
 refine T0 (hK _ _ _ ?_)
 clear hK K
 refine aB fun K hK => ?_
 have hr0 : rest = [] := by simpa using hb
 subst hr0
 clear hb
 have hrs := vQ hroot hx1 hfin
 have hsz := hrd.sz (by simp only [List.length_cons] at hlen; omega)
 have hEx := hEs x hrs
 have hOx := hOs x hrs
 refine bT [92, 93, 94] (bE (fr2 := fin [(2, .ptr 0 0), (6, .ptr 88 0)]) (ob2 := fob [(0, .box 26 (.c rt0.cv)), (88, .box 104 (.c x.cv))]) (nx2 := 500) (aQ (by omega) (by simp [aX, cD, fin_at, finA_at, upd_at, fob_at, HV.close, HV.closeL, CV.denil, CV.denilL, fC, nK, secC, dR, HV.men, HV.menL, HV.norm, HV.toC, HV.toCL]) (by simp [bB, cE, fob_at, upd_at, none0_at, bU, rt0, Rt.cv, HO.close, HV.close, HV.closeL, CV.denil, CV.denilL, denilL_Qt, denilL_Ky, denilL_Rv, HO.men, HV.men, HV.menL, HV.norm, HV.toC, HV.toCL])) ?_)
 refine aB fun K hK => Rg ?_
 iterate 2 refine S0 ?_
 refine HS rfl rfl fun K' hK' => T5 ?_
 refine C1 (mP x hsz) ?_
 rintro u rfl
 refine AX (hK' _ _ ?_)
 clear hK' K'
 refine S0 ?_
 refine T2 (hK _ _ _ ?_)
 clear hK K
 refine aJ (b := !(bJ x)) rfl (fun hb => ?_) (fun hb => ?_)
 ·
  refine R0 ?_
  refine aD (RT Tryz.results20 ?_)
  have hE : cP b = 1 := by rw [hEx, if_neg (by simpa using hb)]
  exact aL [] rt0.cv (.int .i64 1) rfl ⟨by rw [hOn (by rw [hE]; decide)], by rw [hE]⟩
 refine aG ?_
 refine T0 (hK _ _ _ ?_)
 clear hK K
 refine aB fun K hK => Rg ?_
 iterate 4 refine S0 ?_
 refine T2 (hK _ _ _ ?_)
 clear hK K
 refine aD (RT Tryz.results20 ?_)
 have hE : cP b = 0 := by rw [hEx, if_pos (by simpa using hb)]
 refine aL [] x.cv (.int .i64 0) ?_ ⟨by rw [hOx hE], by rw [hE]⟩
 simp [HV.close, HV.closeL, HV.norm, HV.toC, HV.toCL, CV.denil, Rt.denil]

end Go.Proofs.YtenbfeemmpjdhaaGreatDoor

namespace Go.Pl
open Go Go.Hl

end Go.Pl

namespace Go.Pl
open Go Go.Hl

theorem aP7 {b : aK} (h : cP b = 0) : bJ (bY b) = true ∧ rSz (bY b) := by
 have hO : bY b = (eE (iK b)).getD rt0 := by unfold bY; rw [if_pos h]
 unfold cP at h
 split at h
 ·
  rename_i h1; exact absurd h h1
 ·
  cases hv : eE (iK b) with
  | none => rw [hv] at h; simp at h
  | some x =>
   rw [hv] at h hO
   simp only at h
   rw [hO]
   refine ⟨?_, (aP6 (fun l hl => aA5 l hl) hv).sz (by have := vR (b := b); omega)⟩
   by_cases hx : bJ x = true
   ·
    exact hx
   ·
    rw [if_neg hx] at h; cases h
theorem vS (b : aK) : rSz (bY b) := by
 by_cases h : cP b = 0
 ·
  exact (aP7 h).2
 ·
  unfold bY; rw [if_neg h]; exact ⟨⟨by simp [rt0], by simp [rt0]⟩, ⟨by simp [rt0], by simp [rt0]⟩, by simp [rt0]⟩
def kE (a b : Rt) : Bool := a.x.all fun x => iU b.x x.k && decide (iJ b.x x.k ≤ x.t)
theorem nL {a b : Rt} {i : Nat} (hi : i < a.x.length) (h : (!iU b.x a.x[i].k || decide (a.x[i].t < iJ b.x a.x[i].k)) = true) : kE a b = false := by
 unfold kE
 rw [List.all_eq_false]
 refine ⟨a.x[i], List.getElem_mem hi, fun hc => ?_⟩
 simp only [Bool.and_eq_true, decide_eq_true_eq] at hc
 simp only [hc.1, Bool.not_true, Bool.false_or, decide_eq_true_eq] at h
 omega
theorem aJ7 {a b : Rt} (h : ∀ x ∈ a.x, (!iU b.x x.k || decide (x.t < iJ b.x x.k)) = false) : kE a b = true := by
 unfold kE
 rw [List.all_eq_true]
 intro x hx
 have := h x hx
 simp only [Bool.or_eq_false_iff, decide_eq_false_iff_not, Bool.not_eq_false'] at this
 simp only [this.1, Bool.true_and, decide_eq_true_eq]
 omega
def eQ (r : Rt) (b : aK) (l : List Dig) (t : Int) : Int :=
 if bJ r = false then 1 else if cP b ≠ 0 then cP b else if (bY b).v ≠ IntKind.i64.wrap (r.v + 1) then 6 else if kE r (bY b) = false then 1
 else if iA r fI l t && iA (bY b) fI l t then 0 else 7
def kF (r : Rt) (b : aK) (l : List Dig) (t : Int) : Rt := if eQ r b l t = 0 then bY b else rt0
theorem bA9 {l : List Rv} (h : gK l = true) {x : Rv} (hx : x ∈ l) : gE l x.k = some x.t := by
 have h1 : aL5 (l.map Rv.k) = true := by
  unfold gK at h
  simp only [Bool.and_eq_true] at h
  exact h.2.1
 have h2 : nZ (l.map fun x => x.k.1) = true := by
  rw [mA, gG]
  rw [mB, gG] at h1
  exact h1
 have h3 : Asc (l.map fun x => x.k.1) := uK h2
 obtain ⟨i, hi, rfl⟩ := List.mem_iff_getElem.1 hx
 refine pB hi (by simp) fun y hy => ?_
 obtain ⟨j, hj, rfl⟩ := List.mem_take_iff_getElem.1 hy
 refine beq_eq_false_iff_ne.2 fun e => ?_
 have h4 := List.pairwise_iff_getElem.1 h3 j i (by simp; omega) (by simpa using hi) (by omega)
 simp only [List.getElem_map] at h4
 rw [e] at h4
 exact List.lt_irrefl _ h4
theorem bT1 {l : List Rv} {d : Dig} (h : iU l d = true) : ∃ x ∈ l, x.k = d ∧ x.t = iJ l d := by
 unfold iU iJ gE at *
 cases hf : l.find? (fun x => x.k == d) with
 | none => rw [hf] at h; simp at h
 | some x => exact ⟨x, List.mem_of_find?_eq_some hf, eq_of_beq (List.find?_some (p := fun x : Rv => x.k == d) hf), by simp⟩
def Gone (g : List Rv) (r : Rt) : Prop := ∀ x ∈ g, iU r.x x.k = true ∧ iJ r.x x.k ≤ x.t ∧ 0 ≤ x.t ∧ x.t ≤ dX
theorem Gone.nil {r : Rt} : Gone [] r := fun x h => by cases h
theorem Gone.kept {g : List Rv} {a b : Rt} (h : Gone g a) (hk : kE a b = true) : Gone g b := by
 intro x hx
 obtain ⟨h1, h2, h3⟩ := h x hx
 obtain ⟨y, hy, hyk, hyt⟩ := bT1 h1
 unfold kE at hk
 have := List.all_eq_true.1 hk y hy
 simp only [Bool.and_eq_true, decide_eq_true_eq, hyk] at this
 exact ⟨this.1, by omega, h3⟩
theorem Gone.own {b : Rt} (h : bJ b = true) : Gone b.x b := by
 intro x hx
 have hr : gK b.x = true := by
  unfold bJ at h
  simp only [Bool.and_eq_true] at h
  exact h.2.2.2.2.1
 have hs := bA9 hr hx
 unfold gK at hr
 simp only [Bool.and_eq_true] at hr
 have hn := pV (List.all_eq_true.1 hr.1 x hx)
 unfold iU iJ
 rw [hs]
 exact ⟨rfl, Int.le_refl _, hn⟩
theorem Gone.append {g h : List Rv} {r : Rt} (h1 : Gone g r) (h2 : Gone h r) : Gone (g ++ h) r := fun x hx => by
 rcases List.mem_append.1 hx with hx | hx
 ·
  exact h1 x hx
 ·
  exact h2 x hx
theorem Gone.not {g : List Rv} {r : Rt} (h : Gone g r) {x : Rv} (hx : x ∈ g) {n : Int} (hn : 0 ≤ n) : aS3 r x.k (x.t + n) = false := by
 obtain ⟨h1, h2, -⟩ := h x hx
 have e : decide (iJ r.x x.k ≤ x.t + n) = true := decide_eq_true (by omega)
 unfold aS3
 rw [eJ, h1, e]
 simp
theorem bK8 (r : Rt) : (aZ8 r).length ≤ 262144 := by
 unfold aZ8
 split
 ·
  unfold aH1
  split
  ·
   rename_i h
   unfold lG at h
   split at h
   ·
    cases h
   ·
    split at h
    ·
     rename_i l hl
     have := List.find?_some hl
     unfold okL at this
     rw [h] at this
     simp at this
    ·
     split at h
     ·
      cases h
     ·
      omega
  ·
   simp
 ·
  simp
end Go.Pl

namespace Go.Pl
open Go Go.Hl

def RSt (ls : List (List aK)) (x0 : Rt) (k j : Nat) (x : Rt) : Prop :=
 k ≤ ls.length ∧ (RtSt ls x0 j (ls.drop k) x ∨ (runA 3 0 ls x0 = none ∧ ∃ h : k < ls.length, ∃ j', j' < j ∧ j < 4 ∧ wd ls[k] 0 = dR j'))
theorem bK9 {i j : Nat} (hi : i < 3) (hj : j < 3) (h : dR i = dR j) : i = j := by
 have : ∀ i j : Fin 3, dR i.1 = dR j.1 → i = j := by decide
 exact congrArg Fin.val (this ⟨i, hi⟩ ⟨j, hj⟩ h)
section
variable {ls : List (List aK)} {x0 x y : Rt} {k j : Nat}
theorem RSt.init (h : ∀ l ∈ ls, wOk l) (hx : rRead 0 x0) : RSt ls x0 0 0 x0 := ⟨by omega, .inl (RtSt.init h hx)⟩
theorem RSt.at (h : RSt ls x0 k j x) (hj : j < 3) (hk : k < ls.length) (hw : wd ls[k] 0 = dR j) : RtSt ls x0 j (ls[k] :: ls.drop (k + 1)) x := by
 rcases h.2 with h1 | ⟨_, _, j', h2, _, h3⟩
 ·
  rwa [List.drop_eq_getElem_cons hk] at h1
 ·
  exact absurd (bK9 hj (by omega) (hw.symm.trans h3)) (by omega)
theorem RSt.hit (h : RSt ls x0 k j x) (hj : j < 3) (hk : k < ls.length) (hw : wd ls[k] 0 = dR j) (hy : jC j ls[k] x = some y) : RSt ls x0 (k + 1) j y :=
 ⟨hk, .inl ((h.at hj hk hw).hit hj hw hy)⟩
theorem RSt.fail (h : RSt ls x0 k j x) (hj : j < 3) (hk : k < ls.length) (hw : wd ls[k] 0 = dR j) (hy : jC j ls[k] x = none) : runA 3 0 ls x0 = none :=
 (h.at hj hk hw).fail hj hw hy
theorem RSt.next (h : RSt ls x0 k j x) (hj : j < 3) (hx : ∀ hk : k < ls.length, wd ls[k] 0 = dR j → jC j ls[k] x = none) : RSt ls x0 k (j + 1) x := by
 refine ⟨h.1, ?_⟩
 rcases h.2 with h1 | ⟨h1, hk, j', h2, _, h3⟩
 ·
  by_cases hk : k < ls.length
  ·
   by_cases hw : wd ls[k] 0 = dR j
   ·
    exact .inr ⟨h.fail hj hk hw (hx hk hw), hk, j, by omega, by omega, hw⟩
   ·
    refine .inl (h1.next hj fun l rest e => ?_)
    rw [List.drop_eq_getElem_cons hk] at e
    cases e; exact hw
  ·
   refine .inl (h1.next hj fun l rest e => ?_)
   rw [List.drop_eq_nil_of_le (by omega)] at e; cases e
 ·
  exact .inr ⟨h1, hk, j', by omega, by omega, h3⟩
theorem RSt.more (h : RSt ls x0 k 3 x) (hk : k < ls.length) : runA 3 0 ls x0 = none ∨ ∃ l r, runA 3 0 ls x0 = some (l :: r, x) := by
 rcases h.2 with h1 | ⟨h1, _⟩
 ·
  right
  have := h1.fin
  rw [List.drop_eq_getElem_cons hk] at this
  exact ⟨_, _, this⟩
 ·
  exact .inl h1
theorem RSt.fin (h : RSt ls x0 k 3 x) (hk : ¬ k < ls.length) : runA 3 0 ls x0 = some ([], x) ∧ rRead ls.length x := by
 rcases h.2 with h1 | ⟨_, h2, _⟩
 ·
  have := h1.fin
  have hr := h1.2.2.2.2
  rw [List.drop_eq_nil_of_le (by omega)] at this hr
  exact ⟨this, hr⟩
 ·
  exact absurd h2 hk
theorem RSt.len (h : RSt ls x0 k j x) (hj : j < 3) (hk : k < ls.length) (hw : wd ls[k] 0 = dR j) : x.q.length + x.k.length + x.x.length ≤ ls.length := by
 have := (h.at hj hk hw).2.2.2.2.1
 omega
end
theorem yQ {j : Nat} (hj : j = 0 ∨ j = 2) {l : List aK} (h : l.length ≠ 3) (x : Rt) : jC j l x = none := by
 rcases hj with rfl | rfl
 ·
  show gA l x = none
  unfold gA; rw [if_neg h]
 ·
  show mO l x = none
  unfold mO; rw [if_neg h]
end Go.Pl

namespace Go.Proofs.YtenbfeemmpjdhaaGreatDoor
open Go Go.Hl Go.Pl
set_option maxRecDepth 10000
set_option maxHeartbeats 16000000

theorem qX (l0 : List aK) {ls : List (List aK)} {k : Nat} (h : k < ls.length) : nth (lsC l0 :: ls.map lsC) (k + 1) = .slc (ls[k].map .str) := by
 have := aO (f := lsC) (l := l0 :: ls) (i := k + 1) (by simpa using h)
 rw [List.map_cons] at this
 rw [this]; rfl

theorem bT2 (b : aK) (hl : b.length < 2 ^ 40) : cW Tryz.prog 21 [.slc (b.map u8)] (fun u v => u = (bY b).cv ∧ v = .int .i64 (cP b)) := by
 refine FW Tryz.func21 ?_
 refine R0 ?_
 refine aB fun K hK => Rg ?_
 have F := @denilL_u8
 refine SF ?_
 refine HS rfl rfl fun K' hK' => T6 ?_
 refine D1 (bR5 b hl) ?_
 rintro u v ⟨rfl, rfl⟩
 refine AX (hK' _ _ ?_)
 clear hK' K'
 iterate 5 refine SF ?_
 refine T2 (hK _ _ _ ?_)
 clear hK K
 refine aB fun K hK => ?_
 refine R0 ?_
 refine aJ (b := eF b != 0) rfl (fun hb => ?_) (fun hb => ?_)
 ·
  refine aB fun K hK => Rg ?_
  iterate 4 refine S0 ?_
  refine T2 (hK _ _ _ ?_)
  clear hK K
  refine aD (RT Tryz.results21 ?_)
  have hE : cP b = eF b := by unfold cP; rw [if_pos (by simpa using hb)]
  have hO : bY b = rt0 := by unfold bY; rw [if_neg (by rw [hE]; simpa using hb)]
  exact aL [] rt0.cv (.int .i64 (eF b)) rfl ⟨by rw [hO], by rw [hE]⟩
 have hd0 : eF b = 0 := by simpa using hb
 clear hb
 obtain ⟨lines, hlines⟩ : ∃ lines, lines = iK b := ⟨_, rfl⟩
 have hok := aA5 (b := b)
 have hlen := vR (b := b)
 have hEn : eE lines = none → cP b = 2 := fun h => by unfold cP; rw [if_neg (by rw [hd0]; simp), ← hlines, h]
 have hOn : cP b ≠ 0 → bY b = rt0 := fun h => by unfold bY; rw [if_neg h]
 have hEs : ∀ x, eE lines = some x → cP b = if bJ x then 0 else 1 := fun x h => by unfold cP; rw [if_neg (by rw [hd0]; simp), ← hlines, h]
 have hOs : ∀ x, eE lines = some x → cP b = 0 → bY b = x := fun x h h0 => by unfold bY; rw [if_pos h0, ← hlines, h]; rfl
 rw [← hlines] at hok hlen ⊢
 clear hlines hd0
 refine aG ?_
 refine T0 (hK _ _ _ ?_)
 clear hK K
 refine aB fun K hK => ?_
 cases lines
 ·
  refine aB fun K hK => Rg ?_
  iterate 18 refine S0 ?_
  refine T2 (hK _ _ _ ?_)
  clear hK K
  refine CT rfl ?_
  refine R0 ?_
  refine aD (RT Tryz.results21 ?_)
  have hE := hEn rfl
  exact aL [] rt0.cv (.int .i64 2) rfl ⟨by rw [hOn (by rw [hE]; decide)], by rw [hE]⟩
 rename_i l0 ls
 have hw0 := hok l0 List.mem_cons_self
 have hl00 : 0 < l0.length := List.length_pos_iff.2 hw0.1
 refine aB fun K hK => Rg ?_
 clear F
 have F := aI @List.map_cons.{0,0} (aI @gB (aI @lsC.eq_1 (aI (bP hl00) (aI @List.length_map.{0,0} @cT))))
 iterate 4 refine SF ?_
 refine aE 31 rfl (fun h4_31 => ?_) (fun h4_31 => ?_)
 ·
  clear F
  have F := aI @List.map_cons.{0,0} (aI @gB (aI @lsC.eq_1 (aI (bP hl00) (aI @List.length_map.{0,0} (aI @cT h4_31)))))
  iterate 14 refine SF ?_
  refine T2 (hK _ _ _ ?_)
  clear hK K
  refine CT rfl ?_
  refine R0 ?_
  refine aD (RT Tryz.results21 ?_)
  exact absurd h4_31 (by simp; omega)
 clear F
 have F := aI @List.map_cons.{0,0} (aI @gB (aI @lsC.eq_1 (aI (bP hl00) (aI @List.length_map.{0,0} (aI @cT h4_31)))))
 iterate 7 refine SF ?_
 refine aE 37 rfl (fun h4_37 => ?_) (fun h4_37 => ?_)
 ·
  clear F
  have F := aI @List.map_cons.{0,0} (aI @gB (aI @lsC.eq_1 (aI (bP hl00) (aI @List.length_map.{0,0} (aI @cT (aI h4_31 h4_37))))))
  iterate 7 refine SF ?_
  refine T2 (hK _ _ _ ?_)
  clear hK K
  refine CT rfl ?_
  refine R0 ?_
  refine aD (RT Tryz.results21 ?_)
  have hE := hEn (show eE (l0 :: ls) = none by
   unfold eE
   simp only
   split
   ·
    rw [show iE l0 rt0 = none from by unfold iE; rw [if_neg (by simp at h4_37; omega)]]
   rfl)
  exact aL [] rt0.cv (.int .i64 2) rfl ⟨by rw [hOn (by rw [hE]; decide)], by rw [hE]⟩
 clear F
 have F := aI @List.map_cons.{0,0} (aI @gB (aI @lsC.eq_1 (aI (bP hl00) (aI @List.length_map.{0,0} (aI @cT (aI h4_31 h4_37))))))
 iterate 7 refine SF ?_
 refine aE 45 rfl (fun h4_45 => ?_) (fun h4_45 => ?_)
 ·
  simp only [h4_45]
  refine T2 (hK _ _ _ ?_)
  clear hK K
  refine CT rfl ?_
  refine R0 ?_
  refine aD (RT Tryz.results21 ?_)
  have hE := hEn (vO (by simpa [mQ] using h4_45))
  exact aL [] rt0.cv (.int .i64 2) rfl ⟨by rw [hOn (by rw [hE]; decide)], by rw [hE]⟩
 simp only [h4_45]
 refine T2 (hK _ _ _ ?_)
 clear hK K
 refine CF rfl ?_
 refine aG ?_
 refine T0 (hK _ _ _ ?_)
 clear hK K
 have hroot : wd l0 0 = mQ := by simpa [mQ] using h4_45
 have h3 : l0.length = 3 := by simp at h4_37; omega
 have i1 : 1 < l0.length := by omega
 have i2 : 2 < l0.length := by omega
 have z1 : (1 : Int) < l0.length := by omega
 have z2 : (2 : Int) < l0.length := by omega
 refine aB fun K hK => Rg ?_
 clear F
 have F := aI @List.map_cons.{0,0} (aI @gB (aI @lsC.eq_1 (aI (bP i1) (aI z1 (aI @List.length_map.{0,0} @cT)))))
 iterate 5 refine SF ?_
 refine HS rfl rfl fun K' hK' => T6 ?_
 refine D1 (iD (wd l0 1)) ?_
 rintro u v ⟨rfl, rfl⟩
 refine AX (hK' _ _ ?_)
 clear hK' K'
 iterate 5 refine SF ?_
 refine T2 (hK _ _ _ ?_)
 clear hK K
 refine aB fun K hK => Rg ?_
 clear F
 have F := aI @List.map_cons.{0,0} (aI @gB (aI @lsC.eq_1 (aI (bP i2) (aI z2 (aI @List.length_map.{0,0} @cT)))))
 iterate 5 refine SF ?_
 refine HS rfl rfl fun K' hK' => T6 ?_
 refine D1 (iD (wd l0 2)) ?_
 rintro u v ⟨rfl, rfl⟩
 refine AX (hK' _ _ ?_)
 clear hK' K'
 iterate 5 refine SF ?_
 refine T2 (hK _ _ _ ?_)
 clear hK K
 refine aB fun K hK => ?_
 refine aB fun K hK => Rg ?_
 iterate 3 refine S0 ?_
 refine aE 66 rfl (fun h8_66 => ?_) (fun h8_66 => ?_)
 ·
  clear F
  have F := h8_66
  iterate 3 refine SF ?_
  refine aE 69 rfl (fun h8_69 => ?_) (fun h8_69 => ?_)
  ·
   simp only [h8_69]
   refine T2 (hK _ _ _ ?_)
   clear hK K
   refine CF rfl ?_
   refine aG ?_
   refine T0 (hK _ _ _ ?_)
   clear hK K
   obtain ⟨v1, hv1⟩ := Option.isSome_iff_exists.1 h8_66
   obtain ⟨e1, he1⟩ := Option.isSome_iff_exists.1 h8_69
   rw [hv1, he1]
   have hx1 : iE l0 rt0 = some ⟨v1, e1, [], [], []⟩ := by unfold iE; rw [if_pos h3, hv1, he1]; rfl
   obtain ⟨x1, hxx⟩ : ∃ x1 : Rt, x1 = ⟨v1, e1, [], [], []⟩ := ⟨_, rfl⟩
   rw [← hxx] at hx1
   have hrd1 : rRead 0 x1 := qW hx1 aP5
   have hinit : RSt ls x1 0 0 x1 := RSt.init (fun l h => hok l (List.mem_cons_of_mem _ h)) hrd1
   simp only [List.length_cons] at hlen
   refine aB fun K hK => Rg ?_
   clear F
   have F := @Option.getD_some.{0}
   iterate 5 refine SF ?_
   refine T2 (hK _ _ _ ?_)
   clear hK K
   refine R0 ?_
   refine aB fun K hK => ?_
   have key0 : ∀ (k : Nat) (x : Rt) fr ob nx, RSt ls x1 k 1 x → Fits 0 fr ob (fin [(2, .ptr 0 0), (4, .c (.slc ((l0 :: ls).map lsC))), (10, .ptr 240 0), (11, .c (.int .i64 ((k + 1 : Nat) : Int)))]) (fob [(0, .box 26 (.c (.agg [.int .i64 0, .int .i64 0, .nils, .nils, .nils]))), (240, .box 26 (.agg [.c (.int .i64 x.v), .c (.int .i64 x.e), .own 252 x.q.length, .own 253 x.k.length, .own 254 x.x.length])), (252, .row 64 2 (x.q.map Qt.cv)), (253, .row 70 21 (x.k.map Ky.cv)), (254, .row 51 33 (x.x.map Rv.cv))]) 900 → K fr ob nx := by
    intro k x fr ob nx hst hf
    refine hK _ _ _ (bE hf ?_)
    clear hf hK K
    refine aB fun K hK => ?_
    have key1 : ∀ (k : Nat) (x : Rt) fr ob nx, RSt ls x1 k 2 x → Fits 0 fr ob (fin [(2, .ptr 0 0), (4, .c (.slc ((l0 :: ls).map lsC))), (10, .ptr 240 0), (11, .c (.int .i64 ((k + 1 : Nat) : Int)))]) (fob [(0, .box 26 (.c (.agg [.int .i64 0, .int .i64 0, .nils, .nils, .nils]))), (240, .box 26 (.agg [.c (.int .i64 x.v), .c (.int .i64 x.e), .own 252 x.q.length, .own 253 x.k.length, .own 254 x.x.length])), (252, .row 64 2 (x.q.map Qt.cv)), (253, .row 70 21 (x.k.map Ky.cv)), (254, .row 51 33 (x.x.map Rv.cv))]) 900 → K fr ob nx := by
     intro k x fr ob nx hst hf
     refine hK _ _ _ (bE hf ?_)
     clear hf hK K
     refine aB fun K hK => ?_
     have key2 : ∀ (k : Nat) (x : Rt) fr ob nx, RSt ls x1 k 3 x → Fits 0 fr ob (fin [(2, .ptr 0 0), (4, .c (.slc ((l0 :: ls).map lsC))), (10, .ptr 240 0), (11, .c (.int .i64 ((k + 1 : Nat) : Int)))]) (fob [(0, .box 26 (.c (.agg [.int .i64 0, .int .i64 0, .nils, .nils, .nils]))), (240, .box 26 (.agg [.c (.int .i64 x.v), .c (.int .i64 x.e), .own 252 x.q.length, .own 253 x.k.length, .own 254 x.x.length])), (252, .row 64 2 (x.q.map Qt.cv)), (253, .row 70 21 (x.k.map Ky.cv)), (254, .row 51 33 (x.x.map Rv.cv))]) 900 → K fr ob nx := by
      intro k x fr ob nx hst hf
      refine hK _ _ _ (bE hf ?_)
      clear hf hK K
      refine aB fun K hK => ?_
      refine aB fun K hK => Rg ?_
      clear F
      have F := @List.length_map.{0,0}
      iterate 4 refine SF ?_
      refine T2 (hK _ _ _ ?_)
      clear hK K
      refine aJ (b := decide (((k + 1 : Nat) : Int) < ((ls.length + 1 : Nat) : Int))) rfl (fun hb => ?_) (fun hb => ?_)
      ·
       refine R0 ?_
       refine aD (RT Tryz.results21 ?_)
       have hE := hEn (by
        rcases hst.more (by simp at hb; omega) with h | ⟨l, r, h⟩
        ·
         exact gS hroot hx1 h
        exact vP hroot hx1 h)
       exact aL [] rt0.cv (.int .i64 2) rfl ⟨by rw [hOn (by rw [hE]; decide)], by rw [hE]⟩
      refine aG ?_
      refine T0 (hK _ _ _ ?_)
      clear hK K
      refine aB fun K hK => ?_
      obtain ⟨hrun, hrd⟩ := hst.fin (by simp at hb; omega)
      clear hb
      have hrs := vQ hroot hx1 hrun
      have hsz := hrd.sz (by omega)
      have hEx := hEs x hrs
      have hOx := hOs x hrs
      refine bT [252, 253, 254] (bE (fr2 := fin [(2, .ptr 0 0), (10, .ptr 240 0)]) (ob2 := fob [(0, .box 26 (.c rt0.cv)), (240, .box 26 (.c x.cv))]) (nx2 := 900) (aQ (by omega) (by simp [aX, cD, fin_at, finA_at, upd_at, fob_at, HV.close, HV.closeL, CV.denil, CV.denilL, fC, nK, HV.men, HV.menL, HV.norm, HV.toC, HV.toCL]) (by simp [bB, cE, fob_at, upd_at, none0_at, bU, rt0, Rt.cv, HO.close, HV.close, HV.closeL, CV.denil, CV.denilL, denilL_Qt, denilL_Ky, denilL_Rv, HO.men, HV.men, HV.menL, HV.norm, HV.toC, HV.toCL])) ?_)
      refine aB fun K hK => Rg ?_
      refine S0 ?_
      refine HS rfl rfl fun K' hK' => T5 ?_
      refine C1 (gR x hsz) ?_
      rintro u rfl
      refine AX (hK' _ _ ?_)
      clear hK' K'
      refine S0 ?_
      refine T2 (hK _ _ _ ?_)
      clear hK K
      refine aJ (b := !(bJ x)) rfl (fun hb => ?_) (fun hb => ?_)
      ·
       refine R0 ?_
       refine aD (RT Tryz.results21 ?_)
       have hE : cP b = 1 := by rw [hEx, if_neg (by simpa using hb)]
       exact aL [] rt0.cv (.int .i64 1) rfl ⟨by rw [hOn (by rw [hE]; decide)], by rw [hE]⟩
      refine aG ?_
      refine T0 (hK _ _ _ ?_)
      clear hK K
      refine R0 ?_
      refine aD (RT Tryz.results21 ?_)
      have hE : cP b = 0 := by rw [hEx, if_pos (by simpa using hb)]
      refine aL [] x.cv (.int .i64 0) ?_ ⟨by rw [hOx hE], by rw [hE]⟩
      simp [HV.close, HV.closeL, HV.norm, HV.toC, HV.toCL, CV.denil, Rt.denil]
     refine aH ?_
     refine aT (α := {z : Nat × Rt // RSt ls x1 z.1 2 z.2}) (fun z => (fin [(2, .ptr 0 0), (4, .c (.slc ((l0 :: ls).map lsC))), (10, .ptr 240 0), (11, .c (.int .i64 ((z.1.1 + 1 : Nat) : Int)))], fob [(0, .box 26 (.c (.agg [.int .i64 0, .int .i64 0, .nils, .nils, .nils]))), (240, .box 26 (.agg [.c (.int .i64 z.1.2.v), .c (.int .i64 z.1.2.e), .own 252 z.1.2.q.length, .own 253 z.1.2.k.length, .own 254 z.1.2.x.length])), (252, .row 64 2 (z.1.2.q.map Qt.cv)), (253, .row 70 21 (z.1.2.k.map Ky.cv)), (254, .row 51 33 (z.1.2.x.map Rv.cv))])) 1000 (fun z => ls.length - z.1.1) ⟨(k, x), hst⟩ (fF) ?_
     rintro ⟨⟨k, x⟩, hst⟩
     simp only at hst ⊢
     have hkl := hst.1
     refine aB fun K hK => ?_
     refine aB fun K hK => Rg ?_
     clear F
     have F := @List.length_map.{0,0}
     iterate 5 refine SF ?_
     refine aE 160 rfl (fun h24_160 => ?_) (fun h24_160 => ?_)
     ·
      clear F
      have F := aI @List.length_map.{0,0} h24_160
      iterate 2 refine SF ?_
      refine aZ (g := some (161, true)) rfl rfl fun K' hK' => T6 ?_
      have hk : k < ls.length := by simp at h24_160; omega
      have hkn := qX l0 hk
      have hwk := hok ls[k] (List.mem_cons_of_mem _ (List.getElem_mem hk))
      have h0l : 0 < ls[k].length := List.length_pos_iff.2 hwk.1
      have w0 := bP h0l
      rw [hkn]
      refine AX (hK' _ _ ?_)
      clear hK' K'
      iterate 5 refine SF ?_
      refine aE 167 rfl (fun h24_167 => ?_) (fun h24_167 => ?_)
      ·
       clear F
       have F := aI @List.length_map.{0,0} (aI h24_160 h24_167)
       iterate 2 refine SF ?_
       refine aZ (g := some (169, true)) rfl rfl fun K' hK' => T6 ?_
       rw [hkn]
       refine AX (hK' _ _ ?_)
       clear hK' K'
       refine SF ?_
       refine aZ (g := some (169, true)) rfl rfl fun K' hK' => T6 ?_
       rw [w0]
       refine AX (hK' _ _ ?_)
       clear hK' K'
       iterate 3 refine SF ?_
       refine aE 176 rfl (fun h24_176 => ?_) (fun h24_176 => ?_)
       ·
        simp only [h24_176]
        refine T2 (hK _ _ _ ?_)
        clear hK K
        refine CT rfl ?_
        refine aG ?_
        refine T0 (hK _ _ _ ?_)
        clear hK K
        refine aH ?_
        have hw : wd ls[k] 0 = dR 2 := by simpa [dR] using h24_176
        have h3k : ls[k].length = 3 := by simp at h24_167; omega
        have i1 : 1 < ls[k].length := by omega
        have i2 : 2 < ls[k].length := by omega
        have z1 : (1 : Int) < ls[k].length := by omega
        have z2 : (2 : Int) < ls[k].length := by omega
        have hki : ((k + 1 : Nat) : Int) < ((ls.length + 1 : Nat) : Int) := by omega
        have hxl := hst.len (by omega) hk hw
        refine aB fun K hK => Rg ?_
        iterate 6 refine S0 ?_ (e := fun _ h_ => by simp only [sH, ↓sP, sA, tyS, simprocAttr, hki, hkn, CV.cells, z1, bP i1, List.length_map, dg_setAt]; exact AX h_)
        refine HS rfl rfl fun K' hK' => ?_
        simp only [sH, ↓sP, sA, tyS, simprocAttr, hki, hkn, CV.cells, z1, bP i1, List.length_map, dg_setAt]
        refine D1 (aO6 (wd ls[k] 1)) ?_
        rintro u v ⟨rfl, rfl⟩
        refine AX (hK' _ _ ?_)
        clear hK' K'
        iterate 6 refine S0 ?_ (e := fun _ h_ => by simp only [sH, ↓sP, sA, tyS, simprocAttr, hki, hkn, CV.cells, z1, bP i1, List.length_map, dg_setAt]; exact AX h_)
        refine T2 (hK _ _ _ ?_)
        clear hK K
        refine aB fun K hK => Rg ?_
        iterate 6 refine S0 ?_ (e := fun _ h_ => by simp only [sH, ↓sP, sA, tyS, simprocAttr, hki, hkn, CV.cells, z2, bP i2, List.length_map]; exact AX h_)
        refine HS rfl rfl fun K' hK' => ?_
        simp only [sH, ↓sP, sA, tyS, simprocAttr, hki, hkn, CV.cells, z2, bP i2, List.length_map]
        refine D1 (iD (wd ls[k] 2)) ?_
        rintro u v ⟨rfl, rfl⟩
        refine AX (hK' _ _ ?_)
        clear hK' K'
        iterate 5 refine S0 ?_ (e := fun _ h_ => by simp only [sH, ↓sP, sA, tyS, simprocAttr, hki, hkn, CV.cells, z2, bP i2, List.length_map]; exact AX h_)
        refine T2 (hK _ _ _ ?_)
        clear hK K
        refine aB fun K hK => ?_
        refine aB fun K hK => Rg ?_
        iterate 3 refine S0 ?_
        refine aE 198 rfl (fun h27_198 => ?_) (fun h27_198 => ?_)
        ·
         clear F
         have F := h27_198
         iterate 3 refine SF ?_
         refine aE 201 rfl (fun h27_201 => ?_) (fun h27_201 => ?_)
         ·
          simp only [h27_201]
          refine T2 (hK _ _ _ ?_)
          clear hK K
          refine CF rfl ?_
          refine aG ?_
          refine T0 (hK _ _ _ ?_)
          clear hK K
          obtain ⟨d, hd⟩ := Option.isSome_iff_exists.1 h27_198
          obtain ⟨n, hn⟩ := Option.isSome_iff_exists.1 h27_201
          have hy : jC 2 ls[k] x = some { x with x := x.x ++ [⟨d, n⟩] } := by show mO ls[k] x = _; unfold mO; rw [if_pos h3k, hd, hn]
          rw [hd, hn]
          refine aB fun K hK => Rg ?_
          clear F
          have F := aI @List.length_map.{0,0} (aI @List.length_append.{0} (aI @Option.getD_some.{0} @Rv.cells))
          iterate 9 refine SF ?_
          refine T2 (hK _ _ _ ?_)
          clear hK K
          refine aM (by kernel_rfl) ?_
          refine TQ (IntWalk.i64_in _ (show -9223372036854775808 ≤ ((k + 1 : Nat) : Int) + 1 ∧ ((k + 1 : Nat) : Int) + 1 ≤ 9223372036854775807 by omega)) ?_
          refine ⟨⟨(k + 1, { x with x := x.x ++ [⟨d, n⟩] }), hst.hit (by omega) hk hw hy⟩, fF, ?_⟩
          show ls.length - (k + 1) < ls.length - k
          omega
         simp only [h27_201]
         refine T2 (hK _ _ _ ?_)
         clear hK K
         refine CT rfl ?_
         refine R0 ?_
         refine aD (RT Tryz.results21 ?_)
         have hy : jC 2 ls[k] x = none := by
          show mO ls[k] x = none
          unfold mO
          rw [if_pos h3k]
          first
           | (rw [show lI (wd ls[k] 1) = none by simpa using h27_198])
           | (rw [show bL (wd ls[k] 2) = none by simpa using h27_201]; cases lI (wd ls[k] 1) <;> rfl)
         have hE := hEn (gS hroot hx1 (hst.fail (by omega) hk hw hy))
         exact aL [] rt0.cv (.int .i64 2) rfl ⟨by rw [hOn (by rw [hE]; decide)], by rw [hE]⟩
        clear F
        have F := h27_198
        iterate 3 refine SF ?_
        refine T2 (hK _ _ _ ?_)
        clear hK K
        refine CT rfl ?_
        refine R0 ?_
        refine aD (RT Tryz.results21 ?_)
        have hy : jC 2 ls[k] x = none := by
         show mO ls[k] x = none
         unfold mO
         rw [if_pos h3k]
         first
          | (rw [show lI (wd ls[k] 1) = none by simpa using h27_198])
          | (rw [show bL (wd ls[k] 2) = none by simpa using h27_201]; cases lI (wd ls[k] 1) <;> rfl)
        have hE := hEn (gS hroot hx1 (hst.fail (by omega) hk hw hy))
        exact aL [] rt0.cv (.int .i64 2) rfl ⟨by rw [hOn (by rw [hE]; decide)], by rw [hE]⟩
       simp only [h24_176]
       refine T2 (hK _ _ _ ?_)
       clear hK K
       refine CF rfl ?_
       refine aS (T3 ?_)
       clear hK K
       exact key2 k x _ _ _ (hst.next (by omega) fun hk hw => absurd hw (by simpa [dR] using h24_176)) (fF)
      clear F
      have F := aI @List.length_map.{0,0} (aI h24_160 h24_167)
      iterate 8 refine SF ?_
      refine T2 (hK _ _ _ ?_)
      clear hK K
      refine CF rfl ?_
      refine aS (T3 ?_)
      clear hK K
      exact key2 k x _ _ _ (hst.next (by omega) fun hk _ => yQ (.inr rfl) (by simp at h24_167; omega) x) (fF)
     clear F
     have F := aI @List.length_map.{0,0} h24_160
     iterate 16 refine SF ?_
     refine T2 (hK _ _ _ ?_)
     clear hK K
     refine CF rfl ?_
     refine aS (T3 ?_)
     clear hK K
     exact key2 k x _ _ _ (hst.next (by omega) fun hk => absurd hk (by simp at h24_160; omega)) (fF)
    refine aH ?_
    refine aT (α := {z : Nat × Rt // RSt ls x1 z.1 1 z.2}) (fun z => (fin [(2, .ptr 0 0), (4, .c (.slc ((l0 :: ls).map lsC))), (10, .ptr 240 0), (11, .c (.int .i64 ((z.1.1 + 1 : Nat) : Int)))], fob [(0, .box 26 (.c (.agg [.int .i64 0, .int .i64 0, .nils, .nils, .nils]))), (240, .box 26 (.agg [.c (.int .i64 z.1.2.v), .c (.int .i64 z.1.2.e), .own 252 z.1.2.q.length, .own 253 z.1.2.k.length, .own 254 z.1.2.x.length])), (252, .row 64 2 (z.1.2.q.map Qt.cv)), (253, .row 70 21 (z.1.2.k.map Ky.cv)), (254, .row 51 33 (z.1.2.x.map Rv.cv))])) 1000 (fun z => ls.length - z.1.1) ⟨(k, x), hst⟩ (fF) ?_
    rintro ⟨⟨k, x⟩, hst⟩
    simp only at hst ⊢
    have hkl := hst.1
    refine aB fun K hK => ?_
    refine aB fun K hK => Rg ?_
    clear F
    have F := @List.length_map.{0,0}
    iterate 5 refine SF ?_
    refine aE 128 rfl (fun h18_128 => ?_) (fun h18_128 => ?_)
    ·
     clear F
     have F := aI @List.length_map.{0,0} h18_128
     iterate 2 refine SF ?_
     refine aZ (g := some (129, true)) rfl rfl fun K' hK' => T6 ?_
     have hk : k < ls.length := by simp at h18_128; omega
     have hkn := qX l0 hk
     have hwk := hok ls[k] (List.mem_cons_of_mem _ (List.getElem_mem hk))
     have h0l : 0 < ls[k].length := List.length_pos_iff.2 hwk.1
     have w0 := bP h0l
     rw [hkn]
     refine AX (hK' _ _ ?_)
     clear hK' K'
     refine SF ?_
     refine aZ (g := some (129, true)) rfl rfl fun K' hK' => T6 ?_
     rw [w0]
     refine AX (hK' _ _ ?_)
     clear hK' K'
     iterate 3 refine SF ?_
     refine aE 136 rfl (fun h18_136 => ?_) (fun h18_136 => ?_)
     ·
      simp only [h18_136]
      refine T2 (hK _ _ _ ?_)
      clear hK K
      refine CT rfl ?_
      refine aG ?_
      refine T0 (hK _ _ _ ?_)
      clear hK K
      refine aH ?_
      have hw : wd ls[k] 0 = dR 1 := by simpa [dR] using h18_136
      have hki : ((k + 1 : Nat) : Int) < ((ls.length + 1 : Nat) : Int) := by omega
      have hxl := hst.len (by omega) hk hw
      refine aB fun K hK => Rg ?_
      iterate 4 refine S0 ?_ (e := fun _ h_ => by simp only [sH, ↓sP, sA, tyS, simprocAttr, hki, hkn, CV.cells, List.length_map, denilL_str]; exact AX h_)
      refine HS rfl rfl fun K' hK' => ?_
      simp only [sH, ↓sP, sA, tyS, simprocAttr, hki, hkn, CV.cells, List.length_map, denilL_str]
      refine D1 (aO7 ls[k] (by have := hwk.2.1; omega) h0l hw) ?_
      rintro u v ⟨y, ok, rfl, rfl, hy⟩
      have hy := hy x
      refine AX (hK' _ _ ?_)
      clear hK' K'
      iterate 6 refine S0 ?_ (e := fun _ h_ => by simp only [sH, ↓sP, sA, tyS, simprocAttr, hki, hkn, CV.cells, List.length_map, denilL_str]; exact AX h_)
      refine T2 (hK _ _ _ ?_)
      clear hK K
      refine aB fun K hK => ?_
      refine R0 ?_
      refine aJ (b := !ok) rfl (fun hb => ?_) (fun hb => ?_)
      ·
       refine R0 ?_
       refine aD (RT Tryz.results21 ?_)
       have hok0 : ok = false := by simpa using hb
       rw [hok0] at hy
       have hE := hEn (gS hroot hx1 (hst.fail (by omega) hk hw hy))
       exact aL [] rt0.cv (.int .i64 2) rfl ⟨by rw [hOn (by rw [hE]; decide)], by rw [hE]⟩
      refine aG ?_
      refine T0 (hK _ _ _ ?_)
      clear hK K
      have hok1 : ok = true := by simpa using hb
      rw [hok1] at hy
      refine aB fun K hK => Rg ?_
      clear F
      have F := aI @List.length_map.{0,0} (aI @List.length_append.{0} @Ky.cells)
      iterate 7 refine SF ?_
      refine T2 (hK _ _ _ ?_)
      clear hK K
      refine aM (by kernel_rfl) ?_
      refine TQ (IntWalk.i64_in _ (show -9223372036854775808 ≤ ((k + 1 : Nat) : Int) + 1 ∧ ((k + 1 : Nat) : Int) + 1 ≤ 9223372036854775807 by omega)) ?_
      refine ⟨⟨(k + 1, { x with k := x.k ++ [y] }), hst.hit (by omega) hk hw hy⟩, fF, ?_⟩
      show ls.length - (k + 1) < ls.length - k
      omega
     simp only [h18_136]
     refine T2 (hK _ _ _ ?_)
     clear hK K
     refine CF rfl ?_
     refine aS (T3 ?_)
     clear hK K
     exact key1 k x _ _ _ (hst.next (by omega) fun hk hw => absurd hw (by simpa [dR] using h18_136)) (fF)
    clear F
    have F := aI @List.length_map.{0,0} h18_128
    iterate 8 refine SF ?_
    refine T2 (hK _ _ _ ?_)
    clear hK K
    refine CF rfl ?_
    refine aS (T3 ?_)
    clear hK K
    exact key1 k x _ _ _ (hst.next (by omega) fun hk => absurd hk (by simp at h18_128; omega)) (fF)
   refine aH ?_
   refine gL 240 2 64 2 rfl rfl rfl rfl ?_
   refine gL 240 3 70 21 rfl rfl rfl rfl ?_
   refine gL 240 4 51 33 rfl rfl rfl rfl ?_
   refine aT (α := {z : Nat × Rt // RSt ls x1 z.1 0 z.2}) (fun z => (fin [(2, .ptr 0 0), (4, .c (.slc ((l0 :: ls).map lsC))), (10, .ptr 240 0), (11, .c (.int .i64 ((z.1.1 + 1 : Nat) : Int)))], fob [(0, .box 26 (.c (.agg [.int .i64 0, .int .i64 0, .nils, .nils, .nils]))), (240, .box 26 (.agg [.c (.int .i64 z.1.2.v), .c (.int .i64 z.1.2.e), .own 252 z.1.2.q.length, .own 253 z.1.2.k.length, .own 254 z.1.2.x.length])), (252, .row 64 2 (z.1.2.q.map Qt.cv)), (253, .row 70 21 (z.1.2.k.map Ky.cv)), (254, .row 51 33 (z.1.2.x.map Rv.cv))])) 300 (fun z => ls.length - z.1.1) ⟨(0, x1), hinit⟩ (aQ (by omega) (by simp [aX, fin_at, finA_at, upd_at, HV.men, HV.menL, HV.norm, HV.toC, HV.toCL, lsC]) (by simp [hxx, bB, fob_at, upd_at, none0_at, bU, HO.men, HV.men, HV.menL, HV.norm, HV.toC, HV.toCL])) ?_
   rintro ⟨⟨k, x⟩, hst⟩
   simp only at hst ⊢
   have hkl := hst.1
   refine aB fun K hK => ?_
   refine aB fun K hK => Rg ?_
   clear F
   have F := @List.length_map.{0,0}
   iterate 5 refine SF ?_
   refine aE 79 rfl (fun h12_79 => ?_) (fun h12_79 => ?_)
   ·
    clear F
    have F := aI @List.length_map.{0,0} h12_79
    iterate 2 refine SF ?_
    refine aZ (g := some (80, true)) rfl rfl fun K' hK' => T6 ?_
    have hk : k < ls.length := by simp at h12_79; omega
    have hkn := qX l0 hk
    have hwk := hok ls[k] (List.mem_cons_of_mem _ (List.getElem_mem hk))
    have h0l : 0 < ls[k].length := List.length_pos_iff.2 hwk.1
    have w0 := bP h0l
    rw [hkn]
    refine AX (hK' _ _ ?_)
    clear hK' K'
    iterate 5 refine SF ?_
    refine aE 86 rfl (fun h12_86 => ?_) (fun h12_86 => ?_)
    ·
     clear F
     have F := aI @List.length_map.{0,0} (aI h12_79 h12_86)
     iterate 2 refine SF ?_
     refine aZ (g := some (88, true)) rfl rfl fun K' hK' => T6 ?_
     rw [hkn]
     refine AX (hK' _ _ ?_)
     clear hK' K'
     refine SF ?_
     refine aZ (g := some (88, true)) rfl rfl fun K' hK' => T6 ?_
     rw [w0]
     refine AX (hK' _ _ ?_)
     clear hK' K'
     iterate 3 refine SF ?_
     refine aE 95 rfl (fun h12_95 => ?_) (fun h12_95 => ?_)
     ·
      simp only [h12_95]
      refine T2 (hK _ _ _ ?_)
      clear hK K
      refine CT rfl ?_
      refine aG ?_
      refine T0 (hK _ _ _ ?_)
      clear hK K
      refine aH ?_
      have hw : wd ls[k] 0 = dR 0 := by simpa [dR] using h12_95
      have h3k : ls[k].length = 3 := by simp at h12_86; omega
      have i1 : 1 < ls[k].length := by omega
      have i2 : 2 < ls[k].length := by omega
      have z1 : (1 : Int) < ls[k].length := by omega
      have z2 : (2 : Int) < ls[k].length := by omega
      have hki : ((k + 1 : Nat) : Int) < ((ls.length + 1 : Nat) : Int) := by omega
      have hxl := hst.len (by omega) hk hw
      refine aB fun K hK => Rg ?_
      iterate 6 refine S0 ?_ (e := fun _ h_ => by simp only [sH, ↓sP, sA, tyS, simprocAttr, hki, hkn, CV.cells, z2, bP i2, List.length_map]; exact AX h_)
      refine HS rfl rfl fun K' hK' => ?_
      simp only [sH, ↓sP, sA, tyS, simprocAttr, hki, hkn, CV.cells, z2, bP i2, List.length_map]
      refine D1 (iD (wd ls[k] 2)) ?_
      rintro u v ⟨rfl, rfl⟩
      refine AX (hK' _ _ ?_)
      clear hK' K'
      iterate 5 refine S0 ?_ (e := fun _ h_ => by simp only [sH, ↓sP, sA, tyS, simprocAttr, hki, hkn, CV.cells, z2, bP i2, List.length_map]; exact AX h_)
      refine T2 (hK _ _ _ ?_)
      clear hK K
      refine aB fun K hK => ?_
      refine R0 ?_
      refine aJ (b := !(bL (wd ls[k] 2)).isSome) rfl (fun hb => ?_) (fun hb => ?_)
      ·
       refine R0 ?_
       refine aD (RT Tryz.results21 ?_)
       have hE := hEn (gS hroot hx1 (hst.fail (by omega) hk hw (show gA ls[k] x = none by unfold gA; rw [if_pos h3k]; rw [show bL (wd ls[k] 2) = none by simpa using hb])))
       exact aL [] rt0.cv (.int .i64 2) rfl ⟨by rw [hOn (by rw [hE]; decide)], by rw [hE]⟩
      refine aG ?_
      refine T0 (hK _ _ _ ?_)
      clear hK K
      obtain ⟨n, hn⟩ := Option.isSome_iff_exists.1 (show (bL (wd ls[k] 2)).isSome = true by simpa using hb)
      have hy : jC 0 ls[k] x = some { x with q := x.q ++ [⟨wd ls[k] 1, n⟩] } := by show gA ls[k] x = _; unfold gA; rw [if_pos h3k, hn]
      rw [hn]
      refine aB fun K hK => DW [(0, [], []), (1, [], []), (2, [], []), (3, [], []), (4, [], []), (5, [], []), (6, [], []), (7, [], []), (8, [], []), (9, [], []), (10, [], []), (11, [], []), (12, [], []), (13, [], [])] [0, 1, 0, 0, 12, 28, 60, 124, 0, 508, 1020, 2047, 4095, 8191] ?_
      iterate 14 refine W0 ?_ (e := fun _ h_ => by simp only [sH, ↓sP, sA, tyS, simprocAttr, hki, hkn, CV.cells, z1, bP i1, List.length_map, List.length_append, Option.getD_some]; exact AX h_)
      refine T2 (hK _ _ _ ?_)
      clear hK K
      refine aM (by kernel_rfl) ?_
      refine TQ (IntWalk.i64_in _ (show -9223372036854775808 ≤ ((k + 1 : Nat) : Int) + 1 ∧ ((k + 1 : Nat) : Int) + 1 ≤ 9223372036854775807 by omega)) ?_
      refine ⟨⟨(k + 1, { x with q := x.q ++ [⟨wd ls[k] 1, n⟩] }), hst.hit (by omega) hk hw hy⟩, fF, ?_⟩
      show ls.length - (k + 1) < ls.length - k
      omega
     simp only [h12_95]
     refine T2 (hK _ _ _ ?_)
     clear hK K
     refine CF rfl ?_
     refine aS (T3 ?_)
     clear hK K
     exact key0 k x _ _ _ (hst.next (by omega) fun hk hw => absurd hw (by simpa [dR] using h12_95)) (fF)
    clear F
    have F := aI @List.length_map.{0,0} (aI h12_79 h12_86)
    iterate 8 refine SF ?_
    refine T2 (hK _ _ _ ?_)
    clear hK K
    refine CF rfl ?_
    refine aS (T3 ?_)
    clear hK K
    exact key0 k x _ _ _ (hst.next (by omega) fun hk _ => yQ (.inl rfl) (by simp at h12_86; omega) x) (fF)
   clear F
   have F := aI @List.length_map.{0,0} h12_79
   iterate 16 refine SF ?_
   refine T2 (hK _ _ _ ?_)
   clear hK K
   refine CF rfl ?_
   refine aS (T3 ?_)
   clear hK K
   exact key0 k x _ _ _ (hst.next (by omega) fun hk => absurd hk (by simp at h12_79; omega)) (fF)
  simp only [h8_69]
  refine T2 (hK _ _ _ ?_)
  clear hK K
  refine CT rfl ?_
  refine R0 ?_
  refine aD (RT Tryz.results21 ?_)
  have hE := hEn (qV hroot (by unfold iE; rw [if_pos h3, show bL (wd l0 2) = none by simpa using h8_69]; cases bL (wd l0 1) <;> rfl))
  exact aL [] rt0.cv (.int .i64 2) rfl ⟨by rw [hOn (by rw [hE]; decide)], by rw [hE]⟩
 clear F
 have F := h8_66
 iterate 3 refine SF ?_
 refine T2 (hK _ _ _ ?_)
 clear hK K
 refine CT rfl ?_
 refine R0 ?_
 refine aD (RT Tryz.results21 ?_)
 have hE := hEn (qV hroot (by unfold iE; rw [if_pos h3, show bL (wd l0 1) = none by simpa using h8_66]))
 exact aL [] rt0.cv (.int .i64 2) rfl ⟨by rw [hOn (by rw [hE]; decide)], by rw [hE]⟩

end Go.Proofs.YtenbfeemmpjdhaaGreatDoor

namespace Go.Proofs.YtenbfeemmpjdhaaGreatDoor
open Go Go.Hl Go.Pl
set_option maxRecDepth 10000
set_option maxHeartbeats 16000000

theorem bT3 (a b : Rt) (ha : a.x.length < 2 ^ 40) (hb' : b.x.length < 2 ^ 40) : aW Tryz.prog 54 [a.cv, b.cv] (fun v => v = .bool (kE a b)) := by
 refine FW Tryz.func54 ?_
 refine R0 ?_
 refine aB fun K hK => ?_
 refine aB fun K hK => Rg ?_
 iterate 4 refine S0 ?_
 refine T2 (hK _ _ _ ?_)
 clear hK K
 refine aH ?_
 refine aT (α := {i : Nat // i ≤ a.x.length ∧ ∀ x ∈ a.x.take i, (!iU b.x x.k || decide (x.t < iJ b.x x.k)) = false}) (fun i => (fin [(3, .ptr 4 0), (10, .c (.slc (a.x.map Rv.cv))), (11, .c (.int .i64 a.x.length)), (12, .c (.int .i64 i.1))], fob [(4, .box 26 (.c b.cv))])) 100 (fun i => a.x.length - i.1) ⟨0, by omega, by simp⟩ (fF) ?_
 rintro ⟨i, hi, h0⟩
 refine R0 ?_
 refine aB fun K hK => ?_
 refine aJ (b := decide ((i : Int) < a.x.length)) rfl (fun hb => ?_) (fun hb => ?_)
 ·
  have hlt : i < a.x.length := by simpa using hb
  clear hb
  refine aG ?_
  refine T0 (hK _ _ _ ?_)
  clear hK K
  refine aB fun K hK => ?_
  refine aH ?_
  refine aB fun K hK => Rg ?_
  have F := aI @Int.natCast_nonneg (aI @Int.ofNat_lt (aI hlt (nM hlt)))
  iterate 4 refine SF ?_
  refine T2 (hK _ _ _ ?_)
  clear hK K
  refine aB fun K hK => Rg ?_
  iterate 3 refine S0 ?_
  refine HS rfl rfl fun K' hK' => T5 ?_
  refine D2 (uU b a.x[i].k hb') ?_
  rintro u v ⟨rfl, rfl⟩
  refine AX (hK' _ _ ?_)
  clear hK' K'
  iterate 5 refine S0 ?_
  refine T2 (hK _ _ _ ?_)
  clear hK K
  refine aB fun K hK => Rg ?_
  iterate 3 refine S0 ?_
  refine aE 23 rfl (fun h5_23 => ?_) (fun h5_23 => ?_)
  ·
   have F := h5_23
   iterate 5 refine SF ?_
   refine aE 29 rfl (fun h5_29 => ?_) (fun h5_29 => ?_)
   ·
    simp only [h5_29]
    refine T2 (hK _ _ _ ?_)
    clear hK K
    refine CT rfl ?_
    refine R0 ?_
    refine aD (RT Tryz.results54 ?_)
    exact aC [] (.bool false) rfl (by rw [nL hlt (by simp only [h5_23, h5_29, Bool.not_false, Bool.not_true, Bool.true_or, Bool.or_true, Bool.false_or])])
   simp only [h5_29]
   refine T2 (hK _ _ _ ?_)
   clear hK K
   refine CF rfl ?_
   refine aG ?_
   refine T0 (hK _ _ _ ?_)
   clear hK K
   refine aM (by kernel_rfl) ?_
   refine TQ (bK i) ?_
   refine ⟨⟨i + 1, hlt, dO (p := fun x => (!iU b.x x.k || decide (x.t < iJ b.x x.k))) hlt (by simp only [h5_23, h5_29]; rfl) h0⟩, fF, ?_⟩
   show a.x.length - (i + 1) < a.x.length - i
   omega
  have F := h5_23
  iterate 5 refine SF ?_
  refine T2 (hK _ _ _ ?_)
  clear hK K
  refine CT rfl ?_
  refine R0 ?_
  refine aD (RT Tryz.results54 ?_)
  exact aC [] (.bool false) rfl (by rw [nL hlt (by simp only [h5_23, Bool.not_false, Bool.not_true, Bool.true_or, Bool.or_true, Bool.false_or])])
 refine aS (T3 ?_)
 clear hK K
 refine AX (hK _ _ _ ?_)
 clear hK K
 refine R0 ?_
 refine aD (RT Tryz.results54 ?_)
 have hei : i = a.x.length := by simp at hb; omega
 subst hei
 rw [List.take_length] at h0
 exact aC [] (.bool true) rfl (by rw [aJ7 h0])


theorem bB0 (r : Rt) (b : aK) (l : List Dig) (t : Int) (hr : rSz r) (hlb : b.length < 2 ^ 40) (hll : l.length < 2 ^ 40) : cW Tryz.prog 15 [r.cv, .slc (b.map u8), .slc (l.map dg), .int .i64 t] (fun u v => u = (kF r b l t).cv ∧ v = .int .i64 (eQ r b l t)) := by
 refine FW Tryz.func15 ?_
 refine R0 ?_
 refine aB fun K hK => ?_
 refine aB fun K hK => Rg ?_
 refine S0 ?_
 refine HS rfl rfl fun K' hK' => T5 ?_
 refine C1 (mP r hr) ?_
 rintro u rfl
 refine AX (hK' _ _ ?_)
 clear hK' K'
 refine S0 ?_
 refine T2 (hK _ _ _ ?_)
 clear hK K
 refine aJ (b := !(bJ r)) rfl (fun hb => ?_) (fun hb => ?_)
 ·
  refine R0 ?_
  refine aD (RT Tryz.results15 ?_)
  have hE : eQ r b l t = 1 := by unfold eQ; rw [if_pos (by simpa using hb)]
  exact aL [] rt0.cv (.int .i64 1) rfl ⟨by unfold kF; rw [if_neg (by rw [hE]; decide)], by rw [hE]⟩
 have h1 : ¬ bJ r = false := by simpa using hb
 clear hb
 refine aG ?_
 refine T0 (hK _ _ _ ?_)
 clear hK K
 refine aB fun K hK => Rg ?_
 have F := @denilL_u8
 refine SF ?_
 refine HS rfl rfl fun K' hK' => T6 ?_
 refine D1 (bT0 b hlb) ?_
 rintro u v ⟨rfl, rfl⟩
 refine AX (hK' _ _ ?_)
 clear hK' K'
 iterate 6 refine SF ?_
 refine T2 (hK _ _ _ ?_)
 clear hK K
 refine aB fun K hK => ?_
 refine aH ?_
 refine R0 ?_
 refine aJ (b := cP b != 0) rfl (fun hb => ?_) (fun hb => ?_)
 ·
  refine aB fun K hK => Rg ?_
  iterate 4 refine S0 ?_
  refine T2 (hK _ _ _ ?_)
  clear hK K
  refine aD (RT Tryz.results15 ?_)
  have h2 : cP b ≠ 0 := by simpa using hb
  have hE : eQ r b l t = cP b := by unfold eQ; rw [if_neg h1, if_pos h2]
  exact aL [] rt0.cv (.int .i64 (cP b)) rfl ⟨by unfold kF; rw [if_neg (by rw [hE]; exact h2)], by rw [hE]⟩
 have h2 : ¬ cP b ≠ 0 := by simpa using hb
 clear hb
 have hy := vS b
 refine aB fun K hK => Rg ?_
 iterate 7 refine S0 ?_
 refine T2 (hK _ _ _ ?_)
 clear hK K
 refine aJ (b := (bY b).v != IntKind.i64.wrap (r.v + 1)) rfl (fun hb => ?_) (fun hb => ?_)
 ·
  refine R0 ?_
  refine aD (RT Tryz.results15 ?_)
  have hE : eQ r b l t = 6 := by unfold eQ; rw [if_neg h1, if_neg h2, if_pos (by simpa using hb)]
  exact aL [] rt0.cv (.int .i64 6) rfl ⟨by unfold kF; rw [if_neg (by rw [hE]; decide)], by rw [hE]⟩
 have h3 : ¬ (bY b).v ≠ IntKind.i64.wrap (r.v + 1) := by simpa using hb
 clear hb
 refine aB fun K hK => Rg ?_
 iterate 2 refine S0 ?_
 refine HS rfl rfl fun K' hK' => T5 ?_
 refine C2 (bT3 r (bY b) hr.2.2 hy.2.2) ?_
 rintro u rfl
 refine AX (hK' _ _ ?_)
 clear hK' K'
 iterate 2 refine S0 ?_
 refine T2 (hK _ _ _ ?_)
 clear hK K
 refine aJ (b := !(kE r (bY b))) rfl (fun hb => ?_) (fun hb => ?_)
 ·
  refine R0 ?_
  refine aD (RT Tryz.results15 ?_)
  have hE : eQ r b l t = 1 := by unfold eQ; rw [if_neg h1, if_neg h2, if_neg h3, if_pos (by simpa using hb)]
  exact aL [] rt0.cv (.int .i64 1) rfl ⟨by unfold kF; rw [if_neg (by rw [hE]; decide)], by rw [hE]⟩
 have h4 : ¬ kE r (bY b) = false := by simpa using hb
 clear hb
 refine aB fun K hK => Rg ?_
 have F := @denilL_dg
 iterate 3 refine SF ?_
 refine HS rfl rfl fun K' hK' => T6 ?_
 refine C4 (qT r fI l t hr hll) ?_
 rintro u rfl
 refine AX (hK' _ _ ?_)
 clear hK' K'
 iterate 2 refine SF ?_
 refine aE 44 rfl (fun h10_44 => ?_) (fun h10_44 => ?_)
 ·
  have F := aI @denilL_dg h10_44
  iterate 3 refine SF ?_
  refine aZ (g := some (46, false)) rfl rfl fun K' hK' => T6 ?_
  refine C4 (qT (bY b) fI l t hy hll) ?_
  rintro u rfl
  refine AX (hK' _ _ ?_)
  clear hK' K'
  iterate 3 refine SF ?_
  refine aE 50 rfl (fun h10_50 => ?_) (fun h10_50 => ?_)
  ·
   simp only [h10_50]
   refine T2 (hK _ _ _ ?_)
   clear hK K
   refine CF rfl ?_
   refine aG ?_
   refine T0 (hK _ _ _ ?_)
   clear hK K
   refine R0 ?_
   refine aD (RT Tryz.results15 ?_)
   have hE : eQ r b l t = 0 := by unfold eQ; rw [if_neg h1, if_neg h2, if_neg h3, if_neg h4, if_pos (by simp only [h10_44, h10_50]; rfl)]
   refine aL [] (bY b).cv (.int .i64 0) ?_ ⟨by unfold kF; rw [if_pos hE], by rw [hE]⟩
   simp [HV.close, HV.closeL, HV.norm, HV.toC, HV.toCL, CV.denil, Rt.denil]
  simp only [h10_50]
  refine T2 (hK _ _ _ ?_)
  clear hK K
  refine CT rfl ?_
  refine R0 ?_
  refine aD (RT Tryz.results15 ?_)
  have hE : eQ r b l t = 7 := by unfold eQ; rw [if_neg h1, if_neg h2, if_neg h3, if_neg h4, if_neg (by simp only [h10_44, h10_50, Bool.and_false, Bool.false_and]; simp)]
  exact aL [] rt0.cv (.int .i64 7) rfl ⟨by unfold kF; rw [if_neg (by rw [hE]; decide)], by rw [hE]⟩
 have F := aI @denilL_dg h10_44
 iterate 7 refine SF ?_
 refine T2 (hK _ _ _ ?_)
 clear hK K
 refine CT rfl ?_
 refine R0 ?_
 refine aD (RT Tryz.results15 ?_)
 have hE : eQ r b l t = 7 := by unfold eQ; rw [if_neg h1, if_neg h2, if_neg h3, if_neg h4, if_neg (by simp only [h10_44, Bool.and_false, Bool.false_and]; simp)]
 exact aL [] rt0.cv (.int .i64 7) rfl ⟨by unfold kF; rw [if_neg (by rw [hE]; decide)], by rw [hE]⟩

end Go.Proofs.YtenbfeemmpjdhaaGreatDoor
