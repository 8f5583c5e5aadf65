/- Part of a proof: walks of functions of the program, by contracts, and the rules they use. By an AI agent. -/
import Derived.Test.YtenbfeemmpjdhaaGreatDoorPl02e
import Derived.Test.YtenbfeemmpjdhaaGreatDoorPl11y
import Derived.Test.YtenbfeemmpjdhaaGreatDoorHySb
import Derived.Test.YtenbfeemmpjdhaaGreatDoorHyT5
import Derived.Test.YtenbfeemmpjdhaaGreatDoorHyTe
import Derived.Test.YtenbfeemmpjdhaaGreatDoorPl11v
import Derived.Test.YtenbfeemmpjdhaaGreatDoorHyTz
import Derived.Test.YtenbfeemmpjdhaaGreatDoorHyV3
set_option linter.unusedSimpArgs false
set_option linter.unusedVariables false
set_option linter.defProp false
namespace Go.Proofs.YtenbfeemmpjdhaaGreatDoor
open Go Go.Hl Go.Pl
set_option maxRecDepth 10000
set_option maxHeartbeats 16000000

theorem zJ {l : List (List aK)} : (∀ a ∈ l.map lsC, a.cells = 1) ↔ True := iff_true_intro fun v h => by obtain ⟨d, _, rfl⟩ := List.mem_map.1 h; rfl
theorem gC (v : CV) (l : List CV) : nth (v :: l) 0 = v := rfl
def secC : List CV := [.agg [.str (dS 0), .fn 62], .agg [.str (dS 1), .fn 63], .agg [.str (dS 2), .fn 64]]
theorem bU3 {j : Nat} (h : j < 3) : nth secC j = .agg [.str (dS j), .fn (62 + j)] := by
 match j, h with
 | 0, _ => rfl
 | 1, _ => rfl
 | 2, _ => rfl
theorem bU4 (j : Nat) (hj : j < 3) (l : List aK) (x : Rt) (hl : l.length < 2 ^ 40) (hw : ∀ w ∈ l, w.length < 2 ^ 40) (hx : x.q.length + x.k.length + x.x.length < 2 ^ 40) : zD Tryz.prog (62 + j) 104 64 70 51 l x (jE j l x) := by
 match j, hj with
 | 0, _ => exact bD0 l x hl (by omega)
 | 1, _ => exact bU2 l x hl hw (by omega)
 | 2, _ => exact bU1 l x hl hw (by omega)

theorem aV9 (b : aK) (hl : b.length < 2 ^ 40) : dF Tryz.prog 20 [.slc (b.map u8)] (fun u v => u = (eR b).cv ∧ v = .int .i64 (dL b)) := by
 refine FW Tryz.func20 ?_
 refine R0 ?_
 refine aB fun K hK => Rg ?_
 have F := @denilL_u8
 refine SF ?_
 refine HS rfl rfl fun K' hK' => T6 ?_
 refine D1 (cA6 b hl) ?_
 rintro u v ⟨rfl, rfl⟩
 refine AX (hK' _ _ ?_)
 clear hK' K'
 iterate 5 refine SF ?_
 refine T2 (hK _ _ _ ?_)
 clear hK K
 refine aB fun K hK => ?_
 refine R0 ?_
 refine aJ (b := eB b != 0) rfl (fun hb => ?_) (fun hb => ?_)
 ·
  refine aB fun K hK => Rg ?_
  iterate 4 refine S0 ?_
  refine T2 (hK _ _ _ ?_)
  clear hK K
  refine aD (RT Tryz.results20 ?_)
  have hE : dL b = eB b := by unfold dL; rw [if_pos (by simpa using hb)]
  have hO : eR b = rt0 := by unfold eR; rw [if_neg (by rw [hE]; simpa using hb)]
  exact aM [] rt0.cv (.int .i64 (eB b)) rfl ⟨by rw [hO], by rw [hE]⟩
 have hd0 : eB b = 0 := by simpa using hb
 clear hb
 obtain ⟨lines, hlines⟩ : ∃ lines, lines = gT b := ⟨_, rfl⟩
 have hok := aD6 (b := b)
 have hlen := vZ (b := b)
 have hEn : eE lines = none → dL b = 2 := fun h => by unfold dL; rw [if_neg (by rw [hd0]; simp), ← hlines, h]
 have hOn : dL b ≠ 0 → eR b = rt0 := fun h => by unfold eR; rw [if_neg h]
 have hEs : ∀ x, eE lines = some x → dL b = if bQ x then 0 else 1 := fun x h => by unfold dL; rw [if_neg (by rw [hd0]; simp), ← hlines, h]
 have hOs : ∀ x, eE lines = some x → dL b = 0 → eR b = x := fun x h h0 => by unfold eR; rw [if_pos h0, ← hlines, h]; rfl
 rw [← hlines] at hok hlen ⊢
 clear hlines hd0
 refine aG ?_
 refine T0 (hK _ _ _ ?_)
 clear hK K
 refine aB fun K hK => ?_
 cases lines
 ·
  refine aB fun K hK => Rg ?_
  iterate 11 refine S0 ?_
  refine T2 (hK _ _ _ ?_)
  clear hK K
  refine CT rfl ?_
  refine R0 ?_
  refine aD (RT Tryz.results20 ?_)
  have hE := hEn rfl
  exact aM [] rt0.cv (.int .i64 2) rfl ⟨by rw [hOn (by rw [hE]; decide)], by rw [hE]⟩
 rename_i l0 ls
 have hw0 := hok l0 List.mem_cons_self
 have hl00 : 0 < l0.length := List.length_pos_iff.2 hw0.1
 have hz0 : (((ls.length + 1 : Nat) : Int) == 0) = false := by rw [beq_eq_false_iff_ne]; omega
 refine aB fun K hK => Rg ?_
 clear F
 have F := aI @List.map_cons.{0,0} (aI hz0 (aI @gC (aI @lsC.eq_1 (aI (bN hl00) (aI @List.length_map.{0,0} @cN)))))
 iterate 11 refine SF ?_
 refine T2 (hK _ _ _ ?_)
 clear hK K
 refine aJ (b := wd l0 0 != mN) rfl (fun hb => ?_) (fun hb => ?_)
 ·
  refine R0 ?_
  refine aD (RT Tryz.results20 ?_)
  have hE := hEn (vW (by simpa using hb))
  exact aM [] rt0.cv (.int .i64 2) rfl ⟨by rw [hOn (by rw [hE]; decide)], by rw [hE]⟩
 refine aG ?_
 refine T0 (hK _ _ _ ?_)
 clear hK K
 have hroot : wd l0 0 = mN := by simpa using hb
 clear hb
 refine R0 ?_
 refine aB fun K hK => ?_
 refine bS6 88 rfl ?_
 refine gQ 88 2 64 2 rfl rfl rfl rfl ?_
 refine gQ 88 3 70 21 rfl rfl rfl rfl ?_
 refine gQ 88 4 51 33 rfl rfl rfl rfl ?_
 refine aB fun K hK => Rg ?_
 clear F
 have F := aI @List.map_cons.{0,0} (aI @gC (aI @lsC.eq_1 (aI @List.length_map.{0,0} @cN)))
 iterate 3 refine SF ?_
 refine HS rfl rfl fun K' hK' => T6 ?_
 refine zE 88 92 93 94 (bU0 l0 rt0 (by have := hw0.2.1; omega)) ⟨rfl, rfl, rfl, rfl⟩ (by decide) (by simp) ⟨rfl, rfl, rfl, rfl⟩ ?_
 intro y hy
 unfold bM7
 refine AX (hK' _ _ ?_)
 clear hK' K'
 refine SF ?_
 refine T2 (hK _ _ _ ?_)
 clear hK K
 refine aJ (b := !(gM l0 rt0).isSome) rfl (fun hb => ?_) (fun hb => ?_)
 ·
  refine R0 ?_
  refine aD (RT Tryz.results20 ?_)
  have hE := hEn (rJ hroot (by simpa using hb))
  exact aM [] rt0.cv (.int .i64 2) rfl ⟨by rw [hOn (by rw [hE]; decide)], by rw [hE]⟩
 refine aG ?_
 refine T0 (hK _ _ _ ?_)
 clear hK K
 obtain ⟨x1, hx1⟩ := Option.isSome_iff_exists.1 (show (gM l0 rt0).isSome = true by simpa using hb)
 clear hb
 have := hy x1 hx1
 subst this
 have hrd1 := rK hx1 aR1
 have hz1 : (1 : Int) ≤ ((ls.length + 1 : Nat) : Int) := by omega
 have htk0 : List.take ls.length (ls.map lsC) = ls.map lsC := List.take_of_length_le (by simp)
 refine R0 ?_ (e := fun _ h_ => by simp only [↓sP, sA, tyS, simprocAttr, List.map_cons, List.length_cons, List.length_map, List.drop_succ_cons, List.drop_zero, Nat.add_sub_cancel, htk0, cN, zJ, hz1, Int.le_refl, CV.cells]; exact AX h_)
 refine aB fun K hK => ?_
 refine aB fun K hK => dN (by kernel_rfl) ?_
 simp only [sR, simprocAttr]
 iterate 3 refine SG0 ?_
 refine dJ (g := none) 139 rfl rfl fun K' hK' => ?_
 simp only [iS, lR, sH, ↓sP, sA, tyS, simprocAttr]
 repeat refine AI ?_
 refine eG (by first | rfl | simp) ?_
 try simp only [sH, ↓sP, sA, tyS, simprocAttr]
 refine AX (hK' _ _ ?_)
 clear hK' K'
 iterate 2 refine SG0 ?_
 refine T2 (hK _ _ _ ?_)
 clear hK K
 refine aH ?_
 refine cM [] ?_
 refine aU (α := {z : Nat × List (List aK) × Rt // RtSt ls y z.1 z.2.1 z.2.2}) (fun z => (fin [(2, .ptr 0 0), (4, .c (.slc (z.1.2.1.map lsC))), (6, .ptr 88 0), (41, .c (.slc secC)), (42, .c (.int .i64 3)), (43, .c (.int .i64 z.1.1))], fob [(0, .box 26 (.c rt0.cv)), (88, .box 104 (.agg [.c (.int .i64 z.1.2.2.v), .c (.int .i64 z.1.2.2.e), .own 92 z.1.2.2.q.length, .own 93 z.1.2.2.k.length, .own 94 z.1.2.2.x.length])), (92, .row 64 2 (z.1.2.2.q.map Qt.cv)), (93, .row 70 21 (z.1.2.2.k.map Ky.cv)), (94, .row 51 33 (z.1.2.2.x.map Rv.cv))])) 300 (fun z => 3 - z.1.1) ⟨(0, ls, y), RtSt.init (fun l h => hok l (List.mem_cons_of_mem _ h)) hrd1⟩ (aQ (by omega) (by simp [aY, cQ, fin_at, finA_at, upd_at, fob_at, HV.close, HV.closeL, CV.denil, CV.denilL, fJ, nH, secC, dS, HV.men, HV.menL, HV.norm, HV.toC, HV.toCL]) (by simp [bC, cR, fob_at, upd_at, none0_at, bT, rt0, Rt.cv, HO.close, HV.close, HV.closeL, CV.denil, CV.denilL, HO.men, HV.men, HV.menL, HV.norm, HV.toC, HV.toCL])) ?_
 rintro ⟨⟨j, rest, x⟩, hst⟩
 simp only at hst
 refine R0 ?_
 refine aB fun K hK => ?_
 refine aJ (b := decide ((j : Int) < 3)) rfl (fun hb => ?_) (fun hb => ?_)
 ·
  have hj : j < 3 := by simp at hb; omega
  clear hb
  have hsec := bU3 hj
  have hsl : secC.length = 3 := rfl
  refine aG ?_
  refine T0 (hK _ _ _ ?_)
  clear hK K
  refine aB fun K hK => ?_
  refine aH ?_
  refine aB fun K hK => Rg ?_
  clear F
  have F := aI hsl (aI hsec @Int.natCast_nonneg)
  iterate 4 refine SF ?_
  refine T2 (hK _ _ _ ?_)
  clear hK K
  refine aH ?_
  refine aU (α := {z : List (List aK) × Rt // RtSt ls y j z.1 z.2}) (fun z => (fin [(2, .ptr 0 0), (4, .c (.slc (z.1.1.map lsC))), (6, .ptr 88 0), (8, .ptr 312 0), (41, .c (.slc secC)), (42, .c (.int .i64 3)), (43, .c (.int .i64 j))], fob [(0, .box 26 (.c rt0.cv)), (88, .box 104 (.agg [.c (.int .i64 z.1.2.v), .c (.int .i64 z.1.2.e), .own 92 z.1.2.q.length, .own 93 z.1.2.k.length, .own 94 z.1.2.x.length])), (92, .row 64 2 (z.1.2.q.map Qt.cv)), (93, .row 70 21 (z.1.2.k.map Ky.cv)), (94, .row 51 33 (z.1.2.x.map Rv.cv)), (312, .box 109 (.c (.agg [.str (dS j), .fn (62 + j)])))])) 400 (fun z => z.1.1.length) ⟨(rest, x), hst⟩ (fF) ?_
  rintro ⟨⟨rest, x⟩, hst⟩
  simp only at hst
  have hrl := hst.2.2.2.1
  have hrd := hst.2.2.2.2.1
  refine aB fun K hK => ?_
  by_cases hre : rest = []
  ·
   subst hre
   refine aB fun K hK => QR ?_
   iterate 13 refine S0 ?_
   refine T2 (hK _ _ _ ?_)
   clear hK K
   refine CF rfl ?_
   refine aS (T3 ?_)
   clear hK K
   refine AX (hK _ _ _ ?_)
   clear hK K
   refine aL (by kernel_rfl) ?_
   refine TQ (bK j) ?_
   exact ⟨⟨(j + 1, [], x), hst.next hj (fun l ls h => by cases h)⟩, fF, (by show 3 - (j + 1) < 3 - j; omega)⟩
  obtain ⟨l, rest', rfl⟩ := List.exists_cons_of_ne_nil hre
  clear hre
  have hwl := hst.2.2.1 l List.mem_cons_self
  have hl0' : 0 < l.length := List.length_pos_iff.2 hwl.1
  have hzb : decide ((0 : Int) < ((rest'.length + 1 : Nat) : Int)) = true := decide_eq_true (by omega)
  have hzc : (1 : Int) ≤ ((rest'.length + 1 : Nat) : Int) := by omega
  have htk1 : List.take rest'.length (rest'.map lsC) = rest'.map lsC := List.take_of_length_le (by simp)
  refine aB fun K hK => QR ?_
  iterate 13 refine S0 ?_ (e := fun _ h_ => by simp only [sH, ↓sP, sA, tyS, simprocAttr, List.map_cons, List.length_cons, List.length_map, hzb, gC, lsC, bN hl0', cN, CV.cells]; exact AX h_)
  refine T2 (hK _ _ _ ?_)
  clear hK K
  refine aJ (b := wd l 0 == dS j) rfl (fun hb => ?_) (fun hb => ?_)
  ·
   have hws : wd l 0 = dS j := by simpa using hb
   clear hb
   refine aG ?_
   refine T0 (hK _ _ _ ?_)
   clear hK K
   refine aH ?_
   refine aB fun K hK => ?_
   refine aB fun K hK => DW [(0, [], []), (1, [], []), (2, [], []), (3, [], []), (4, [], []), (5, [], []), (6, [], [])] [0, 1, 0, 4, 12, 31, 63] ?_
   iterate 5 refine W0 ?_ (e := fun _ h_ => by simp only [sH, ↓sP, sA, tyS, simprocAttr, List.map_cons, List.length_cons, List.length_map, gC, lsC, cN, CV.cells]; exact AX h_)
   refine aO (g := none) rfl rfl fun K' hK' => ?_
   simp only [sH, ↓sP, sA, tyS, simprocAttr, List.map_cons, List.length_cons, List.length_map, gC, lsC, cN, CV.cells]
   refine zE 88 92 93 94 (bU4 j hj l x (by have := hwl.2.1; omega) (fun w hw => by have := hwl.2.2 w hw; omega) (by simp only [List.length_cons] at *; omega)) ⟨rfl, rfl, rfl, rfl⟩ (by decide) (by simp) ⟨rfl, rfl, rfl, rfl⟩ ?_
   intro y' hy'
   unfold bM7
   refine AX (hK' _ _ ?_)
   clear hK' K'
   refine W0 ?_ (e := fun _ h_ => by simp only [sH, ↓sP, sA, tyS, simprocAttr, List.map_cons, List.length_cons, List.length_map, gC, lsC, cN, CV.cells]; exact AX h_)
   refine T2 (hK _ _ _ ?_)
   clear hK K
   refine aJ (b := !(jE j l x).isSome) rfl (fun hb => ?_) (fun hb => ?_)
   ·
    refine R0 ?_
    refine aD (RT Tryz.results20 ?_)
    have hE := hEn (gZ hroot hx1 (hst.fail hj hws (by simpa using hb)))
    exact aM [] rt0.cv (.int .i64 2) rfl ⟨by rw [hOn (by rw [hE]; decide)], by rw [hE]⟩
   refine aG ?_
   refine T0 (hK _ _ _ ?_)
   clear hK K
   obtain ⟨z, hz⟩ := Option.isSome_iff_exists.1 (show (jE j l x).isSome = true by simpa using hb)
   clear hb
   have := hy' z hz
   subst this
   refine aL (by kernel_rfl) ?_
   simp only [↓sP, sA, tyS, simprocAttr, List.map_cons, List.length_cons, List.length_map, List.drop_succ_cons, List.drop_zero, Nat.add_sub_cancel, htk1, cN, zJ, hzc, Int.le_refl, CV.cells]
   exact ⟨⟨(rest', y'), hst.hit hj hws hz⟩, fF, Nat.lt_succ_self _⟩
  refine aS (T3 ?_)
  clear hK K
  refine AX (hK _ _ _ ?_)
  clear hK K
  refine aL (by kernel_rfl) ?_
  refine TQ (bK j) ?_
  exact ⟨⟨(j + 1, l :: rest', x), hst.next hj (fun l' ls' h => by cases h; simpa using hb)⟩, aQ (by omega) (by simp [aY, fin_at, finA_at, upd_at, HV.men, HV.menL, HV.norm, HV.toC, HV.toCL, lsC]) (by simp [bC, fob_at, upd_at, none0_at, bT, HO.men, HV.men, HV.menL, HV.norm, HV.toC, HV.toCL]), (by show 3 - (j + 1) < 3 - j; omega)⟩
 refine aS (T3 ?_)
 clear hK K
 refine AX (hK _ _ _ ?_)
 clear hK K
 refine aB fun K hK => ?_
 have hj3 : j = 3 := by have := hst.1; simp at hb; omega
 subst hj3
 clear hb
 have hfin := hst.fin
 have hrd := hst.2.2.2.2
 have hrl := hst.2.2.2.1
 clear F
 have F := @List.length_map.{0,0}
 refine RF ?_
 refine aJ (b := decide ((0 : Int) < rest.length)) rfl (fun hb => ?_) (fun hb => ?_)
 ·
  refine R0 ?_
  refine aD (RT Tryz.results20 ?_)
  have hE := hEn (by
   cases hr : rest with
   | nil => rw [hr] at hb; simp at hb
   | cons l ls' => rw [hr] at hfin; exact vX hroot hx1 hfin)
  exact aM [] rt0.cv (.int .i64 2) rfl ⟨by rw [hOn (by rw [hE]; decide)], by rw [hE]⟩
 refine aG ?_
 refine T0 (hK _ _ _ ?_)
 clear hK K
 refine aB fun K hK => ?_
 have hr0 : rest = [] := by simpa using hb
 subst hr0
 clear hb
 have hrs := oJ hroot hx1 hfin
 have hsz := hrd.sz (by simp only [List.length_cons] at hlen; omega)
 have hEx := hEs x hrs
 have hOx := hOs x hrs
 refine cM [92, 93, 94] (bF (fr2 := fin [(2, .ptr 0 0), (6, .ptr 88 0)]) (ob2 := fob [(0, .box 26 (.c rt0.cv)), (88, .box 104 (.c x.cv))]) (nx2 := 500) (aQ (by omega) (by simp [aY, cQ, fin_at, finA_at, upd_at, fob_at, HV.close, HV.closeL, CV.denil, CV.denilL, fJ, nH, secC, dS, HV.men, HV.menL, HV.norm, HV.toC, HV.toCL]) (by simp [bC, cR, fob_at, upd_at, none0_at, bT, rt0, Rt.cv, HO.close, HV.close, HV.closeL, CV.denil, CV.denilL, denilL_Qt, denilL_Ky, denilL_Rv, HO.men, HV.men, HV.menL, HV.norm, HV.toC, HV.toCL])) ?_)
 refine aB fun K hK => Rg ?_
 iterate 2 refine S0 ?_
 refine HS rfl rfl fun K' hK' => T5 ?_
 refine C1 (mM x hsz) ?_
 rintro u rfl
 refine AX (hK' _ _ ?_)
 clear hK' K'
 refine S0 ?_
 refine T2 (hK _ _ _ ?_)
 clear hK K
 refine aJ (b := !(bQ x)) rfl (fun hb => ?_) (fun hb => ?_)
 ·
  refine R0 ?_
  refine aD (RT Tryz.results20 ?_)
  have hE : dL b = 1 := by rw [hEx, if_neg (by simpa using hb)]
  exact aM [] rt0.cv (.int .i64 1) rfl ⟨by rw [hOn (by rw [hE]; decide)], by rw [hE]⟩
 refine aG ?_
 refine T0 (hK _ _ _ ?_)
 clear hK K
 refine aB fun K hK => Rg ?_
 iterate 4 refine S0 ?_
 refine T2 (hK _ _ _ ?_)
 clear hK K
 refine aD (RT Tryz.results20 ?_)
 have hE : dL b = 0 := by rw [hEx, if_pos (by simpa using hb)]
 refine aM [] x.cv (.int .i64 0) ?_ ⟨by rw [hOx hE], by rw [hE]⟩
 simp [HV.close, HV.closeL, HV.norm, HV.toC, HV.toCL, CV.denil, Rt.denil]

end Go.Proofs.YtenbfeemmpjdhaaGreatDoor

namespace Go.Pl
open Go Go.Hl

theorem wC : ∀ (a b : aK) (n m : Nat), eC a n = some m → eC (a ++ b) n = eC b m
 | [], b, n, m, h => by simp only [eC, Option.some.injEq] at h; subst h; rfl
 | c :: a, b, n, m, h => by
  simp only [List.cons_append, eC] at h ⊢
  split at h
  ·
   rename_i hc; rw [if_pos hc]; exact wC a b _ _ h
  ·
   cases h
theorem aW0 {k : Nat} (h : k < 10) : iO (UInt8.ofNat (48 + k)) = true ∧ (UInt8.ofNat (48 + k)).toNat - 48 = k := by
 have e : (UInt8.ofNat (48 + k)).toNat = 48 + k := by simp; omega
 rw [iO, e]
 exact ⟨by simp; omega, by omega⟩
theorem aR3 (u : Nat) : eC (Lib.decDigits u) 0 = some u := by
 induction u using Nat.strongRecOn with
 | ind u ih =>
  rw [Lib.decDigits]
  split
  ·
   rename_i h
   obtain ⟨h1, h2⟩ := aW0 h
   simp only [eC, h1, if_true, h2]; simp
  ·
   rw [wC _ _ 0 (u / 10) (ih _ (by omega))]
   obtain ⟨h1, h2⟩ := aW0 (k := u % 10) (by omega)
   simp only [eC, h1, if_true, h2]
   congr 1; omega
theorem aW1 : ∀ (k u : Nat), u < 10 ^ (k + 1) → (Lib.decDigits u).length ≤ k + 1
 | 0, u, h => by rw [Lib.decDigits, dif_pos (by omega)]; simp
 | k + 1, u, h => by
  rw [Lib.decDigits]
  split
  ·
   simp
  ·
   have := aW1 k (u / 10) (by rw [Nat.pow_succ] at h; omega)
   simp only [List.length_append, List.length_singleton]; omega
theorem bM8 {u : Nat} (h : 1 ≤ u) : ∃ c l, Lib.decDigits u = c :: l ∧ c ≠ 48 := by
 induction u using Nat.strongRecOn with
 | ind u ih =>
  rw [Lib.decDigits]
  split
  ·
   rename_i hu
   refine ⟨_, _, rfl, fun hc => ?_⟩
   have := congrArg UInt8.toNat hc
   simp at this; omega
  ·
   obtain ⟨c, l, h1, h2⟩ := ih (u / 10) (by omega) (by omega)
   exact ⟨c, l ++ [UInt8.ofNat (48 + u % 10)], by rw [h1]; rfl, h2⟩
theorem gD {n : Int} (h0 : 0 ≤ n) (h1 : n ≤ 1099511627776) : bJ (qB n) = some n := by
 rw [bL5 h0]
 have hd := aR3 n.natAbs
 have hl := aW1 12 n.natAbs (by omega)
 have hb : eH (Lib.decDigits n.natAbs) = false := by
  unfold eH
  by_cases hz : n.natAbs = 0
  ·
   rw [hz, Lib.decDigits_one (by omega)]; simp
  ·
   obtain ⟨c, l, h2, h3⟩ := bM8 (u := n.natAbs) (by omega)
   rw [h2] at hl ⊢
   have e : ((c :: l).getD 0 0 == (48 : UInt8)) = false := by simpa using h3
   rw [e, Bool.and_false, Bool.or_false, Bool.or_eq_false_iff]
   exact ⟨by simp, decide_eq_false (by omega)⟩
 rw [aD1 hb hd (by omega)]
 congr 1; omega

theorem wD : ∀ {k : Nat}, k < 16 → valL (lH k) = k := by
 have : ∀ k : Fin 16, valL (lH k.1) = k.1 := by decide
 intro k h; exact this ⟨k, h⟩
theorem zK : ∀ (bs : List UInt8) (i : Nat), (gB bs).getD (2 * i) 0 = (bs[i]?.map fun c => lH (c.toNat / 16)).getD 0 ∧ (gB bs).getD (2 * i + 1) 0 = (bs[i]?.map fun c => lH (c.toNat % 16)).getD 0
 | [], i => by simp [gB]
 | c :: bs, 0 => by simp [gB, bK1]
 | c :: bs, i + 1 => by
  have ih := zK bs i
  have e : gB (c :: bs) = lH (c.toNat / 16) :: lH (c.toNat % 16) :: gB bs := rfl
  rw [e, show 2 * (i + 1) = 2 * i + 1 + 1 from by omega]
  simpa using ih
theorem wE (bs : List UInt8) : bO (gB bs) bs.length = some bs := by
 have key : ∀ i, (h : i < bs.length) → hX (gB bs) i = lH (bs[i].toNat / 16) ∧ hY (gB bs) i = lH (bs[i].toNat % 16) := fun i h => by
  obtain ⟨h1, h2⟩ := zK bs i
  rw [List.getElem?_eq_getElem h] at h1 h2
  exact ⟨h1, h2⟩
 have v : ∀ i, (h : i < bs.length) → valL (hX (gB bs) i) = bs[i].toNat / 16 ∧ valL (hY (gB bs) i) = bs[i].toNat % 16 := fun i h => by
  have := bs[i].toNat_lt
  rw [(key i h).1, (key i h).2]
  exact ⟨wD (by omega), wD (by omega)⟩
 have hall : (List.range bs.length).all (hOk (gB bs)) = true := by
  rw [List.all_eq_true]
  intro i hi
  have hi := List.mem_range.1 hi
  obtain ⟨a, b⟩ := v i hi
  have := bs[i].toNat_lt
  unfold hOk
  rw [a, b]
  simp; omega
 unfold bO
 rw [if_pos ⟨mG bs, hall⟩]
 congr 1
 refine List.ext_getElem (by simp) fun i h1 h2 => ?_
 obtain ⟨a, b⟩ := v i h2
 simp only [List.getElem_map, List.getElem_range, hB, a, b]
 have := bs[i].toNat_lt
 refine UInt8.toNat_inj.1 ?_
 rw [UInt8.toNat_ofNat']
 omega
theorem bD2 (h : iM) : eK (bS5 h) = some h := by
 obtain ⟨l, hl⟩ := h
 have := wE l
 rw [hl] at this
 exact oH this hl
theorem bM9 (d : Dig) : kE (bB7 d) = some d := by
 obtain ⟨l, hl⟩ := d
 have := wE l
 rw [hl] at this
 refine rF (l := l) ?_ ?_ hl
 ·
  simp [prefB, bB7, shaW, mG]
 ·
  simpa [bB7] using this

theorem bU5 {ls : List (List aK)} (h : iN ls = 0) : eB (qY ls) = 0 ∧ gT (qY ls) = ls := by
 rw [aC9 h]
 unfold iN at h
 split at h
 ·
  cases h
 ·
  rename_i h1
  split at h
  ·
   rename_i l hl
   have := List.find?_some hl
   simp only [Bool.not_eq_true'] at this
   exact absurd h (aV0 this)
  ·
   rename_i hn
   split at h
   ·
    cases h
   ·
    rename_i h2
    have hok : ∀ l ∈ ls, okL l = true := fun l hl => by
     have := List.find?_eq_none.1 hn l hl
     simpa using this
    have hv := bB3 hok
    have hE : eB (eL ls) = 0 := by unfold eB; rw [if_neg h2, hv]; simp only; rw [if_neg h1]
    exact ⟨hE, by unfold gT; rw [if_pos hE, hv]; rfl⟩

theorem zL {n j : Nat} {ls : List (List aK)} {x : Rt} (h : ∀ l ∈ ls, wd l 0 ≠ dS j) : runA (n + 1) j ls x = runA n (j + 1) ls x := by
 cases ls with
 | nil => exact vY
 | cons l ls => exact zH (h l List.mem_cons_self)
theorem bW8 {n : Nat} {ls : List (List aK)} : ∀ (l : List Qt) (x : Rt), (∀ q ∈ l, 0 ≤ q.n ∧ q.n ≤ 1099511627776) → runA (n + 1) 0 (l.map qC ++ ls) x = runA (n + 1) 0 ls { x with q := x.q ++ l }
 | [], x, _ => by simp
 | q :: l, x, h => by
  have hq := h q List.mem_cons_self
  rw [List.map_cons, List.cons_append, qE (j := 0) (y := { x with q := x.q ++ [q] }) (l := qC q) rfl ?_, bW8 l _ fun y hy => h y (List.mem_cons_of_mem _ hy)]
  ·
   simp
  ·
   show fI (qC q) x = _
   unfold fI
   rw [if_pos (show (qC q).length = 3 from rfl)]
   have : bJ (wd (qC q) 2) = some q.n := gD hq.1 hq.2
   rw [this]; rfl
theorem bW9 {n : Nat} {ls : List (List aK)} : ∀ (l : List Ky) (x : Rt), (∀ k ∈ l, (0 ≤ k.p.h ∧ k.p.h ≤ 6) ∧ (0 ≤ k.fr ∧ k.fr ≤ 1099511627776) ∧ (0 ≤ k.un ∧ k.un ≤ 1099511627776)) → runA (n + 1) 1 (l.map oI ++ ls) x = runA (n + 1) 1 ls { x with k := x.k ++ l }
 | [], x, _ => by simp
 | k :: l, x, h => by
  obtain ⟨a, b, c⟩ := h k List.mem_cons_self
  rw [List.map_cons, List.cons_append, qE (j := 1) (y := { x with k := x.k ++ [k] }) (l := oI k) rfl ?_, bW9 l _ fun y hy => h y (List.mem_cons_of_mem _ hy)]
  ·
   simp
  ·
   show lD (oI k) x = _
   unfold lD
   rw [if_neg (by simp [oI])]
   have h1 : bJ (wd (oI k) 1) = some k.p.h := gD a.1 (by omega)
   have h2 : eK (wd (oI k) 2) = some k.p.r := bD2 _
   have h4 : bJ (wd (oI k) 4) = some k.fr := gD b.1 b.2
   have h5 : bJ (wd (oI k) 5) = some k.un := gD c.1 c.2
   rw [h1, h2, h4, h5]; rfl
theorem bX0 {n : Nat} {ls : List (List aK)} : ∀ (l : List Rv) (x : Rt), (∀ v ∈ l, 0 ≤ v.t ∧ v.t ≤ 1099511627776) → runA (n + 1) 2 (l.map vQ ++ ls) x = runA (n + 1) 2 ls { x with x := x.x ++ l }
 | [], x, _ => by simp
 | v :: l, x, h => by
  have hv := h v List.mem_cons_self
  rw [List.map_cons, List.cons_append, qE (j := 2) (y := { x with x := x.x ++ [v] }) (l := vQ v) rfl ?_, bX0 l _ fun y hy => h y (List.mem_cons_of_mem _ hy)]
  ·
   simp
  ·
   show lE (vQ v) x = _
   unfold lE
   rw [if_pos (show (vQ v).length = 3 from rfl)]
   have h1 : kE (wd (vQ v) 1) = some v.k := bM9 _
   have h2 : bJ (wd (vQ v) 2) = some v.t := gD hv.1 hv.2
   rw [h1, h2]
theorem aR4 {r : Rt} (h : bQ r = true) : eE (lK r) = some r := by
 obtain ⟨⟨v0, v1⟩, ⟨e0, e1⟩, hq, hk, hx⟩ := nR h
 rw [aL1] at v1 e1 hk hx
 have e : lK r = rG r :: (r.q.map qC ++ (r.k.map oI ++ (r.x.map vQ ++ []))) := by simp [lK]
 rw [e]
 have hh : gM (rG r) rt0 = some ⟨r.v, r.e, [], [], []⟩ := by
  unfold gM
  rw [if_pos (show (rG r).length = 3 from rfl)]
  have h1 : bJ (wd (rG r) 1) = some r.v := gD v0 v1
  have h2 : bJ (wd (rG r) 2) = some r.e := gD e0 e1
  rw [h1, h2]; rfl
 refine oJ rfl hh ?_
 rw [bW8 _ _ fun q h => by have := hq q h; omega, zL, bW9 _ _ hk, zL, bX0 _ _ hx, vY]
 ·
  simp [runA]
 ·
  intro l hl
  simp only [List.append_nil, List.mem_map] at hl
  obtain ⟨x, _, rfl⟩ := hl
  show wRevoked ≠ _; decide
 ·
  intro l hl
  simp only [List.append_nil, List.mem_append, List.mem_map] at hl
  rcases hl with ⟨x, _, rfl⟩ | ⟨x, _, rfl⟩
  ·
   show wKey ≠ _; decide
  ·
   show wRevoked ≠ _; decide
theorem aR5 {r : Rt} (h : aL0 r = 0) : dL (wS r) = 0 ∧ eR (wS r) = r := by
 have hv : bQ r = true := by
  cases hv : bQ r with
  | true => rfl
  | false => rw [aL0, hv] at h; cases h
 have he : iN (lK r) = 0 := by rw [aL0, hv] at h; exact h
 have hb : wS r = qY (lK r) := by rw [wS, hv]; rfl
 obtain ⟨h1, h2⟩ := bU5 he
 have hr := aR4 hv
 rw [hb]
 have hE : dL (qY (lK r)) = 0 := by unfold dL; rw [if_neg (by rw [h1]; simp), h2, hr]; simp only; rw [if_pos hv]
 exact ⟨hE, by unfold eR; rw [if_pos hE, h2, hr]; rfl⟩
end Go.Pl

namespace Go.Pl
open Go Go.Hl

theorem aR6 {b : aK} (h : dL b = 0) : bQ (eR b) = true ∧ rSz (eR b) := by
 have hO : eR b = (eE (gT b)).getD rt0 := by unfold eR; rw [if_pos h]
 unfold dL at h
 split at h
 ·
  rename_i h1; exact absurd h h1
 ·
  cases hv : eE (gT b) with
  | none => rw [hv] at h; simp at h
  | some x =>
   rw [hv] at h hO
   simp only at h
   rw [hO]
   refine ⟨?_, (aR2 (fun l hl => aD6 l hl) hv).sz (by have := vZ (b := b); omega)⟩
   by_cases hx : bQ x = true
   ·
    exact hx
   ·
    rw [if_neg hx] at h; cases h
theorem bN0 (b : aK) : rSz (eR b) := by
 by_cases h : dL b = 0
 ·
  exact (aR6 h).2
 ·
  unfold eR; rw [if_neg h]; exact ⟨⟨by simp [rt0], by simp [rt0]⟩, ⟨by simp [rt0], by simp [rt0]⟩, by simp [rt0]⟩
def bX1 (a b : Rt) : Bool := a.x.all fun x => sQ b.x x.k && decide (qS b.x x.k ≤ x.t)
theorem bD3 {l : List Rv} (h : gO l = true) {x : Rv} (hx : x ∈ l) : gF l x.k = some x.t := by
 have h1 : aX6 (l.map Rv.k) = true := by
  unfold gO at h
  simp only [Bool.and_eq_true] at h
  exact h.2.1
 have h2 : oV (l.map fun x => x.k.1) = true := by
  rw [pF, jP]
  rw [pG, jP] at h1
  exact h1
 have h3 : Asc (l.map fun x => x.k.1) := aI9 h2
 obtain ⟨i, hi, rfl⟩ := List.mem_iff_getElem.1 hx
 refine aB8 hi (by simp) fun y hy => ?_
 obtain ⟨j, hj, rfl⟩ := List.mem_take_iff_getElem.1 hy
 refine beq_eq_false_iff_ne.2 fun e => ?_
 have h4 := List.pairwise_iff_getElem.1 h3 j i (by simp; omega) (by simpa using hi) (by omega)
 simp only [List.getElem_map] at h4
 rw [e] at h4
 exact List.lt_irrefl _ h4
theorem bU6 {l : List Rv} {d : Dig} (h : sQ l d = true) : ∃ x ∈ l, x.k = d ∧ x.t = qS l d := by
 unfold sQ qS gF at *
 cases hf : l.find? (fun x => x.k == d) with
 | none => rw [hf] at h; simp at h
 | some x => exact ⟨x, List.mem_of_find?_eq_some hf, eq_of_beq (List.find?_some (p := fun x : Rv => x.k == d) hf), by simp⟩
def Gone (g : List Rv) (r : Rt) : Prop := ∀ x ∈ g, sQ r.x x.k = true ∧ qS r.x x.k ≤ x.t ∧ 0 ≤ x.t ∧ x.t ≤ eD
theorem Gone.nil {r : Rt} : Gone [] r := fun x h => by cases h
theorem Gone.kept {g : List Rv} {a b : Rt} (h : Gone g a) (hk : bX1 a b = true) : Gone g b := by
 intro x hx
 obtain ⟨h1, h2, h3⟩ := h x hx
 obtain ⟨y, hy, hyk, hyt⟩ := bU6 h1
 unfold bX1 at hk
 have := List.all_eq_true.1 hk y hy
 simp only [Bool.and_eq_true, decide_eq_true_eq, hyk] at this
 exact ⟨this.1, by omega, h3⟩
theorem Gone.own {b : Rt} (h : bQ b = true) : Gone b.x b := by
 intro x hx
 have hr : gO b.x = true := by
  unfold bQ at h
  simp only [Bool.and_eq_true] at h
  exact h.2.2.2.2.1
 have hs := bD3 hr hx
 unfold gO at hr
 simp only [Bool.and_eq_true] at hr
 have hn := qD (List.all_eq_true.1 hr.1 x hx)
 unfold sQ qS
 rw [hs]
 exact ⟨rfl, Int.le_refl _, hn⟩
theorem Gone.append {g h : List Rv} {r : Rt} (h1 : Gone g r) (h2 : Gone h r) : Gone (g ++ h) r := fun x hx => by
 rcases List.mem_append.1 hx with hx | hx
 ·
  exact h1 x hx
 ·
  exact h2 x hx
theorem Gone.not {g : List Rv} {r : Rt} (h : Gone g r) {x : Rv} (hx : x ∈ g) {n : Int} (hn : 0 ≤ n) : aU3 r x.k (x.t + n) = false := by
 obtain ⟨h1, h2, -⟩ := h x hx
 have e : decide (qS r.x x.k ≤ x.t + n) = true := decide_eq_true (by omega)
 unfold aU3
 rw [aP1, h1, e]
 simp
theorem bN1 (r : Rt) : (wS r).length ≤ 262144 := by
 unfold wS
 split
 ·
  unfold qY
  split
  ·
   rename_i h
   unfold iN at h
   split at h
   ·
    cases h
   ·
    split at h
    ·
     rename_i l hl
     have := List.find?_some hl
     unfold okL at this
     rw [h] at this
     simp at this
    ·
     split at h
     ·
      cases h
     ·
      omega
  ·
   simp
 ·
  simp
end Go.Pl

namespace Go.Pl
open Go Go.Hl

def RSt (ls : List (List aK)) (x0 : Rt) (k j : Nat) (x : Rt) : Prop :=
 k ≤ ls.length ∧ (RtSt ls x0 j (ls.drop k) x ∨ (runA 3 0 ls x0 = none ∧ ∃ h : k < ls.length, ∃ j', j' < j ∧ j < 4 ∧ wd ls[k] 0 = dS j'))
theorem bN2 {i j : Nat} (hi : i < 3) (hj : j < 3) (h : dS i = dS j) : i = j := by
 have : ∀ i j : Fin 3, dS i.1 = dS j.1 → i = j := by decide
 exact congrArg Fin.val (this ⟨i, hi⟩ ⟨j, hj⟩ h)
section
variable {ls : List (List aK)} {x0 x y : Rt} {k j : Nat}
theorem RSt.init (h : ∀ l ∈ ls, wOk l) (hx : rRead 0 x0) : RSt ls x0 0 0 x0 := ⟨by omega, .inl (RtSt.init h hx)⟩
theorem RSt.at (h : RSt ls x0 k j x) (hj : j < 3) (hk : k < ls.length) (hw : wd ls[k] 0 = dS j) : RtSt ls x0 j (ls[k] :: ls.drop (k + 1)) x := by
 rcases h.2 with h1 | ⟨_, _, j', h2, _, h3⟩
 ·
  rwa [List.drop_eq_getElem_cons hk] at h1
 ·
  exact absurd (bN2 hj (by omega) (hw.symm.trans h3)) (by omega)
theorem RSt.hit (h : RSt ls x0 k j x) (hj : j < 3) (hk : k < ls.length) (hw : wd ls[k] 0 = dS j) (hy : jE j ls[k] x = some y) : RSt ls x0 (k + 1) j y :=
 ⟨hk, .inl ((h.at hj hk hw).hit hj hw hy)⟩
theorem RSt.fail (h : RSt ls x0 k j x) (hj : j < 3) (hk : k < ls.length) (hw : wd ls[k] 0 = dS j) (hy : jE j ls[k] x = none) : runA 3 0 ls x0 = none :=
 (h.at hj hk hw).fail hj hw hy
theorem RSt.next (h : RSt ls x0 k j x) (hj : j < 3) (hx : ∀ hk : k < ls.length, wd ls[k] 0 = dS j → jE j ls[k] x = none) : RSt ls x0 k (j + 1) x := by
 refine ⟨h.1, ?_⟩
 rcases h.2 with h1 | ⟨h1, hk, j', h2, _, h3⟩
 ·
  by_cases hk : k < ls.length
  ·
   by_cases hw : wd ls[k] 0 = dS j
   ·
    exact .inr ⟨h.fail hj hk hw (hx hk hw), hk, j, by omega, by omega, hw⟩
   ·
    refine .inl (h1.next hj fun l rest e => ?_)
    rw [List.drop_eq_getElem_cons hk] at e
    cases e; exact hw
  ·
   refine .inl (h1.next hj fun l rest e => ?_)
   rw [List.drop_eq_nil_of_le (by omega)] at e; cases e
 ·
  exact .inr ⟨h1, hk, j', by omega, by omega, h3⟩
theorem RSt.more (h : RSt ls x0 k 3 x) (hk : k < ls.length) : runA 3 0 ls x0 = none ∨ ∃ l r, runA 3 0 ls x0 = some (l :: r, x) := by
 rcases h.2 with h1 | ⟨h1, _⟩
 ·
  right
  have := h1.fin
  rw [List.drop_eq_getElem_cons hk] at this
  exact ⟨_, _, this⟩
 ·
  exact .inl h1
theorem RSt.fin (h : RSt ls x0 k 3 x) (hk : ¬ k < ls.length) : runA 3 0 ls x0 = some ([], x) ∧ rRead ls.length x := by
 rcases h.2 with h1 | ⟨_, h2, _⟩
 ·
  have := h1.fin
  have hr := h1.2.2.2.2
  rw [List.drop_eq_nil_of_le (by omega)] at this hr
  exact ⟨this, hr⟩
 ·
  exact absurd h2 hk
theorem RSt.len (h : RSt ls x0 k j x) (hj : j < 3) (hk : k < ls.length) (hw : wd ls[k] 0 = dS j) : x.q.length + x.k.length + x.x.length ≤ ls.length := by
 have := (h.at hj hk hw).2.2.2.2.1
 omega
end
theorem zM {j : Nat} (hj : j = 0 ∨ j = 2) {l : List aK} (h : l.length ≠ 3) (x : Rt) : jE j l x = none := by
 rcases hj with rfl | rfl
 ·
  show fI l x = none
  unfold fI; rw [if_neg h]
 ·
  show lE l x = none
  unfold lE; rw [if_neg h]
end Go.Pl

namespace Go.Proofs.YtenbfeemmpjdhaaGreatDoor
open Go Go.Hl Go.Pl
set_option maxRecDepth 10000
set_option maxHeartbeats 16000000

theorem rL (l0 : List aK) {ls : List (List aK)} {k : Nat} (h : k < ls.length) : nth (lsC l0 :: ls.map lsC) (k + 1) = .slc (ls[k].map .str) := by
 have := aN (f := lsC) (l := l0 :: ls) (i := k + 1) (by simpa using h)
 rw [List.map_cons] at this
 rw [this]; rfl

theorem bU7 (b : aK) (hl : b.length < 2 ^ 40) : dF Tryz.prog 21 [.slc (b.map u8)] (fun u v => u = (eR b).cv ∧ v = .int .i64 (dL b)) := by
 refine FW Tryz.func21 ?_
 refine R0 ?_
 refine aB fun K hK => Rg ?_
 have F := @denilL_u8
 refine SF ?_
 refine HS rfl rfl fun K' hK' => T6 ?_
 refine D1 (bT1 b hl) ?_
 rintro u v ⟨rfl, rfl⟩
 refine AX (hK' _ _ ?_)
 clear hK' K'
 iterate 5 refine SF ?_
 refine T2 (hK _ _ _ ?_)
 clear hK K
 refine aB fun K hK => ?_
 refine R0 ?_
 refine aJ (b := eB b != 0) rfl (fun hb => ?_) (fun hb => ?_)
 ·
  refine aB fun K hK => Rg ?_
  iterate 4 refine S0 ?_
  refine T2 (hK _ _ _ ?_)
  clear hK K
  refine aD (RT Tryz.results21 ?_)
  have hE : dL b = eB b := by unfold dL; rw [if_pos (by simpa using hb)]
  have hO : eR b = rt0 := by unfold eR; rw [if_neg (by rw [hE]; simpa using hb)]
  exact aM [] rt0.cv (.int .i64 (eB b)) rfl ⟨by rw [hO], by rw [hE]⟩
 have hd0 : eB b = 0 := by simpa using hb
 clear hb
 obtain ⟨lines, hlines⟩ : ∃ lines, lines = gT b := ⟨_, rfl⟩
 have hok := aD6 (b := b)
 have hlen := vZ (b := b)
 have hEn : eE lines = none → dL b = 2 := fun h => by unfold dL; rw [if_neg (by rw [hd0]; simp), ← hlines, h]
 have hOn : dL b ≠ 0 → eR b = rt0 := fun h => by unfold eR; rw [if_neg h]
 have hEs : ∀ x, eE lines = some x → dL b = if bQ x then 0 else 1 := fun x h => by unfold dL; rw [if_neg (by rw [hd0]; simp), ← hlines, h]
 have hOs : ∀ x, eE lines = some x → dL b = 0 → eR b = x := fun x h h0 => by unfold eR; rw [if_pos h0, ← hlines, h]; rfl
 rw [← hlines] at hok hlen ⊢
 clear hlines hd0
 refine aG ?_
 refine T0 (hK _ _ _ ?_)
 clear hK K
 refine aB fun K hK => ?_
 cases lines
 ·
  refine aB fun K hK => Rg ?_
  iterate 18 refine S0 ?_
  refine T2 (hK _ _ _ ?_)
  clear hK K
  refine CT rfl ?_
  refine R0 ?_
  refine aD (RT Tryz.results21 ?_)
  have hE := hEn rfl
  exact aM [] rt0.cv (.int .i64 2) rfl ⟨by rw [hOn (by rw [hE]; decide)], by rw [hE]⟩
 rename_i l0 ls
 have hw0 := hok l0 List.mem_cons_self
 have hl00 : 0 < l0.length := List.length_pos_iff.2 hw0.1
 refine aB fun K hK => Rg ?_
 clear F
 have F := aI @List.map_cons.{0,0} (aI @gC (aI @lsC.eq_1 (aI (bN hl00) (aI @List.length_map.{0,0} @cN))))
 iterate 4 refine SF ?_
 refine aF 31 rfl (fun h4_31 => ?_) (fun h4_31 => ?_)
 ·
  clear F
  have F := aI @List.map_cons.{0,0} (aI @gC (aI @lsC.eq_1 (aI (bN hl00) (aI @List.length_map.{0,0} (aI @cN h4_31)))))
  iterate 14 refine SF ?_
  refine T2 (hK _ _ _ ?_)
  clear hK K
  refine CT rfl ?_
  refine R0 ?_
  refine aD (RT Tryz.results21 ?_)
  exact absurd h4_31 (by simp; omega)
 clear F
 have F := aI @List.map_cons.{0,0} (aI @gC (aI @lsC.eq_1 (aI (bN hl00) (aI @List.length_map.{0,0} (aI @cN h4_31)))))
 iterate 7 refine SF ?_
 refine aF 37 rfl (fun h4_37 => ?_) (fun h4_37 => ?_)
 ·
  clear F
  have F := aI @List.map_cons.{0,0} (aI @gC (aI @lsC.eq_1 (aI (bN hl00) (aI @List.length_map.{0,0} (aI @cN (aI h4_31 h4_37))))))
  iterate 7 refine SF ?_
  refine T2 (hK _ _ _ ?_)
  clear hK K
  refine CT rfl ?_
  refine R0 ?_
  refine aD (RT Tryz.results21 ?_)
  have hE := hEn (show eE (l0 :: ls) = none by
   unfold eE
   simp only
   split
   ·
    rw [show gM l0 rt0 = none from by unfold gM; rw [if_neg (by simp at h4_37; omega)]]
   rfl)
  exact aM [] rt0.cv (.int .i64 2) rfl ⟨by rw [hOn (by rw [hE]; decide)], by rw [hE]⟩
 clear F
 have F := aI @List.map_cons.{0,0} (aI @gC (aI @lsC.eq_1 (aI (bN hl00) (aI @List.length_map.{0,0} (aI @cN (aI h4_31 h4_37))))))
 iterate 7 refine SF ?_
 refine aF 45 rfl (fun h4_45 => ?_) (fun h4_45 => ?_)
 ·
  simp only [h4_45]
  refine T2 (hK _ _ _ ?_)
  clear hK K
  refine CT rfl ?_
  refine R0 ?_
  refine aD (RT Tryz.results21 ?_)
  have hE := hEn (vW (by simpa [mN] using h4_45))
  exact aM [] rt0.cv (.int .i64 2) rfl ⟨by rw [hOn (by rw [hE]; decide)], by rw [hE]⟩
 simp only [h4_45]
 refine T2 (hK _ _ _ ?_)
 clear hK K
 refine CF rfl ?_
 refine aG ?_
 refine T0 (hK _ _ _ ?_)
 clear hK K
 have hroot : wd l0 0 = mN := by simpa [mN] using h4_45
 have h3 : l0.length = 3 := by simp at h4_37; omega
 have i1 : 1 < l0.length := by omega
 have i2 : 2 < l0.length := by omega
 have z1 : (1 : Int) < l0.length := by omega
 have z2 : (2 : Int) < l0.length := by omega
 refine aB fun K hK => Rg ?_
 clear F
 have F := aI @List.map_cons.{0,0} (aI @gC (aI @lsC.eq_1 (aI (bN i1) (aI z1 (aI @List.length_map.{0,0} @cN)))))
 iterate 5 refine SF ?_
 refine HS rfl rfl fun K' hK' => T6 ?_
 refine D1 (iJ (wd l0 1)) ?_
 rintro u v ⟨rfl, rfl⟩
 refine AX (hK' _ _ ?_)
 clear hK' K'
 iterate 5 refine SF ?_
 refine T2 (hK _ _ _ ?_)
 clear hK K
 refine aB fun K hK => Rg ?_
 clear F
 have F := aI @List.map_cons.{0,0} (aI @gC (aI @lsC.eq_1 (aI (bN i2) (aI z2 (aI @List.length_map.{0,0} @cN)))))
 iterate 5 refine SF ?_
 refine HS rfl rfl fun K' hK' => T6 ?_
 refine D1 (iJ (wd l0 2)) ?_
 rintro u v ⟨rfl, rfl⟩
 refine AX (hK' _ _ ?_)
 clear hK' K'
 iterate 5 refine SF ?_
 refine T2 (hK _ _ _ ?_)
 clear hK K
 refine aB fun K hK => ?_
 refine aB fun K hK => Rg ?_
 iterate 3 refine S0 ?_
 refine aF 66 rfl (fun h8_66 => ?_) (fun h8_66 => ?_)
 ·
  clear F
  have F := h8_66
  iterate 3 refine SF ?_
  refine aF 69 rfl (fun h8_69 => ?_) (fun h8_69 => ?_)
  ·
   simp only [h8_69]
   refine T2 (hK _ _ _ ?_)
   clear hK K
   refine CF rfl ?_
   refine aG ?_
   refine T0 (hK _ _ _ ?_)
   clear hK K
   obtain ⟨v1, hv1⟩ := Option.isSome_iff_exists.1 h8_66
   obtain ⟨e1, he1⟩ := Option.isSome_iff_exists.1 h8_69
   rw [hv1, he1]
   have hx1 : gM l0 rt0 = some ⟨v1, e1, [], [], []⟩ := by unfold gM; rw [if_pos h3, hv1, he1]; rfl
   obtain ⟨x1, hxx⟩ : ∃ x1 : Rt, x1 = ⟨v1, e1, [], [], []⟩ := ⟨_, rfl⟩
   rw [← hxx] at hx1
   have hrd1 : rRead 0 x1 := rK hx1 aR1
   have hinit : RSt ls x1 0 0 x1 := RSt.init (fun l h => hok l (List.mem_cons_of_mem _ h)) hrd1
   simp only [List.length_cons] at hlen
   refine aB fun K hK => Rg ?_
   clear F
   have F := @Option.getD_some.{0}
   iterate 5 refine SF ?_
   refine T2 (hK _ _ _ ?_)
   clear hK K
   refine R0 ?_
   refine aB fun K hK => ?_
   have key0 : ∀ (k : Nat) (x : Rt) fr ob nx, RSt ls x1 k 1 x → Fits 0 fr ob (fin [(2, .ptr 0 0), (4, .c (.slc ((l0 :: ls).map lsC))), (10, .ptr 240 0), (11, .c (.int .i64 ((k + 1 : Nat) : Int)))]) (fob [(0, .box 26 (.c (.agg [.int .i64 0, .int .i64 0, .nils, .nils, .nils]))), (240, .box 26 (.agg [.c (.int .i64 x.v), .c (.int .i64 x.e), .own 252 x.q.length, .own 253 x.k.length, .own 254 x.x.length])), (252, .row 64 2 (x.q.map Qt.cv)), (253, .row 70 21 (x.k.map Ky.cv)), (254, .row 51 33 (x.x.map Rv.cv))]) 900 → K fr ob nx := by
    intro k x fr ob nx hst hf
    refine hK _ _ _ (bF hf ?_)
    clear hf hK K
    refine aB fun K hK => ?_
    have key1 : ∀ (k : Nat) (x : Rt) fr ob nx, RSt ls x1 k 2 x → Fits 0 fr ob (fin [(2, .ptr 0 0), (4, .c (.slc ((l0 :: ls).map lsC))), (10, .ptr 240 0), (11, .c (.int .i64 ((k + 1 : Nat) : Int)))]) (fob [(0, .box 26 (.c (.agg [.int .i64 0, .int .i64 0, .nils, .nils, .nils]))), (240, .box 26 (.agg [.c (.int .i64 x.v), .c (.int .i64 x.e), .own 252 x.q.length, .own 253 x.k.length, .own 254 x.x.length])), (252, .row 64 2 (x.q.map Qt.cv)), (253, .row 70 21 (x.k.map Ky.cv)), (254, .row 51 33 (x.x.map Rv.cv))]) 900 → K fr ob nx := by
     intro k x fr ob nx hst hf
     refine hK _ _ _ (bF hf ?_)
     clear hf hK K
     refine aB fun K hK => ?_
     have key2 : ∀ (k : Nat) (x : Rt) fr ob nx, RSt ls x1 k 3 x → Fits 0 fr ob (fin [(2, .ptr 0 0), (4, .c (.slc ((l0 :: ls).map lsC))), (10, .ptr 240 0), (11, .c (.int .i64 ((k + 1 : Nat) : Int)))]) (fob [(0, .box 26 (.c (.agg [.int .i64 0, .int .i64 0, .nils, .nils, .nils]))), (240, .box 26 (.agg [.c (.int .i64 x.v), .c (.int .i64 x.e), .own 252 x.q.length, .own 253 x.k.length, .own 254 x.x.length])), (252, .row 64 2 (x.q.map Qt.cv)), (253, .row 70 21 (x.k.map Ky.cv)), (254, .row 51 33 (x.x.map Rv.cv))]) 900 → K fr ob nx := by
      intro k x fr ob nx hst hf
      refine hK _ _ _ (bF hf ?_)
      clear hf hK K
      refine aB fun K hK => ?_
      refine aB fun K hK => Rg ?_
      clear F
      have F := @List.length_map.{0,0}
      iterate 4 refine SF ?_
      refine T2 (hK _ _ _ ?_)
      clear hK K
      refine aJ (b := decide (((k + 1 : Nat) : Int) < ((ls.length + 1 : Nat) : Int))) rfl (fun hb => ?_) (fun hb => ?_)
      ·
       refine R0 ?_
       refine aD (RT Tryz.results21 ?_)
       have hE := hEn (by
        rcases hst.more (by simp at hb; omega) with h | ⟨l, r, h⟩
        ·
         exact gZ hroot hx1 h
        exact vX hroot hx1 h)
       exact aM [] rt0.cv (.int .i64 2) rfl ⟨by rw [hOn (by rw [hE]; decide)], by rw [hE]⟩
      refine aG ?_
      refine T0 (hK _ _ _ ?_)
      clear hK K
      refine aB fun K hK => ?_
      obtain ⟨hrun, hrd⟩ := hst.fin (by simp at hb; omega)
      clear hb
      have hrs := oJ hroot hx1 hrun
      have hsz := hrd.sz (by omega)
      have hEx := hEs x hrs
      have hOx := hOs x hrs
      refine cM [252, 253, 254] (bF (fr2 := fin [(2, .ptr 0 0), (10, .ptr 240 0)]) (ob2 := fob [(0, .box 26 (.c rt0.cv)), (240, .box 26 (.c x.cv))]) (nx2 := 900) (aQ (by omega) (by simp [aY, cQ, fin_at, finA_at, upd_at, fob_at, HV.close, HV.closeL, CV.denil, CV.denilL, fJ, nH, HV.men, HV.menL, HV.norm, HV.toC, HV.toCL]) (by simp [bC, cR, fob_at, upd_at, none0_at, bT, rt0, Rt.cv, HO.close, HV.close, HV.closeL, CV.denil, CV.denilL, denilL_Qt, denilL_Ky, denilL_Rv, HO.men, HV.men, HV.menL, HV.norm, HV.toC, HV.toCL])) ?_)
      refine aB fun K hK => Rg ?_
      refine S0 ?_
      refine HS rfl rfl fun K' hK' => T5 ?_
      refine C1 (zC x hsz) ?_
      rintro u rfl
      refine AX (hK' _ _ ?_)
      clear hK' K'
      refine S0 ?_
      refine T2 (hK _ _ _ ?_)
      clear hK K
      refine aJ (b := !(bQ x)) rfl (fun hb => ?_) (fun hb => ?_)
      ·
       refine R0 ?_
       refine aD (RT Tryz.results21 ?_)
       have hE : dL b = 1 := by rw [hEx, if_neg (by simpa using hb)]
       exact aM [] rt0.cv (.int .i64 1) rfl ⟨by rw [hOn (by rw [hE]; decide)], by rw [hE]⟩
      refine aG ?_
      refine T0 (hK _ _ _ ?_)
      clear hK K
      refine R0 ?_
      refine aD (RT Tryz.results21 ?_)
      have hE : dL b = 0 := by rw [hEx, if_pos (by simpa using hb)]
      refine aM [] x.cv (.int .i64 0) ?_ ⟨by rw [hOx hE], by rw [hE]⟩
      simp [HV.close, HV.closeL, HV.norm, HV.toC, HV.toCL, CV.denil, Rt.denil]
     refine aH ?_
     refine aU (α := {z : Nat × Rt // RSt ls x1 z.1 2 z.2}) (fun z => (fin [(2, .ptr 0 0), (4, .c (.slc ((l0 :: ls).map lsC))), (10, .ptr 240 0), (11, .c (.int .i64 ((z.1.1 + 1 : Nat) : Int)))], fob [(0, .box 26 (.c (.agg [.int .i64 0, .int .i64 0, .nils, .nils, .nils]))), (240, .box 26 (.agg [.c (.int .i64 z.1.2.v), .c (.int .i64 z.1.2.e), .own 252 z.1.2.q.length, .own 253 z.1.2.k.length, .own 254 z.1.2.x.length])), (252, .row 64 2 (z.1.2.q.map Qt.cv)), (253, .row 70 21 (z.1.2.k.map Ky.cv)), (254, .row 51 33 (z.1.2.x.map Rv.cv))])) 1000 (fun z => ls.length - z.1.1) ⟨(k, x), hst⟩ (fF) ?_
     rintro ⟨⟨k, x⟩, hst⟩
     simp only at hst ⊢
     have hkl := hst.1
     refine aB fun K hK => ?_
     refine aB fun K hK => Rg ?_
     clear F
     have F := @List.length_map.{0,0}
     iterate 5 refine SF ?_
     refine aF 160 rfl (fun h24_160 => ?_) (fun h24_160 => ?_)
     ·
      clear F
      have F := aI @List.length_map.{0,0} h24_160
      iterate 2 refine SF ?_
      refine bA (g := some (161, true)) rfl rfl fun K' hK' => T6 ?_
      have hk : k < ls.length := by simp at h24_160; omega
      have hkn := rL l0 hk
      have hwk := hok ls[k] (List.mem_cons_of_mem _ (List.getElem_mem hk))
      have h0l : 0 < ls[k].length := List.length_pos_iff.2 hwk.1
      have w0 := bN h0l
      rw [hkn]
      refine AX (hK' _ _ ?_)
      clear hK' K'
      iterate 5 refine SF ?_
      refine aF 167 rfl (fun h24_167 => ?_) (fun h24_167 => ?_)
      ·
       clear F
       have F := aI @List.length_map.{0,0} (aI h24_160 h24_167)
       iterate 2 refine SF ?_
       refine bA (g := some (169, true)) rfl rfl fun K' hK' => T6 ?_
       rw [hkn]
       refine AX (hK' _ _ ?_)
       clear hK' K'
       refine SF ?_
       refine bA (g := some (169, true)) rfl rfl fun K' hK' => T6 ?_
       rw [w0]
       refine AX (hK' _ _ ?_)
       clear hK' K'
       iterate 3 refine SF ?_
       refine aF 176 rfl (fun h24_176 => ?_) (fun h24_176 => ?_)
       ·
        simp only [h24_176]
        refine T2 (hK _ _ _ ?_)
        clear hK K
        refine CT rfl ?_
        refine aG ?_
        refine T0 (hK _ _ _ ?_)
        clear hK K
        refine aH ?_
        have hw : wd ls[k] 0 = dS 2 := by simpa [dS] using h24_176
        have h3k : ls[k].length = 3 := by simp at h24_167; omega
        have i1 : 1 < ls[k].length := by omega
        have i2 : 2 < ls[k].length := by omega
        have z1 : (1 : Int) < ls[k].length := by omega
        have z2 : (2 : Int) < ls[k].length := by omega
        have hki : ((k + 1 : Nat) : Int) < ((ls.length + 1 : Nat) : Int) := by omega
        have hxl := hst.len (by omega) hk hw
        refine aB fun K hK => Rg ?_
        iterate 6 refine S0 ?_ (e := fun _ h_ => by simp only [sH, ↓sP, sA, tyS, simprocAttr, hki, hkn, CV.cells, z1, bN i1, List.length_map, dg_setAt]; exact AX h_)
        refine HS rfl rfl fun K' hK' => ?_
        simp only [sH, ↓sP, sA, tyS, simprocAttr, hki, hkn, CV.cells, z1, bN i1, List.length_map, dg_setAt]
        refine D1 (aQ2 (wd ls[k] 1)) ?_
        rintro u v ⟨rfl, rfl⟩
        refine AX (hK' _ _ ?_)
        clear hK' K'
        iterate 6 refine S0 ?_ (e := fun _ h_ => by simp only [sH, ↓sP, sA, tyS, simprocAttr, hki, hkn, CV.cells, z1, bN i1, List.length_map, dg_setAt]; exact AX h_)
        refine T2 (hK _ _ _ ?_)
        clear hK K
        refine aB fun K hK => Rg ?_
        iterate 6 refine S0 ?_ (e := fun _ h_ => by simp only [sH, ↓sP, sA, tyS, simprocAttr, hki, hkn, CV.cells, z2, bN i2, List.length_map]; exact AX h_)
        refine HS rfl rfl fun K' hK' => ?_
        simp only [sH, ↓sP, sA, tyS, simprocAttr, hki, hkn, CV.cells, z2, bN i2, List.length_map]
        refine D1 (iJ (wd ls[k] 2)) ?_
        rintro u v ⟨rfl, rfl⟩
        refine AX (hK' _ _ ?_)
        clear hK' K'
        iterate 5 refine S0 ?_ (e := fun _ h_ => by simp only [sH, ↓sP, sA, tyS, simprocAttr, hki, hkn, CV.cells, z2, bN i2, List.length_map]; exact AX h_)
        refine T2 (hK _ _ _ ?_)
        clear hK K
        refine aB fun K hK => ?_
        refine aB fun K hK => Rg ?_
        iterate 3 refine S0 ?_
        refine aF 198 rfl (fun h27_198 => ?_) (fun h27_198 => ?_)
        ·
         clear F
         have F := h27_198
         iterate 3 refine SF ?_
         refine aF 201 rfl (fun h27_201 => ?_) (fun h27_201 => ?_)
         ·
          simp only [h27_201]
          refine T2 (hK _ _ _ ?_)
          clear hK K
          refine CF rfl ?_
          refine aG ?_
          refine T0 (hK _ _ _ ?_)
          clear hK K
          obtain ⟨d, hd⟩ := Option.isSome_iff_exists.1 h27_198
          obtain ⟨n, hn⟩ := Option.isSome_iff_exists.1 h27_201
          have hy : jE 2 ls[k] x = some { x with x := x.x ++ [⟨d, n⟩] } := by show lE ls[k] x = _; unfold lE; rw [if_pos h3k, hd, hn]
          rw [hd, hn]
          refine aB fun K hK => Rg ?_
          clear F
          have F := aI @List.length_map.{0,0} (aI @List.length_append.{0} (aI @Option.getD_some.{0} @Rv.cells))
          iterate 9 refine SF ?_
          refine T2 (hK _ _ _ ?_)
          clear hK K
          refine aL (by kernel_rfl) ?_
          refine TQ (IntWalk.i64_in _ (show -9223372036854775808 ≤ ((k + 1 : Nat) : Int) + 1 ∧ ((k + 1 : Nat) : Int) + 1 ≤ 9223372036854775807 by omega)) ?_
          refine ⟨⟨(k + 1, { x with x := x.x ++ [⟨d, n⟩] }), hst.hit (by omega) hk hw hy⟩, fF, ?_⟩
          show ls.length - (k + 1) < ls.length - k
          omega
         simp only [h27_201]
         refine T2 (hK _ _ _ ?_)
         clear hK K
         refine CT rfl ?_
         refine R0 ?_
         refine aD (RT Tryz.results21 ?_)
         have hy : jE 2 ls[k] x = none := by
          show lE ls[k] x = none
          unfold lE
          rw [if_pos h3k]
          first
           | (rw [show kE (wd ls[k] 1) = none by simpa using h27_198])
           | (rw [show bJ (wd ls[k] 2) = none by simpa using h27_201]; cases kE (wd ls[k] 1) <;> rfl)
         have hE := hEn (gZ hroot hx1 (hst.fail (by omega) hk hw hy))
         exact aM [] rt0.cv (.int .i64 2) rfl ⟨by rw [hOn (by rw [hE]; decide)], by rw [hE]⟩
        clear F
        have F := h27_198
        iterate 3 refine SF ?_
        refine T2 (hK _ _ _ ?_)
        clear hK K
        refine CT rfl ?_
        refine R0 ?_
        refine aD (RT Tryz.results21 ?_)
        have hy : jE 2 ls[k] x = none := by
         show lE ls[k] x = none
         unfold lE
         rw [if_pos h3k]
         first
          | (rw [show kE (wd ls[k] 1) = none by simpa using h27_198])
          | (rw [show bJ (wd ls[k] 2) = none by simpa using h27_201]; cases kE (wd ls[k] 1) <;> rfl)
        have hE := hEn (gZ hroot hx1 (hst.fail (by omega) hk hw hy))
        exact aM [] rt0.cv (.int .i64 2) rfl ⟨by rw [hOn (by rw [hE]; decide)], by rw [hE]⟩
       simp only [h24_176]
       refine T2 (hK _ _ _ ?_)
       clear hK K
       refine CF rfl ?_
       refine aS (T3 ?_)
       clear hK K
       exact key2 k x _ _ _ (hst.next (by omega) fun hk hw => absurd hw (by simpa [dS] using h24_176)) (fF)
      clear F
      have F := aI @List.length_map.{0,0} (aI h24_160 h24_167)
      iterate 8 refine SF ?_
      refine T2 (hK _ _ _ ?_)
      clear hK K
      refine CF rfl ?_
      refine aS (T3 ?_)
      clear hK K
      exact key2 k x _ _ _ (hst.next (by omega) fun hk _ => zM (.inr rfl) (by simp at h24_167; omega) x) (fF)
     clear F
     have F := aI @List.length_map.{0,0} h24_160
     iterate 16 refine SF ?_
     refine T2 (hK _ _ _ ?_)
     clear hK K
     refine CF rfl ?_
     refine aS (T3 ?_)
     clear hK K
     exact key2 k x _ _ _ (hst.next (by omega) fun hk => absurd hk (by simp at h24_160; omega)) (fF)
    refine aH ?_
    refine aU (α := {z : Nat × Rt // RSt ls x1 z.1 1 z.2}) (fun z => (fin [(2, .ptr 0 0), (4, .c (.slc ((l0 :: ls).map lsC))), (10, .ptr 240 0), (11, .c (.int .i64 ((z.1.1 + 1 : Nat) : Int)))], fob [(0, .box 26 (.c (.agg [.int .i64 0, .int .i64 0, .nils, .nils, .nils]))), (240, .box 26 (.agg [.c (.int .i64 z.1.2.v), .c (.int .i64 z.1.2.e), .own 252 z.1.2.q.length, .own 253 z.1.2.k.length, .own 254 z.1.2.x.length])), (252, .row 64 2 (z.1.2.q.map Qt.cv)), (253, .row 70 21 (z.1.2.k.map Ky.cv)), (254, .row 51 33 (z.1.2.x.map Rv.cv))])) 1000 (fun z => ls.length - z.1.1) ⟨(k, x), hst⟩ (fF) ?_
    rintro ⟨⟨k, x⟩, hst⟩
    simp only at hst ⊢
    have hkl := hst.1
    refine aB fun K hK => ?_
    refine aB fun K hK => Rg ?_
    clear F
    have F := @List.length_map.{0,0}
    iterate 5 refine SF ?_
    refine aF 128 rfl (fun h18_128 => ?_) (fun h18_128 => ?_)
    ·
     clear F
     have F := aI @List.length_map.{0,0} h18_128
     iterate 2 refine SF ?_
     refine bA (g := some (129, true)) rfl rfl fun K' hK' => T6 ?_
     have hk : k < ls.length := by simp at h18_128; omega
     have hkn := rL l0 hk
     have hwk := hok ls[k] (List.mem_cons_of_mem _ (List.getElem_mem hk))
     have h0l : 0 < ls[k].length := List.length_pos_iff.2 hwk.1
     have w0 := bN h0l
     rw [hkn]
     refine AX (hK' _ _ ?_)
     clear hK' K'
     refine SF ?_
     refine bA (g := some (129, true)) rfl rfl fun K' hK' => T6 ?_
     rw [w0]
     refine AX (hK' _ _ ?_)
     clear hK' K'
     iterate 3 refine SF ?_
     refine aF 136 rfl (fun h18_136 => ?_) (fun h18_136 => ?_)
     ·
      simp only [h18_136]
      refine T2 (hK _ _ _ ?_)
      clear hK K
      refine CT rfl ?_
      refine aG ?_
      refine T0 (hK _ _ _ ?_)
      clear hK K
      refine aH ?_
      have hw : wd ls[k] 0 = dS 1 := by simpa [dS] using h18_136
      have hki : ((k + 1 : Nat) : Int) < ((ls.length + 1 : Nat) : Int) := by omega
      have hxl := hst.len (by omega) hk hw
      refine aB fun K hK => Rg ?_
      iterate 4 refine S0 ?_ (e := fun _ h_ => by simp only [sH, ↓sP, sA, tyS, simprocAttr, hki, hkn, CV.cells, List.length_map, denilL_str]; exact AX h_)
      refine HS rfl rfl fun K' hK' => ?_
      simp only [sH, ↓sP, sA, tyS, simprocAttr, hki, hkn, CV.cells, List.length_map, denilL_str]
      refine D1 (aQ3 ls[k] (by have := hwk.2.1; omega) h0l hw) ?_
      rintro u v ⟨y, ok, rfl, rfl, hy⟩
      have hy := hy x
      refine AX (hK' _ _ ?_)
      clear hK' K'
      iterate 6 refine S0 ?_ (e := fun _ h_ => by simp only [sH, ↓sP, sA, tyS, simprocAttr, hki, hkn, CV.cells, List.length_map, denilL_str]; exact AX h_)
      refine T2 (hK _ _ _ ?_)
      clear hK K
      refine aB fun K hK => ?_
      refine R0 ?_
      refine aJ (b := !ok) rfl (fun hb => ?_) (fun hb => ?_)
      ·
       refine R0 ?_
       refine aD (RT Tryz.results21 ?_)
       have hok0 : ok = false := by simpa using hb
       rw [hok0] at hy
       have hE := hEn (gZ hroot hx1 (hst.fail (by omega) hk hw hy))
       exact aM [] rt0.cv (.int .i64 2) rfl ⟨by rw [hOn (by rw [hE]; decide)], by rw [hE]⟩
      refine aG ?_
      refine T0 (hK _ _ _ ?_)
      clear hK K
      have hok1 : ok = true := by simpa using hb
      rw [hok1] at hy
      refine aB fun K hK => Rg ?_
      clear F
      have F := aI @List.length_map.{0,0} (aI @List.length_append.{0} @Ky.cells)
      iterate 7 refine SF ?_
      refine T2 (hK _ _ _ ?_)
      clear hK K
      refine aL (by kernel_rfl) ?_
      refine TQ (IntWalk.i64_in _ (show -9223372036854775808 ≤ ((k + 1 : Nat) : Int) + 1 ∧ ((k + 1 : Nat) : Int) + 1 ≤ 9223372036854775807 by omega)) ?_
      refine ⟨⟨(k + 1, { x with k := x.k ++ [y] }), hst.hit (by omega) hk hw hy⟩, fF, ?_⟩
      show ls.length - (k + 1) < ls.length - k
      omega
     simp only [h18_136]
     refine T2 (hK _ _ _ ?_)
     clear hK K
     refine CF rfl ?_
     refine aS (T3 ?_)
     clear hK K
     exact key1 k x _ _ _ (hst.next (by omega) fun hk hw => absurd hw (by simpa [dS] using h18_136)) (fF)
    clear F
    have F := aI @List.length_map.{0,0} h18_128
    iterate 8 refine SF ?_
    refine T2 (hK _ _ _ ?_)
    clear hK K
    refine CF rfl ?_
    refine aS (T3 ?_)
    clear hK K
    exact key1 k x _ _ _ (hst.next (by omega) fun hk => absurd hk (by simp at h18_128; omega)) (fF)
   refine aH ?_
   refine gQ 240 2 64 2 rfl rfl rfl rfl ?_
   refine gQ 240 3 70 21 rfl rfl rfl rfl ?_
   refine gQ 240 4 51 33 rfl rfl rfl rfl ?_
   refine aU (α := {z : Nat × Rt // RSt ls x1 z.1 0 z.2}) (fun z => (fin [(2, .ptr 0 0), (4, .c (.slc ((l0 :: ls).map lsC))), (10, .ptr 240 0), (11, .c (.int .i64 ((z.1.1 + 1 : Nat) : Int)))], fob [(0, .box 26 (.c (.agg [.int .i64 0, .int .i64 0, .nils, .nils, .nils]))), (240, .box 26 (.agg [.c (.int .i64 z.1.2.v), .c (.int .i64 z.1.2.e), .own 252 z.1.2.q.length, .own 253 z.1.2.k.length, .own 254 z.1.2.x.length])), (252, .row 64 2 (z.1.2.q.map Qt.cv)), (253, .row 70 21 (z.1.2.k.map Ky.cv)), (254, .row 51 33 (z.1.2.x.map Rv.cv))])) 300 (fun z => ls.length - z.1.1) ⟨(0, x1), hinit⟩ (aQ (by omega) (by simp [aY, fin_at, finA_at, upd_at, HV.men, HV.menL, HV.norm, HV.toC, HV.toCL, lsC]) (by simp [hxx, bC, fob_at, upd_at, none0_at, bT, HO.men, HV.men, HV.menL, HV.norm, HV.toC, HV.toCL])) ?_
   rintro ⟨⟨k, x⟩, hst⟩
   simp only at hst ⊢
   have hkl := hst.1
   refine aB fun K hK => ?_
   refine aB fun K hK => Rg ?_
   clear F
   have F := @List.length_map.{0,0}
   iterate 5 refine SF ?_
   refine aF 79 rfl (fun h12_79 => ?_) (fun h12_79 => ?_)
   ·
    clear F
    have F := aI @List.length_map.{0,0} h12_79
    iterate 2 refine SF ?_
    refine bA (g := some (80, true)) rfl rfl fun K' hK' => T6 ?_
    have hk : k < ls.length := by simp at h12_79; omega
    have hkn := rL l0 hk
    have hwk := hok ls[k] (List.mem_cons_of_mem _ (List.getElem_mem hk))
    have h0l : 0 < ls[k].length := List.length_pos_iff.2 hwk.1
    have w0 := bN h0l
    rw [hkn]
    refine AX (hK' _ _ ?_)
    clear hK' K'
    iterate 5 refine SF ?_
    refine aF 86 rfl (fun h12_86 => ?_) (fun h12_86 => ?_)
    ·
     clear F
     have F := aI @List.length_map.{0,0} (aI h12_79 h12_86)
     iterate 2 refine SF ?_
     refine bA (g := some (88, true)) rfl rfl fun K' hK' => T6 ?_
     rw [hkn]
     refine AX (hK' _ _ ?_)
     clear hK' K'
     refine SF ?_
     refine bA (g := some (88, true)) rfl rfl fun K' hK' => T6 ?_
     rw [w0]
     refine AX (hK' _ _ ?_)
     clear hK' K'
     iterate 3 refine SF ?_
     refine aF 95 rfl (fun h12_95 => ?_) (fun h12_95 => ?_)
     ·
      simp only [h12_95]
      refine T2 (hK _ _ _ ?_)
      clear hK K
      refine CT rfl ?_
      refine aG ?_
      refine T0 (hK _ _ _ ?_)
      clear hK K
      refine aH ?_
      have hw : wd ls[k] 0 = dS 0 := by simpa [dS] using h12_95
      have h3k : ls[k].length = 3 := by simp at h12_86; omega
      have i1 : 1 < ls[k].length := by omega
      have i2 : 2 < ls[k].length := by omega
      have z1 : (1 : Int) < ls[k].length := by omega
      have z2 : (2 : Int) < ls[k].length := by omega
      have hki : ((k + 1 : Nat) : Int) < ((ls.length + 1 : Nat) : Int) := by omega
      have hxl := hst.len (by omega) hk hw
      refine aB fun K hK => Rg ?_
      iterate 6 refine S0 ?_ (e := fun _ h_ => by simp only [sH, ↓sP, sA, tyS, simprocAttr, hki, hkn, CV.cells, z2, bN i2, List.length_map]; exact AX h_)
      refine HS rfl rfl fun K' hK' => ?_
      simp only [sH, ↓sP, sA, tyS, simprocAttr, hki, hkn, CV.cells, z2, bN i2, List.length_map]
      refine D1 (iJ (wd ls[k] 2)) ?_
      rintro u v ⟨rfl, rfl⟩
      refine AX (hK' _ _ ?_)
      clear hK' K'
      iterate 5 refine S0 ?_ (e := fun _ h_ => by simp only [sH, ↓sP, sA, tyS, simprocAttr, hki, hkn, CV.cells, z2, bN i2, List.length_map]; exact AX h_)
      refine T2 (hK _ _ _ ?_)
      clear hK K
      refine aB fun K hK => ?_
      refine R0 ?_
      refine aJ (b := !(bJ (wd ls[k] 2)).isSome) rfl (fun hb => ?_) (fun hb => ?_)
      ·
       refine R0 ?_
       refine aD (RT Tryz.results21 ?_)
       have hE := hEn (gZ hroot hx1 (hst.fail (by omega) hk hw (show fI ls[k] x = none by unfold fI; rw [if_pos h3k]; rw [show bJ (wd ls[k] 2) = none by simpa using hb])))
       exact aM [] rt0.cv (.int .i64 2) rfl ⟨by rw [hOn (by rw [hE]; decide)], by rw [hE]⟩
      refine aG ?_
      refine T0 (hK _ _ _ ?_)
      clear hK K
      obtain ⟨n, hn⟩ := Option.isSome_iff_exists.1 (show (bJ (wd ls[k] 2)).isSome = true by simpa using hb)
      have hy : jE 0 ls[k] x = some { x with q := x.q ++ [⟨wd ls[k] 1, n⟩] } := by show fI ls[k] x = _; unfold fI; rw [if_pos h3k, hn]
      rw [hn]
      refine aB fun K hK => DW [(0, [], []), (1, [], []), (2, [], []), (3, [], []), (4, [], []), (5, [], []), (6, [], []), (7, [], []), (8, [], []), (9, [], []), (10, [], []), (11, [], []), (12, [], []), (13, [], [])] [0, 1, 0, 0, 12, 28, 60, 124, 0, 508, 1020, 2047, 4095, 8191] ?_
      iterate 14 refine W0 ?_ (e := fun _ h_ => by simp only [sH, ↓sP, sA, tyS, simprocAttr, hki, hkn, CV.cells, z1, bN i1, List.length_map, List.length_append, Option.getD_some]; exact AX h_)
      refine T2 (hK _ _ _ ?_)
      clear hK K
      refine aL (by kernel_rfl) ?_
      refine TQ (IntWalk.i64_in _ (show -9223372036854775808 ≤ ((k + 1 : Nat) : Int) + 1 ∧ ((k + 1 : Nat) : Int) + 1 ≤ 9223372036854775807 by omega)) ?_
      refine ⟨⟨(k + 1, { x with q := x.q ++ [⟨wd ls[k] 1, n⟩] }), hst.hit (by omega) hk hw hy⟩, fF, ?_⟩
      show ls.length - (k + 1) < ls.length - k
      omega
     simp only [h12_95]
     refine T2 (hK _ _ _ ?_)
     clear hK K
     refine CF rfl ?_
     refine aS (T3 ?_)
     clear hK K
     exact key0 k x _ _ _ (hst.next (by omega) fun hk hw => absurd hw (by simpa [dS] using h12_95)) (fF)
    clear F
    have F := aI @List.length_map.{0,0} (aI h12_79 h12_86)
    iterate 8 refine SF ?_
    refine T2 (hK _ _ _ ?_)
    clear hK K
    refine CF rfl ?_
    refine aS (T3 ?_)
    clear hK K
    exact key0 k x _ _ _ (hst.next (by omega) fun hk _ => zM (.inl rfl) (by simp at h12_86; omega) x) (fF)
   clear F
   have F := aI @List.length_map.{0,0} h12_79
   iterate 16 refine SF ?_
   refine T2 (hK _ _ _ ?_)
   clear hK K
   refine CF rfl ?_
   refine aS (T3 ?_)
   clear hK K
   exact key0 k x _ _ _ (hst.next (by omega) fun hk => absurd hk (by simp at h12_79; omega)) (fF)
  simp only [h8_69]
  refine T2 (hK _ _ _ ?_)
  clear hK K
  refine CT rfl ?_
  refine R0 ?_
  refine aD (RT Tryz.results21 ?_)
  have hE := hEn (rJ hroot (by unfold gM; rw [if_pos h3, show bJ (wd l0 2) = none by simpa using h8_69]; cases bJ (wd l0 1) <;> rfl))
  exact aM [] rt0.cv (.int .i64 2) rfl ⟨by rw [hOn (by rw [hE]; decide)], by rw [hE]⟩
 clear F
 have F := h8_66
 iterate 3 refine SF ?_
 refine T2 (hK _ _ _ ?_)
 clear hK K
 refine CT rfl ?_
 refine R0 ?_
 refine aD (RT Tryz.results21 ?_)
 have hE := hEn (rJ hroot (by unfold gM; rw [if_pos h3, show bJ (wd l0 1) = none by simpa using h8_66]))
 exact aM [] rt0.cv (.int .i64 2) rfl ⟨by rw [hOn (by rw [hE]; decide)], by rw [hE]⟩

end Go.Proofs.YtenbfeemmpjdhaaGreatDoor

namespace Go.Proofs.YtenbfeemmpjdhaaGreatDoor
open Go Go.Hl Go.Pl
set_option maxRecDepth 10000
set_option maxHeartbeats 16000000

end Go.Proofs.YtenbfeemmpjdhaaGreatDoor

namespace Go.Proofs.YtenbfeemmpjdhaaGreatDoor
open Go Go.Hl Go.Pl
set_option maxRecDepth 10000
set_option maxHeartbeats 16000000
attribute [local simp] tp

theorem bN3 (r : Rt) : aW Tryz.prog 24 [r.cv] (fun v => v = .bool (iZ r)) := by
 refine FW Tryz.func24 ?_
 refine R0 ?_
 refine aB fun K hK => ?_
 refine aB fun K hK => Rg ?_
 iterate 5 refine S0 ?_
 refine aF 7 rfl (fun h1_7 => ?_) (fun h1_7 => ?_)
 ·
  have F := h1_7
  iterate 11 refine SF ?_
  refine T2 (hK _ _ _ ?_)
  clear hK K
  refine CT rfl ?_
  refine R0 ?_
  refine aD (RT Tryz.results24 ?_)
  exact aC [] (.bool false) rfl (by simp only [kZ, h1_7, Bool.not_true, Bool.not_false, Bool.true_and, Bool.false_and, Bool.and_false])
 have F := h1_7
 iterate 6 refine SF ?_
 refine aF 12 rfl (fun h1_12 => ?_) (fun h1_12 => ?_)
 ·
  have F := aI h1_7 h1_12
  iterate 5 refine SF ?_
  refine T2 (hK _ _ _ ?_)
  clear hK K
  refine CT rfl ?_
  refine R0 ?_
  refine aD (RT Tryz.results24 ?_)
  exact aC [] (.bool false) rfl (by simp only [kZ, h1_7, h1_12, Bool.not_true, Bool.not_false, Bool.true_and, Bool.false_and, Bool.and_false])
 have F := aI h1_7 h1_12
 iterate 5 refine SF ?_
 refine aF 18 rfl (fun h1_18 => ?_) (fun h1_18 => ?_)
 ·
  simp only [h1_18]
  refine T2 (hK _ _ _ ?_)
  clear hK K
  refine CT rfl ?_
  refine R0 ?_
  refine aD (RT Tryz.results24 ?_)
  exact aC [] (.bool false) rfl (by simp only [kZ, h1_7, h1_12, h1_18, Bool.not_true, Bool.not_false, Bool.true_and, Bool.false_and, Bool.and_false])
 simp only [h1_18]
 refine T2 (hK _ _ _ ?_)
 clear hK K
 refine CF rfl ?_
 refine aG ?_
 refine T0 (hK _ _ _ ?_)
 clear hK K
 refine aB fun K hK => ?_
 refine R0 ?_
 refine aH ?_
 have hk50 : r.k.length ≤ 50 := by simp at h1_12; omega
 refine aU (α := {i : Nat // i ≤ r.k.length ∧ ∀ x ∈ r.k.take i, mC x = true}) (fun i => (fin [(1, .ptr 0 0), (3, .c (.int .i64 i.1))], fob [(0, .box 26 (.c r.cv))])) 100 (fun i => r.k.length - i.1) ⟨0, by omega, by simp⟩ (fF) ?_
 rintro ⟨i, hi, h0⟩
 refine aB fun K hK => ?_
 refine aB fun K hK => Rg ?_
 have F := aI h1_7 (aI h1_12 h1_18)
 iterate 5 refine SF ?_
 refine T2 (hK _ _ _ ?_)
 clear hK K
 refine aJ (b := decide ((i : Int) < r.k.length)) rfl (fun hb => ?_) (fun hb => ?_)
 ·
  have hlt : i < r.k.length := by simpa using hb
  refine aG ?_
  refine T0 (hK _ _ _ ?_)
  clear hK K
  refine aB fun K hK => ?_
  refine aH ?_
  refine aB fun K hK => Rg ?_
  have F := aI @Int.natCast_nonneg (aI @Int.ofNat_lt (aI hlt (aI (nM hlt) (aI h1_7 (aI h1_12 h1_18)))))
  iterate 9 refine SF ?_
  refine aF 34 rfl (fun h6_34 => ?_) (fun h6_34 => ?_)
  ·
   have F := aI @Int.natCast_nonneg (aI @Int.ofNat_lt (aI hlt (aI (nM hlt) (aI h1_7 (aI h1_12 (aI h1_18 h6_34))))))
   iterate 9 refine SF ?_
   refine T2 (hK _ _ _ ?_)
   clear hK K
   refine CT rfl ?_
   refine R0 ?_
   refine aD (RT Tryz.results24 ?_)
   exact aC [] (.bool false) rfl (by rw [yB hlt (by simp only [mD, h1_7, h1_12, h1_18, h6_34, Bool.not_true, Bool.not_false, Bool.true_and, Bool.false_and, Bool.and_false])])
  have F := aI @Int.natCast_nonneg (aI @Int.ofNat_lt (aI hlt (aI (nM hlt) (aI h1_7 (aI h1_12 (aI h1_18 h6_34))))))
  iterate 9 refine SF ?_
  refine aF 43 rfl (fun h6_43 => ?_) (fun h6_43 => ?_)
  ·
   simp only [h6_43]
   refine T2 (hK _ _ _ ?_)
   clear hK K
   refine CT rfl ?_
   refine R0 ?_
   refine aD (RT Tryz.results24 ?_)
   exact aC [] (.bool false) rfl (by rw [yB hlt (by simp only [mD, h1_7, h1_12, h1_18, h6_34, h6_43, Bool.not_true, Bool.not_false, Bool.true_and, Bool.false_and, Bool.and_false])])
  simp only [h6_43]
  refine T2 (hK _ _ _ ?_)
  clear hK K
  refine CF rfl ?_
  refine aG ?_
  refine T0 (hK _ _ _ ?_)
  clear hK K
  refine aL (by kernel_rfl) ?_
  refine TQ (bK i) ?_
  refine ⟨⟨i + 1, hlt, fun x hx => ?_⟩, fF, ?_⟩
  ·
   rw [List.take_succ_eq_append_getElem hlt, List.mem_append, List.mem_singleton] at hx
   rcases hx with hx | rfl
   ·
    exact h0 x hx
   simp only [mD, h1_7, h1_12, h1_18, h6_34, h6_43, Bool.not_false, Bool.true_and]
  show r.k.length - (i + 1) < r.k.length - i
  omega
 refine aS (T3 ?_)
 clear hK K
 refine AX (hK _ _ _ ?_)
 clear hK K
 refine R0 ?_
 refine aD (RT Tryz.results24 ?_)
 have hei : i = r.k.length := by simp at hb; omega
 subst hei
 rw [List.take_length] at h0
 exact aC [] (.bool true) rfl (by rw [kZ, List.all_eq_true.2 h0, h1_7, h1_12, h1_18]; rfl)


theorem cG3 (x y : Pk) (K : CV → Prop) : eV Tryz.prog .eql 68 (.c x.cv) (.c y.cv) K = K (.bool (aZ5 x y)) := bQ4 (by kernel_rfl) ty68 ty3 ty66 ty5 (by kernel_rfl) (by kernel_rfl) (by kernel_rfl) x y K

theorem aR7 (k : Ky) (hl : k.rs.length < 2 ^ 40) : aW Tryz.prog 59 [k.cv, k.cv] (fun v => v = .bool true) := by
 refine FW Tryz.func59 ?_
 refine R0 ?_
 refine aB fun K hK => Rg ?_
 have F := aI @cG3 (aI @aZ6 @beq_self_eq_true.{0})
 iterate 31 refine SF ?_
 refine bA (g := some (31, true)) rfl rfl fun K' hK' => T6 ?_
 refine C2 (bR1 k.rs k.rs (by omega)) ?_
 rintro u rfl
 refine AX (hK' _ _ ?_)
 clear hK' K'
 iterate 2 refine SF ?_
 refine T2 (hK _ _ _ ?_)
 clear hK K
 refine aD (RT Tryz.results59 ?_)
 exact aC [] (.bool true) rfl rfl

end Go.Proofs.YtenbfeemmpjdhaaGreatDoor
