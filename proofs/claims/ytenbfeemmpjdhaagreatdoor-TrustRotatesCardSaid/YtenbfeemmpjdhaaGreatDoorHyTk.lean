/- slices.Sort and slices.Clone at this seat: from the shelf. By an AI agent. -/
import Derived.Test.YtenbfeemmpjdhaaGreatDoorPl02e
import Derived.Test.YtenbfeemmpjdhaaGreatDoorHlBz
import Derived.Test.YtenbfeemmpjdhaaGreatDoorHySb
import Derived.Test.YtenbfeemmpjdhaaGreatDoorHyTz
import Derived.Shelf.SortM.Plain
import Derived.Shelf.SortM.SortNone
import Derived.Ground.SlgmProg
import Derived.Shelf.Slices.Clone
import Derived.Ground.Names2Prog
import Derived.Test.YtenbfeemmpjdhaaGreatDoorPl11m
set_option linter.unusedSimpArgs false
set_option linter.unusedVariables false
set_option linter.defProp false
namespace Go.Proofs.YtenbfeemmpjdhaaGreatDoor
open Go Go.Hl Go.Pl
set_option maxRecDepth 10000
set_option maxHeartbeats 4000000

theorem gC (x : W32) (n : Nat) (h0 : 0 < n) (hn : n < 32) : aV Tryz.prog 168 [.int .u32 (x.toNat : Int), .int .i64 (-(n : Int))] (fun v => v = .int .u32 ((fO x n).toNat : Int)) := by
 have e1 := bN2 ⟨n, hn⟩ h0
 have e2 : IntKind.u64.wrap (32 - ((32 - n : Nat) : Int)) = (n : Int) := by rw [IntWalk.u64_in _ (by omega)]; omega
 have e3 : 32 - n ≤ 32 := by omega
 have e4 : n ≤ 32 := by omega
 refine FW Tryz.func168 ?_
 refine R0 ?_
 refine aB fun K hK => Rg ?_
 have F := e1
 iterate 4 refine SF ?_
 refine T2 (hK _ _ _ ?_)
 clear hK K
 refine aB fun K hK => Rg ?_
 have F := aI e2 (aI e3 (aI e4 (aI @Int.natCast_nonneg (aI @aR2 (aI @tH (aI @bM8 @cB6))))))
 iterate 9 refine SF ?_
 refine T2 (hK _ _ _ ?_)
 clear hK K
 refine aD (RT Tryz.results168 ?_)
 exact aC [] (.int .u32 _) rfl rfl


theorem jA (x : W32) (n : Nat) (h0 : 0 < n) (hn : n < 32) : aV Tryz.prog 149 [.int .u32 (x.toNat : Int), .int .i64 (n : Int)] (fun v => v = .int .u32 ((fO x n).toNat : Int)) := by
 have e1 : IntKind.u64.wrap (n : Int) = (n : Int) := IntWalk.u64_in _ (by omega)
 have e2 : IntKind.i64.wrap (32 - (n : Int)) = ((32 - n : Nat) : Int) := by rw [IntWalk.i64_in _ (by omega)]; omega
 have e5 : IntKind.u64.wrap ((32 - n : Nat) : Int) = ((32 - n : Nat) : Int) := IntWalk.u64_in _ (by omega)
 have e3 : 32 - n ≤ 32 := by omega
 have e4 : n ≤ 32 := by omega
 refine FW Tryz.func149 ?_
 refine R0 ?_
 refine aB fun K hK => Rg ?_
 have F := aI e1 (aI e2 (aI e3 (aI e4 (aI e5 (aI @Int.natCast_nonneg (aI @aR2 (aI @tH @bM8)))))))
 iterate 11 refine SF ?_
 refine T2 (hK _ _ _ ?_)
 clear hK K
 refine aD (RT Tryz.results149 ?_)
 exact aC [] (.int .u32 _) rfl rfl


theorem bA4 : aV Tryz.prog 136 [] (fun v => v = ws K256) := by
 refine FW Tryz.func136 ?_
 refine R0 ?_
 refine aB fun K hK => Rg ?_
 have F := aI (iV oL) (aI (cU (gX 64)) @oL)
 refine HS fun K' hK' => T6 ?_
 rw [gO (n := 64) K256 rfl rfl]
 refine AX (hK' _ _ ?_)
 refine SF ?_
 refine T2 (hK _ _ _ ?_)
 clear hK K
 refine aD (RT Tryz.results136 ?_)
 exact aC [] (ws K256) rfl rfl


theorem zV : aV Tryz.prog 150 [] (fun v => v = ws K256) := by
 refine FW Tryz.func150 ?_
 refine R0 ?_
 refine aB fun K hK => Rg ?_
 have F := aI (iV oL) (aI (cU (gX 64)) @oL)
 refine HS fun K' hK' => T6 ?_
 rw [gO (n := 64) K256 rfl rfl]
 refine AX (hK' _ _ ?_)
 refine SF ?_
 refine T2 (hK _ _ _ ?_)
 clear hK K
 refine aD (RT Tryz.results150 ?_)
 exact aC [] (ws K256) rfl rfl


end Go.Proofs.YtenbfeemmpjdhaaGreatDoor

namespace Go.Proofs.YtenbfeemmpjdhaaGreatDoor
open Go Go.Hl Go.Pl
set_option maxRecDepth 10000
set_option maxHeartbeats 4000000

theorem aI5 (b : List UInt8) (hbl : b.length = 64) : aV Tryz.prog 167 [.slc (b.map u8)] (fun v => v = ws (eL b)) := by
 refine FW Tryz.func167 ?_
 refine R0 ?_
 refine R0 ?_
 refine aB fun K hK => ?_
 refine R0 ?_
 refine aH ?_
 refine aS (α := {i : Nat // i ≤ 16}) (fun i => (fin [(0, .c (.slc (b.map u8))), (2, .ptr 0 0), (3, .ptr 4 0), (10, .c (.int .i64 i.1))], fob [(0, .box 161 (.c (ws (wz 64)))), (4, .box 161 (.c (ws (wA b i.1))))])) 100 (fun i => 16 - i.1) ⟨0, by omega⟩ (fF) ?_
 rintro ⟨i, hi⟩
 have hlen := tJ b i
 refine R0 ?_
 refine aB fun K hK => ?_
 refine aJ (b := decide ((i : Int) < 16)) rfl (fun hb => ?_) (fun hb => ?_)
 ·
  have hlt : i < 16 := by simp at hb; omega
  have z : (i : Int) < 64 := by omega
  have q : i < 64 := by omega
  have q0 : 4 * i < 64 := by omega
  have q1 : 4 * i + 1 < 64 := by omega
  have q2 : 4 * i + 2 < 64 := by omega
  have q3 : 4 * i + 3 < 64 := by omega
  have z0 : ((4 * i : Nat) : Int) < 64 := by omega
  have z1 : ((4 * i + 1 : Nat) : Int) < 64 := by omega
  have z2 : ((4 * i + 2 : Nat) : Int) < 64 := by omega
  have z3 : ((4 * i + 3 : Nat) : Int) < 64 := by omega
  have m0 : IntKind.i64.wrap (4 * (i : Int)) = ((4 * i : Nat) : Int) := by rw [IntWalk.i64_in _ (by omega)]; omega
  have m1 : IntKind.i64.wrap (((4 * i : Nat) : Int) + 1) = ((4 * i + 1 : Nat) : Int) := by rw [IntWalk.i64_in _ (by omega)]; omega
  have m2 : IntKind.i64.wrap (((4 * i : Nat) : Int) + 2) = ((4 * i + 2 : Nat) : Int) := by rw [IntWalk.i64_in _ (by omega)]; omega
  have m3 : IntKind.i64.wrap (((4 * i : Nat) : Int) + 3) = ((4 * i + 3 : Nat) : Int) := by rw [IntWalk.i64_in _ (by omega)]; omega
  refine aG ?_
  refine T0 (hK _ _ _ ?_)
  clear hK K
  refine aB fun K hK => ?_
  refine aH ?_
  refine R0 ?_
  refine DW [(0, [], []), (1, [], []), (2, [], []), (3, [], []), (4, [], []), (5, [], []), (6, [], []), (7, [], []), (8, [], []), (9, [], []), (10, [], []), (11, [], []), (12, [], []), (13, [], []), (14, [], []), (15, [], []), (16, [], []), (17, [], []), (18, [], []), (19, [], []), (20, [], []), (21, [], []), (22, [], []), (23, [], []), (24, [], []), (25, [], []), (26, [], []), (27, [], []), (28, [], []), (29, [], []), (30, [], []), (31, [], []), (32, [], []), (33, [], []), (34, [], []), (35, [], [])] [0, 0, 0, 4, 14, 30, 62, 126, 0, 0, 512, 1536, 3840, 7936, 16128, 32512, 65534, 0, 0, 262144, 786432, 1966080, 4063232, 8257536, 16646144, 33554430, 0, 0, 134217728, 402653184, 1006632960, 2080374784, 4227858432, 8589934590, 17179869183, 34359738367] ?_
  have F := aI m0 (aI m1 (aI m2 (aI m3 (aI q (aI q0 (aI q1 (aI q2 (aI q3 (aI z (aI z0 (aI z1 (aI z2 (aI z3 (aI hbl (aI hlen (aI @Int.natCast_nonneg (aI @bE9 (aI @Nat.mul_one (aI @bC9 (aI @aR2 (aI @bM8 (aI @mV @eX))))))))))))))))))))))
  iterate 36 refine WF ?_
  refine T2 (hK _ _ _ ?_)
  clear hK K
  refine aM (by kernel_rfl) ?_
  refine TQ (bK i) ?_
  refine ⟨⟨i + 1, hlt⟩, aP (by omega) (by simp [aX, fin_at, finA_at, upd_at, HV.men, HV.menL, HV.norm, HV.toC, HV.toCL]) (by simp [bB, fob_at, upd_at, none0_at, bU, HO.men, HV.men, HV.menL, HV.norm, HV.toC, HV.toCL]; rfl), ?_⟩
  show 16 - (i + 1) < 16 - i
  omega
 refine aR (T3 ?_)
 clear hK K
 refine AX (hK _ _ _ ?_)
 clear hK K
 refine aB fun K hK => ?_
 refine R0 ?_
 refine aH ?_
 have hei : i = 16 := by simp at hb; omega
 subst hei
 clear hb hlen
 refine aS (α := {i : Nat // i ≤ 48}) (fun i => (fin [(0, .c (.slc (b.map u8))), (2, .ptr 0 0), (3, .ptr 4 0), (5, .c (.int .i64 ((i.1 + 16 : Nat) : Int)))], fob [(0, .box 161 (.c (ws (wz 64)))), (4, .box 161 (.c (ws (wB (wA b 16) i.1))))])) 100 (fun i => 48 - i.1) ⟨0, by omega⟩ (fF) ?_
 rintro ⟨i, hi⟩
 have hlen : (wB (wA b 16) i).length = 64 := by rw [aK5, tJ]
 refine aB fun K hK => ?_
 refine R0 ?_
 refine aJ (b := decide (((i + 16 : Nat) : Int) < 64)) rfl (fun hb => ?_) (fun hb => ?_)
 ·
  have hlt : i < 48 := by simp at hb; omega
  have q0 : i < 64 := by omega
  have q1 : i + 1 < 64 := by omega
  have q2 : i + 14 < 64 := by omega
  have q3 : i + 9 < 64 := by omega
  have q4 : i + 16 < 64 := by omega
  have z0 : (i : Int) < 64 := by omega
  have z1 : ((i + 1 : Nat) : Int) < 64 := by omega
  have z2 : ((i + 14 : Nat) : Int) < 64 := by omega
  have z3 : ((i + 9 : Nat) : Int) < 64 := by omega
  have z4 : ((i + 16 : Nat) : Int) < 64 := by omega
  have m0 : IntKind.i64.wrap (((i + 16 : Nat) : Int) - 16) = (i : Int) := by rw [IntWalk.i64_in _ (by omega)]; omega
  have m1 : IntKind.i64.wrap (((i + 16 : Nat) : Int) - 15) = ((i + 1 : Nat) : Int) := by rw [IntWalk.i64_in _ (by omega)]; omega
  have m2 : IntKind.i64.wrap (((i + 16 : Nat) : Int) - 2) = ((i + 14 : Nat) : Int) := by rw [IntWalk.i64_in _ (by omega)]; omega
  have m3 : IntKind.i64.wrap (((i + 16 : Nat) : Int) - 7) = ((i + 9 : Nat) : Int) := by rw [IntWalk.i64_in _ (by omega)]; omega
  have m4 : IntKind.i64.wrap (((i + 16 : Nat) : Int) + 1) = ((i + 1 + 16 : Nat) : Int) := by rw [IntWalk.i64_in _ (by omega)]; omega
  refine aG ?_
  refine T0 (hK _ _ _ ?_)
  clear hK K
  refine aB fun K hK => ?_
  refine aH ?_
  refine aB fun K hK => QR ?_
  have F := aI m1 (aI m2 (aI q1 (aI q2 (aI z1 (aI z2 (aI hlen (aI @Int.natCast_nonneg (aI @Nat.mul_one @gE))))))))
  iterate 10 refine SF ?_
  refine T2 (hK _ _ _ ?_)
  clear hK K
  refine aB fun K hK => Rg ?_
  have F := aI @lO @tH
  refine SF ?_
  refine HS fun K' hK' => T6 ?_
  refine C2 (gC _ 7 (by omega) (by omega)) ?_
  rintro u rfl
  refine AX (hK' _ _ ?_)
  refine SF ?_
  refine HS fun K' hK' => T6 ?_
  refine C2 (gC _ 18 (by omega) (by omega)) ?_
  rintro u rfl
  refine AX (hK' _ _ ?_)
  iterate 5 refine SF ?_
  refine T2 (hK _ _ _ ?_)
  clear hK K
  refine aB fun K hK => Rg ?_
  refine SF ?_
  refine HS fun K' hK' => T6 ?_
  refine C2 (gC _ 17 (by omega) (by omega)) ?_
  rintro u rfl
  refine AX (hK' _ _ ?_)
  refine SF ?_
  refine HS fun K' hK' => T6 ?_
  refine C2 (gC _ 19 (by omega) (by omega)) ?_
  rintro u rfl
  refine AX (hK' _ _ ?_)
  iterate 5 refine SF ?_
  refine T2 (hK _ _ _ ?_)
  clear hK K
  refine DW [(0, [], []), (1, [], []), (2, [], []), (3, [], []), (4, [], []), (5, [], []), (6, [], []), (7, [], []), (8, [], []), (9, [], []), (10, [], []), (11, [], []), (12, [], []), (13, [], []), (14, [], []), (15, [], [])] [0, 0, 2, 6, 14, 0, 62, 0, 128, 384, 896, 2046, 0, 8190, 16383, 32767] ?_
  have F := aI m0 (aI m3 (aI q0 (aI q3 (aI q4 (aI z0 (aI z3 (aI z4 (aI hlen (aI @Int.natCast_nonneg (aI @Nat.mul_one (aI @gE (aI @lN (aI @mV @eX)))))))))))))
  iterate 16 refine WF ?_
  refine T2 (hK _ _ _ ?_)
  clear hK K
  refine aM (by kernel_rfl) ?_
  refine TQ m4 ?_
  refine ⟨⟨i + 1, hlt⟩, aP (by omega) (by simp [aX, fin_at, finA_at, upd_at, HV.men, HV.menL, HV.norm, HV.toC, HV.toCL]) (by simp [bB, fob_at, upd_at, none0_at, bU, HO.men, HV.men, HV.menL, HV.norm, HV.toC, HV.toCL]; rfl), ?_⟩
  show 48 - (i + 1) < 48 - i
  omega
 refine aR (T3 ?_)
 clear hK K
 refine AX (hK _ _ _ ?_)
 clear hK K
 have hei : i = 48 := by simp at hb; omega
 subst hei
 have F := aI hlen (aI @iV (aI @cU @gX))
 refine RF ?_
 refine aD (RT Tryz.results167 ?_)
 rw [xD]
 simp only [iV (kH b), Option.map_some]
 exact aC [] (ws (eL b)) (eA (eR _)) rfl

end Go.Proofs.YtenbfeemmpjdhaaGreatDoor

namespace Go.Proofs.YtenbfeemmpjdhaaGreatDoor
open Go Go.Hl Go.Pl
set_option maxRecDepth 10000
set_option maxHeartbeats 4000000

theorem yB (s : St) (p : List UInt8) (hp : p.length = 64) : bV0 Tryz.prog 137 152 (ws s.l) [.rp (ws K256), .slc (p.map u8)] (fun v => v = ws (comp s p).l) := by
 refine bS Tryz.func137 rfl (by kernel_rfl) (fT _ _ _) (Nat.le_of_ble_eq_true rfl) ?_
 refine aB fun K hK => Rg ?_
 have F := aI @cU (aI @gX (aI @kH @denilL_u8))
 refine SF ?_
 refine HS fun K' hK' => T6 ?_
 refine C1 (aI5 p hp) ?_
 rintro u rfl
 refine AX (hK' _ _ ?_)
 iterate 2 refine SF ?_
 refine T2 (hK _ _ _ ?_)
 clear hK K
 refine aB fun K hK => QR ?_
 have F := aI @gE (aI @eM (aI @aL5 (aI @aL6 (aI @aL7 (aI @aL8 (aI @aL9 (aI @aM0 (aI @aM1 (aI @aM2 (aI @iA (aI @Nat.mul_one @Int.natCast_nonneg)))))))))))
 iterate 20 refine SF ?_
 refine T2 (hK _ _ _ ?_)
 clear hK K
 refine aB fun K hK => QR ?_
 iterate 20 refine SF ?_
 refine T2 (hK _ _ _ ?_)
 clear hK K
 refine aB fun K hK => ?_
 refine R0 ?_
 refine aH ?_
 refine aS (α := {x : Nat × St // x.1 ≤ 64 ∧ x.2 = itN (rnd (eL p)) x.1 s}) (fun x => (fin [(0, .ptr 0 0), (1, .c (.rp (ws K256))), (6, .ptr 9 0), (7, .c (.int .u32 (x.1.2.a.toNat : Int))), (8, .c (.int .u32 (x.1.2.b.toNat : Int))), (9, .c (.int .u32 (x.1.2.c.toNat : Int))), (10, .c (.int .u32 (x.1.2.d.toNat : Int))), (11, .c (.int .u32 (x.1.2.e.toNat : Int))), (12, .c (.int .u32 (x.1.2.f.toNat : Int))), (13, .c (.int .u32 (x.1.2.g.toNat : Int))), (14, .c (.int .u32 (x.1.2.h.toNat : Int))), (54, .c (.int .i64 x.1.1))], fob [(0, .box 152 (.c (ws s.l))), (9, .box 161 (.c (ws (eL p))))])) 300 (fun x => 64 - x.1.1) ⟨(0, s), by omega, rfl⟩ (aP (by omega) (by simp [aX, fin_at, finA_at, upd_at, HV.men, HV.menL, HV.norm, HV.toC, HV.toCL, w32]) (by simp [bB, fob_at, upd_at, none0_at, HO.men, HV.men, HV.menL, HV.norm, HV.toC, HV.toCL])) ?_
 rintro ⟨⟨i, S⟩, hi, hS⟩
 replace hi : i ≤ 64 := hi
 replace hS : S = itN (rnd (eL p)) i s := hS
 refine R0 ?_
 refine aB fun K hK => ?_
 refine aJ (b := decide ((i : Int) < 64)) rfl (fun hb => ?_) (fun hb => ?_)
 ·
  have hlt : i < 64 := by simp at hb; omega
  have z : (i : Int) < 64 := by omega
  refine aG ?_
  refine T0 (hK _ _ _ ?_)
  clear hK K
  refine aB fun K hK => ?_
  refine aH ?_
  refine R0 ?_
  refine aB fun K hK => QR ?_
  have F := aI z (aI hlt (aI @aR6 (aI @kH (aI @gE (aI @Nat.mul_one (aI @Int.natCast_nonneg (aI @lN (aI @aR1 (aI @lO @bU1)))))))))
  iterate 21 refine SF ?_
  refine T2 (hK _ _ _ ?_)
  clear hK K
  refine aB fun K hK => Rg ?_
  have F := aI @lO (aI @lN @bN3)
  iterate 2 refine SF ?_
  refine HS fun K' hK' => T6 ?_
  refine C2 (gC _ 6 (by omega) (by omega)) ?_
  rintro u rfl
  refine AX (hK' _ _ ?_)
  refine SF ?_
  refine HS fun K' hK' => T6 ?_
  refine C2 (gC _ 11 (by omega) (by omega)) ?_
  rintro u rfl
  refine AX (hK' _ _ ?_)
  iterate 2 refine SF ?_
  refine HS fun K' hK' => T6 ?_
  refine C2 (gC _ 25 (by omega) (by omega)) ?_
  rintro u rfl
  refine AX (hK' _ _ ?_)
  iterate 3 refine SF ?_
  refine T2 (hK _ _ _ ?_)
  clear hK K
  refine aB fun K hK => Rg ?_
  have F := aI @aR1 @lO
  iterate 12 refine SF ?_
  refine T2 (hK _ _ _ ?_)
  clear hK K
  refine aB fun K hK => Rg ?_
  have F := aI @lO (aI @lN @bN4)
  iterate 2 refine SF ?_
  refine HS fun K' hK' => T6 ?_
  refine C2 (gC _ 2 (by omega) (by omega)) ?_
  rintro u rfl
  refine AX (hK' _ _ ?_)
  refine SF ?_
  refine HS fun K' hK' => T6 ?_
  refine C2 (gC _ 13 (by omega) (by omega)) ?_
  rintro u rfl
  refine AX (hK' _ _ ?_)
  iterate 2 refine SF ?_
  refine HS fun K' hK' => T6 ?_
  refine C2 (gC _ 22 (by omega) (by omega)) ?_
  rintro u rfl
  refine AX (hK' _ _ ?_)
  iterate 3 refine SF ?_
  refine T2 (hK _ _ _ ?_)
  clear hK K
  refine aB fun K hK => Rg ?_
  have F := @lN
  iterate 10 refine SF ?_
  refine T2 (hK _ _ _ ?_)
  clear hK K
  refine Rg ?_
  iterate 10 refine SF ?_
  refine T2 (hK _ _ _ ?_)
  clear hK K
  refine aM (by kernel_rfl) ?_
  refine TQ (bK i) ?_
  refine ⟨⟨(i + 1, rnd (eL p) i S), hlt, by rw [hS]; rfl⟩, aP (by omega) (by simp [aX, fin_at, finA_at, upd_at, HV.men, HV.menL, HV.norm, HV.toC, HV.toCL, rnd]) (by simp [bB, fob_at, upd_at, none0_at, HO.men, HV.men, HV.menL, HV.norm, HV.toC, HV.toCL]), ?_⟩
  show 64 - (i + 1) < 64 - i
  omega
 refine aR (T3 ?_)
 clear hK K
 refine AX (hK _ _ _ ?_)
 clear hK K
 refine aB fun K hK => Rg ?_
 iterate 8 refine S0 ?_
 refine HS fun K' hK' => T5 ?_
 rw [gO (n := 8) S.l rfl rfl]
 refine AX (hK' _ _ ?_)
 refine S0 ?_
 refine T2 (hK _ _ _ ?_)
 clear hK K
 refine aH ?_
 have hei : i = 64 := by simp at hb; omega
 subst hei
 clear hb
 have e8 : tZ s S 8 = (comp s p).l := by rw [hS]; rfl
 clear hS
 refine aS (α := {j : Nat // j ≤ 8}) (fun j => (fin [(0, .ptr 0 0), (129, .c (ws S.l)), (130, .c (.int .i64 j.1))], fob [(0, .box 152 (.c (ws (tZ s S j.1))))])) 300 (fun j => 8 - j.1) ⟨0, by omega⟩ (fF) ?_
 rintro ⟨j, hj⟩
 have hlen := aE2 s S j (by omega)
 refine R0 ?_
 refine aB fun K hK => ?_
 refine aJ (b := decide ((j : Int) < 8)) rfl (fun hb => ?_) (fun hb => ?_)
 ·
  have hlt : j < 8 := by simp at hb; omega
  have z : (j : Int) < 8 := by omega
  have hg := aR7 s S j hlt
  refine aG ?_
  refine T0 (hK _ _ _ ?_)
  clear hK K
  refine aB fun K hK => ?_
  refine aH ?_
  refine aB fun K hK => Rg ?_
  have F := aI z (aI hlt (aI hlen (aI hg (aI @gE (aI @eM (aI @aL5 (aI @aL6 (aI @aL7 (aI @aL8 (aI @aL9 (aI @aM0 (aI @aM1 (aI @aM2 (aI @iA (aI @Nat.mul_one @Int.natCast_nonneg)))))))))))))))
  iterate 4 refine SF ?_
  refine T2 (hK _ _ _ ?_)
  clear hK K
  refine DW [(0, [], []), (1, [], []), (2, [], []), (3, [], []), (4, [], []), (5, [], []), (6, [], []), (7, [], []), (8, [], []), (9, [], [])] [0, 0, 1, 7, 15, 0, 63, 1, 255, 511] ?_
  have F := aI z (aI hlt (aI hlen (aI hg (aI @gE (aI @Nat.mul_one (aI @Int.natCast_nonneg (aI @lN (aI @mV @eX))))))))
  iterate 10 refine WF ?_
  refine T2 (hK _ _ _ ?_)
  clear hK K
  refine aM (by kernel_rfl) ?_
  refine TQ (bK j) ?_
  refine ⟨⟨j + 1, hlt⟩, aP (by omega) (by simp [aX, fin_at, finA_at, upd_at, HV.men, HV.menL, HV.norm, HV.toC, HV.toCL]) (by simp [bB, fob_at, upd_at, none0_at, HO.men, HV.men, HV.menL, HV.norm, HV.toC, HV.toCL]; rw [xE s S j hlt]), ?_⟩
  show 8 - (j + 1) < 8 - j
  omega
 refine aR (T3 ?_)
 clear hK K
 simp only [cQ, Tryz.results137, cJ, cP, cH, ↓sP, sA, tyS, simprocAttr]
 have hej : j = 8 := by simp at hb; omega
 subst hej
 exact bA3 [] (ws (tZ s S 8)) rfl rfl (eA (eR _)) (by simp) (by rw [e8])

end Go.Proofs.YtenbfeemmpjdhaaGreatDoor

namespace Go.Proofs.YtenbfeemmpjdhaaGreatDoor
open Go Go.Hl Go.Pl
set_option maxRecDepth 10000
set_option maxHeartbeats 4000000

theorem bK2 (s : St) (p : List UInt8) (hp : p.length = 64) : aV Tryz.prog 120 [ws s.l, .slc (p.map u8)] (fun v => v = ws (comp s p).l) := by
 refine FW Tryz.func120 ?_
 refine R0 ?_
 refine R0 ?_
 refine aB fun K hK => ?_
 refine R0 ?_
 refine aH ?_
 refine aS (α := {i : Nat // i ≤ 16}) (fun i => (fin [(1, .c (.slc (p.map u8))), (2, .ptr 0 0), (4, .ptr 4 0), (5, .ptr 8 0), (6, .c (.int .i64 i.1))], fob [(0, .box 152 (.c (ws s.l))), (4, .box 152 (.c (ws (wz 8)))), (8, .box 161 (.c (ws (wA p i.1))))])) 100 (fun i => 16 - i.1) ⟨0, by omega⟩ (fF) ?_
 rintro ⟨i, hi⟩
 have hlen := tJ p i
 refine aB fun K hK => ?_
 refine R0 ?_
 refine aJ (b := decide ((i : Int) < 16)) rfl (fun hb => ?_) (fun hb => ?_)
 ·
  have hlt : i < 16 := by simp at hb; omega
  have z : (i : Int) < 64 := by omega
  have q : i < 64 := by omega
  have q0 : 4 * i < 64 := by omega
  have q1 : 4 * i + 1 < 64 := by omega
  have q2 : 4 * i + 2 < 64 := by omega
  have q3 : 4 * i + 3 < 64 := by omega
  have z0 : ((4 * i : Nat) : Int) < 64 := by omega
  have z1 : ((4 * i + 1 : Nat) : Int) < 64 := by omega
  have z2 : ((4 * i + 2 : Nat) : Int) < 64 := by omega
  have z3 : ((4 * i + 3 : Nat) : Int) < 64 := by omega
  have m0 : IntKind.i64.wrap (4 * (i : Int)) = ((4 * i : Nat) : Int) := by rw [IntWalk.i64_in _ (by omega)]; omega
  have m1 : IntKind.i64.wrap (((4 * i : Nat) : Int) + 1) = ((4 * i + 1 : Nat) : Int) := by rw [IntWalk.i64_in _ (by omega)]; omega
  have m2 : IntKind.i64.wrap (((4 * i : Nat) : Int) + 2) = ((4 * i + 2 : Nat) : Int) := by rw [IntWalk.i64_in _ (by omega)]; omega
  have m3 : IntKind.i64.wrap (((4 * i : Nat) : Int) + 3) = ((4 * i + 3 : Nat) : Int) := by rw [IntWalk.i64_in _ (by omega)]; omega
  refine aG ?_
  refine T0 (hK _ _ _ ?_)
  clear hK K
  refine aB fun K hK => ?_
  refine aH ?_
  refine DW [(0, [], []), (1, [], []), (2, [], []), (3, [], []), (4, [], []), (5, [], []), (6, [], []), (7, [], []), (8, [], []), (9, [], []), (10, [], []), (11, [], []), (12, [], []), (13, [], []), (14, [], []), (15, [], []), (16, [], []), (17, [], []), (18, [], []), (19, [], []), (20, [], []), (21, [], []), (22, [], []), (23, [], []), (24, [], []), (25, [], []), (26, [], []), (27, [], []), (28, [], []), (29, [], []), (30, [], []), (31, [], []), (32, [], []), (33, [], []), (34, [], []), (35, [], [])] [0, 0, 0, 4, 14, 30, 62, 126, 0, 0, 512, 1536, 3840, 7936, 16128, 32512, 65534, 0, 0, 262144, 786432, 1966080, 4063232, 8257536, 16646144, 33554430, 0, 0, 134217728, 402653184, 1006632960, 2080374784, 4227858432, 8589934590, 17179869183, 34359738367] ?_
  have F := aI m0 (aI m1 (aI m2 (aI m3 (aI q (aI q0 (aI q1 (aI q2 (aI q3 (aI z (aI z0 (aI z1 (aI z2 (aI z3 (aI hp (aI hlen (aI @Int.natCast_nonneg (aI @bE9 (aI @Nat.mul_one (aI @bC9 (aI @aR2 (aI @bM8 (aI @mV @eX))))))))))))))))))))))
  iterate 36 refine WF ?_
  refine T2 (hK _ _ _ ?_)
  clear hK K
  refine aM (by kernel_rfl) ?_
  refine TQ (bK i) ?_
  refine ⟨⟨i + 1, hlt⟩, aP (by omega) (by simp [aX, fin_at, finA_at, upd_at, HV.men, HV.menL, HV.norm, HV.toC, HV.toCL]) (by simp [bB, fob_at, upd_at, none0_at, bU, HO.men, HV.men, HV.menL, HV.norm, HV.toC, HV.toCL]; rfl), ?_⟩
  show 16 - (i + 1) < 16 - i
  omega
 refine aR (T3 ?_)
 clear hK K
 refine AX (hK _ _ _ ?_)
 clear hK K
 refine aB fun K hK => ?_
 refine R0 ?_
 refine aH ?_
 have hei : i = 16 := by simp at hb; omega
 subst hei
 clear hb hlen
 refine aS (α := {i : Nat // i ≤ 48}) (fun i => (fin [(2, .ptr 0 0), (4, .ptr 4 0), (5, .ptr 8 0), (7, .c (.int .i64 ((i.1 + 16 : Nat) : Int)))], fob [(0, .box 152 (.c (ws s.l))), (4, .box 152 (.c (ws (wz 8)))), (8, .box 161 (.c (ws (wB (wA p 16) i.1))))])) 100 (fun i => 48 - i.1) ⟨0, by omega⟩ (fF) ?_
 rintro ⟨i, hi⟩
 have hlen : (wB (wA p 16) i).length = 64 := by rw [aK5, tJ]
 refine aB fun K hK => ?_
 refine R0 ?_
 refine aJ (b := decide (((i + 16 : Nat) : Int) < 64)) rfl (fun hb => ?_) (fun hb => ?_)
 ·
  have hlt : i < 48 := by simp at hb; omega
  have q0 : i < 64 := by omega
  have q1 : i + 1 < 64 := by omega
  have q2 : i + 14 < 64 := by omega
  have q3 : i + 9 < 64 := by omega
  have q4 : i + 16 < 64 := by omega
  have z0 : (i : Int) < 64 := by omega
  have z1 : ((i + 1 : Nat) : Int) < 64 := by omega
  have z2 : ((i + 14 : Nat) : Int) < 64 := by omega
  have z3 : ((i + 9 : Nat) : Int) < 64 := by omega
  have z4 : ((i + 16 : Nat) : Int) < 64 := by omega
  have m0 : IntKind.i64.wrap (((i + 16 : Nat) : Int) - 16) = (i : Int) := by rw [IntWalk.i64_in _ (by omega)]; omega
  have m1 : IntKind.i64.wrap (((i + 16 : Nat) : Int) - 15) = ((i + 1 : Nat) : Int) := by rw [IntWalk.i64_in _ (by omega)]; omega
  have m2 : IntKind.i64.wrap (((i + 16 : Nat) : Int) - 2) = ((i + 14 : Nat) : Int) := by rw [IntWalk.i64_in _ (by omega)]; omega
  have m3 : IntKind.i64.wrap (((i + 16 : Nat) : Int) - 7) = ((i + 9 : Nat) : Int) := by rw [IntWalk.i64_in _ (by omega)]; omega
  have m4 : IntKind.i64.wrap (((i + 16 : Nat) : Int) + 1) = ((i + 1 + 16 : Nat) : Int) := by rw [IntWalk.i64_in _ (by omega)]; omega
  refine aG ?_
  refine T0 (hK _ _ _ ?_)
  clear hK K
  refine aB fun K hK => ?_
  refine aH ?_
  refine aB fun K hK => DW [(0, [], []), (1, [], []), (2, [], []), (3, [], []), (5, [], []), (6, [], []), (7, [], []), (8, [], []), (11, [], []), (12, [], []), (13, [], []), (14, [], []), (15, [], []), (4, [], [5, 6, 7, 8, 11, 12, 13, 14, 15]), (9, [], [11, 12, 13, 14, 15]), (10, [], []), (16, [], []), (17, [], [])] [0, 1, 3, 7, 15, 0, 32, 96, 224, 511, 1023, 0, 2048, 6144, 14336, 30720, 65535, 131071] ?_
  have F := aI m1 (aI q1 (aI z1 (aI hlen (aI @Int.natCast_nonneg (aI @Nat.mul_one (aI @gE (aI @lO @tH)))))))
  iterate 13 refine WF ?_
  refine aN (g := none) rfl rfl fun K' hK' => T6 ?_
  refine C2 (jA _ 7 (by omega) (by omega)) ?_
  rintro u rfl
  refine AX (hK' _ _ ?_)
  refine aN (g := none) rfl rfl fun K' hK' => T6 ?_
  refine C2 (jA _ 18 (by omega) (by omega)) ?_
  rintro u rfl
  refine AX (hK' _ _ ?_)
  iterate 3 refine WF ?_
  refine T2 (hK _ _ _ ?_)
  clear hK K
  refine aB fun K hK => DW [(0, [], []), (1, [], []), (2, [], []), (3, [], []), (5, [], []), (6, [], []), (7, [], []), (8, [], []), (11, [], []), (12, [], []), (13, [], []), (14, [], []), (15, [], []), (4, [], [5, 6, 7, 8, 11, 12, 13, 14, 15]), (9, [], [11, 12, 13, 14, 15]), (10, [], []), (16, [], []), (17, [], [])] [0, 1, 3, 7, 15, 0, 32, 96, 224, 511, 1023, 0, 2048, 6144, 14336, 30720, 65535, 131071] ?_
  have F := aI m2 (aI q2 (aI z2 (aI hlen (aI @Int.natCast_nonneg (aI @Nat.mul_one (aI @gE (aI @lO @tH)))))))
  iterate 13 refine WF ?_
  refine aN (g := none) rfl rfl fun K' hK' => T6 ?_
  refine C2 (jA _ 17 (by omega) (by omega)) ?_
  rintro u rfl
  refine AX (hK' _ _ ?_)
  refine aN (g := none) rfl rfl fun K' hK' => T6 ?_
  refine C2 (jA _ 19 (by omega) (by omega)) ?_
  rintro u rfl
  refine AX (hK' _ _ ?_)
  iterate 3 refine WF ?_
  refine T2 (hK _ _ _ ?_)
  clear hK K
  refine DW [(0, [], []), (1, [], []), (2, [], []), (3, [], []), (4, [], []), (5, [], []), (6, [], []), (7, [], []), (8, [], []), (9, [], []), (10, [], []), (11, [], []), (12, [], []), (13, [], []), (14, [], []), (15, [], [])] [0, 0, 2, 6, 14, 0, 62, 0, 128, 384, 896, 2046, 0, 8190, 16383, 32767] ?_
  have F := aI m0 (aI m3 (aI q0 (aI q3 (aI q4 (aI z0 (aI z3 (aI z4 (aI hlen (aI @Int.natCast_nonneg (aI @Nat.mul_one (aI @gE (aI @lN (aI @mV @eX)))))))))))))
  iterate 16 refine WF ?_
  refine T2 (hK _ _ _ ?_)
  clear hK K
  refine aM (by kernel_rfl) ?_
  refine TQ m4 ?_
  refine ⟨⟨i + 1, hlt⟩, aP (by omega) (by simp [aX, fin_at, finA_at, upd_at, HV.men, HV.menL, HV.norm, HV.toC, HV.toCL]) (by simp [bB, fob_at, upd_at, none0_at, bU, HO.men, HV.men, HV.menL, HV.norm, HV.toC, HV.toCL]; rfl), ?_⟩
  show 48 - (i + 1) < 48 - i
  omega
 refine aR (T3 ?_)
 clear hK K
 refine AX (hK _ _ _ ?_)
 clear hK K
 have hei : i = 48 := by simp at hb; omega
 subst hei
 clear hb hlen
 rw [xD]
 refine aB fun K hK => Rg ?_
 have F := aI @cU (aI @gX @aR6)
 refine HS fun K' hK' => T6 ?_
 refine C0 zV ?_
 rintro u rfl
 refine AX (hK' _ _ ?_)
 iterate 2 refine SF ?_
 refine T2 (hK _ _ _ ?_)
 clear hK K
 have F := aI @iV (aI @cU (aI @gX @eM))
 refine RF ?_
 refine aB fun K hK => ?_
 refine R0 ?_
 refine aH ?_
 refine aS (α := {x : Nat × St // x.1 ≤ 64 ∧ x.2 = itN (rnd (eL p)) x.1 s}) (fun x => (fin [(2, .ptr 0 0), (4, .ptr 4 0), (5, .ptr 8 0), (10, .ptr 112 0), (11, .ptr 124 0), (12, .c (.int .i64 x.1.1))], fob [(0, .box 152 (.c (ws s.l))), (4, .box 152 (.c (ws (wz 8)))), (8, .box 161 (.c (ws (eL p)))), (112, .box 161 (.c (ws K256))), (124, .box 152 (.c (ws x.1.2.l)))])) 300 (fun x => 64 - x.1.1) ⟨(0, s), by omega, rfl⟩ (fF) ?_
 rintro ⟨⟨i, S⟩, hi, hS⟩
 replace hi : i ≤ 64 := hi
 replace hS : S = itN (rnd (eL p)) i s := hS
 refine aB fun K hK => ?_
 refine R0 ?_
 refine aJ (b := decide ((i : Int) < 64)) rfl (fun hb => ?_) (fun hb => ?_)
 ·
  have hlt : i < 64 := by simp at hb; omega
  have z : (i : Int) < 64 := by omega
  refine aG ?_
  refine T0 (hK _ _ _ ?_)
  clear hK K
  refine aB fun K hK => ?_
  refine aH ?_
  refine aB fun K hK => DW [(0, [], []), (1, [], []), (3, [], []), (4, [], []), (7, [], []), (8, [], []), (2, [], [3, 4, 7, 8]), (5, [], [7, 8]), (6, [], []), (9, [], [6]), (10, [], []), (11, [], [])] [0, 1, 3, 0, 8, 31, 63, 0, 128, 447, 1023, 2047] ?_
  have F := aI @gE (aI @eM (aI @aL5 (aI @aL6 (aI @aL7 (aI @aL8 (aI @aL9 (aI @aM0 (aI @aM1 (aI @aM2 (aI @iA (aI @Nat.mul_one (aI @Int.natCast_nonneg @lO))))))))))))
  iterate 6 refine WF ?_
  refine aN (g := none) rfl rfl fun K' hK' => T6 ?_
  refine C2 (jA _ 6 (by omega) (by omega)) ?_
  rintro u rfl
  refine AX (hK' _ _ ?_)
  refine aN (g := none) rfl rfl fun K' hK' => T6 ?_
  refine C2 (jA _ 11 (by omega) (by omega)) ?_
  rintro u rfl
  refine AX (hK' _ _ ?_)
  refine WF ?_
  refine aN (g := none) rfl rfl fun K' hK' => T6 ?_
  refine C2 (jA _ 25 (by omega) (by omega)) ?_
  rintro u rfl
  refine AX (hK' _ _ ?_)
  iterate 2 refine WF ?_
  refine T2 (hK _ _ _ ?_)
  clear hK K
  refine aB fun K hK => QR ?_
  have F := aI @gE (aI @eM (aI @aL5 (aI @aL6 (aI @aL7 (aI @aL8 (aI @aL9 (aI @aM0 (aI @aM1 (aI @aM2 (aI @iA (aI @Nat.mul_one (aI @Int.natCast_nonneg (aI z (aI hlt (aI @aR6 (aI @kH (aI @lN (aI @aR1 (aI @lO (aI @bU1 @bX0))))))))))))))))))))
  iterate 26 refine SF ?_
  refine T2 (hK _ _ _ ?_)
  clear hK K
  refine aB fun K hK => DW [(0, [], []), (1, [], []), (3, [], []), (4, [], []), (7, [], []), (8, [], []), (2, [], [3, 4, 7, 8]), (5, [], [7, 8]), (6, [], []), (9, [], [6]), (10, [], []), (11, [], [])] [0, 1, 3, 0, 8, 31, 63, 0, 128, 447, 1023, 2047] ?_
  have F := aI @gE (aI @eM (aI @aL5 (aI @aL6 (aI @aL7 (aI @aL8 (aI @aL9 (aI @aM0 (aI @aM1 (aI @aM2 (aI @iA (aI @Nat.mul_one (aI @Int.natCast_nonneg @lO))))))))))))
  iterate 6 refine WF ?_
  refine aN (g := none) rfl rfl fun K' hK' => T6 ?_
  refine C2 (jA _ 2 (by omega) (by omega)) ?_
  rintro u rfl
  refine AX (hK' _ _ ?_)
  refine aN (g := none) rfl rfl fun K' hK' => T6 ?_
  refine C2 (jA _ 13 (by omega) (by omega)) ?_
  rintro u rfl
  refine AX (hK' _ _ ?_)
  refine WF ?_
  refine aN (g := none) rfl rfl fun K' hK' => T6 ?_
  refine C2 (jA _ 22 (by omega) (by omega)) ?_
  rintro u rfl
  refine AX (hK' _ _ ?_)
  iterate 2 refine WF ?_
  refine T2 (hK _ _ _ ?_)
  clear hK K
  refine aB fun K hK => Rg ?_
  have F := aI @gE (aI @eM (aI @aL5 (aI @aL6 (aI @aL7 (aI @aL8 (aI @aL9 (aI @aM0 (aI @aM1 (aI @aM2 (aI @iA (aI @Nat.mul_one (aI @Int.natCast_nonneg (aI @lN (aI @aR1 (aI @lO @bX1)))))))))))))))
  iterate 20 refine SF ?_
  refine T2 (hK _ _ _ ?_)
  clear hK K
  refine Rg ?_
  have F := aI @gE (aI @eM (aI @aL5 (aI @aL6 (aI @aL7 (aI @aL8 (aI @aL9 (aI @aM0 (aI @aM1 (aI @aM2 (aI @iA (aI @Nat.mul_one (aI @Int.natCast_nonneg (aI @lN @cU)))))))))))))
  iterate 19 refine SF ?_
  refine HS fun K' hK' => T6 ?_
  rw [gO (n := 8) (rnd (eL p) i S).l rfl rfl]
  refine AX (hK' _ _ ?_)
  refine SF ?_
  refine T2 (hK _ _ _ ?_)
  clear hK K
  refine aM (by kernel_rfl) ?_
  refine TQ (bK i) ?_
  refine ⟨⟨(i + 1, rnd (eL p) i S), hlt, by rw [hS]; rfl⟩, fF, ?_⟩
  show 64 - (i + 1) < 64 - i
  omega
 refine aR (T3 ?_)
 clear hK K
 refine AX (hK _ _ _ ?_)
 clear hK K
 refine aB fun K hK => ?_
 refine R0 ?_
 refine aH ?_
 have hei : i = 64 := by simp at hb; omega
 subst hei
 clear hb
 have e8 : tZ s S 8 = (comp s p).l := by rw [hS]; rfl
 clear hS
 refine aS (α := {j : Nat // j ≤ 8}) (fun j => (fin [(2, .ptr 0 0), (4, .ptr 4 0), (11, .ptr 124 0), (17, .c (.int .i64 j.1))], fob [(0, .box 152 (.c (ws (tZ s S j.1)))), (4, .box 152 (.c (ws (wz 8)))), (124, .box 152 (.c (ws S.l)))])) 300 (fun j => 8 - j.1) ⟨0, by omega⟩ (fF) ?_
 rintro ⟨j, hj⟩
 have hlen := aE2 s S j (by omega)
 refine aB fun K hK => ?_
 refine R0 ?_
 refine aJ (b := decide ((j : Int) < 8)) rfl (fun hb => ?_) (fun hb => ?_)
 ·
  have hlt : j < 8 := by simp at hb; omega
  have z : (j : Int) < 8 := by omega
  have hg := aR7 s S j hlt
  refine aG ?_
  refine T0 (hK _ _ _ ?_)
  clear hK K
  refine aB fun K hK => ?_
  refine aH ?_
  refine DW [(0, [], []), (1, [], []), (2, [], []), (3, [], []), (4, [], []), (5, [], []), (6, [], []), (7, [], []), (8, [], []), (9, [], [])] [0, 0, 2, 6, 0, 16, 48, 126, 255, 511] ?_
  have F := aI z (aI hlt (aI hlen (aI hg (aI @gE (aI @eM (aI @Nat.mul_one (aI @Int.natCast_nonneg (aI @lN (aI @mV @eX)))))))))
  iterate 10 refine WF ?_
  refine T2 (hK _ _ _ ?_)
  clear hK K
  refine aM (by kernel_rfl) ?_
  refine TQ (bK j) ?_
  refine ⟨⟨j + 1, hlt⟩, aP (by omega) (by simp [aX, fin_at, finA_at, upd_at, HV.men, HV.menL, HV.norm, HV.toC, HV.toCL]) (by simp [bB, fob_at, upd_at, none0_at, HO.men, HV.men, HV.menL, HV.norm, HV.toC, HV.toCL]; rw [xE s S j hlt]), ?_⟩
  show 8 - (j + 1) < 8 - j
  omega
 refine aR (T3 ?_)
 clear hK K
 refine AX (hK _ _ _ ?_)
 clear hK K
 have hej : j = 8 := by simp at hb; omega
 subst hej
 clear hb
 have F := aI @iV (aI @cU (aI @gX hlen))
 refine RF ?_
 refine aD (RT Tryz.results120 ?_)
 simp only [iV hlen, Option.map_some]
 exact aC [] (ws (tZ s S 8)) (eA (eR _)) (by rw [e8])

end Go.Proofs.YtenbfeemmpjdhaaGreatDoor

namespace Go.Proofs.YtenbfeemmpjdhaaGreatDoor
open Go Go.Hl Go.Pl
set_option maxRecDepth 10000
set_option maxHeartbeats 4000000

theorem bS0 (b : List UInt8) (hb40 : b.length < 2 ^ 40) : aV Tryz.prog 115 [.slc (b.map u8)] (fun v => v = dg (sha b)) := by
 have c0 : IntKind.u64.wrap (b.length : Int) = (b.length : Int) := IntWalk.u64_in _ (by omega)
 have c1 : IntKind.u64.wrap ((b.length : Int) * 8) = ((8 * b.length : Nat) : Int) := by rw [IntWalk.u64_in _ (by omega)]; omega
 refine FW Tryz.func115 ?_
 refine R0 ?_
 refine aB fun K hK => Rg ?_
 have F := aI @cU (aI @gX @eM)
 refine HS fun K' hK' => T6 ?_
 rw [gO (n := 8) St0.l rfl rfl]
 refine AX (hK' _ _ ?_)
 iterate 2 refine SF ?_
 refine T2 (hK _ _ _ ?_)
 clear hK K
 refine aB fun K hK => Rg ?_
 have F := aI @cU (aI @gX @aR6)
 refine HS fun K' hK' => T6 ?_
 refine C0 bA4 ?_
 rintro u rfl
 refine AX (hK' _ _ ?_)
 iterate 2 refine SF ?_
 refine T2 (hK _ _ _ ?_)
 clear hK K
 refine eI 4 20 rfl rfl ?_
 refine aB fun K hK => Rg ?_
 have F := aI c0 c1
 iterate 5 refine SF ?_
 refine T2 (hK _ _ _ ?_)
 clear hK K
 refine aB fun K hK => ?_
 refine aH ?_
 refine aS (α := {x : Nat × St // 64 * x.1 ≤ b.length ∧ x.2 = blk (pad b) x.1 St0}) (fun x => (fin [(0, .c (.slc ((b.drop (64 * x.1.1)).map u8))), (2, .ptr 0 0), (3, .ptr 8 0), (4, .c (.rp (ws K256))), (5, .c (.int .u64 ((8 * b.length : Nat) : Int)))], fob [(0, .box 49 (.c zd)), (8, .box 152 (.c (ws x.1.2.l)))])) 100 (fun x => b.length - 64 * x.1.1) ⟨(0, St0), by omega, rfl⟩ (fF) ?_
 rintro ⟨⟨j, S⟩, hj, hS⟩
 replace hj : 64 * j ≤ b.length := hj
 replace hS : S = blk (pad b) j St0 := hS
 have hdl : (b.drop (64 * j)).length = b.length - 64 * j := List.length_drop
 refine aB fun K hK => ?_
 refine aB fun K hK => Rg ?_
 have F := hdl
 iterate 3 refine SF ?_
 refine T2 (hK _ _ _ ?_)
 clear hK K
 refine aJ (b := decide ((64 : Int) ≤ ((b.length - 64 * j : Nat) : Int))) rfl (fun hb => ?_) (fun hb => ?_)
 ·
  have hge : 64 ≤ b.length - 64 * j := by simp at hb; omega
  have hge' : (64 : Int) ≤ ((b.length - 64 * j : Nat) : Int) := by omega
  have hp : ((b.drop (64 * j)).take 64).length = 64 := by rw [List.length_take, hdl]; omega
  refine aG ?_
  refine T0 (hK _ _ _ ?_)
  clear hK K
  refine aH ?_
  refine aB fun K hK => Rg ?_
  iterate 2 refine S0 ?_ (e := fun _ h_ => by simp only [sH, ↓sP, sA, tyS, simprocAttr, bO, hdl, hge', List.drop_zero, ← List.map_take, denilL_u8, eR]; exact AX h_)
  refine HS fun K' hK' => ?_
  simp only [sH, ↓sP, sA, tyS, simprocAttr, bO, hdl, hge', List.drop_zero, ← List.map_take, denilL_u8, eR]
  refine yA (args := [_, _]) (yB S ((b.drop (64 * j)).take 64) hp) rfl (by simp) ⟨rfl, rfl, rfl, rfl⟩ ?_
  rintro v' rfl
  refine AX (hK' _ _ ?_)
  refine T2 (hK _ _ _ ?_)
  clear hK K
  refine Rg ?_
  iterate 3 refine S0 ?_ (e := fun _ h_ => by simp only [sH, ↓sP, sA, tyS, simprocAttr, bO, hdl, hge', ← List.map_drop, ← List.map_take]; exact AX h_)
  refine T4 ?_
  have e1 : List.take (b.length - 64 * j - 64) (List.drop (64 * j + 64) (List.map u8 b)) = List.drop (64 * (j + 1)) (List.map u8 b) := by
   rw [List.take_of_length_le (by rw [List.length_drop, List.length_map]; omega), show 64 * (j + 1) = 64 * j + 64 from by omega]
  refine ⟨⟨(j + 1, comp S ((b.drop (64 * j)).take 64)), by show 64 * (j + 1) ≤ b.length; omega, by rw [bF0, ← hS, bN6 (by omega)]⟩, aP (by omega) (by simp [aX, fin_at, finA_at, upd_at, HV.men, HV.menL, HV.norm, HV.toC, HV.toCL]; exact e1) (by simp [bB, fob_at, upd_at, none0_at, bU, HO.men, HV.men, HV.menL, HV.norm, HV.toC, HV.toCL]), ?_⟩
  show b.length - 64 * (j + 1) < b.length - 64 * j
  omega
 refine aR (T3 ?_)
 clear hK K
 refine AX (hK _ _ _ ?_)
 clear hK K
 have hlt : b.length < 64 * j + 64 := by simp at hb; omega
 clear hb
 have hov : aU1 ((uz 128).map u8) (((b.drop (64 * j)).map u8).take 128) 0 = ((b.drop (64 * j)) ++ (uz 128).drop (b.length - 64 * j)).map u8 := by rw [bN7 (by omega), hdl]
 have h80 : CV.setAt (b.length - 64 * j) 1 (.c (.int .u8 128)) (.agg ((b.drop (64 * j) ++ (uz 128).drop (b.length - 64 * j)).map u8)) = some (.agg (((nE b j 0).map u8).map .c)) := by rw [← aW4 hj hlt]; exact mW 128 (by simp [aK6]; omega) (by simp [aK6]; omega)
 have z80 : ((b.length - 64 * j : Nat) : Int) < 128 := by omega
 refine R0 ?_
 refine aB fun K hK => Rg ?_
 have F := aI @us.eq_1 (aI hdl (aI @aK6 (aI @bO hov)))
 iterate 3 refine SF ?_
 refine T2 (hK _ _ _ ?_)
 clear hK K
 refine aB fun K hK => Rg ?_
 have F := aI hdl (aI z80 (aI h80 (aI @eX (aI @Nat.mul_one @Int.natCast_nonneg))))
 iterate 4 refine SF ?_
 refine T2 (hK _ _ _ ?_)
 clear hK K
 refine R0 ?_
 refine aB fun K hK => ?_
 have key : ∀ m : Nat, m = lastM b j → ∀ fr ob nx, Fits 0 fr ob (fin [(2, .ptr 0 0), (3, .ptr 8 0), (4, .c (.rp (ws K256))), (5, .c (.int .u64 ((8 * b.length : Nat) : Int))), (6, .ptr 112 0), (7, .c (.int .i64 m))]) (fob [(0, .box 49 (.c zd)), (8, .box 152 (.c (ws S.l))), (112, .box 166 (.c (us (nE b j 0))))]) 200 → K fr ob nx := by
  rintro m rfl fr ob nx hf
  refine hK _ _ _ (bE hf ?_)
  clear hf hK K
  refine aB fun K hK => ?_
  refine R0 ?_
  refine aH ?_
  refine aS (α := {i : Nat // i ≤ 8}) (fun i => (fin [(2, .ptr 0 0), (3, .ptr 8 0), (4, .c (.rp (ws K256))), (5, .c (.int .u64 ((8 * b.length : Nat) : Int))), (6, .ptr 112 0), (7, .c (.int .i64 (lastM b j : Nat))), (35, .c (.int .i64 i.1))], fob [(0, .box 49 (.c zd)), (8, .box 152 (.c (ws S.l))), (112, .box 166 (.c (us (nE b j i.1))))])) 200 (fun i => 8 - i.1) ⟨0, by omega⟩ (fF) ?_
  rintro ⟨i, hi⟩
  have hlen := bF2 hj hlt i
  have hm0 : lastM b j = 64 ∨ lastM b j = 128 := by unfold lastM; split <;> simp
  refine R0 ?_
  refine aB fun K hK => ?_
  refine aJ (b := decide ((i : Int) < 8)) rfl (fun hb => ?_) (fun hb => ?_)
  ·
   have hi8 : i < 8 := by simp at hb; omega
   have z : ((lastM b j - 1 - i : Nat) : Int) < 128 := by omega
   have q : lastM b j - 1 - i < 128 := by omega
   have m1 : IntKind.i64.wrap ((lastM b j : Int) - 1) = ((lastM b j - 1 : Nat) : Int) := by rw [IntWalk.i64_in _ (by omega)]; omega
   have m2 : IntKind.i64.wrap (((lastM b j - 1 : Nat) : Int) - (i : Int)) = ((lastM b j - 1 - i : Nat) : Int) := by rw [IntWalk.i64_in _ (by omega)]; omega
   have m3 : IntKind.i64.wrap (8 * (i : Int)) = ((8 * i : Nat) : Int) := by rw [IntWalk.i64_in _ (by omega)]; omega
   have m4 := aE6 (8 * b.length) i (by omega)
   refine aG ?_
   refine T0 (hK _ _ _ ?_)
   clear hK K
   refine aB fun K hK => ?_
   refine aH ?_
   refine R0 ?_
   refine Rg ?_
   have F := aI m1 (aI m2 (aI m3 (aI m4 (aI z (aI q (aI hlen (aI @Int.natCast_nonneg (aI @Nat.mul_one (aI @mW @eX)))))))))
   iterate 11 refine SF ?_
   refine T2 (hK _ _ _ ?_)
   clear hK K
   refine aM (by kernel_rfl) ?_
   refine TQ (bK i) ?_
   refine ⟨⟨i + 1, hi8⟩, aP (by omega) (by simp [aX, fin_at, finA_at, upd_at, HV.men, HV.menL, HV.norm, HV.toC, HV.toCL]) (by simp [bB, fob_at, upd_at, none0_at, HO.men, HV.men, HV.menL, HV.norm, HV.toC, HV.toCL]; rw [aW5 hj hlt hi8]), ?_⟩
   show 8 - (i + 1) < 8 - i
   omega
  refine aR (T3 ?_)
  clear hK K
  refine AX (hK _ _ _ ?_)
  clear hK K
  refine aB fun K hK => ?_
  refine R0 ?_
  refine aH ?_
  have hei : i = 8 := by simp at hb; omega
  subst hei
  clear hb
  refine eI 6 112 rfl rfl ?_
  refine aS (α := {x : Nat × St // 64 * x.1 ≤ lastM b j ∧ x.2 = blk (pad b) (j + x.1) St0}) (fun x => (fin [(2, .ptr 0 0), (3, .ptr 8 0), (4, .c (.rp (ws K256))), (6, .c (.rp (us (nE b j 8)))), (7, .c (.int .i64 (lastM b j : Nat))), (9, .c (.int .i64 ((64 * x.1.1 : Nat) : Int)))], fob [(0, .box 49 (.c zd)), (8, .box 152 (.c (ws x.1.2.l)))])) 300 (fun x => lastM b j - 64 * x.1.1) ⟨(0, S), by omega, hS⟩ (fF) ?_
  clear hS
  rintro ⟨⟨q, S⟩, hq, hS⟩
  replace hq : 64 * q ≤ lastM b j := hq
  replace hS : S = blk (pad b) (j + q) St0 := hS
  refine aB fun K hK => ?_
  refine R0 ?_
  refine aJ (b := decide (((64 * q : Nat) : Int) < (lastM b j : Int))) rfl (fun hb => ?_) (fun hb => ?_)
  ·
   have hlt2 : 64 * (q + 1) ≤ lastM b j := by simp at hb; omega
   have m1 : IntKind.i64.wrap (((64 * q : Nat) : Int) + 64) = ((64 * q + 64 : Nat) : Int) := by rw [IntWalk.i64_in _ (by omega)]; omega
   have z1 : ((64 * q : Nat) : Int) ≤ ((64 * q + 64 : Nat) : Int) := by omega
   have z2 : ((64 * q + 64 : Nat) : Int) ≤ 128 := by omega
   have hp : (((nE b j 8).drop (64 * q)).take 64).length = 64 := by rw [List.length_take, List.length_drop, hlen]; omega
   refine aG ?_
   refine T0 (hK _ _ _ ?_)
   clear hK K
   refine aB fun K hK => ?_
   refine aH ?_
   refine Rg ?_
   iterate 4 refine S0 ?_ (e := fun _ h_ => by simp only [sH, ↓sP, sA, tyS, simprocAttr, us, m1, z1, z2, hlen, bO, Nat.add_sub_cancel_left, ← List.map_drop, ← List.map_take, denilL_u8, eR, Int.natCast_nonneg]; exact AX h_)
   refine HS fun K' hK' => ?_
   simp only [sH, ↓sP, sA, tyS, simprocAttr, us, m1, z1, z2, hlen, bO, Nat.add_sub_cancel_left, ← List.map_drop, ← List.map_take, denilL_u8, eR, Int.natCast_nonneg]
   refine yA (args := [_, _]) (yB S (((nE b j 8).drop (64 * q)).take 64) hp) rfl (by simp) ⟨rfl, rfl, rfl, rfl⟩ ?_
   rintro v' rfl
   refine AX (hK' _ _ ?_)
   refine T2 (hK _ _ _ ?_)
   clear hK K
   refine aM (by kernel_rfl) ?_
   refine TQ m1 ?_
   refine ⟨⟨(q + 1, comp S (((nE b j 8).drop (64 * q)).take 64)), hlt2, by rw [bF3 hj hlt hlt2, hS]; rfl⟩, aP (by omega) (by simp [aX, fin_at, finA_at, upd_at, HV.men, HV.menL, HV.norm, HV.toC, HV.toCL]; omega) (by simp [bB, fob_at, upd_at, none0_at, bU, HO.men, HV.men, HV.menL, HV.norm, HV.toC, HV.toCL]), ?_⟩
   show lastM b j - 64 * (q + 1) < lastM b j - 64 * q
   omega
  refine aR (T3 ?_)
  clear hK K
  refine AX (hK _ _ _ ?_)
  clear hK K
  refine R0 ?_
  refine aB fun K hK => ?_
  refine R0 ?_
  refine aH ?_
  have heq : 64 * q = lastM b j := by simp at hb; omega
  clear hb
  refine aS (α := {i : Nat // i ≤ 32}) (fun i => (fin [(2, .ptr 0 0), (3, .ptr 8 0), (10, .ptr 312 0), (59, .c (.int .i64 i.1))], fob [(0, .box 49 (.c zd)), (8, .box 152 (.c (ws S.l))), (312, .box 49 (.c (us (zJ S i.1))))])) 400 (fun i => 32 - i.1) ⟨0, by omega⟩ (aP (by omega) (by simp [aX, fin_at, finA_at, upd_at, HV.men, HV.menL, HV.norm, HV.toC, HV.toCL]) (by simp [bB, fob_at, upd_at, none0_at, bU, HO.men, HV.men, HV.menL, HV.norm, HV.toC, HV.toCL]; rfl)) ?_
  rintro ⟨i, hi⟩
  have hol := aE7 S i
  refine R0 ?_
  refine aB fun K hK => ?_
  refine aJ (b := decide ((i : Int) < 32)) rfl (fun hb => ?_) (fun hb => ?_)
  ·
   have hi32 : i < 32 := by simp at hb; omega
   have m1 : IntKind.i64.wrap ((i : Int).tdiv 4) = ((i / 4 : Nat) : Int) := by
    rw [show (i : Int).tdiv 4 = ((i / 4 : Nat) : Int) from rfl]; exact IntWalk.i64_in _ (by omega)
   have m2 : (i : Int).tmod 4 = ((i % 4 : Nat) : Int) := rfl
   have m3 : IntKind.i64.wrap (8 * ((i % 4 : Nat) : Int)) = ((8 * (i % 4) : Nat) : Int) := by rw [IntWalk.i64_in _ (by omega)]; omega
   have m4 : IntKind.i64.wrap (24 - ((8 * (i % 4) : Nat) : Int)) = ((24 - 8 * (i % 4) : Nat) : Int) := by rw [IntWalk.i64_in _ (by omega)]; omega
   have q1 : i / 4 < 8 := by omega
   have z1 : ((i / 4 : Nat) : Int) < 8 := by omega
   have z2 : (i : Int) < 32 := by omega
   have q2 : 24 - 8 * (i % 4) ≤ 32 := by omega
   refine aG ?_
   refine T0 (hK _ _ _ ?_)
   clear hK K
   refine aB fun K hK => ?_
   refine aH ?_
   refine R0 ?_
   refine Rg ?_
   have F := aI m1 (aI m2 (aI m3 (aI m4 (aI q1 (aI z1 (aI z2 (aI q2 (aI hi32 (aI hol (aI @eM (aI @gE (aI @Int.natCast_nonneg (aI @Nat.mul_one (aI @tH (aI @bD0 (aI @mW @eX))))))))))))))))
   iterate 13 refine SF ?_
   refine T2 (hK _ _ _ ?_)
   clear hK K
   refine aM (by kernel_rfl) ?_
   refine TQ (bK i) ?_
   refine ⟨⟨i + 1, hi32⟩, aP (by omega) (by simp [aX, fin_at, finA_at, upd_at, HV.men, HV.menL, HV.norm, HV.toC, HV.toCL]) (by simp [bB, fob_at, upd_at, none0_at, bU, HO.men, HV.men, HV.menL, HV.norm, HV.toC, HV.toCL]; rfl), ?_⟩
   show 32 - (i + 1) < 32 - i
   omega
  refine aR (T3 ?_)
  clear hK K
  refine AX (hK _ _ _ ?_)
  clear hK K
  have hei : i = 32 := by simp at hb; omega
  subst hei
  clear hb
  have F := aI @qC hol
  refine RF ?_
  refine aD (RT Tryz.results115 ?_)
  simp only [qC hol, Option.map_some]
  refine aC [] (us (zJ S 32)) (eA (tY _)) ?_
  have e9 : j + q = (pad b).length / 64 := by rw [uA hj hlt]; omega
  rw [aE8, hS, ← aR9, e9]
 refine aB fun K hK => Rg ?_
 have F := hdl
 iterate 3 refine SF ?_
 refine T2 (hK _ _ _ ?_)
 clear hK K
 refine aJ (b := decide ((56 : Int) ≤ ((b.length - 64 * j : Nat) : Int))) rfl (fun hb => ?_) (fun hb => ?_)
 ·
  refine aM (by kernel_rfl) ?_
  simp only [↓sP, sA, tyS, simprocAttr]
  exact key 128 (by unfold lastM; rw [if_neg (by simp at hb; omega)]) _ _ _ (fF)
 refine aG (T3 ?_)
 exact key 64 (by unfold lastM; rw [if_pos (by simp at hb; omega)]) _ _ _ (fF)

end Go.Proofs.YtenbfeemmpjdhaaGreatDoor

namespace Go.Proofs.YtenbfeemmpjdhaaGreatDoor
open Go Go.Hl Go.Pl
set_option maxRecDepth 10000
set_option maxHeartbeats 4000000

theorem bS1 (b : List UInt8) (hb40 : b.length < 2 ^ 40) : aV Tryz.prog 87 [.slc (b.map u8)] (fun v => v = dg (sha b)) := by
 have c0 : IntKind.u64.wrap (b.length : Int) = (b.length : Int) := IntWalk.u64_in _ (by omega)
 have c1 : IntKind.u64.wrap ((b.length : Int) * 8) = ((8 * b.length : Nat) : Int) := by rw [IntWalk.u64_in _ (by omega)]; omega
 refine FW Tryz.func87 ?_
 refine R0 ?_
 refine aB fun K hK => Rg ?_
 have F := aI @bO @List.length_append.{0}
 iterate 6 refine SF ?_
 refine T2 (hK _ _ _ ?_)
 clear hK K
 refine aB fun K hK => ?_
 refine aH ?_
 refine aS (α := {z : Nat // z ≤ zs b.length}) (fun z => (fin [(0, .c (.slc (b.map u8))), (2, .ptr 0 0), (3, .own 4 (b.length + 1 + z.1))], fob [(0, .box 49 (.c zd)), (4, .row 5 1 ((b ++ [0x80] ++ List.replicate z.1 0).map u8))])) 100 (fun z => zs b.length - z.1) ⟨0, by omega⟩ (aP (by omega) (by simp [aX, fin_at, finA_at, upd_at, HV.men, HV.menL, HV.norm, HV.toC, HV.toCL]) (by simp [bB, fob_at, upd_at, none0_at, bU, HO.men, HV.men, HV.menL, HV.norm, HV.toC, HV.toCL]; rfl)) ?_
 rintro ⟨z, hz⟩
 have hzb : zs b.length < 64 := by unfold zs; omega
 have hzm : (b.length + 1 + zs b.length) % 64 = 56 := by unfold zs; omega
 have hrl : ((b ++ [0x80] ++ List.replicate z 0).map u8).length = b.length + 1 + z := by simp; omega
 have m1 : (((b.length + 1 + z : Nat) : Int)).tmod 64 = (((b.length + 1 + z) % 64 : Nat) : Int) := rfl
 refine aB fun K hK => ?_
 refine aB fun K hK => Rg ?_
 have F := aI hrl m1
 iterate 4 refine SF ?_
 refine T2 (hK _ _ _ ?_)
 clear hK K
 refine aJ (b := ((((b.length + 1 + z) % 64 : Nat) : Int) != 56)) rfl (fun hb => ?_) (fun hb => ?_)
 ·
  have hne : (b.length + 1 + z) % 64 ≠ 56 := by simp at hb; omega
  have hlt : z < zs b.length := by rcases Nat.lt_or_ge z (zs b.length) with h | h; exact h; exact absurd (by rw [show z = zs b.length by omega]; exact hzm) hne
  refine aG ?_
  refine T0 (hK _ _ _ ?_)
  clear hK K
  refine aH ?_
  refine Rg ?_
  have F := aI hrl @bO
  iterate 4 refine SF ?_
  refine T4 ?_
  refine ⟨⟨z + 1, hlt⟩, aP (by omega) (by simp [aX, fin_at, finA_at, upd_at, HV.men, HV.menL, HV.norm, HV.toC, HV.toCL]; omega) (by simp [bB, fob_at, upd_at, none0_at, bU, HO.men, HV.men, HV.menL, HV.norm, HV.toC, HV.toCL, List.replicate_succ']; rfl), ?_⟩
  show zs b.length - (z + 1) < zs b.length - z
  omega
 refine aR (T3 ?_)
 clear hK K
 refine AX (hK _ _ _ ?_)
 clear hK K
 refine aB fun K hK => Rg ?_
 have F := aI c0 c1
 iterate 5 refine SF ?_
 refine T2 (hK _ _ _ ?_)
 clear hK K
 refine aB fun K hK => ?_
 refine R0 ?_
 refine aH ?_
 have hez : z = zs b.length := by simp at hb; unfold zs at *; omega
 subst hez
 clear hb
 refine aS (α := {i : Nat // i ≤ 8}) (fun i => (fin [(2, .ptr 0 0), (3, .own 4 (b.length + 1 + zs b.length + i.1)), (4, .c (.int .u64 ((8 * b.length : Nat) : Int))), (5, .c (.int .i64 (7 - (i.1 : Int))))], fob [(0, .box 49 (.c zd)), (4, .row 5 1 ((b ++ [0x80] ++ List.replicate (zs b.length) 0 ++ (tG b.length).take i.1).map u8))])) 200 (fun i => 8 - i.1) ⟨0, by omega⟩ (fF) ?_
 rintro ⟨i, hi⟩
 have hrl : ((b ++ [0x80] ++ List.replicate (zs b.length) 0 ++ (tG b.length).take i).map u8).length = b.length + 1 + zs b.length + i := by simp [jM]; omega
 refine aB fun K hK => ?_
 refine R0 ?_
 refine aJ (b := decide (0 ≤ 7 - (i : Int))) rfl (fun hb => ?_) (fun hb => ?_)
 ·
  have hi8 : i < 8 := by simp at hb; omega
  have m1 : IntKind.i64.wrap (8 * (7 - (i : Int))) = ((8 * (7 - i) : Nat) : Int) := by rw [IntWalk.i64_in _ (by omega)]; omega
  have m2 : IntKind.u64.wrap ((8 * (7 - i) : Nat) : Int) = ((8 * (7 - i) : Nat) : Int) := IntWalk.u64_in _ (by omega)
  have m3 := aE6 (8 * b.length) (7 - i) (by omega)
  have m4 : IntKind.i64.wrap (7 - (i : Int) - 1) = 7 - ((i + 1 : Nat) : Int) := by rw [IntWalk.i64_in _ (by omega)]; omega
  refine aG ?_
  refine T0 (hK _ _ _ ?_)
  clear hK K
  refine aB fun K hK => ?_
  refine aH ?_
  refine Rg ?_
  have F := aI hrl (aI m1 (aI m2 (aI m3 (aI @bO @Int.natCast_nonneg))))
  iterate 10 refine SF ?_
  refine T2 (hK _ _ _ ?_)
  clear hK K
  refine aM (by kernel_rfl) ?_
  refine TQ m4 ?_
  refine ⟨⟨i + 1, hi8⟩, aP (by omega) (by simp [aX, fin_at, finA_at, upd_at, HV.men, HV.menL, HV.norm, HV.toC, HV.toCL, jM]; omega) (by simp [bB, fob_at, upd_at, none0_at, bU, HO.men, HV.men, HV.menL, HV.norm, HV.toC, HV.toCL, aW6 hi8]; rfl), ?_⟩
  show 8 - (i + 1) < 8 - i
  omega
 refine aR (T3 ?_)
 clear hK K
 refine AX (hK _ _ _ ?_)
 clear hK K
 have hei : i = 8 := by simp at hb; omega
 subst hei
 clear hb
 rw [bX2]
 have hpq : b.length + 1 + zs b.length + 8 = (pad b).length := (rX b).symm
 refine bT [4] (bE (fr2 := fin [(2, .ptr 0 0), (3, .c (.slc ((pad b).map u8)))]) (ob2 := fob [(0, .box 49 (.c zd))]) (nx2 := 300) (aP (by omega) (by simp [aX, cB, fin_at, upd_at, fob_at, HV.close, HV.norm, HV.toC, HV.men, denilL_u8, hpq]) (by simp [bB, cC, fob_at, upd_at, HO.close, HV.close, HO.men, HV.men, HV.norm, HV.toC, zd_denil])) ?_)
 refine aB fun K hK => Rg ?_
 have F := aI @cU (aI @gX @eM)
 refine HS fun K' hK' => T6 ?_
 rw [gO (n := 8) St0.l rfl rfl]
 refine AX (hK' _ _ ?_)
 iterate 2 refine SF ?_
 refine T2 (hK _ _ _ ?_)
 clear hK K
 refine aB fun K hK => ?_
 refine R0 ?_
 refine aH ?_
 refine aS (α := {x : Nat × St // 64 * x.1 ≤ (pad b).length ∧ x.2 = blk (pad b) x.1 St0}) (fun x => (fin [(2, .ptr 0 0), (3, .c (.slc ((pad b).map u8))), (6, .ptr 304 0), (7, .c (.int .i64 ((64 * x.1.1 : Nat) : Int)))], fob [(0, .box 49 (.c zd)), (304, .box 152 (.c (ws x.1.2.l)))])) 400 (fun x => (pad b).length - 64 * x.1.1) ⟨(0, St0), by omega, rfl⟩ (fF) ?_
 rintro ⟨⟨q, S⟩, hq, hS⟩
 replace hq : 64 * q ≤ (pad b).length := hq
 replace hS : S = blk (pad b) q St0 := hS
 have hpm := bN5 b
 have hpl := rX b
 have hzb : zs b.length < 64 := by unfold zs; omega
 refine aB fun K hK => ?_
 refine aB fun K hK => Rg ?_
 iterate 4 refine S0 ?_
 refine T2 (hK _ _ _ ?_)
 clear hK K
 refine aJ (b := decide (((64 * q : Nat) : Int) < ((pad b).length : Int))) rfl (fun hb => ?_) (fun hb => ?_)
 ·
  have hlt : 64 * (q + 1) ≤ (pad b).length := by simp at hb; omega
  have m1 : IntKind.i64.wrap (((64 * q : Nat) : Int) + 64) = ((64 * q + 64 : Nat) : Int) := by rw [IntWalk.i64_in _ (by omega)]; omega
  have z1 : ((64 * q : Nat) : Int) ≤ ((64 * q + 64 : Nat) : Int) := by omega
  have z2 : ((64 * q + 64 : Nat) : Int) ≤ ((pad b).length : Int) := by omega
  have hp : (((pad b).drop (64 * q)).take 64).length = 64 := by rw [List.length_take, List.length_drop]; omega
  refine aG ?_
  refine T0 (hK _ _ _ ?_)
  clear hK K
  refine aB fun K hK => ?_
  refine aH ?_
  refine DW [(0, [], []), (1, [], []), (2, [], []), (3, [], []), (4, [], []), (5, [], []), (6, [], []), (7, [], [])] [0, 0, 0, 0, 8, 30, 63, 127] ?_
  iterate 6 refine W0 ?_ (e := fun _ h_ => by simp only [sH, ↓sP, sA, tyS, simprocAttr, m1, z1, z2, bO, Nat.add_sub_cancel_left, ← List.map_drop, ← List.map_take, denilL_u8, eR, Int.natCast_nonneg, iV, eM, cU]; exact AX h_)
  refine aN (g := none) rfl rfl fun K' hK' => ?_
  simp only [sH, ↓sP, sA, tyS, simprocAttr, m1, z1, z2, bO, Nat.add_sub_cancel_left, ← List.map_drop, ← List.map_take, denilL_u8, eR, Int.natCast_nonneg, iV, eM, cU]
  refine C2 (bK2 S (((pad b).drop (64 * q)).take 64) hp) ?_
  rintro u rfl
  refine AX (hK' _ _ ?_)
  refine W0 ?_ (e := fun _ h_ => by simp only [sH, ↓sP, sA, tyS, simprocAttr, m1, z1, z2, bO, Nat.add_sub_cancel_left, ← List.map_drop, ← List.map_take, denilL_u8, eR, Int.natCast_nonneg, iV, eM, cU]; exact AX h_)
  refine T2 (hK _ _ _ ?_)
  clear hK K
  refine aM (by kernel_rfl) ?_
  refine TQ m1 ?_
  refine ⟨⟨(q + 1, comp S (((pad b).drop (64 * q)).take 64)), hlt, by rw [hS]; rfl⟩, aP (by omega) (by simp [aX, fin_at, finA_at, upd_at, HV.men, HV.menL, HV.norm, HV.toC, HV.toCL]; omega) (by simp [bB, fob_at, upd_at, none0_at, bU, HO.men, HV.men, HV.menL, HV.norm, HV.toC, HV.toCL]), ?_⟩
  show (pad b).length - 64 * (q + 1) < (pad b).length - 64 * q
  omega
 refine aR (T3 ?_)
 clear hK K
 refine AX (hK _ _ _ ?_)
 clear hK K
 refine R0 ?_
 refine aB fun K hK => ?_
 refine R0 ?_
 refine aH ?_
 have heq : 64 * q = (pad b).length := by simp at hb; omega
 clear hb
 refine aS (α := {i : Nat // i ≤ 32}) (fun i => (fin [(2, .ptr 0 0), (6, .ptr 304 0), (8, .ptr 416 0), (9, .c (.int .i64 i.1))], fob [(0, .box 49 (.c zd)), (304, .box 152 (.c (ws S.l))), (416, .box 49 (.c (us (zJ S i.1))))])) 500 (fun i => 32 - i.1) ⟨0, by omega⟩ (aP (by omega) (by simp [aX, fin_at, finA_at, upd_at, HV.men, HV.menL, HV.norm, HV.toC, HV.toCL]) (by simp [bB, fob_at, upd_at, none0_at, bU, HO.men, HV.men, HV.menL, HV.norm, HV.toC, HV.toCL]; rfl)) ?_
 rintro ⟨i, hi⟩
 have hol := aE7 S i
 refine aB fun K hK => ?_
 refine R0 ?_
 refine aJ (b := decide ((i : Int) < 32)) rfl (fun hb => ?_) (fun hb => ?_)
 ·
  have hi32 : i < 32 := by simp at hb; omega
  have m1 : IntKind.i64.wrap ((i : Int).tdiv 4) = ((i / 4 : Nat) : Int) := by
   rw [show (i : Int).tdiv 4 = ((i / 4 : Nat) : Int) from rfl]; exact IntWalk.i64_in _ (by omega)
  have m2 : (i : Int).tmod 4 = ((i % 4 : Nat) : Int) := rfl
  have m3 : IntKind.i64.wrap (8 * ((i % 4 : Nat) : Int)) = ((8 * (i % 4) : Nat) : Int) := by rw [IntWalk.i64_in _ (by omega)]; omega
  have m4 : IntKind.i64.wrap (24 - ((8 * (i % 4) : Nat) : Int)) = ((24 - 8 * (i % 4) : Nat) : Int) := by rw [IntWalk.i64_in _ (by omega)]; omega
  have m5 : IntKind.u64.wrap ((24 - 8 * (i % 4) : Nat) : Int) = ((24 - 8 * (i % 4) : Nat) : Int) := IntWalk.u64_in _ (by omega)
  have q1 : i / 4 < 8 := by omega
  have z1 : ((i / 4 : Nat) : Int) < 8 := by omega
  have z2 : (i : Int) < 32 := by omega
  have q2 : 24 - 8 * (i % 4) ≤ 32 := by omega
  refine aG ?_
  refine T0 (hK _ _ _ ?_)
  clear hK K
  refine aB fun K hK => ?_
  refine aH ?_
  refine Rg ?_
  have F := aI m1 (aI m2 (aI m3 (aI m4 (aI m5 (aI q1 (aI z1 (aI z2 (aI q2 (aI hi32 (aI hol (aI @eM (aI @gE (aI @Int.natCast_nonneg (aI @Nat.mul_one (aI @tH (aI @bD0 (aI @mW @eX)))))))))))))))))
  iterate 14 refine SF ?_
  refine T2 (hK _ _ _ ?_)
  clear hK K
  refine aM (by kernel_rfl) ?_
  refine TQ (bK i) ?_
  refine ⟨⟨i + 1, hi32⟩, aP (by omega) (by simp [aX, fin_at, finA_at, upd_at, HV.men, HV.menL, HV.norm, HV.toC, HV.toCL]) (by simp [bB, fob_at, upd_at, none0_at, bU, HO.men, HV.men, HV.menL, HV.norm, HV.toC, HV.toCL]; rfl), ?_⟩
  show 32 - (i + 1) < 32 - i
  omega
 refine aR (T3 ?_)
 clear hK K
 refine AX (hK _ _ _ ?_)
 clear hK K
 have hei : i = 32 := by simp at hb; omega
 subst hei
 clear hb
 have F := aI @qC hol
 refine RF ?_
 refine aD (RT Tryz.results87 ?_)
 simp only [qC hol, Option.map_some]
 refine aC [] (us (zJ S 32)) (eA (tY _)) ?_
 have e9 : q = (pad b).length / 64 := by omega
 rw [aE8, hS, ← aR9, ← e9]


theorem aO9 (p : Pk) : aV Tryz.prog 81 [p.cv] (fun v => v = dg (pid p)) := by
 refine FW Tryz.func81 ?_
 refine R0 ?_
 refine eI 1 0 rfl rfl ?_
 refine aB fun K hK => DW [(0, [], []), (1, [], []), (2, [], []), (3, [], []), (4, [3], []), (5, [3], []), (6, [], []), (7, [], []), (8, [], [])] [0, 1, 3, 7, 0, 16, 63, 127, 255] ?_
 iterate 7 refine W0 ?_ (e := fun _ h_ => by simp only [sH, ↓sP, sA, tyS, simprocAttr, kE, oV, wW, p.r.2, mX, bO, List.drop_zero, denilL_u8]; exact AX h_)
 refine aN (g := none) rfl rfl fun K' hK' => ?_
 simp only [sH, ↓sP, sA, tyS, simprocAttr, kE, oV, wW, p.r.2, mX, bO, List.drop_zero, denilL_u8]
 refine nT (e := 5) (sz := 1) (l := (oK (UInt8.ofNat (p.h.emod 256).toNat) p.r.1).map u8) [] [] (bS0 (oK (UInt8.ofNat (p.h.emod 256).toNat) p.r.1) (by simp [oK, p.r.2])) rfl (by simp [oK, p.r.2]) (by simp) ⟨rfl, rfl, rfl, rfl⟩ ?_
 rintro u rfl
 refine AX (hK' _ _ ?_)
 refine W0 ?_ (e := fun _ h_ => by simp only [sH, ↓sP, sA, tyS, simprocAttr, kE, oV, wW, p.r.2, mX, bO, List.drop_zero, denilL_u8]; exact AX h_)
 refine T2 (hK _ _ _ ?_)
 clear hK K
 refine aD (RT Tryz.results81 ?_)
 exact aC [] (dg (pid p)) rfl rfl


theorem qK (p : Pk) : aV Tryz.prog 42 [p.cv] (fun v => v = dg (pid p)) := by
 refine FW Tryz.func42 ?_
 refine R0 ?_
 refine aB fun K hK => Rg ?_
 have F := @oV
 iterate 5 refine SF ?_
 refine T2 (hK _ _ _ ?_)
 clear hK K
 refine eI 1 0 rfl rfl ?_
 refine aB fun K hK => Rg ?_
 iterate 4 refine S0 ?_ (e := fun _ h_ => by simp only [sH, ↓sP, sA, tyS, simprocAttr, kE, wW, p.r.2, mX, bO, List.drop_zero, denilL_u8]; exact AX h_)
 refine HS fun K' hK' => ?_
 simp only [sH, ↓sP, sA, tyS, simprocAttr, kE, wW, p.r.2, mX, bO, List.drop_zero, denilL_u8]
 refine nT (e := 5) (sz := 1) (l := (oK (UInt8.ofNat (p.h.emod 256).toNat) p.r.1).map u8) [] [] (bS1 (oK (UInt8.ofNat (p.h.emod 256).toNat) p.r.1) (by simp [oK, p.r.2])) rfl (by simp [oK, p.r.2]) (by simp) ⟨rfl, rfl, rfl, rfl⟩ ?_
 rintro u rfl
 refine AX (hK' _ _ ?_)
 refine S0 ?_ (e := fun _ h_ => by simp only [sH, ↓sP, sA, tyS, simprocAttr, kE, wW, p.r.2, mX, bO, List.drop_zero, denilL_u8]; exact AX h_)
 refine T2 (hK _ _ _ ?_)
 clear hK K
 refine aD (RT Tryz.results42 ?_)
 exact aC [] (dg (pid p)) rfl rfl

end Go.Proofs.YtenbfeemmpjdhaaGreatDoor

namespace Go.Proofs.YtenbfeemmpjdhaaGreatDoor
open Go.RowKit Go.Sort Go.Shelf

def aP0 : Go.Shelf.Ren := ⟨fun | 6 => 83 | 8 => 118 | 9 => 117 | 19 => 147 | 20 => 148 | 21 => 138 | 22 => 139 | 23 => 140 | 24 => 141 | 25 => 142 | 26 => 143 | 27 => 144 | 28 => 145 | 29 => 146 | 36 => 169 | 31 => 170 | 32 => 171 | 37 => 172 | 38 => 173 | 39 => 174 | 41 => 189 | n => n, fun | 27 => 60 | 29 => 9 | 3 => 3 | 32 => 144 | 26 => 60 | 0 => 0 | 44 => 151 | 46 => 145 | 4 => 4 | 36 => 169 | 35 => 168 | 41 => 174 | 5 => 5 | 9 => 9 | 53 => 195 | 57 => 199 | 63 => 209 | 64 => 210 | n => n, fun | n => n⟩
theorem bK3 : Go.Proofs.SlLaysM.n6 Tryz.prog aP0 := {
 mixed := by kernel_rfl
 f6 := ⟨Tryz.f83.name, by decide, Tryz.func83.trans (congrArg some (by kernel_rfl))⟩
 f8 := Tryz.func118.trans (congrArg some (by kernel_rfl))
 f9 := ⟨Tryz.f117.name, by decide, Tryz.func117.trans (congrArg some (by kernel_rfl))⟩
 f19 := Tryz.func147.trans (congrArg some (by kernel_rfl))
 f20 := Tryz.func148.trans (congrArg some (by kernel_rfl))
 f21 := ⟨Tryz.f138.name, by decide, Tryz.func138.trans (congrArg some (by kernel_rfl))⟩
 f22 := ⟨Tryz.f139.name, by decide, Tryz.func139.trans (congrArg some (by kernel_rfl))⟩
 f23 := ⟨Tryz.f140.name, by decide, Tryz.func140.trans (congrArg some (by kernel_rfl))⟩
 f24 := ⟨Tryz.f141.name, by decide, Tryz.func141.trans (congrArg some (by kernel_rfl))⟩
 f25 := ⟨Tryz.f142.name, by decide, Tryz.func142.trans (congrArg some (by kernel_rfl))⟩
 f26 := ⟨Tryz.f143.name, by decide, Tryz.func143.trans (congrArg some (by kernel_rfl))⟩
 f27 := ⟨Tryz.f144.name, by decide, Tryz.func144.trans (congrArg some (by kernel_rfl))⟩
 f28 := ⟨Tryz.f145.name, by decide, Tryz.func145.trans (congrArg some (by kernel_rfl))⟩
 f29 := ⟨Tryz.f146.name, by decide, Tryz.func146.trans (congrArg some (by kernel_rfl))⟩
 f31 := Tryz.func170.trans (congrArg some (by kernel_rfl))
 f32 := Tryz.func171.trans (congrArg some (by kernel_rfl))
 f36 := ⟨Tryz.f169.name, by decide, Tryz.func169.trans (congrArg some (by kernel_rfl))⟩
 f37 := ⟨Tryz.f172.name, by decide, Tryz.func172.trans (congrArg some (by kernel_rfl))⟩
 f38 := ⟨Tryz.f173.name, by decide, Tryz.func173.trans (congrArg some (by kernel_rfl))⟩
 f39 := ⟨Tryz.f174.name, by decide, Tryz.func174.trans (congrArg some (by kernel_rfl))⟩
 f41 := ⟨Tryz.f189.name, by decide, Tryz.func189.trans (congrArg some (by kernel_rfl))⟩
 t0 := Tryz.underlying0
 a0 := Tryz.isAgg0
 z0 := Tryz.sizeOf0
 v0 := Tryz.zeroValue0
 t3 := Tryz.underlying3
 a3 := Tryz.isAgg3
 z3 := Tryz.sizeOf3
 v3 := Tryz.zeroValue3
 t4 := Tryz.underlying4
 a4 := Tryz.isAgg4
 z4 := Tryz.sizeOf4
 v4 := Tryz.zeroValue4
 t5 := Tryz.underlying5
 a5 := Tryz.isAgg5
 z5 := Tryz.sizeOf5
 v5 := Tryz.zeroValue5
 t9 := Tryz.underlying9
 a9 := Tryz.isAgg9
 z9 := Tryz.sizeOf9
 v9 := Tryz.zeroValue9
 t26 := Tryz.underlying60
 a26 := Tryz.isAgg60
 z26 := Tryz.sizeOf60
 v26 := Tryz.zeroValue60
 t27 := Tryz.underlying60
 a27 := Tryz.isAgg60
 z27 := Tryz.sizeOf60
 v27 := Tryz.zeroValue60
 t29 := Tryz.underlying9
 a29 := Tryz.isAgg9
 z29 := Tryz.sizeOf9
 v29 := Tryz.zeroValue9
 t32 := Tryz.underlying144
 a32 := Tryz.isAgg144
 z32 := Tryz.sizeOf144
 v32 := Tryz.zeroValue144
 t35 := Tryz.underlying168
 a35 := Tryz.isAgg168
 z35 := Tryz.sizeOf168
 v35 := Tryz.zeroValue168
 t36 := Tryz.underlying169
 a36 := Tryz.isAgg169
 z36 := Tryz.sizeOf169
 v36 := Tryz.zeroValue169
 t41 := Tryz.underlying174
 a41 := Tryz.isAgg174
 z41 := Tryz.sizeOf174
 v41 := Tryz.zeroValue174
 t44 := Tryz.underlying151
 a44 := Tryz.isAgg151
 z44 := Tryz.sizeOf151
 v44 := Tryz.zeroValue151
 t46 := Tryz.underlying145
 a46 := Tryz.isAgg145
 z46 := Tryz.sizeOf145
 v46 := Tryz.zeroValue145
 t53 := Tryz.underlying195
 a53 := Tryz.isAgg195
 z53 := Tryz.sizeOf195
 v53 := Tryz.zeroValue195
 t57 := Tryz.underlying199
 a57 := Tryz.isAgg199
 z57 := Tryz.sizeOf199
 v57 := Tryz.zeroValue199
 t63 := Tryz.underlying209
 a63 := Tryz.isAgg209
 z63 := Tryz.sizeOf209
 v63 := Tryz.zeroValue209
 t64 := Tryz.underlying210
 a64 := Tryz.isAgg210
 z64 := Tryz.sizeOf210
 v64 := Tryz.zeroValue210 }
def aI6 : Go.Shelf.Ren := ⟨fun | 16 => 94 | n => n, fun | 24 => 60 | 9 => 9 | 4 => 4 | n => n, fun | n => n⟩
theorem zW : Go.Proofs.Lays2.n16 Tryz.prog aI6 := {
 mixed := by kernel_rfl
 f16 := Tryz.func94.trans (congrArg some (by kernel_rfl))
 t4 := Tryz.underlying4
 a4 := Tryz.isAgg4
 z4 := Tryz.sizeOf4
 v4 := Tryz.zeroValue4
 t9 := Tryz.underlying9
 a9 := Tryz.isAgg9
 z9 := Tryz.sizeOf9
 v9 := Tryz.zeroValue9
 t24 := Tryz.underlying60
 a24 := Tryz.isAgg60
 z24 := Tryz.sizeOf60
 v24 := Tryz.zeroValue60
 i9 := by kernel_rfl }

theorem bS2 (ss : List (List UInt8)) (hl : ss.length < 2 ^ 40) : Hl.bD7 Tryz.prog 83 9 ss :=
 Hl.bD8 (by kernel_rfl) (fun blk cap w hH hb => AnyM.slices_Sort_string bK3 blk 0 cap ss w hH hb (by omega)) (fun cap w => AnyM.slices_Sort_string_none bK3 none cap w)
theorem bK4 (l : List (List UInt8)) (hl : l.length < 2 ^ 40) : Hl.aV Tryz.prog 94 [.slc (l.map .str)] (fun v => v = .slc (l.map .str)) := by
 refine Hl.aD2 (e := 9) (by kernel_rfl) (by omega) (fun b off c w hc => ?_) (fun c w => Any.slices_Clone_string_nil zW 0 c w) (fun a c w => Any.slices_Clone_string_zero zW a c w)
 have := Any.slices_Clone_string zW b off l.length c (l.map fun s => ⟨s.toArray⟩) w (by simp) (by omega) (fun j hj => by
  have hj' : j < l.length := by simpa using hj
  rw [hc j hj']
  simp [hj', Hl.cL])
 refine this.mono ?_
 rintro x w' ⟨v', h1, h2, h3, h4⟩
 refine ⟨v', h1, ?_, h3, h4⟩
 have e : ((l.map fun s => (⟨s.toArray⟩ : ByteArray)).take l.length).map Value.string = l.map Hl.cL := by
  rw [List.take_of_length_le (by simp), List.map_map]
  rfl
 rw [e] at h2
 exact h2
end Go.Proofs.YtenbfeemmpjdhaaGreatDoor
