/- Part of a proof: walks of functions of the program, by contracts, and the rules they use. By an AI agent. -/
import Derived.Test.YtenbfeemmpjdhaaGreatDoorPl02e
import Derived.Test.YtenbfeemmpjdhaaGreatDoorHyTa
import Derived.Test.YtenbfeemmpjdhaaGreatDoorHySb
import Derived.Test.YtenbfeemmpjdhaaGreatDoorHyTz
import Derived.Shelf.SortM.Plain
import Derived.Shelf.SortM.SortNone
import Derived.Ground.SlgmProg
import Derived.Shelf.Slices.Clone
import Derived.Ground.Names2Prog
import Derived.Test.YtenbfeemmpjdhaaGreatDoorPl11h
set_option linter.unusedSimpArgs false
set_option linter.unusedVariables false
set_option linter.defProp false
namespace Go.Proofs.YtenbfeemmpjdhaaGreatDoor
open Go Go.Hl Go.Pl
set_option maxRecDepth 10000
set_option maxHeartbeats 16000000

theorem bT5 (b : List UInt8) (hb40 : b.length < 2 ^ 40) : aW Tryz.prog 115 [.slc (b.map u8)] (fun v => v = dg (sha b)) := by
 have c0 : IntKind.u64.wrap (b.length : Int) = (b.length : Int) := IntWalk.u64_in _ (by omega)
 have c1 : IntKind.u64.wrap ((b.length : Int) * 8) = ((8 * b.length : Nat) : Int) := by rw [IntWalk.u64_in _ (by omega)]; omega
 refine FW Tryz.func115 ?_
 refine R0 ?_
 refine aB fun K hK => Rg ?_
 have F := aI @cJ (aI @iG @cI)
 refine HS rfl rfl fun K' hK' => T6 ?_
 rw [gY (n := 8) St0.l rfl rfl]
 refine AX (hK' _ _ ?_)
 clear hK' K'
 iterate 2 refine SF ?_
 refine T2 (hK _ _ _ ?_)
 clear hK K
 refine aB fun K hK => Rg ?_
 have F := aI @cJ (aI @iG @aT7)
 refine HS rfl rfl fun K' hK' => T6 ?_
 refine C0 bC8 ?_
 rintro u rfl
 refine AX (hK' _ _ ?_)
 clear hK' K'
 iterate 2 refine SF ?_
 refine T2 (hK _ _ _ ?_)
 clear hK K
 refine dQ 4 20 rfl rfl ?_
 refine aB fun K hK => Rg ?_
 have F := aI c0 c1
 iterate 5 refine SF ?_
 refine T2 (hK _ _ _ ?_)
 clear hK K
 refine aB fun K hK => ?_
 refine aH ?_
 refine aU (α := {x : Nat × St // 64 * x.1 ≤ b.length ∧ x.2 = blk (pad b) x.1 St0}) (fun x => (fin [(0, .c (.slc ((b.drop (64 * x.1.1)).map u8))), (2, .ptr 0 0), (3, .ptr 8 0), (4, .c (.rp (ws K256))), (5, .c (.int .u64 ((8 * b.length : Nat) : Int)))], fob [(0, .box 49 (.c zd)), (8, .box 152 (.c (ws x.1.2.l)))])) 100 (fun x => b.length - 64 * x.1.1) ⟨(0, St0), by omega, rfl⟩ (fF) ?_
 rintro ⟨⟨j, S⟩, hj, hS⟩
 replace hj : 64 * j ≤ b.length := hj
 replace hS : S = blk (pad b) j St0 := hS
 have hdl : (b.drop (64 * j)).length = b.length - 64 * j := List.length_drop
 refine aB fun K hK => ?_
 refine aB fun K hK => Rg ?_
 have F := hdl
 iterate 3 refine SF ?_
 refine T2 (hK _ _ _ ?_)
 clear hK K
 refine aJ (b := decide ((64 : Int) ≤ ((b.length - 64 * j : Nat) : Int))) rfl (fun hb => ?_) (fun hb => ?_)
 ·
  have hge : 64 ≤ b.length - 64 * j := by simp at hb; omega
  have hge' : (64 : Int) ≤ ((b.length - 64 * j : Nat) : Int) := by omega
  have hp : ((b.drop (64 * j)).take 64).length = 64 := by rw [List.length_take, hdl]; omega
  refine aG ?_
  refine T0 (hK _ _ _ ?_)
  clear hK K
  refine aH ?_
  refine aB fun K hK => Rg ?_
  iterate 2 refine S0 ?_ (e := fun _ h_ => by simp only [sH, ↓sP, sA, tyS, simprocAttr, bG, hdl, hge', List.drop_zero, ← List.map_take, denilL_u8, eZ]; exact AX h_)
  refine HS rfl rfl fun K' hK' => ?_
  simp only [sH, ↓sP, sA, tyS, simprocAttr, bG, hdl, hge', List.drop_zero, ← List.map_take, denilL_u8, eZ]
  refine zA (args := [_, _]) (zB S ((b.drop (64 * j)).take 64) hp) rfl (by simp) ⟨rfl, rfl, rfl, rfl⟩ ?_
  rintro v' rfl
  refine AX (hK' _ _ ?_)
  clear hK' K'
  refine T2 (hK _ _ _ ?_)
  clear hK K
  refine Rg ?_
  iterate 3 refine S0 ?_ (e := fun _ h_ => by simp only [sH, ↓sP, sA, tyS, simprocAttr, bG, hdl, hge', ← List.map_drop, ← List.map_take]; exact AX h_)
  refine T4 ?_
  have e1 : List.take (b.length - 64 * j - 64) (List.drop (64 * j + 64) (List.map u8 b)) = List.drop (64 * (j + 1)) (List.map u8 b) := by
   rw [List.take_of_length_le (by rw [List.length_drop, List.length_map]; omega), show 64 * (j + 1) = 64 * j + 64 from by omega]
  refine ⟨⟨(j + 1, comp S ((b.drop (64 * j)).take 64)), by show 64 * (j + 1) ≤ b.length; omega, by rw [bH4, ← hS, bQ0 (by omega)]⟩, aQ (by omega) (by simp [aY, fin_at, finA_at, upd_at, HV.men, HV.menL, HV.norm, HV.toC, HV.toCL]; exact e1) (by simp [bC, fob_at, upd_at, none0_at, bT, HO.men, HV.men, HV.menL, HV.norm, HV.toC, HV.toCL]), ?_⟩
  show b.length - 64 * (j + 1) < b.length - 64 * j
  omega
 refine aS (T3 ?_)
 clear hK K
 refine AX (hK _ _ _ ?_)
 clear hK K
 have hlt : b.length < 64 * j + 64 := by simp at hb; omega
 clear hb
 have hov : aW4 ((uz 128).map u8) (((b.drop (64 * j)).map u8).take 128) 0 = ((b.drop (64 * j)) ++ (uz 128).drop (b.length - 64 * j)).map u8 := by rw [bQ1 (by omega), hdl]
 have h80 : CV.setAt (b.length - 64 * j) 1 (.c (.int .u8 128)) (.agg ((b.drop (64 * j) ++ (uz 128).drop (b.length - 64 * j)).map u8)) = some (.agg (((nJ b j 0).map u8).map .c)) := by rw [← aZ1 hj hlt]; exact nB 128 (by simp [aN6]; omega) (by simp [aN6]; omega)
 have z80 : ((b.length - 64 * j : Nat) : Int) < 128 := by omega
 refine R0 ?_
 refine aB fun K hK => Rg ?_
 have F := aI @us.eq_1 (aI hdl (aI @aN6 (aI @bG hov)))
 iterate 3 refine SF ?_
 refine T2 (hK _ _ _ ?_)
 clear hK K
 refine aB fun K hK => Rg ?_
 have F := aI hdl (aI z80 (aI h80 (aI @fG (aI @Nat.mul_one @Int.natCast_nonneg))))
 iterate 4 refine SF ?_
 refine T2 (hK _ _ _ ?_)
 clear hK K
 refine R0 ?_
 refine aB fun K hK => ?_
 have key : ∀ m : Nat, m = lastM b j → ∀ fr ob nx, Fits 0 fr ob (fin [(2, .ptr 0 0), (3, .ptr 8 0), (4, .c (.rp (ws K256))), (5, .c (.int .u64 ((8 * b.length : Nat) : Int))), (6, .ptr 112 0), (7, .c (.int .i64 m))]) (fob [(0, .box 49 (.c zd)), (8, .box 152 (.c (ws S.l))), (112, .box 166 (.c (us (nJ b j 0))))]) 200 → K fr ob nx := by
  rintro m rfl fr ob nx hf
  refine hK _ _ _ (bF hf ?_)
  clear hf hK K
  refine aB fun K hK => ?_
  refine R0 ?_
  refine aH ?_
  refine aU (α := {i : Nat // i ≤ 8}) (fun i => (fin [(2, .ptr 0 0), (3, .ptr 8 0), (4, .c (.rp (ws K256))), (5, .c (.int .u64 ((8 * b.length : Nat) : Int))), (6, .ptr 112 0), (7, .c (.int .i64 (lastM b j : Nat))), (35, .c (.int .i64 i.1))], fob [(0, .box 49 (.c zd)), (8, .box 152 (.c (ws S.l))), (112, .box 166 (.c (us (nJ b j i.1))))])) 200 (fun i => 8 - i.1) ⟨0, by omega⟩ (fF) ?_
  rintro ⟨i, hi⟩
  have hlen := bH6 hj hlt i
  have hm0 : lastM b j = 64 ∨ lastM b j = 128 := by unfold lastM; split <;> simp
  refine R0 ?_
  refine aB fun K hK => ?_
  refine aJ (b := decide ((i : Int) < 8)) rfl (fun hb => ?_) (fun hb => ?_)
  ·
   have hi8 : i < 8 := by simp at hb; omega
   have z : ((lastM b j - 1 - i : Nat) : Int) < 128 := by omega
   have q : lastM b j - 1 - i < 128 := by omega
   have m1 : IntKind.i64.wrap ((lastM b j : Int) - 1) = ((lastM b j - 1 : Nat) : Int) := by rw [IntWalk.i64_in _ (by omega)]; omega
   have m2 : IntKind.i64.wrap (((lastM b j - 1 : Nat) : Int) - (i : Int)) = ((lastM b j - 1 - i : Nat) : Int) := by rw [IntWalk.i64_in _ (by omega)]; omega
   have m3 : IntKind.i64.wrap (8 * (i : Int)) = ((8 * i : Nat) : Int) := by rw [IntWalk.i64_in _ (by omega)]; omega
   have m4 := aI4 (8 * b.length) i (by omega)
   refine aG ?_
   refine T0 (hK _ _ _ ?_)
   clear hK K
   refine aB fun K hK => ?_
   refine aH ?_
   refine R0 ?_
   refine Rg ?_
   iterate 11 refine S0 ?_ (e := fun _ h_ => by simp only [sH, ↓sP, sA, tyS, simprocAttr, m1, m2, m3, m4, z, q, hlen, Int.natCast_nonneg, Nat.mul_one, nB, fG]; exact AX h_)
   refine T2 (hK _ _ _ ?_)
   clear hK K
   refine aL (by kernel_rfl) ?_
   refine TQ (bK i) ?_
   refine ⟨⟨i + 1, hi8⟩, aQ (by omega) (by simp [aY, fin_at, finA_at, upd_at, HV.men, HV.menL, HV.norm, HV.toC, HV.toCL]) (by simp [bC, fob_at, upd_at, none0_at, HO.men, HV.men, HV.menL, HV.norm, HV.toC, HV.toCL]; rw [aZ2 hj hlt hi8]), ?_⟩
   show 8 - (i + 1) < 8 - i
   omega
  refine aS (T3 ?_)
  clear hK K
  refine AX (hK _ _ _ ?_)
  clear hK K
  refine aB fun K hK => ?_
  refine R0 ?_
  refine aH ?_
  have hei : i = 8 := by simp at hb; omega
  subst hei
  clear hb
  refine dQ 6 112 rfl rfl ?_
  refine aU (α := {x : Nat × St // 64 * x.1 ≤ lastM b j ∧ x.2 = blk (pad b) (j + x.1) St0}) (fun x => (fin [(2, .ptr 0 0), (3, .ptr 8 0), (4, .c (.rp (ws K256))), (6, .c (.rp (us (nJ b j 8)))), (7, .c (.int .i64 (lastM b j : Nat))), (9, .c (.int .i64 ((64 * x.1.1 : Nat) : Int)))], fob [(0, .box 49 (.c zd)), (8, .box 152 (.c (ws x.1.2.l)))])) 300 (fun x => lastM b j - 64 * x.1.1) ⟨(0, S), by omega, hS⟩ (fF) ?_
  clear hS
  rintro ⟨⟨q, S⟩, hq, hS⟩
  replace hq : 64 * q ≤ lastM b j := hq
  replace hS : S = blk (pad b) (j + q) St0 := hS
  refine aB fun K hK => ?_
  refine R0 ?_
  refine aJ (b := decide (((64 * q : Nat) : Int) < (lastM b j : Int))) rfl (fun hb => ?_) (fun hb => ?_)
  ·
   have hlt2 : 64 * (q + 1) ≤ lastM b j := by simp at hb; omega
   have m1 : IntKind.i64.wrap (((64 * q : Nat) : Int) + 64) = ((64 * q + 64 : Nat) : Int) := by rw [IntWalk.i64_in _ (by omega)]; omega
   have z1 : ((64 * q : Nat) : Int) ≤ ((64 * q + 64 : Nat) : Int) := by omega
   have z2 : ((64 * q + 64 : Nat) : Int) ≤ 128 := by omega
   have hp : (((nJ b j 8).drop (64 * q)).take 64).length = 64 := by rw [List.length_take, List.length_drop, hlen]; omega
   refine aG ?_
   refine T0 (hK _ _ _ ?_)
   clear hK K
   refine aB fun K hK => ?_
   refine aH ?_
   refine Rg ?_
   iterate 4 refine S0 ?_ (e := fun _ h_ => by simp only [sH, ↓sP, sA, tyS, simprocAttr, us, m1, z1, z2, hlen, bG, Nat.add_sub_cancel_left, ← List.map_drop, ← List.map_take, denilL_u8, eZ, Int.natCast_nonneg]; exact AX h_)
   refine HS rfl rfl fun K' hK' => ?_
   simp only [sH, ↓sP, sA, tyS, simprocAttr, us, m1, z1, z2, hlen, bG, Nat.add_sub_cancel_left, ← List.map_drop, ← List.map_take, denilL_u8, eZ, Int.natCast_nonneg]
   refine zA (args := [_, _]) (zB S (((nJ b j 8).drop (64 * q)).take 64) hp) rfl (by simp) ⟨rfl, rfl, rfl, rfl⟩ ?_
   rintro v' rfl
   refine AX (hK' _ _ ?_)
   clear hK' K'
   refine T2 (hK _ _ _ ?_)
   clear hK K
   refine aL (by kernel_rfl) ?_
   refine TQ m1 ?_
   refine ⟨⟨(q + 1, comp S (((nJ b j 8).drop (64 * q)).take 64)), hlt2, by rw [bH7 hj hlt hlt2, hS]; rfl⟩, aQ (by omega) (by simp [aY, fin_at, finA_at, upd_at, HV.men, HV.menL, HV.norm, HV.toC, HV.toCL]; omega) (by simp [bC, fob_at, upd_at, none0_at, bT, HO.men, HV.men, HV.menL, HV.norm, HV.toC, HV.toCL]), ?_⟩
   show lastM b j - 64 * (q + 1) < lastM b j - 64 * q
   omega
  refine aS (T3 ?_)
  clear hK K
  refine AX (hK _ _ _ ?_)
  clear hK K
  refine R0 ?_
  refine aB fun K hK => ?_
  refine R0 ?_
  refine aH ?_
  have heq : 64 * q = lastM b j := by simp at hb; omega
  clear hb
  refine aU (α := {i : Nat // i ≤ 32}) (fun i => (fin [(2, .ptr 0 0), (3, .ptr 8 0), (10, .ptr 312 0), (59, .c (.int .i64 i.1))], fob [(0, .box 49 (.c zd)), (8, .box 152 (.c (ws S.l))), (312, .box 49 (.c (us (aB9 S i.1))))])) 400 (fun i => 32 - i.1) ⟨0, by omega⟩ (aQ (by omega) (by simp [aY, fin_at, finA_at, upd_at, HV.men, HV.menL, HV.norm, HV.toC, HV.toCL]) (by simp [bC, fob_at, upd_at, none0_at, bT, HO.men, HV.men, HV.menL, HV.norm, HV.toC, HV.toCL]; rfl)) ?_
  rintro ⟨i, hi⟩
  have hol := aI5 S i
  refine R0 ?_
  refine aB fun K hK => ?_
  refine aJ (b := decide ((i : Int) < 32)) rfl (fun hb => ?_) (fun hb => ?_)
  ·
   have hi32 : i < 32 := by simp at hb; omega
   have m1 : IntKind.i64.wrap ((i : Int).tdiv 4) = ((i / 4 : Nat) : Int) := by
    rw [show (i : Int).tdiv 4 = ((i / 4 : Nat) : Int) from rfl]; exact IntWalk.i64_in _ (by omega)
   have m2 : (i : Int).tmod 4 = ((i % 4 : Nat) : Int) := rfl
   have m3 : IntKind.i64.wrap (8 * ((i % 4 : Nat) : Int)) = ((8 * (i % 4) : Nat) : Int) := by rw [IntWalk.i64_in _ (by omega)]; omega
   have m4 : IntKind.i64.wrap (24 - ((8 * (i % 4) : Nat) : Int)) = ((24 - 8 * (i % 4) : Nat) : Int) := by rw [IntWalk.i64_in _ (by omega)]; omega
   have q1 : i / 4 < 8 := by omega
   have z1 : ((i / 4 : Nat) : Int) < 8 := by omega
   have z2 : (i : Int) < 32 := by omega
   have q2 : 24 - 8 * (i % 4) ≤ 32 := by omega
   refine aG ?_
   refine T0 (hK _ _ _ ?_)
   clear hK K
   refine aB fun K hK => ?_
   refine aH ?_
   refine R0 ?_
   refine Rg ?_
   iterate 13 refine S0 ?_ (e := fun _ h_ => by simp only [sH, ↓sP, sA, tyS, simprocAttr, m1, m2, m3, m4, q1, z1, z2, q2, hi32, hol, cI, dD, Int.natCast_nonneg, Nat.mul_one, uD, bF4, nB, fG]; exact AX h_)
   refine T2 (hK _ _ _ ?_)
   clear hK K
   refine aL (by kernel_rfl) ?_
   refine TQ (bK i) ?_
   refine ⟨⟨i + 1, hi32⟩, aQ (by omega) (by simp [aY, fin_at, finA_at, upd_at, HV.men, HV.menL, HV.norm, HV.toC, HV.toCL]) (by simp [bC, fob_at, upd_at, none0_at, bT, HO.men, HV.men, HV.menL, HV.norm, HV.toC, HV.toCL]; rfl), ?_⟩
   show 32 - (i + 1) < 32 - i
   omega
  refine aS (T3 ?_)
  clear hK K
  refine AX (hK _ _ _ ?_)
  clear hK K
  have hei : i = 32 := by simp at hb; omega
  subst hei
  clear hb
  have F := aI @qU hol
  refine RF ?_
  refine aD ?_
  simp only [cH, Tryz.results115, cD, cG, cA, ↓sP, sA, tyS, simprocAttr]
  simp only [qU hol, Option.map_some]
  refine aC [] (us (aB9 S 32)) (eT (uV _)) ?_
  have e9 : j + q = (pad b).length / 64 := by rw [uX hj hlt]; omega
  rw [aI6, hS, ← aU0, e9]
 refine aB fun K hK => Rg ?_
 have F := hdl
 iterate 3 refine SF ?_
 refine T2 (hK _ _ _ ?_)
 clear hK K
 refine aJ (b := decide ((56 : Int) ≤ ((b.length - 64 * j : Nat) : Int))) rfl (fun hb => ?_) (fun hb => ?_)
 ·
  refine aL (by kernel_rfl) ?_
  simp only [↓sP, sA, tyS, simprocAttr]
  exact key 128 (by unfold lastM; rw [if_neg (by simp at hb; omega)]) _ _ _ (fF)
 refine aG (T3 ?_)
 exact key 64 (by unfold lastM; rw [if_pos (by simp at hb; omega)]) _ _ _ (fF)

end Go.Proofs.YtenbfeemmpjdhaaGreatDoor

namespace Go.Proofs.YtenbfeemmpjdhaaGreatDoor
open Go Go.Hl Go.Pl
set_option maxRecDepth 10000
set_option maxHeartbeats 16000000

theorem bT6 (b : List UInt8) (hb40 : b.length < 2 ^ 40) : aW Tryz.prog 87 [.slc (b.map u8)] (fun v => v = dg (sha b)) := by
 have c0 : IntKind.u64.wrap (b.length : Int) = (b.length : Int) := IntWalk.u64_in _ (by omega)
 have c1 : IntKind.u64.wrap ((b.length : Int) * 8) = ((8 * b.length : Nat) : Int) := by rw [IntWalk.u64_in _ (by omega)]; omega
 refine FW Tryz.func87 ?_
 refine R0 ?_
 refine aB fun K hK => Rg ?_
 have F := aI @bG @List.length_append.{0}
 iterate 6 refine SF ?_
 refine T2 (hK _ _ _ ?_)
 clear hK K
 refine aB fun K hK => ?_
 refine aH ?_
 refine aU (α := {z : Nat // z ≤ zs b.length}) (fun z => (fin [(0, .c (.slc (b.map u8))), (2, .ptr 0 0), (3, .own 4 (b.length + 1 + z.1))], fob [(0, .box 49 (.c zd)), (4, .row 5 1 ((b ++ [0x80] ++ List.replicate z.1 0).map u8))])) 100 (fun z => zs b.length - z.1) ⟨0, by omega⟩ (aQ (by omega) (by simp [aY, fin_at, finA_at, upd_at, HV.men, HV.menL, HV.norm, HV.toC, HV.toCL]) (by simp [bC, fob_at, upd_at, none0_at, bT, HO.men, HV.men, HV.menL, HV.norm, HV.toC, HV.toCL]; rfl)) ?_
 rintro ⟨z, hz⟩
 have hzb : zs b.length < 64 := by unfold zs; omega
 have hzm : (b.length + 1 + zs b.length) % 64 = 56 := by unfold zs; omega
 have hrl : ((b ++ [0x80] ++ List.replicate z 0).map u8).length = b.length + 1 + z := by simp; omega
 have m1 : (((b.length + 1 + z : Nat) : Int)).tmod 64 = (((b.length + 1 + z) % 64 : Nat) : Int) := rfl
 refine aB fun K hK => ?_
 refine aB fun K hK => Rg ?_
 have F := aI hrl m1
 iterate 4 refine SF ?_
 refine T2 (hK _ _ _ ?_)
 clear hK K
 refine aJ (b := ((((b.length + 1 + z) % 64 : Nat) : Int) != 56)) rfl (fun hb => ?_) (fun hb => ?_)
 ·
  have hne : (b.length + 1 + z) % 64 ≠ 56 := by simp at hb; omega
  have hlt : z < zs b.length := by rcases Nat.lt_or_ge z (zs b.length) with h | h; exact h; exact absurd (by rw [show z = zs b.length by omega]; exact hzm) hne
  refine aG ?_
  refine T0 (hK _ _ _ ?_)
  clear hK K
  refine aH ?_
  refine Rg ?_
  have F := aI hrl @bG
  iterate 4 refine SF ?_
  refine T4 ?_
  refine ⟨⟨z + 1, hlt⟩, aQ (by omega) (by simp [aY, fin_at, finA_at, upd_at, HV.men, HV.menL, HV.norm, HV.toC, HV.toCL]; omega) (by simp [bC, fob_at, upd_at, none0_at, bT, HO.men, HV.men, HV.menL, HV.norm, HV.toC, HV.toCL, List.replicate_succ']; rfl), ?_⟩
  show zs b.length - (z + 1) < zs b.length - z
  omega
 refine aS (T3 ?_)
 clear hK K
 refine AX (hK _ _ _ ?_)
 clear hK K
 refine aB fun K hK => Rg ?_
 have F := aI c0 c1
 iterate 5 refine SF ?_
 refine T2 (hK _ _ _ ?_)
 clear hK K
 refine aB fun K hK => ?_
 refine R0 ?_
 refine aH ?_
 have hez : z = zs b.length := by simp at hb; unfold zs at *; omega
 subst hez
 clear hb
 refine aU (α := {i : Nat // i ≤ 8}) (fun i => (fin [(2, .ptr 0 0), (3, .own 4 (b.length + 1 + zs b.length + i.1)), (4, .c (.int .u64 ((8 * b.length : Nat) : Int))), (5, .c (.int .i64 (7 - (i.1 : Int))))], fob [(0, .box 49 (.c zd)), (4, .row 5 1 ((b ++ [0x80] ++ List.replicate (zs b.length) 0 ++ (uC b.length).take i.1).map u8))])) 200 (fun i => 8 - i.1) ⟨0, by omega⟩ (fF) ?_
 rintro ⟨i, hi⟩
 have hrl : ((b ++ [0x80] ++ List.replicate (zs b.length) 0 ++ (uC b.length).take i).map u8).length = b.length + 1 + zs b.length + i := by simp [jZ]; omega
 refine aB fun K hK => ?_
 refine R0 ?_
 refine aJ (b := decide (0 ≤ 7 - (i : Int))) rfl (fun hb => ?_) (fun hb => ?_)
 ·
  have hi8 : i < 8 := by simp at hb; omega
  have m1 : IntKind.i64.wrap (8 * (7 - (i : Int))) = ((8 * (7 - i) : Nat) : Int) := by rw [IntWalk.i64_in _ (by omega)]; omega
  have m2 : IntKind.u64.wrap ((8 * (7 - i) : Nat) : Int) = ((8 * (7 - i) : Nat) : Int) := IntWalk.u64_in _ (by omega)
  have m3 := aI4 (8 * b.length) (7 - i) (by omega)
  have m4 : IntKind.i64.wrap (7 - (i : Int) - 1) = 7 - ((i + 1 : Nat) : Int) := by rw [IntWalk.i64_in _ (by omega)]; omega
  refine aG ?_
  refine T0 (hK _ _ _ ?_)
  clear hK K
  refine aB fun K hK => ?_
  refine aH ?_
  refine Rg ?_
  have F := aI hrl (aI m1 (aI m2 (aI m3 (aI @bG @Int.natCast_nonneg))))
  iterate 10 refine SF ?_
  refine T2 (hK _ _ _ ?_)
  clear hK K
  refine aL (by kernel_rfl) ?_
  refine TQ m4 ?_
  refine ⟨⟨i + 1, hi8⟩, aQ (by omega) (by simp [aY, fin_at, finA_at, upd_at, HV.men, HV.menL, HV.norm, HV.toC, HV.toCL, jZ]; omega) (by simp [bC, fob_at, upd_at, none0_at, bT, HO.men, HV.men, HV.menL, HV.norm, HV.toC, HV.toCL, aZ3 hi8]; rfl), ?_⟩
  show 8 - (i + 1) < 8 - i
  omega
 refine aS (T3 ?_)
 clear hK K
 refine AX (hK _ _ _ ?_)
 clear hK K
 have hei : i = 8 := by simp at hb; omega
 subst hei
 clear hb
 rw [bZ4]
 have hpq : b.length + 1 + zs b.length + 8 = (pad b).length := (sY b).symm
 refine cM [4] (bF (fr2 := fin [(2, .ptr 0 0), (3, .c (.slc ((pad b).map u8)))]) (ob2 := fob [(0, .box 49 (.c zd))]) (nx2 := 300) (aQ (by omega) (by simp [aY, cQ, fin_at, upd_at, fob_at, HV.close, HV.norm, HV.toC, HV.men, denilL_u8, hpq]) (by simp [bC, cR, fob_at, upd_at, HO.close, HV.close, HO.men, HV.men, HV.norm, HV.toC, zd_denil])) ?_)
 refine aB fun K hK => Rg ?_
 have F := aI @cJ (aI @iG @cI)
 refine HS rfl rfl fun K' hK' => T6 ?_
 rw [gY (n := 8) St0.l rfl rfl]
 refine AX (hK' _ _ ?_)
 clear hK' K'
 iterate 2 refine SF ?_
 refine T2 (hK _ _ _ ?_)
 clear hK K
 refine aB fun K hK => ?_
 refine R0 ?_
 refine aH ?_
 refine aU (α := {x : Nat × St // 64 * x.1 ≤ (pad b).length ∧ x.2 = blk (pad b) x.1 St0}) (fun x => (fin [(2, .ptr 0 0), (3, .c (.slc ((pad b).map u8))), (6, .ptr 304 0), (7, .c (.int .i64 ((64 * x.1.1 : Nat) : Int)))], fob [(0, .box 49 (.c zd)), (304, .box 152 (.c (ws x.1.2.l)))])) 400 (fun x => (pad b).length - 64 * x.1.1) ⟨(0, St0), by omega, rfl⟩ (fF) ?_
 rintro ⟨⟨q, S⟩, hq, hS⟩
 replace hq : 64 * q ≤ (pad b).length := hq
 replace hS : S = blk (pad b) q St0 := hS
 have hpm := bP9 b
 have hpl := sY b
 have hzb : zs b.length < 64 := by unfold zs; omega
 refine aB fun K hK => ?_
 refine aB fun K hK => Rg ?_
 iterate 4 refine S0 ?_
 refine T2 (hK _ _ _ ?_)
 clear hK K
 refine aJ (b := decide (((64 * q : Nat) : Int) < ((pad b).length : Int))) rfl (fun hb => ?_) (fun hb => ?_)
 ·
  have hlt : 64 * (q + 1) ≤ (pad b).length := by simp at hb; omega
  have m1 : IntKind.i64.wrap (((64 * q : Nat) : Int) + 64) = ((64 * q + 64 : Nat) : Int) := by rw [IntWalk.i64_in _ (by omega)]; omega
  have z1 : ((64 * q : Nat) : Int) ≤ ((64 * q + 64 : Nat) : Int) := by omega
  have z2 : ((64 * q + 64 : Nat) : Int) ≤ ((pad b).length : Int) := by omega
  have hp : (((pad b).drop (64 * q)).take 64).length = 64 := by rw [List.length_take, List.length_drop]; omega
  refine aG ?_
  refine T0 (hK _ _ _ ?_)
  clear hK K
  refine aB fun K hK => ?_
  refine aH ?_
  refine DW [(0, [], []), (1, [], []), (2, [], []), (3, [], []), (4, [], []), (5, [], []), (6, [], []), (7, [], [])] [0, 0, 0, 0, 8, 30, 63, 127] ?_
  iterate 6 refine W0 ?_ (e := fun _ h_ => by simp only [sH, ↓sP, sA, tyS, simprocAttr, m1, z1, z2, bG, Nat.add_sub_cancel_left, ← List.map_drop, ← List.map_take, denilL_u8, eZ, Int.natCast_nonneg, iY, cI, cJ]; exact AX h_)
  refine aO (g := none) rfl rfl fun K' hK' => ?_
  simp only [sH, ↓sP, sA, tyS, simprocAttr, m1, z1, z2, bG, Nat.add_sub_cancel_left, ← List.map_drop, ← List.map_take, denilL_u8, eZ, Int.natCast_nonneg, iY, cI, cJ]
  refine C2 (bM4 S (((pad b).drop (64 * q)).take 64) hp) ?_
  rintro u rfl
  refine AX (hK' _ _ ?_)
  clear hK' K'
  refine W0 ?_ (e := fun _ h_ => by simp only [sH, ↓sP, sA, tyS, simprocAttr, m1, z1, z2, bG, Nat.add_sub_cancel_left, ← List.map_drop, ← List.map_take, denilL_u8, eZ, Int.natCast_nonneg, iY, cI, cJ]; exact AX h_)
  refine T2 (hK _ _ _ ?_)
  clear hK K
  refine aL (by kernel_rfl) ?_
  refine TQ m1 ?_
  refine ⟨⟨(q + 1, comp S (((pad b).drop (64 * q)).take 64)), hlt, by rw [hS]; rfl⟩, aQ (by omega) (by simp [aY, fin_at, finA_at, upd_at, HV.men, HV.menL, HV.norm, HV.toC, HV.toCL]; omega) (by simp [bC, fob_at, upd_at, none0_at, bT, HO.men, HV.men, HV.menL, HV.norm, HV.toC, HV.toCL]), ?_⟩
  show (pad b).length - 64 * (q + 1) < (pad b).length - 64 * q
  omega
 refine aS (T3 ?_)
 clear hK K
 refine AX (hK _ _ _ ?_)
 clear hK K
 refine R0 ?_
 refine aB fun K hK => ?_
 refine R0 ?_
 refine aH ?_
 have heq : 64 * q = (pad b).length := by simp at hb; omega
 clear hb
 refine aU (α := {i : Nat // i ≤ 32}) (fun i => (fin [(2, .ptr 0 0), (6, .ptr 304 0), (8, .ptr 416 0), (9, .c (.int .i64 i.1))], fob [(0, .box 49 (.c zd)), (304, .box 152 (.c (ws S.l))), (416, .box 49 (.c (us (aB9 S i.1))))])) 500 (fun i => 32 - i.1) ⟨0, by omega⟩ (aQ (by omega) (by simp [aY, fin_at, finA_at, upd_at, HV.men, HV.menL, HV.norm, HV.toC, HV.toCL]) (by simp [bC, fob_at, upd_at, none0_at, bT, HO.men, HV.men, HV.menL, HV.norm, HV.toC, HV.toCL]; rfl)) ?_
 rintro ⟨i, hi⟩
 have hol := aI5 S i
 refine aB fun K hK => ?_
 refine R0 ?_
 refine aJ (b := decide ((i : Int) < 32)) rfl (fun hb => ?_) (fun hb => ?_)
 ·
  have hi32 : i < 32 := by simp at hb; omega
  have m1 : IntKind.i64.wrap ((i : Int).tdiv 4) = ((i / 4 : Nat) : Int) := by
   rw [show (i : Int).tdiv 4 = ((i / 4 : Nat) : Int) from rfl]; exact IntWalk.i64_in _ (by omega)
  have m2 : (i : Int).tmod 4 = ((i % 4 : Nat) : Int) := rfl
  have m3 : IntKind.i64.wrap (8 * ((i % 4 : Nat) : Int)) = ((8 * (i % 4) : Nat) : Int) := by rw [IntWalk.i64_in _ (by omega)]; omega
  have m4 : IntKind.i64.wrap (24 - ((8 * (i % 4) : Nat) : Int)) = ((24 - 8 * (i % 4) : Nat) : Int) := by rw [IntWalk.i64_in _ (by omega)]; omega
  have m5 : IntKind.u64.wrap ((24 - 8 * (i % 4) : Nat) : Int) = ((24 - 8 * (i % 4) : Nat) : Int) := IntWalk.u64_in _ (by omega)
  have q1 : i / 4 < 8 := by omega
  have z1 : ((i / 4 : Nat) : Int) < 8 := by omega
  have z2 : (i : Int) < 32 := by omega
  have q2 : 24 - 8 * (i % 4) ≤ 32 := by omega
  refine aG ?_
  refine T0 (hK _ _ _ ?_)
  clear hK K
  refine aB fun K hK => ?_
  refine aH ?_
  refine Rg ?_
  iterate 14 refine S0 ?_ (e := fun _ h_ => by simp only [sH, ↓sP, sA, tyS, simprocAttr, m1, m2, m3, m4, m5, q1, z1, z2, q2, hi32, hol, cI, dD, Int.natCast_nonneg, Nat.mul_one, uD, bF4, nB, fG]; exact AX h_)
  refine T2 (hK _ _ _ ?_)
  clear hK K
  refine aL (by kernel_rfl) ?_
  refine TQ (bK i) ?_
  refine ⟨⟨i + 1, hi32⟩, aQ (by omega) (by simp [aY, fin_at, finA_at, upd_at, HV.men, HV.menL, HV.norm, HV.toC, HV.toCL]) (by simp [bC, fob_at, upd_at, none0_at, bT, HO.men, HV.men, HV.menL, HV.norm, HV.toC, HV.toCL]; rfl), ?_⟩
  show 32 - (i + 1) < 32 - i
  omega
 refine aS (T3 ?_)
 clear hK K
 refine AX (hK _ _ _ ?_)
 clear hK K
 have hei : i = 32 := by simp at hb; omega
 subst hei
 clear hb
 have F := aI @qU hol
 refine RF ?_
 refine aD ?_
 simp only [cH, Tryz.results87, cD, cG, cA, ↓sP, sA, tyS, simprocAttr]
 simp only [qU hol, Option.map_some]
 refine aC [] (us (aB9 S 32)) (eT (uV _)) ?_
 have e9 : q = (pad b).length / 64 := by omega
 rw [aI6, hS, ← aU0, ← e9]


theorem aQ6 (p : Pk) : aW Tryz.prog 81 [p.cv] (fun v => v = dg (pid p)) := by
 refine FW Tryz.func81 ?_
 refine R0 ?_
 refine dQ 1 0 rfl rfl ?_
 refine aB fun K hK => DW [(0, [], []), (1, [], []), (2, [], []), (3, [], []), (4, [3], []), (5, [3], []), (6, [], []), (7, [], []), (8, [], [])] [0, 1, 3, 7, 0, 16, 63, 127, 255] ?_
 iterate 7 refine W0 ?_ (e := fun _ h_ => by simp only [sH, ↓sP, sA, tyS, simprocAttr, kO, pI, pB, p.r.2, gR, bG, List.drop_zero, denilL_u8]; exact AX h_)
 refine aO (g := none) rfl rfl fun K' hK' => ?_
 simp only [sH, ↓sP, sA, tyS, simprocAttr, kO, pI, pB, p.r.2, gR, bG, List.drop_zero, denilL_u8]
 refine nY (e := 5) (sz := 1) (l := (oX (UInt8.ofNat (p.h.emod 256).toNat) p.r.1).map u8) [] [] (bT5 (oX (UInt8.ofNat (p.h.emod 256).toNat) p.r.1) (by simp [oX, p.r.2])) rfl (by simp [oX, p.r.2]) (by simp) ⟨rfl, rfl, rfl, rfl⟩ ?_
 rintro u rfl
 refine AX (hK' _ _ ?_)
 clear hK' K'
 refine W0 ?_ (e := fun _ h_ => by simp only [sH, ↓sP, sA, tyS, simprocAttr, kO, pI, pB, p.r.2, gR, bG, List.drop_zero, denilL_u8]; exact AX h_)
 refine T2 (hK _ _ _ ?_)
 clear hK K
 refine aD (RT Tryz.results81 ?_)
 exact aC [] (dg (pid p)) rfl rfl


theorem vU (p : Pk) : aW Tryz.prog 42 [p.cv] (fun v => v = dg (pid p)) := by
 refine FW Tryz.func42 ?_
 refine R0 ?_
 refine aB fun K hK => Rg ?_
 have F := @pI
 iterate 5 refine SF ?_
 refine T2 (hK _ _ _ ?_)
 clear hK K
 refine dQ 1 0 rfl rfl ?_
 refine aB fun K hK => Rg ?_
 iterate 4 refine S0 ?_ (e := fun _ h_ => by simp only [sH, ↓sP, sA, tyS, simprocAttr, kO, pB, p.r.2, gR, bG, List.drop_zero, denilL_u8]; exact AX h_)
 refine HS rfl rfl fun K' hK' => ?_
 simp only [sH, ↓sP, sA, tyS, simprocAttr, kO, pB, p.r.2, gR, bG, List.drop_zero, denilL_u8]
 refine nY (e := 5) (sz := 1) (l := (oX (UInt8.ofNat (p.h.emod 256).toNat) p.r.1).map u8) [] [] (bT6 (oX (UInt8.ofNat (p.h.emod 256).toNat) p.r.1) (by simp [oX, p.r.2])) rfl (by simp [oX, p.r.2]) (by simp) ⟨rfl, rfl, rfl, rfl⟩ ?_
 rintro u rfl
 refine AX (hK' _ _ ?_)
 clear hK' K'
 refine S0 ?_ (e := fun _ h_ => by simp only [sH, ↓sP, sA, tyS, simprocAttr, kO, pB, p.r.2, gR, bG, List.drop_zero, denilL_u8]; exact AX h_)
 refine T2 (hK _ _ _ ?_)
 clear hK K
 refine aD (RT Tryz.results42 ?_)
 exact aC [] (dg (pid p)) rfl rfl

end Go.Proofs.YtenbfeemmpjdhaaGreatDoor

namespace Go.Proofs.YtenbfeemmpjdhaaGreatDoor
open Go.RowKit Go.Sort Go.Shelf

def aQ7 : Go.Shelf.Ren := ⟨fun | 6 => 83 | 8 => 118 | 9 => 117 | 19 => 147 | 20 => 148 | 21 => 138 | 22 => 139 | 23 => 140 | 24 => 141 | 25 => 142 | 26 => 143 | 27 => 144 | 28 => 145 | 29 => 146 | 36 => 169 | 31 => 170 | 32 => 171 | 37 => 172 | 38 => 173 | 39 => 174 | 41 => 189 | n => n, fun | 27 => 60 | 29 => 9 | 3 => 3 | 32 => 144 | 26 => 60 | 0 => 0 | 44 => 151 | 46 => 145 | 4 => 4 | 36 => 169 | 35 => 168 | 41 => 174 | 5 => 5 | 9 => 9 | 53 => 195 | 57 => 199 | 63 => 209 | 64 => 210 | n => n, fun | n => n⟩
theorem bM5 : Go.Proofs.SlLaysM.n6 Tryz.prog aQ7 := {
 mixed := by kernel_rfl
 f6 := ⟨Tryz.f83.name, by decide, Tryz.func83.trans (congrArg some (by kernel_rfl))⟩
 f8 := Tryz.func118.trans (congrArg some (by kernel_rfl))
 f9 := ⟨Tryz.f117.name, by decide, Tryz.func117.trans (congrArg some (by kernel_rfl))⟩
 f19 := Tryz.func147.trans (congrArg some (by kernel_rfl))
 f20 := Tryz.func148.trans (congrArg some (by kernel_rfl))
 f21 := ⟨Tryz.f138.name, by decide, Tryz.func138.trans (congrArg some (by kernel_rfl))⟩
 f22 := ⟨Tryz.f139.name, by decide, Tryz.func139.trans (congrArg some (by kernel_rfl))⟩
 f23 := ⟨Tryz.f140.name, by decide, Tryz.func140.trans (congrArg some (by kernel_rfl))⟩
 f24 := ⟨Tryz.f141.name, by decide, Tryz.func141.trans (congrArg some (by kernel_rfl))⟩
 f25 := ⟨Tryz.f142.name, by decide, Tryz.func142.trans (congrArg some (by kernel_rfl))⟩
 f26 := ⟨Tryz.f143.name, by decide, Tryz.func143.trans (congrArg some (by kernel_rfl))⟩
 f27 := ⟨Tryz.f144.name, by decide, Tryz.func144.trans (congrArg some (by kernel_rfl))⟩
 f28 := ⟨Tryz.f145.name, by decide, Tryz.func145.trans (congrArg some (by kernel_rfl))⟩
 f29 := ⟨Tryz.f146.name, by decide, Tryz.func146.trans (congrArg some (by kernel_rfl))⟩
 f31 := Tryz.func170.trans (congrArg some (by kernel_rfl))
 f32 := Tryz.func171.trans (congrArg some (by kernel_rfl))
 f36 := ⟨Tryz.f169.name, by decide, Tryz.func169.trans (congrArg some (by kernel_rfl))⟩
 f37 := ⟨Tryz.f172.name, by decide, Tryz.func172.trans (congrArg some (by kernel_rfl))⟩
 f38 := ⟨Tryz.f173.name, by decide, Tryz.func173.trans (congrArg some (by kernel_rfl))⟩
 f39 := ⟨Tryz.f174.name, by decide, Tryz.func174.trans (congrArg some (by kernel_rfl))⟩
 f41 := ⟨Tryz.f189.name, by decide, Tryz.func189.trans (congrArg some (by kernel_rfl))⟩
 t0 := Tryz.underlying0
 a0 := Tryz.isAgg0
 z0 := Tryz.sizeOf0
 v0 := Tryz.zeroValue0
 t3 := Tryz.underlying3
 a3 := Tryz.isAgg3
 z3 := Tryz.sizeOf3
 v3 := Tryz.zeroValue3
 t4 := Tryz.underlying4
 a4 := Tryz.isAgg4
 z4 := Tryz.sizeOf4
 v4 := Tryz.zeroValue4
 t5 := Tryz.underlying5
 a5 := Tryz.isAgg5
 z5 := Tryz.sizeOf5
 v5 := Tryz.zeroValue5
 t9 := Tryz.underlying9
 a9 := Tryz.isAgg9
 z9 := Tryz.sizeOf9
 v9 := Tryz.zeroValue9
 t26 := Tryz.underlying60
 a26 := Tryz.isAgg60
 z26 := Tryz.sizeOf60
 v26 := Tryz.zeroValue60
 t27 := Tryz.underlying60
 a27 := Tryz.isAgg60
 z27 := Tryz.sizeOf60
 v27 := Tryz.zeroValue60
 t29 := Tryz.underlying9
 a29 := Tryz.isAgg9
 z29 := Tryz.sizeOf9
 v29 := Tryz.zeroValue9
 t32 := Tryz.underlying144
 a32 := Tryz.isAgg144
 z32 := Tryz.sizeOf144
 v32 := Tryz.zeroValue144
 t35 := Tryz.underlying168
 a35 := Tryz.isAgg168
 z35 := Tryz.sizeOf168
 v35 := Tryz.zeroValue168
 t36 := Tryz.underlying169
 a36 := Tryz.isAgg169
 z36 := Tryz.sizeOf169
 v36 := Tryz.zeroValue169
 t41 := Tryz.underlying174
 a41 := Tryz.isAgg174
 z41 := Tryz.sizeOf174
 v41 := Tryz.zeroValue174
 t44 := Tryz.underlying151
 a44 := Tryz.isAgg151
 z44 := Tryz.sizeOf151
 v44 := Tryz.zeroValue151
 t46 := Tryz.underlying145
 a46 := Tryz.isAgg145
 z46 := Tryz.sizeOf145
 v46 := Tryz.zeroValue145
 t53 := Tryz.underlying195
 a53 := Tryz.isAgg195
 z53 := Tryz.sizeOf195
 v53 := Tryz.zeroValue195
 t57 := Tryz.underlying199
 a57 := Tryz.isAgg199
 z57 := Tryz.sizeOf199
 v57 := Tryz.zeroValue199
 t63 := Tryz.underlying209
 a63 := Tryz.isAgg209
 z63 := Tryz.sizeOf209
 v63 := Tryz.zeroValue209
 t64 := Tryz.underlying210
 a64 := Tryz.isAgg210
 z64 := Tryz.sizeOf210
 v64 := Tryz.zeroValue210 }
def aL9 : Go.Shelf.Ren := ⟨fun | 16 => 94 | n => n, fun | 24 => 60 | 9 => 9 | 4 => 4 | n => n, fun | n => n⟩
theorem aD5 : Go.Proofs.Lays2.n16 Tryz.prog aL9 := {
 mixed := by kernel_rfl
 f16 := Tryz.func94.trans (congrArg some (by kernel_rfl))
 t4 := Tryz.underlying4
 a4 := Tryz.isAgg4
 z4 := Tryz.sizeOf4
 v4 := Tryz.zeroValue4
 t9 := Tryz.underlying9
 a9 := Tryz.isAgg9
 z9 := Tryz.sizeOf9
 v9 := Tryz.zeroValue9
 t24 := Tryz.underlying60
 a24 := Tryz.isAgg60
 z24 := Tryz.sizeOf60
 v24 := Tryz.zeroValue60
 i9 := by kernel_rfl }

theorem bT7 (ss : List (List UInt8)) (hl : ss.length < 2 ^ 40) : Hl.bG0 Tryz.prog 83 9 ss :=
 Hl.bG1 (by kernel_rfl) (fun blk cap w hH hb => AnyM.slices_Sort_string bM5 blk 0 cap ss w hH hb (by omega)) (fun cap w => AnyM.slices_Sort_string_none bM5 none cap w)
theorem bM6 (l : List (List UInt8)) (hl : l.length < 2 ^ 40) : Hl.aW Tryz.prog 94 [.slc (l.map .str)] (fun v => v = .slc (l.map .str)) := by
 refine Hl.aH0 (e := 9) (by kernel_rfl) (by omega) (fun b off c w hc => ?_) (fun c w => Any.slices_Clone_string_nil aD5 0 c w) (fun a c w => Any.slices_Clone_string_zero aD5 a c w)
 have := Any.slices_Clone_string aD5 b off l.length c (l.map fun s => ⟨s.toArray⟩) w (by simp) (by omega) (fun j hj => by
  have hj' : j < l.length := by simpa using hj
  rw [hc j hj']
  simp [hj', Hl.cK])
 refine this.mono ?_
 rintro x w' ⟨v', h1, h2, h3, h4⟩
 refine ⟨v', h1, ?_, h3, h4⟩
 have e : ((l.map fun s => (⟨s.toArray⟩ : ByteArray)).take l.length).map Value.string = l.map Hl.cK := by
  rw [List.take_of_length_le (by simp), List.map_map]
  rfl
 rw [e] at h2
 exact h2
end Go.Proofs.YtenbfeemmpjdhaaGreatDoor

namespace Go.Proofs.YtenbfeemmpjdhaaGreatDoor
open Go Go.Hl Go.Pl
set_option maxRecDepth 10000
set_option maxHeartbeats 16000000

theorem aQ8 (l : List aK) (hl : l.length < 2 ^ 40) : bV9 Tryz.prog 84 9 1 (l.map .str) (fun u => u = .slc ((bV l).map .str)) := by
 show HFn _ _ [.own 0 (l.map CV.str).length] 1 _ _
 rw [List.length_map]
 refine bH (args := [.own 0 l.length]) Tryz.func84 rfl (by kernel_rfl) (kS 9 1 l.length _) (Nat.le_of_ble_eq_true rfl) ?_
 refine R0 ?_
 refine aB fun K hK => ?_
 refine R0 ?_
 refine aJ (b := decide ((l.length : Int) < 2)) rfl (fun hb => ?_) (fun hb => ?_)
 ·
  refine R0 ?_
  refine aD (RT Tryz.results84 ?_)
  exact qN [0] (.slc (l.map .str)) (by simp [HV.close, HV.norm, HV.toC, fob_at]) (by rw [sC (by simp at hb; omega)])
 refine aG ?_
 refine T0 (hK _ _ _ ?_)
 clear hK K
 refine aB fun K hK => ?_
 refine R0 ?_
 refine aH ?_
 have h2 : 2 ≤ l.length := by simp at hb; omega
 refine aU (α := {k : Nat // 1 ≤ k ∧ k ≤ l.length ∧ bV (l.take k) = l.take k}) (fun k => (fin [(0, .own 0 l.length), (3, .c (.int .i64 k.1))], fob [(0, .row 9 1 (l.map .str))])) 100 (fun k => l.length - k.1) ⟨1, by omega, by omega, sC (by simp; omega)⟩ (fF) ?_
 clear hb
 rintro ⟨k, hk1, hk, hd⟩
 refine aB fun K hK => ?_
 refine aB fun K hK => Rg ?_
 iterate 4 refine S0 ?_
 refine T2 (hK _ _ _ ?_)
 clear hK K
 refine aJ (b := decide ((k : Int) < l.length)) rfl (fun hb => ?_) (fun hb => ?_)
 ·
  have hlt : k < l.length := by simpa using hb
  have hlt1 : k - 1 < l.length := by omega
  have m1 : IntKind.i64.wrap ((k : Int) - 1) = ((k - 1 : Nat) : Int) := by rw [IntWalk.i64_in _ (by omega)]; omega
  refine aG ?_
  refine T0 (hK _ _ _ ?_)
  clear hK K
  refine aB fun K hK => ?_
  refine aH ?_
  refine aB fun K hK => QR ?_
  have F := aI m1 (aI @Int.natCast_nonneg (aI @Int.ofNat_lt (aI hlt (aI hlt1 (aI (nM hlt) (nM hlt1))))))
  iterate 10 refine SF ?_
  refine T2 (hK _ _ _ ?_)
  clear hK K
  refine aJ (b := l[k] == l[k - 1]) rfl (fun hb => ?_) (fun hb => ?_)
  ·
   refine aB fun K hK => Rg ?_
   iterate 4 refine S0 ?_
   refine T2 (hK _ _ _ ?_)
   clear hK K
   refine aB fun K hK => ?_
   refine R0 ?_
   refine aH ?_
   refine aU (α := {x : Nat × Nat × List aK // x.2.2.length = l.length ∧ 1 ≤ x.1 ∧ x.1 < x.2.1 ∧ x.2.1 ≤ l.length ∧ k < x.2.1 ∧ x.2.2.take x.1 = bV (l.take x.2.1) ∧ x.2.2.drop (x.2.1 - 1) = l.drop (x.2.1 - 1)}) (fun x => (fin [(0, .own 0 l.length), (3, .c (.int .i64 x.1.1)), (4, .osl 0 l.length k 1 l.length), (5, .c (.int .i64 ((x.1.2.1 - k : Nat) : Int)))], fob [(0, .row 9 1 (x.1.2.2.map .str))])) 300 (fun x => l.length - x.1.2.1) ⟨(k, k + 1, l), rfl, hk1, by simp, hlt, by simp, by rw [uT hk1 hlt hb, hd], rfl⟩ (fF) ?_
   rintro ⟨⟨i, j, r⟩, hr, hi1, hij, hj, hkj, g1, g2⟩
   simp only at hr hi1 hij hj hkj g1 g2 ⊢
   have hrl : (r.map CV.str).length = l.length := by rw [List.length_map, hr]
   have p0 : 0 < l.length := by omega
   have e9 : (List.take (l.length - k) (List.drop k (r.map CV.str))).length = l.length - k := by simp [hr]
   refine aB fun K hK => ?_
   refine aB fun K hK => Rg ?_
   have F := aI hr (aI p0 (aI hk (aI @Nat.le_refl e9)))
   iterate 4 refine SF ?_
   refine T2 (hK _ _ _ ?_)
   clear hK K
   refine aJ (b := decide (((j - k : Nat) : Int) < ((l.length - k : Nat) : Int))) rfl (fun hb => ?_) (fun hb => ?_)
   ·
    have hjl : j < l.length := by simp at hb; omega
    have hjr : j < r.length := by omega
    have hj1r : j - 1 < r.length := by omega
    have hir : i < r.length := by omega
    have hil : i < l.length := by omega
    have hj1l : j - 1 < l.length := by omega
    have z1 : ((j - k : Nat) : Int) < ((l.length - k : Nat) : Int) := by omega
    have z2 : ((j - k - 1 : Nat) : Int) < ((l.length - k : Nat) : Int) := by omega
    have e1 : k + (j - k) = j := by omega
    have e2 : k + (j - k - 1) = j - 1 := by omega
    have m2 : IntKind.i64.wrap (((j - k : Nat) : Int) - 1) = ((j - k - 1 : Nat) : Int) := by rw [IntWalk.i64_in _ (by omega)]; omega
    have m3 : IntKind.i64.wrap (((j - k : Nat) : Int) + 1) = ((j + 1 - k : Nat) : Int) := by rw [IntWalk.i64_in _ (by omega)]; omega
    have q0 : r[j - 1] = l[j - 1] ∧ r[j] = l[j] := by
     have a1 : (r.drop (j - 1))[0]? = (l.drop (j - 1))[0]? := by rw [g2]
     have a2 : (r.drop (j - 1))[1]? = (l.drop (j - 1))[1]? := by rw [g2]
     simp only [List.getElem?_drop, Nat.add_zero, show j - 1 + 1 = j by omega, List.getElem?_eq_getElem hjr, List.getElem?_eq_getElem hj1r, List.getElem?_eq_getElem hjl, List.getElem?_eq_getElem hj1l, Option.some.injEq] at a1 a2
     exact ⟨a1, a2⟩
    have q1 : nth (r.map CV.str) j = .str l[j] := by rw [aN hjr, q0.2]
    have q2 : nth (r.map CV.str) (j - 1) = .str l[j - 1] := by rw [aN hj1r, q0.1]
    have g3 : r.drop j = l.drop j := by
     have : (r.drop (j - 1)).drop 1 = (l.drop (j - 1)).drop 1 := by rw [g2]
     rwa [List.drop_drop, List.drop_drop, show j - 1 + 1 = j by omega] at this
    refine aG ?_
    refine T0 (hK _ _ _ ?_)
    clear hK K
    refine aB fun K hK => ?_
    have key : ∀ (i' : Nat) (r' : List aK) fr ob nx, r'.length = l.length → 1 ≤ i' → i' < j + 1 → r'.take i' = bV (l.take (j + 1)) → r'.drop j = l.drop j → Fits 1 fr ob (fin [(0, .own 0 l.length), (3, .c (.int .i64 i')), (4, .osl 0 l.length k 1 l.length), (5, .c (.int .i64 ((j - k : Nat) : Int)))]) (fob [(0, .row 9 1 (r'.map .str))]) 500 → K fr ob nx := by
     rintro i' r' fr ob nx w1 w2 w3 w4 w5 hf
     refine hK _ _ _ (bF hf ?_)
     clear hf hK K
     refine aL (by kernel_rfl) ?_
     refine TQ m3 ?_
     refine ⟨⟨(i', j + 1, r'), w1, w2, w3, hjl, by simp only; omega, w4, w5⟩, fF, ?_⟩
     show l.length - (j + 1) < l.length - j
     omega
    refine aH ?_
    refine aB fun K hK => QR ?_
    iterate 10 refine S0 ?_ (e := fun _ h_ => by simp only [sH, ↓sP, sA, tyS, simprocAttr, hr, m2, e1, e2, z1, z2, q1, q2, hjl, hj1l, hjr, hj1r, Int.natCast_nonneg, Int.ofNat_lt]; exact AX h_)
    refine T2 (hK _ _ _ ?_)
    clear hK K
    refine aJ (b := !(l[j] == l[j - 1])) rfl (fun hb => ?_) (fun hb => ?_)
    ·
     refine aB fun K hK => Rg ?_
     iterate 8 refine S0 ?_ (e := fun _ h_ => by simp only [sH, ↓sP, sA, tyS, simprocAttr, hr, e1, z1, q1, aN hir, hil, hir, hjl, hjr, Int.natCast_nonneg, Int.ofNat_lt, ← List.map_set]; exact AX h_)
     refine T2 (hK _ _ _ ?_)
     clear hK K
     refine aL (by kernel_rfl) ?_
     refine TQ (bK i) ?_
     refine key (i + 1) (r.set i l[j]) _ _ _ (by simp [hr]) (by omega) (by omega) ?_ ?_ (fF)
     ·
      rw [aY5 (by omega) hjl (by simpa using hb), ← g1, List.take_succ_eq_append_getElem (by simp; omega), List.take_set_of_le (by omega)]
      simp
     rw [List.drop_set_of_lt (by omega), g3]
    refine aG (T3 ?_)
    exact key i r _ _ _ hr hi1 (by omega) (by rw [uT (by omega) hjl (by simpa using hb), g1]) g3 (fF)
   have hjl : j = l.length := by simp at hb; omega
   subst hjl
   rw [List.take_length] at g1
   refine aS (T3 ?_)
   clear hK K
   refine AX (hK _ _ _ ?_)
   clear hK K
   refine aB fun K hK => Rg ?_
   have F := hr
   iterate 4 refine SF ?_
   refine T2 (hK _ _ _ ?_)
   clear hK K
   refine aB fun K hK => Rg ?_
   iterate 4 refine SF ?_
   refine T2 (hK _ _ _ ?_)
   clear hK K
   refine aD (RT Tryz.results84 ?_)
   refine qN [0] (.slc ((r.take i).map .str)) ?_ (by rw [g1])
   simp [HV.close, HV.norm, fob_at]
   rw [if_pos ⟨by omega, by omega, by omega⟩]
   show HV.c (CV.slc _) = _
   rw [List.take_append_of_le_length (by simp; omega), List.take_take, Nat.min_self]
  refine aG ?_
  refine T0 (hK _ _ _ ?_)
  clear hK K
  refine aL (by kernel_rfl) ?_
  refine TQ (bK k) ?_
  refine ⟨⟨k + 1, by omega, hlt, aO3 hk1 hlt hb hd⟩, fF, ?_⟩
  show l.length - (k + 1) < l.length - k
  omega
 refine aS (T3 ?_)
 clear hK K
 refine AX (hK _ _ _ ?_)
 clear hK K
 refine R0 ?_
 refine aD (RT Tryz.results84 ?_)
 have hkl : k = l.length := by simp at hb; omega
 subst hkl
 rw [List.take_length] at hd
 exact qN [0] (.slc (l.map .str)) (by simp [HV.close, HV.norm, HV.toC, fob_at]) (by rw [hd])

end Go.Proofs.YtenbfeemmpjdhaaGreatDoor

namespace Go.Proofs.YtenbfeemmpjdhaaGreatDoor
open Go Go.Hl Go.Pl
set_option maxRecDepth 10000
set_option maxHeartbeats 16000000

theorem bT8 (r : Rt) (k : Ky) (t : Int) (hr : rSz r) : aW Tryz.prog 56 [r.cv, k.cv, .int .i64 t] (fun v => v = .bool (rY r k t)) := by
 refine FW Tryz.func56 ?_
 refine R0 ?_
 refine aB fun K hK => DW [(0, [], []), (1, [], []), (2, [], []), (3, [], [0]), (4, [], []), (5, [], []), (6, [], []), (7, [], []), (8, [], []), (9, [], [])] [0, 0, 2, 6, 15, 31, 63, 63, 127, 511] ?_
 iterate 3 refine W0 ?_
 refine aO (g := none) rfl rfl fun K' hK' => T5 ?_
 refine C1 (aQ6 k.p) ?_
 rintro u rfl
 refine AX (hK' _ _ ?_)
 clear hK' K'
 refine aO (g := none) rfl rfl fun K' hK' => T5 ?_
 refine D2 (aP7 r (pid k.p) hr.2.2) ?_
 rintro u v ⟨rfl, rfl⟩
 refine AX (hK' _ _ ?_)
 clear hK' K'
 iterate 5 refine W0 ?_
 refine T2 (hK _ _ _ ?_)
 clear hK K
 refine aB fun K hK => Rg ?_
 iterate 5 refine S0 ?_
 refine aF 20 rfl (fun h2_20 => ?_) (fun h2_20 => ?_)
 ·
  have F := h2_20
  iterate 6 refine SF ?_
  refine aF 25 rfl (fun h2_25 => ?_) (fun h2_25 => ?_)
  ·
   have F := aI h2_20 h2_25
   iterate 6 refine SF ?_
   refine aF 31 rfl (fun h2_31 => ?_) (fun h2_31 => ?_)
   ·
    have F := aI h2_20 (aI h2_25 h2_31)
    iterate 2 refine SF ?_
    refine aF 34 rfl (fun h2_34 => ?_) (fun h2_34 => ?_)
    ·
     have F := aI h2_20 (aI h2_25 (aI h2_31 h2_34))
     iterate 7 refine SF ?_
     refine aF 38 rfl (fun h2_38 => ?_) (fun h2_38 => ?_)
     ·
      simp only [h2_38]
      refine T2 (hK _ _ _ ?_)
      clear hK K
      refine aD (RT Tryz.results56 ?_)
      exact aC [] (.bool false) rfl (by simp only [gA, h2_20, h2_25, h2_31, h2_34, h2_38, Bool.and_true, Bool.and_false, Bool.true_and, Bool.false_and, Bool.not_true, Bool.not_false])
     simp only [h2_38]
     refine T2 (hK _ _ _ ?_)
     clear hK K
     refine aD (RT Tryz.results56 ?_)
     exact aC [] (.bool true) rfl (by simp only [gA, h2_20, h2_25, h2_31, h2_34, h2_38, Bool.and_true, Bool.and_false, Bool.true_and, Bool.false_and, Bool.not_true, Bool.not_false])
    have F := aI h2_20 (aI h2_25 (aI h2_31 h2_34))
    iterate 7 refine SF ?_
    refine T2 (hK _ _ _ ?_)
    clear hK K
    refine aD (RT Tryz.results56 ?_)
    exact aC [] (.bool true) rfl (by simp only [gA, h2_20, h2_25, h2_31, h2_34, Bool.and_true, Bool.and_false, Bool.true_and, Bool.false_and, Bool.not_true, Bool.not_false])
   have F := aI h2_20 (aI h2_25 h2_31)
   iterate 9 refine SF ?_
   refine T2 (hK _ _ _ ?_)
   clear hK K
   refine aD (RT Tryz.results56 ?_)
   exact aC [] (.bool false) rfl (by simp only [gA, h2_20, h2_25, h2_31, Bool.and_true, Bool.and_false, Bool.true_and, Bool.false_and, Bool.not_true, Bool.not_false])
  have F := aI h2_20 h2_25
  iterate 15 refine SF ?_
  refine T2 (hK _ _ _ ?_)
  clear hK K
  refine aD (RT Tryz.results56 ?_)
  exact aC [] (.bool false) rfl (by simp only [gA, h2_20, h2_25, Bool.and_true, Bool.and_false, Bool.true_and, Bool.false_and, Bool.not_true, Bool.not_false])
 have F := h2_20
 iterate 21 refine SF ?_
 refine T2 (hK _ _ _ ?_)
 clear hK K
 refine aD (RT Tryz.results56 ?_)
 exact aC [] (.bool false) rfl (by simp only [gA, h2_20, Bool.and_true, Bool.and_false, Bool.true_and, Bool.false_and, Bool.not_true, Bool.not_false])


theorem bT9 (r : Rt) (l : List Dig) (t : Int) (hr : rSz r) (hl : l.length < 2 ^ 40) (k : Ky) : aW Tryz.prog 121 [k.cv, .rp (.slc (l.map dg)), .rp r.cv, .rp (.int .i64 t)] (fun v => v = .bool (l.contains (kid k) && rY r k t)) := by
 refine FW Tryz.func121 ?_
 refine R0 ?_
 refine aB fun K hK => DW [(0, [], []), (1, [], []), (2, [], []), (3, [], [0]), (4, [], []), (5, [], []), (6, [], []), (7, [], []), (8, [], []), (9, [], []), (10, [], []), (11, [], [])] [0, 0, 2, 6, 15, 31, 63, 63, 63, 511, 1023, 2047] ?_
 have F := @denilL_dg
 iterate 3 refine WF ?_
 refine aO (g := none) rfl rfl fun K' hK' => T6 ?_
 refine C1 (aQ6 k.p) ?_
 rintro u rfl
 refine AX (hK' _ _ ?_)
 clear hK' K'
 refine aO (g := none) rfl rfl fun K' hK' => T6 ?_
 refine C2 (bJ7 l (pid k.p) hl) ?_
 rintro u rfl
 refine AX (hK' _ _ ?_)
 clear hK' K'
 refine WF ?_
 refine bE 10 rfl (fun h1_10 => ?_) (fun h1_10 => ?_)
 ·
  have F := aI @denilL_dg h1_10
  iterate 3 refine WF ?_
  refine aO (g := some (11, true)) rfl rfl fun K' hK' => T6 ?_
  refine C3 (bT8 r k t hr) ?_
  rintro u rfl
  refine AX (hK' _ _ ?_)
  clear hK' K'
  iterate 2 refine WF ?_
  refine bE 15 rfl (fun h1_15 => ?_) (fun h1_15 => ?_)
  ·
   simp only [h1_15]
   refine T2 (hK _ _ _ ?_)
   clear hK K
   refine aD (RT Tryz.results121 ?_)
   exact aC [] (.bool true) rfl (by simp only [kid, h1_10, h1_15, Bool.and_true, Bool.and_false, Bool.true_and, Bool.false_and])
  simp only [h1_15]
  refine T2 (hK _ _ _ ?_)
  clear hK K
  refine aD (RT Tryz.results121 ?_)
  exact aC [] (.bool false) rfl (by simp only [kid, h1_10, h1_15, Bool.and_true, Bool.and_false, Bool.true_and, Bool.false_and])
 have F := aI @denilL_dg h1_10
 iterate 6 refine WF ?_
 refine T2 (hK _ _ _ ?_)
 clear hK K
 refine aD (RT Tryz.results121 ?_)
 exact aC [] (.bool false) rfl (by simp only [kid, h1_10, Bool.and_true, Bool.and_false, Bool.true_and, Bool.false_and])


theorem vV (r : Rt) (role : aK) (g : FuncId) (caps : List CV) (p : Ky → Bool) (hr : rSz r) (hp : ∀ k ∈ r.k, aW Tryz.prog g (k.cv :: caps) (fun v => v = .bool (p k))) :
  aB2 Tryz.prog 36 [.c r.cv, .c (.str role), .clo g (caps.map .c)] (fun v => v = .slc ((wM r.k role p).map .str)) := by
 refine bH Tryz.func36 rfl (by kernel_rfl) (aT0 (by simp [HV.menL, HV.men, HV.menL_c])) (Nat.le_of_ble_eq_true rfl) ?_
 have hlk : r.k.length < 2 ^ 40 := hr.2.1.1
 refine R0 ?_
 refine R0 ?_
 refine aB fun K hK => ?_
 refine aB fun K hK => Rg ?_
 iterate 4 refine S0 ?_
 refine T2 (hK _ _ _ ?_)
 clear hK K
 refine aH ?_
 refine fE 7 0 9 1 rfl rfl rfl rfl ?_
 refine aU (α := {i : Nat // i ≤ r.k.length}) (fun i => (fin [(1, .c (.str role)), (2, .clo g (caps.map .c)), (7, .own 28 (gH (r.k.take i.1) role p).length), (11, .c (.slc (r.k.map Ky.cv))), (12, .c (.int .i64 r.k.length)), (13, .c (.int .i64 i.1))], fob [(28, .row 9 1 ((gH (r.k.take i.1) role p).map .str))])) 100 (fun i => r.k.length - i.1) ⟨0, by omega⟩ (aQ (by omega) (by simp [aY, fin_at, finA_at, upd_at, HV.men, HV.menL, HV.norm, HV.toC, HV.toCL, HV.menL_c, gH]) (by simp [bC, fob_at, upd_at, none0_at, bT, HO.men, HV.men, HV.menL, HV.norm, HV.toC, HV.toCL, gH])) ?_
 rintro ⟨i, hi⟩
 refine R0 ?_
 refine aB fun K hK => ?_
 refine aJ (b := decide ((i : Int) < r.k.length)) rfl (fun hb => ?_) (fun hb => ?_)
 ·
  have hlt : i < r.k.length := by simpa using hb
  have hk := hr.2.1.2 _ (List.getElem_mem hlt)
  have hof := uU (r.k.take i) role p
  have hti : (r.k.take i).length = i := by simp; omega
  refine aG ?_
  refine T0 (hK _ _ _ ?_)
  clear hK K
  refine aB fun K hK => ?_
  have key : ∀ (m : List aK) fr ob nx, m = gH (r.k.take (i + 1)) role p → Fits 0 fr ob (fin [(1, .c (.str role)), (2, .clo g (caps.map .c)), (7, .own 28 m.length), (11, .c (.slc (r.k.map Ky.cv))), (12, .c (.int .i64 r.k.length)), (13, .c (.int .i64 i))]) (fob [(28, .row 9 1 (m.map .str))]) 500 → K fr ob nx := by
   rintro m fr ob nx rfl hf
   refine hK _ _ _ (bF hf ?_)
   clear hf hK K
   refine aL (by kernel_rfl) ?_
   refine TQ (bK i) ?_
   refine ⟨⟨i + 1, hlt⟩, aQ (by omega) (by simp [aY, fin_at, finA_at, upd_at, HV.men, HV.menL, HV.norm, HV.toC, HV.toCL, HV.menL_c]) (by simp [bC, fob_at, upd_at, none0_at, bT, HO.men, HV.men, HV.menL, HV.norm, HV.toC, HV.toCL]), ?_⟩
   show r.k.length - (i + 1) < r.k.length - i
   omega
  refine aH ?_
  refine aB fun K hK => Rg ?_
  have F := aI @Int.natCast_nonneg (aI @Int.ofNat_lt (aI hlt (nM hlt)))
  iterate 4 refine SF ?_
  refine T2 (hK _ _ _ ?_)
  clear hK K
  refine aB fun K hK => Rg ?_
  iterate 3 refine S0 ?_
  refine HS rfl rfl fun K' hK' => T5 ?_
  refine C2 (bR2 r.k[i].rs role hk.2.1) ?_
  rintro u rfl
  refine AX (hK' _ _ ?_)
  clear hK' K'
  refine S0 ?_
  refine aF 20 rfl (fun h5_20 => ?_) (fun h5_20 => ?_)
  ·
   have F := h5_20
   iterate 2 refine SF ?_
   refine bA (g := some (21, true)) rfl rfl fun K' hK' => T6 ?_
   refine fM (args := r.k[i].cv :: caps) (hp _ (List.getElem_mem hlt)) ⟨rfl, rfl, rfl, rfl⟩ ?_
   rintro u rfl
   refine AX (hK' _ _ ?_)
   clear hK' K'
   refine SF ?_
   refine aF 24 rfl (fun h5_24 => ?_) (fun h5_24 => ?_)
   ·
    simp only [h5_24]
    refine T2 (hK _ _ _ ?_)
    clear hK K
    refine CT rfl ?_
    refine Rg ?_
    have F := aI @List.length_append.{0} (aI hti (aI h5_20 h5_24))
    iterate 6 refine SF ?_
    refine T4 ?_
    refine key (gH (r.k.take i) role p ++ [r.k[i].o]) _ _ _ (by rw [jQ hlt]; simp only [h5_20, h5_24, Bool.and_self, if_true]) ?_
    exact aQ (by omega) (by simp [aY, fin_at, finA_at, upd_at, HV.men, HV.menL, HV.norm, HV.toC, HV.toCL, HV.menL_c]) (by simp [bC, fob_at, upd_at, none0_at, bT, HO.men, HV.men, HV.menL, HV.norm, HV.toC, HV.toCL])
   simp only [h5_24]
   refine T2 (hK _ _ _ ?_)
   clear hK K
   refine CF rfl ?_
   refine aG (T3 ?_)
   refine key (gH (r.k.take i) role p) _ _ _ (by rw [jQ hlt]; simp only [h5_20, h5_24, Bool.and_true, Bool.and_false, Bool.true_and, Bool.false_and]; try simp) ?_
   exact aQ (by omega) (by simp [aY, fin_at, finA_at, upd_at, HV.men, HV.menL, HV.norm, HV.toC, HV.toCL, HV.menL_c]) (by simp [bC, fob_at, upd_at, none0_at, bT, HO.men, HV.men, HV.menL, HV.norm, HV.toC, HV.toCL])
  have F := h5_20
  iterate 4 refine SF ?_
  refine T2 (hK _ _ _ ?_)
  clear hK K
  refine CF rfl ?_
  refine aG (T3 ?_)
  refine key (gH (r.k.take i) role p) _ _ _ (by rw [jQ hlt]; simp only [h5_20, Bool.and_true, Bool.and_false, Bool.true_and, Bool.false_and]; try simp) ?_
  exact aQ (by omega) (by simp [aY, fin_at, finA_at, upd_at, HV.men, HV.menL, HV.norm, HV.toC, HV.toCL, HV.menL_c]) (by simp [bC, fob_at, upd_at, none0_at, bT, HO.men, HV.men, HV.menL, HV.norm, HV.toC, HV.toCL])
 have hei : i = r.k.length := by simp at hb; omega
 subst hei
 clear hb
 rw [List.take_length]
 have hof := uU r.k role p
 have hsl : ((gH r.k role p).mergeSort leW).length = (gH r.k role p).length := (List.mergeSort_perm _ _).length_eq
 refine aS (T3 ?_)
 clear hK K
 refine AX (hK _ _ _ ?_)
 clear hK K
 refine aB fun K hK => Rg ?_
 refine S0 ?_
 refine HS rfl rfl fun K' hK' => T5 ?_
 refine aX8 (bT7 (gH r.k role p) (by omega)) rfl rfl (by simp) ⟨rfl, rfl, rfl, rfl⟩ ?_
 refine AX (hK' _ _ ?_)
 clear hK' K'
 refine T2 (hK _ _ _ ?_)
 clear hK K
 refine aB fun K hK => Rg ?_
 refine S0 ?_
 refine HS rfl rfl fun K' hK' => T5 ?_
 refine aX5 (aQ8 ((gH r.k role p).mergeSort leW) (by omega)) rfl (by rw [List.length_map, hsl]) (by simp) ⟨rfl, rfl, rfl, rfl⟩ ?_
 rintro u rfl
 refine AX (hK' _ _ ?_)
 clear hK' K'
 refine S0 ?_
 refine T2 (hK _ _ _ ?_)
 clear hK K
 refine aD (RT Tryz.results36 ?_)
 refine aC [] (.slc ((wM r.k role p).map .str)) ?_ rfl
 rw [bG9]
 exact eT (by simp only [CV.denil, denilL_str])


theorem cA7 (k : Ky) : aW Tryz.prog 37 [k.cv] (fun v => v = .bool true) := by
 refine FW Tryz.func37 ?_
 refine R0 ?_
 refine R0 ?_
 refine aD (RT Tryz.results37 ?_)
 exact aC [] (.bool true) rfl rfl


theorem mM (r : Rt) (hr : rSz r) : aW Tryz.prog 10 [r.cv] (fun v => v = .bool (bQ r)) := by
 refine FW Tryz.func10 ?_
 refine R0 ?_
 refine aB fun K hK => ?_
 refine aB fun K hK => Rg ?_
 iterate 2 refine S0 ?_
 refine HS rfl rfl fun K' hK' => T5 ?_
 refine C2 (kC 1 r.v) ?_
 rintro u rfl
 refine AX (hK' _ _ ?_)
 clear hK' K'
 iterate 2 refine S0 ?_
 refine aF 6 rfl (fun h1_6 => ?_) (fun h1_6 => ?_)
 ·
  have F := h1_6
  iterate 2 refine SF ?_
  refine bA (g := some (8, false)) rfl rfl fun K' hK' => T6 ?_
  refine C2 (kC 0 r.e) ?_
  rintro u rfl
  refine AX (hK' _ _ ?_)
  clear hK' K'
  iterate 3 refine SF ?_
  refine aF 11 rfl (fun h1_11 => ?_) (fun h1_11 => ?_)
  ·
   have F := aI h1_6 h1_11
   iterate 2 refine SF ?_
   refine bA (g := some (14, false)) rfl rfl fun K' hK' => T6 ?_
   refine C1 (bC6 r.q hr.1.1 hr.1.2) ?_
   rintro u rfl
   refine AX (hK' _ _ ?_)
   clear hK' K'
   iterate 3 refine SF ?_
   refine aF 17 rfl (fun h1_17 => ?_) (fun h1_17 => ?_)
   ·
    have F := aI h1_6 (aI h1_11 h1_17)
    iterate 2 refine SF ?_
    refine bA (g := some (20, false)) rfl rfl fun K' hK' => T6 ?_
    refine C1 (bT4 aQ6 r.k hr.2.1.1 hr.2.1.2) ?_
    rintro u rfl
    refine AX (hK' _ _ ?_)
    clear hK' K'
    iterate 3 refine SF ?_
    refine aF 23 rfl (fun h1_23 => ?_) (fun h1_23 => ?_)
    ·
     have F := aI h1_6 (aI h1_11 (aI h1_17 h1_23))
     iterate 2 refine SF ?_
     refine bA (g := some (26, false)) rfl rfl fun K' hK' => T6 ?_
     refine C1 (vT r.x hr.2.2) ?_
     rintro u rfl
     refine AX (hK' _ _ ?_)
     clear hK' K'
     iterate 2 refine SF ?_
     refine aF 29 rfl (fun h1_29 => ?_) (fun h1_29 => ?_)
     ·
      simp only [h1_29]
      refine T2 (hK _ _ _ ?_)
      clear hK K
      refine CF rfl ?_
      refine aG ?_
      refine T0 (hK _ _ _ ?_)
      clear hK K
      refine aB fun K hK => Rg ?_
      have F := aI h1_6 (aI h1_11 (aI h1_17 (aI h1_23 h1_29)))
      refine SF ?_
      refine HS rfl rfl fun K' hK' => T6 ?_
      refine C2 (aU6 r wRoot hr.1.1) ?_
      rintro u rfl
      refine AX (hK' _ _ ?_)
      clear hK' K'
      refine SF ?_
      refine T2 (hK _ _ _ ?_)
      clear hK K
      refine aB fun K hK => Rg ?_
      iterate 3 refine SF ?_
      refine aF 35 rfl (fun h4_35 => ?_) (fun h4_35 => ?_)
      ·
       have F := aI h1_6 (aI h1_11 (aI h1_17 (aI h1_23 (aI h1_29 h4_35))))
       refine SF ?_
       refine bA (g := some (36, true)) rfl rfl fun K' hK' => T6 ?_
       refine tZ (aY7 (vV r wRoot 37 [] (fun _ => true) hr fun k _ => cA7 k)) (by simp [HV.menL, HV.men]) (fun m => by simp [HV.renL, HV.ren]) ⟨rfl, rfl, rfl, rfl⟩ ?_
       rintro u rfl
       refine AX (hK' _ _ ?_)
       clear hK' K'
       iterate 5 refine SF ?_
       refine aF 41 rfl (fun h4_41 => ?_) (fun h4_41 => ?_)
       ·
        simp only [h4_41]
        refine T2 (hK _ _ _ ?_)
        clear hK K
        refine aD (RT Tryz.results10 ?_)
        exact aC [] (.bool true) rfl (by simp only [eP, h1_6, h1_11, h1_17, h1_23, h1_29, h4_35, h4_41, Bool.and_true, Bool.true_and])
       simp only [h4_41]
       refine T2 (hK _ _ _ ?_)
       clear hK K
       refine aD (RT Tryz.results10 ?_)
       exact aC [] (.bool false) rfl (by simp only [eP, h1_6, h1_11, h1_17, h1_23, h1_29, h4_35, h4_41, Bool.and_true, Bool.and_false, Bool.true_and, Bool.false_and])
      have F := aI h1_6 (aI h1_11 (aI h1_17 (aI h1_23 (aI h1_29 h4_35))))
      iterate 7 refine SF ?_
      refine T2 (hK _ _ _ ?_)
      clear hK K
      refine aD (RT Tryz.results10 ?_)
      exact aC [] (.bool false) rfl (by simp only [eP, h1_6, h1_11, h1_17, h1_23, h1_29, h4_35, Bool.and_true, Bool.and_false, Bool.true_and, Bool.false_and])
     simp only [h1_29]
     refine T2 (hK _ _ _ ?_)
     clear hK K
     refine CT rfl ?_
     refine R0 ?_
     refine aD (RT Tryz.results10 ?_)
     exact aC [] (.bool false) rfl (by simp only [eP, h1_6, h1_11, h1_17, h1_23, h1_29, Bool.and_true, Bool.and_false, Bool.true_and, Bool.false_and])
    have F := aI h1_6 (aI h1_11 (aI h1_17 h1_23))
    iterate 5 refine SF ?_
    refine T2 (hK _ _ _ ?_)
    clear hK K
    refine CT rfl ?_
    refine R0 ?_
    refine aD (RT Tryz.results10 ?_)
    exact aC [] (.bool false) rfl (by simp only [eP, h1_6, h1_11, h1_17, h1_23, Bool.and_true, Bool.and_false, Bool.true_and, Bool.false_and])
   have F := aI h1_6 (aI h1_11 h1_17)
   iterate 11 refine SF ?_
   refine T2 (hK _ _ _ ?_)
   clear hK K
   refine CT rfl ?_
   refine R0 ?_
   refine aD (RT Tryz.results10 ?_)
   exact aC [] (.bool false) rfl (by simp only [eP, h1_6, h1_11, h1_17, Bool.and_true, Bool.and_false, Bool.true_and, Bool.false_and])
  have F := aI h1_6 h1_11
  iterate 17 refine SF ?_
  refine T2 (hK _ _ _ ?_)
  clear hK K
  refine CT rfl ?_
  refine R0 ?_
  refine aD (RT Tryz.results10 ?_)
  exact aC [] (.bool false) rfl (by simp only [eP, h1_6, h1_11, Bool.and_true, Bool.and_false, Bool.true_and, Bool.false_and])
 have F := h1_6
 iterate 23 refine SF ?_
 refine T2 (hK _ _ _ ?_)
 clear hK K
 refine CT rfl ?_
 refine R0 ?_
 refine aD (RT Tryz.results10 ?_)
 exact aC [] (.bool false) rfl (by simp only [eP, h1_6, Bool.and_true, Bool.and_false, Bool.true_and, Bool.false_and])


theorem aM0 (r : Rt) (w : aK) (hr : rSz r) : aW Tryz.prog 45 [r.cv, .str w] (fun v => v = .int .i64 (xR r w)) := by
 refine FW Tryz.func45 ?_
 refine R0 ?_
 refine aB fun K hK => ?_
 refine aB fun K hK => Rg ?_
 refine S0 ?_
 refine HS rfl rfl fun K' hK' => T5 ?_
 refine C1 (mM r hr) ?_
 rintro u rfl
 refine AX (hK' _ _ ?_)
 clear hK' K'
 refine S0 ?_
 refine T2 (hK _ _ _ ?_)
 clear hK K
 refine aJ (b := !bQ r) rfl (fun hb => ?_) (fun hb => ?_)
 ·
  refine R0 ?_
  refine aD (RT Tryz.results45 ?_)
  exact aC [] (.int .i64 0) rfl (by unfold xR; rw [if_neg (by simpa using hb)])
 refine aG ?_
 refine T0 (hK _ _ _ ?_)
 clear hK K
 refine aB fun K hK => Rg ?_
 iterate 2 refine S0 ?_
 refine HS rfl rfl fun K' hK' => T5 ?_
 refine C2 (aU6 r w hr.1.1) ?_
 rintro u rfl
 refine AX (hK' _ _ ?_)
 clear hK' K'
 refine S0 ?_
 refine T2 (hK _ _ _ ?_)
 clear hK K
 refine aD (RT Tryz.results45 ?_)
 exact aC [] (.int .i64 _) rfl (by unfold xR; rw [if_pos (by simpa using hb)])


theorem aQ9 (r : Rt) (role : aK) (l : List Dig) (t : Int) (hr : rSz r) (hl : l.length < 2 ^ 40) : aW Tryz.prog 90 [r.cv, .str role, .slc (l.map dg), .int .i64 t] (fun v => v = .slc ((sW r role l t).map .str)) := by
 refine FW Tryz.func90 ?_
 refine aB fun K hK => Rg ?_
 iterate 4 refine S0 ?_
 refine T2 (hK _ _ _ ?_)
 clear hK K
 refine aB fun K hK => ?_
 refine aB fun K hK => Rg ?_
 refine S0 ?_
 refine HS rfl rfl fun K' hK' => T5 ?_
 refine C1 (mM r hr) ?_
 rintro u rfl
 refine AX (hK' _ _ ?_)
 clear hK' K'
 refine S0 ?_
 refine T2 (hK _ _ _ ?_)
 clear hK K
 refine aJ (b := !bQ r) rfl (fun hb => ?_) (fun hb => ?_)
 ·
  refine R0 ?_
  refine aD (RT Tryz.results90 ?_)
  exact aC [] (.slc []) rfl (by unfold sW; rw [if_neg (by simpa using hb)]; rfl)
 refine aG ?_
 refine T0 (hK _ _ _ ?_)
 clear hK K
 refine dQ 4 0 rfl rfl ?_
 refine dQ 6 4 rfl rfl ?_
 refine dQ 7 8 rfl rfl ?_
 refine aB fun K hK => Rg ?_
 iterate 3 refine S0 ?_
 refine HS rfl rfl fun K' hK' => T5 ?_
 refine tZ (vV r role 121 [.rp (.slc (l.map dg)), .rp r.cv, .rp (.int .i64 t)] (fun k => l.contains (kid k) && rY r k t) hr fun k _ => bT9 r l t hr hl k) (by simp [HV.menL, HV.men]) (fun m => by simp [HV.renL, HV.ren]) ⟨rfl, rfl, rfl, rfl⟩ ?_
 rintro u rfl
 refine AX (hK' _ _ ?_)
 clear hK' K'
 refine S0 ?_
 refine T2 (hK _ _ _ ?_)
 clear hK K
 refine aD (RT Tryz.results90 ?_)
 refine aC [] (.slc ((wM r.k role fun k => l.contains (kid k) && rY r k t).map .str)) ?_ (by unfold sW; rw [if_pos (by simpa using hb)])
 exact eT (by simp only [CV.denil, denilL_str])


theorem bC9 (r : Rt) (role : aK) (l : List Dig) (t : Int) (hr : rSz r) (hl : l.length < 2 ^ 40) : aW Tryz.prog 46 [r.cv, .str role, .slc (l.map dg), .int .i64 t] (fun v => v = .bool (uJ r role l t)) := by
 refine FW Tryz.func46 ?_
 refine R0 ?_
 refine aB fun K hK => Rg ?_
 iterate 2 refine S0 ?_
 refine HS rfl rfl fun K' hK' => T5 ?_
 refine C2 (aM0 r role hr) ?_
 rintro u rfl
 refine AX (hK' _ _ ?_)
 clear hK' K'
 refine S0 ?_
 refine T2 (hK _ _ _ ?_)
 clear hK K
 refine aB fun K hK => Rg ?_
 have F := @denilL_dg
 iterate 3 refine SF ?_
 refine aF 14 rfl (fun h2_14 => ?_) (fun h2_14 => ?_)
 ·
  have F := aI @denilL_dg h2_14
  iterate 5 refine SF ?_
  refine bA (g := some (15, true)) rfl rfl fun K' hK' => T6 ?_
  refine C4 (aQ9 r role l t hr hl) ?_
  rintro u rfl
  refine AX (hK' _ _ ?_)
  clear hK' K'
  iterate 4 refine SF ?_
  refine aF 23 rfl (fun h2_23 => ?_) (fun h2_23 => ?_)
  ·
   simp only [h2_23]
   refine T2 (hK _ _ _ ?_)
   clear hK K
   refine aD (RT Tryz.results46 ?_)
   exact aC [] (.bool true) rfl (by simp only [uJ, h2_14, h2_23, Bool.and_true, Bool.and_false, Bool.true_and, Bool.false_and])
  simp only [h2_23]
  refine T2 (hK _ _ _ ?_)
  clear hK K
  refine aD (RT Tryz.results46 ?_)
  exact aC [] (.bool false) rfl (by simp only [uJ, h2_14, h2_23, Bool.and_true, Bool.and_false, Bool.true_and, Bool.false_and])
 have F := aI @denilL_dg h2_14
 iterate 10 refine SF ?_
 refine T2 (hK _ _ _ ?_)
 clear hK K
 refine aD (RT Tryz.results46 ?_)
 exact aC [] (.bool false) rfl (by simp only [uJ, h2_14, Bool.and_true, Bool.and_false, Bool.true_and, Bool.false_and])

end Go.Proofs.YtenbfeemmpjdhaaGreatDoor
