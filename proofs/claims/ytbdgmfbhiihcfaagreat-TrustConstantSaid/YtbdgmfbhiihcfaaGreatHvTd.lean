/- Part of a proof: walks of functions of the program, by contracts, and the rules they use. By an AI agent. -/
import Derived.Test.YtbdgmfbhiihcfaaGreatHvTb
import Derived.Test.YtbdgmfbhiihcfaaGreatHvT1
import Derived.Test.YtbdgmfbhiihcfaaGreatPl11f
import Derived.Sort.Grow
import Derived.Sort.EncStr
import Derived.Shelf.SortM.Plain
import Derived.Shelf.SortM.SortNone
import Derived.Ground.SlgmProg
import Derived.Shelf.Slices.Clone
import Derived.Ground.Names2Prog
import Derived.Test.YtbdgmfbhiihcfaaGreatPl11h
set_option linter.unusedSimpArgs false
set_option linter.unusedVariables false
set_option linter.defProp false
namespace Go.Proofs.YtbdgmfbhiihcfaaGreat
open Go Go.Hl Go.Pl
set_option maxRecDepth 10000
set_option maxHeartbeats 4000000
set_option linter.unusedSimpArgs false
set_option linter.unusedVariables false

theorem rsum_ok (b : List UInt8) (hb40 : b.length < 2 ^ 40) : HPure Tryz.prog 57 [.slc (b.map u8)] (fun v => v = dg (sha b)) := by
 have c0 : IntKind.u64.wrap (b.length : Int) = (b.length : Int) := IntWalk.u64_in _ (by omega)
 have c1 : IntKind.u64.wrap ((b.length : Int) * 8) = ((8 * b.length : Nat) : Int) := by rw [IntWalk.u64_in _ (by omega)]; omega
 refine hfn_walk Tryz.func57 rfl (by kernel_rfl) (locOk_nil _) (Nat.le_of_ble_eq_true rfl) ?_
 refine hw_seq fun K hK => hw_region (by kernel_rfl) ?_
 simp (maxSteps := 4000000) only [↓sP, sA, tyS, simprocAttr]
 repeat refine AI ?_
 refine hK _ _ _ ?_
 clear hK K
 refine hw_seq fun K hK => hw_region (by kernel_rfl) ?_
 simp only [sR, simprocAttr]
 iterate 6
  (refine hlex_step (g := none) rfl rfl fun K' hK' => ?_; simp only [sH, ↓sP, sA, tyS, simprocAttr, cells_u8, List.length_append]; (repeat refine AI ?_); refine hK' _ _ ?_; clear hK' K')
 simp only [sE, ↓reduceIte, simprocAttr]
 repeat refine AI ?_
 refine hK _ _ _ ?_
 clear hK K
 refine hw_seq fun K hK => ?_
 refine hw_block ?_
 refine hw_loop (α := {z : Nat // z ≤ zs b.length}) (fun z => (fin [(0, .c (.slc (b.map u8))), (2, .ptr 0 0), (3, .own 4 (b.length + 1 + z.1))], fob [(0, .box 57 (.c zd)), (4, .row 5 1 ((b ++ [0x80] ++ List.replicate z.1 0).map u8))])) 100 (fun z => zs b.length - z.1) ⟨0, by omega⟩ (fits_fin (by omega) (by simp [FinOk, fin_at, finA_at, upd_at, HV.men, HV.menL, HV.norm, HV.toC, HV.toCL]) (by simp [FobOk, fob_at, upd_at, none0_at, gone, HO.men, HV.men, HV.menL, HV.norm, HV.toC, HV.toCL]; rfl)) ?_
 rintro ⟨z, hz⟩
 have hzb : zs b.length < 64 := by unfold zs; omega
 have hzm : (b.length + 1 + zs b.length) % 64 = 56 := by unfold zs; omega
 have hrl : ((b ++ [0x80] ++ List.replicate z 0).map u8).length = b.length + 1 + z := by simp; omega
 have m1 : (((b.length + 1 + z : Nat) : Int)).tmod 64 = (((b.length + 1 + z) % 64 : Nat) : Int) := rfl
 refine hw_seq fun K hK => ?_
 refine hw_seq fun K hK => hw_region (by kernel_rfl) ?_
 simp only [sR, simprocAttr]
 iterate 4
  (refine hlex_step (g := none) rfl rfl fun K' hK' => ?_; simp only [sH, ↓sP, sA, tyS, simprocAttr, hrl, m1]; (repeat refine AI ?_); refine hK' _ _ ?_; clear hK' K')
 simp only [sE, ↓reduceIte, simprocAttr]
 repeat refine AI ?_
 refine hK _ _ _ ?_
 clear hK K
 refine hw_cond (b := ((((b.length + 1 + z) % 64 : Nat) : Int) != 56)) rfl (fun hb => ?_) (fun hb => ?_)
 ·
  have hne : (b.length + 1 + z) % 64 ≠ 56 := by simp at hb; omega
  have hlt : z < zs b.length := by rcases Nat.lt_or_ge z (zs b.length) with h | h; exact h; exact absurd (by rw [show z = zs b.length by omega]; exact hzm) hne
  refine hw_skip ?_
  simp (maxSteps := 4000000) only [↓sP, sA, tyS, simprocAttr]
  repeat refine AI ?_
  refine hK _ _ _ ?_
  clear hK K
  refine hw_block ?_
  refine hw_region (by kernel_rfl) ?_
  simp only [sR, simprocAttr]
  iterate 4
   (refine hlex_step (g := none) rfl rfl fun K' hK' => ?_; simp only [sH, ↓sP, sA, tyS, simprocAttr, hrl, cells_u8]; (repeat refine AI ?_); refine hK' _ _ ?_; clear hK' K')
  simp only [sE, ↓reduceIte, simprocAttr]
  refine ⟨⟨z + 1, hlt⟩, fits_fin (by omega) (by simp [FinOk, fin_at, finA_at, upd_at, HV.men, HV.menL, HV.norm, HV.toC, HV.toCL]; omega) (by simp [FobOk, fob_at, upd_at, none0_at, gone, HO.men, HV.men, HV.menL, HV.norm, HV.toC, HV.toCL, List.replicate_succ']; rfl), ?_⟩
  show zs b.length - (z + 1) < zs b.length - z
  omega
 ·
  refine hw_exit ?_
  simp (maxSteps := 4000000) only [↓sP, sA, tyS, simprocAttr]
  clear hK K
  repeat refine AI ?_
  refine hK _ _ _ ?_
  clear hK K
  refine hw_seq fun K hK => hw_region (by kernel_rfl) ?_
  simp only [sR, simprocAttr]
  iterate 5
   (refine hlex_step (g := none) rfl rfl fun K' hK' => ?_; simp only [sH, ↓sP, sA, tyS, simprocAttr, c0, c1]; (repeat refine AI ?_); refine hK' _ _ ?_; clear hK' K')
  simp only [sE, ↓reduceIte, simprocAttr]
  repeat refine AI ?_
  refine hK _ _ _ ?_
  clear hK K
  refine hw_seq fun K hK => ?_
  refine hw_seq fun K hK => hw_region (by kernel_rfl) ?_
  simp (maxSteps := 4000000) only [↓sP, sA, tyS, simprocAttr]
  repeat refine AI ?_
  refine hK _ _ _ ?_
  clear hK K
  refine hw_block ?_
  have hez : z = zs b.length := by simp at hb; unfold zs at *; omega
  subst hez
  clear hb
  refine hw_loop (α := {i : Nat // i ≤ 8}) (fun i => (fin [(2, .ptr 0 0), (3, .own 4 (b.length + 1 + zs b.length + i.1)), (4, .c (.int .u64 ((8 * b.length : Nat) : Int))), (5, .c (.int .i64 (7 - (i.1 : Int))))], fob [(0, .box 57 (.c zd)), (4, .row 5 1 ((b ++ [0x80] ++ List.replicate (zs b.length) 0 ++ (len8 b.length).take i.1).map u8))])) 200 (fun i => 8 - i.1) ⟨0, by omega⟩ (fits_fin (by omega) (by simp [FinOk, fin_at, finA_at, upd_at, HV.men, HV.menL, HV.norm, HV.toC, HV.toCL]) (by simp [FobOk, fob_at, upd_at, none0_at, gone, HO.men, HV.men, HV.menL, HV.norm, HV.toC, HV.toCL])) ?_
  rintro ⟨i, hi⟩
  have hrl : ((b ++ [0x80] ++ List.replicate (zs b.length) 0 ++ (len8 b.length).take i).map u8).length = b.length + 1 + zs b.length + i := by simp [len8_len]; omega
  refine hw_seq fun K hK => ?_
  refine hw_seq fun K hK => hw_region (by kernel_rfl) ?_
  simp (maxSteps := 4000000) only [↓sP, sA, tyS, simprocAttr]
  repeat refine AI ?_
  refine hK _ _ _ ?_
  clear hK K
  refine hw_cond (b := decide (0 ≤ 7 - (i : Int))) rfl (fun hb => ?_) (fun hb => ?_)
  ·
   have hi8 : i < 8 := by simp at hb; omega
   have m1 : IntKind.i64.wrap (8 * (7 - (i : Int))) = ((8 * (7 - i) : Nat) : Int) := by rw [IntWalk.i64_in _ (by omega)]; omega
   have m2 : IntKind.u64.wrap ((8 * (7 - i) : Nat) : Int) = ((8 * (7 - i) : Nat) : Int) := IntWalk.u64_in _ (by omega)
   have m3 := byte_shr (8 * b.length) (7 - i) (by omega)
   have m4 : IntKind.i64.wrap (7 - (i : Int) - 1) = 7 - ((i + 1 : Nat) : Int) := by rw [IntWalk.i64_in _ (by omega)]; omega
   refine hw_skip ?_
   simp (maxSteps := 4000000) only [↓sP, sA, tyS, simprocAttr]
   repeat refine AI ?_
   refine hK _ _ _ ?_
   clear hK K
   refine hw_seq fun K hK => ?_
   refine hw_block ?_
   refine hw_region (by kernel_rfl) ?_
   simp only [sR, simprocAttr]
   iterate 10
    (refine hlex_step (g := none) rfl rfl fun K' hK' => ?_; simp only [sH, ↓sP, sA, tyS, simprocAttr, hrl, m1, m2, m3, cells_u8, Int.natCast_nonneg]; (repeat refine AI ?_); refine hK' _ _ ?_; clear hK' K')
   simp only [sE, ↓reduceIte, simprocAttr]
   repeat refine AI ?_
   refine hK _ _ _ ?_
   clear hK K
   refine hw_region (by kernel_rfl) ?_
   simp (maxSteps := 4000000) only [↓sP, sA, tyS, simprocAttr, m4]
   refine ⟨⟨i + 1, hi8⟩, fits_fin (by omega) (by simp [FinOk, fin_at, finA_at, upd_at, HV.men, HV.menL, HV.norm, HV.toC, HV.toCL, len8_len]; omega) (by simp [FobOk, fob_at, upd_at, none0_at, gone, HO.men, HV.men, HV.menL, HV.norm, HV.toC, HV.toCL, len8_take hi8]; rfl), ?_⟩
   show 8 - (i + 1) < 8 - i
   omega
  ·
   refine hw_exit ?_
   simp (maxSteps := 4000000) only [↓sP, sA, tyS, simprocAttr]
   clear hK K
   repeat refine AI ?_
   refine hK _ _ _ ?_
   clear hK K
   have hei : i = 8 := by simp at hb; omega
   subst hei
   clear hb
   rw [padded]
   have hpq : b.length + 1 + zs b.length + 8 = (pad b).length := (pad_len b).symm
   refine hw_close [4] (hw_fits (fr2 := fin [(2, .ptr 0 0), (3, .c (.slc ((pad b).map u8)))]) (ob2 := fob [(0, .box 57 (.c zd))]) (nx2 := 300) (fits_fin (by omega) (by simp [FinOk, clF_at, fin_at, upd_at, fob_at, HV.close, HV.norm, HV.toC, HV.men, denilL_u8, hpq]) (by simp [FobOk, clO_at, fob_at, upd_at, HO.close, HV.close, HO.men, HV.men, HV.norm, HV.toC, zd_denil])) ?_)
   refine hw_seq fun K hK => hw_region (by kernel_rfl) ?_
   simp only [sR, simprocAttr]
   refine hlex_step (g := none) rfl rfl fun K' hK' => ?_
   simp (maxSteps := 4000000) only [sH, ↓sP, sA, tyS, simprocAttr, ws_setAll, wz_len, St_len]
   rw [hbuild_ws (n := 8) St0.l rfl rfl]
   repeat refine AI ?_
   refine hK' _ _ ?_
   clear hK' K'
   iterate 2
    (refine hlex_step (g := none) rfl rfl fun K' hK' => ?_; simp only [sH, ↓sP, sA, tyS, simprocAttr, ws_setAll, wz_len, St_len]; (repeat refine AI ?_); refine hK' _ _ ?_; clear hK' K')
   simp only [sE, ↓reduceIte, simprocAttr]
   repeat refine AI ?_
   refine hK _ _ _ ?_
   clear hK K
   refine hw_seq fun K hK => ?_
   refine hw_seq fun K hK => hw_region (by kernel_rfl) ?_
   simp (maxSteps := 4000000) only [↓sP, sA, tyS, simprocAttr]
   repeat refine AI ?_
   refine hK _ _ _ ?_
   clear hK K
   refine hw_block ?_
   refine hw_loop (α := {x : Nat × St // 64 * x.1 ≤ (pad b).length ∧ x.2 = blk (pad b) x.1 St0}) (fun x => (fin [(2, .ptr 0 0), (3, .c (.slc ((pad b).map u8))), (6, .ptr 304 0), (7, .c (.int .i64 ((64 * x.1.1 : Nat) : Int)))], fob [(0, .box 57 (.c zd)), (304, .box 112 (.c (ws x.1.2.l)))])) 400 (fun x => (pad b).length - 64 * x.1.1) ⟨(0, St0), by omega, rfl⟩ (fits_fin (by omega) (by simp [FinOk, fin_at, finA_at, upd_at, HV.men, HV.menL, HV.norm, HV.toC, HV.toCL]) (by simp [FobOk, fob_at, upd_at, none0_at, gone, HO.men, HV.men, HV.menL, HV.norm, HV.toC, HV.toCL])) ?_
   rintro ⟨⟨q, S⟩, hq, hS⟩
   replace hq : 64 * q ≤ (pad b).length := hq
   replace hS : S = blk (pad b) q St0 := hS
   have hpm := pad_mod b
   have hpl := pad_len b
   have hzb : zs b.length < 64 := by unfold zs; omega
   refine hw_seq fun K hK => ?_
   refine hw_seq fun K hK => hw_region (by kernel_rfl) ?_
   simp only [sR, simprocAttr]
   iterate 4
    (refine hlex_step (g := none) rfl rfl fun K' hK' => ?_; simp only [sH, ↓sP, sA, tyS, simprocAttr]; (repeat refine AI ?_); refine hK' _ _ ?_; clear hK' K')
   simp only [sE, ↓reduceIte, simprocAttr]
   repeat refine AI ?_
   refine hK _ _ _ ?_
   clear hK K
   refine hw_cond (b := decide (((64 * q : Nat) : Int) < ((pad b).length : Int))) rfl (fun hb => ?_) (fun hb => ?_)
   ·
    have hlt : 64 * (q + 1) ≤ (pad b).length := by simp at hb; omega
    have m1 : IntKind.i64.wrap (((64 * q : Nat) : Int) + 64) = ((64 * q + 64 : Nat) : Int) := by rw [IntWalk.i64_in _ (by omega)]; omega
    have z1 : ((64 * q : Nat) : Int) ≤ ((64 * q + 64 : Nat) : Int) := by omega
    have z2 : ((64 * q + 64 : Nat) : Int) ≤ ((pad b).length : Int) := by omega
    have hp : (((pad b).drop (64 * q)).take 64).length = 64 := by rw [List.length_take, List.length_drop]; omega
    refine hw_skip ?_
    simp (maxSteps := 4000000) only [↓sP, sA, tyS, simprocAttr]
    repeat refine AI ?_
    refine hK _ _ _ ?_
    clear hK K
    refine hw_seq fun K hK => ?_
    refine hw_block ?_
    refine hw_draw2 mixed [(0, [], []), (1, [], []), (2, [], []), (3, [], []), (4, [], []), (5, [], []), (6, [], []), (7, [], [])] [0, 0, 0, 0, 8, 30, 63, 127] (by kernel_rfl) (by kernel_rfl) (by kernel_rfl) (by kernel_rfl) rfl (by kernel_rfl) ?_
    iterate 6
     (refine hwalk2_step (g := none) rfl rfl fun K' hK' => ?_; simp only [sH, ↓sP, sA, tyS, simprocAttr, m1, z1, z2, cells_u8, Nat.add_sub_cancel_left, ← List.map_drop, ← List.map_take, denilL_u8, ws_denil, Int.natCast_nonneg, ws_all, St_len, ws_setAll]; (repeat refine AI ?_); refine hK' _ _ ?_; clear hK' K')
    refine hwalk2_step (g := none) rfl rfl fun K' hK' => ?_
    simp (maxSteps := 4000000) only [sH, ↓sP, sA, tyS, simprocAttr, m1, z1, z2, cells_u8, Nat.add_sub_cancel_left, ← List.map_drop, ← List.map_take, denilL_u8, ws_denil, Int.natCast_nonneg, ws_all, St_len, ws_setAll]
    refine call_pure (args := [_, _]) (block_ok S (((pad b).drop (64 * q)).take 64) hp) ⟨rfl, rfl, rfl, rfl⟩ ?_
    rintro u rfl
    repeat refine AI ?_
    refine hK' _ _ ?_
    clear hK' K'
    refine hwalk2_step (g := none) rfl rfl fun K' hK' => ?_
    simp (maxSteps := 4000000) only [sH, ↓sP, sA, tyS, simprocAttr, m1, z1, z2, cells_u8, Nat.add_sub_cancel_left, ← List.map_drop, ← List.map_take, denilL_u8, ws_denil, Int.natCast_nonneg, ws_all, St_len, ws_setAll]
    repeat refine AI ?_
    refine hK' _ _ ?_
    clear hK' K'
    simp only [sE, ↓reduceIte, simprocAttr]
    repeat refine AI ?_
    refine hK _ _ _ ?_
    clear hK K
    refine hw_region (by kernel_rfl) ?_
    simp (maxSteps := 4000000) only [↓sP, sA, tyS, simprocAttr, m1]
    refine ⟨⟨(q + 1, comp S (((pad b).drop (64 * q)).take 64)), hlt, by rw [hS]; rfl⟩, fits_fin (by omega) (by simp [FinOk, fin_at, finA_at, upd_at, HV.men, HV.menL, HV.norm, HV.toC, HV.toCL]; omega) (by simp [FobOk, fob_at, upd_at, none0_at, gone, HO.men, HV.men, HV.menL, HV.norm, HV.toC, HV.toCL]), ?_⟩
    show (pad b).length - 64 * (q + 1) < (pad b).length - 64 * q
    omega
   ·
    refine hw_exit ?_
    simp (maxSteps := 4000000) only [↓sP, sA, tyS, simprocAttr]
    clear hK K
    repeat refine AI ?_
    refine hK _ _ _ ?_
    clear hK K
    refine hw_seq fun K hK => hw_region (by kernel_rfl) ?_
    simp (maxSteps := 4000000) only [↓sP, sA, tyS, simprocAttr]
    repeat refine AI ?_
    refine hK _ _ _ ?_
    clear hK K
    refine hw_seq fun K hK => ?_
    refine hw_seq fun K hK => hw_region (by kernel_rfl) ?_
    simp (maxSteps := 4000000) only [↓sP, sA, tyS, simprocAttr]
    repeat refine AI ?_
    refine hK _ _ _ ?_
    clear hK K
    refine hw_block ?_
    have heq : 64 * q = (pad b).length := by simp at hb; omega
    clear hb
    refine hw_loop (α := {i : Nat // i ≤ 32}) (fun i => (fin [(2, .ptr 0 0), (6, .ptr 304 0), (8, .ptr 416 0), (9, .c (.int .i64 i.1))], fob [(0, .box 57 (.c zd)), (304, .box 112 (.c (ws S.l))), (416, .box 57 (.c (us (outL S i.1))))])) 500 (fun i => 32 - i.1) ⟨0, by omega⟩ (fits_fin (by omega) (by simp [FinOk, fin_at, finA_at, upd_at, HV.men, HV.menL, HV.norm, HV.toC, HV.toCL]) (by simp [FobOk, fob_at, upd_at, none0_at, gone, HO.men, HV.men, HV.menL, HV.norm, HV.toC, HV.toCL]; rfl)) ?_
    rintro ⟨i, hi⟩
    have hol := outL_len S i
    refine hw_seq fun K hK => ?_
    refine hw_seq fun K hK => hw_region (by kernel_rfl) ?_
    simp (maxSteps := 4000000) only [↓sP, sA, tyS, simprocAttr]
    repeat refine AI ?_
    refine hK _ _ _ ?_
    clear hK K
    refine hw_cond (b := decide ((i : Int) < 32)) rfl (fun hb => ?_) (fun hb => ?_)
    ·
     have hi32 : i < 32 := by simp at hb; omega
     have m1 : IntKind.i64.wrap ((i : Int).tdiv 4) = ((i / 4 : Nat) : Int) := by
      rw [show (i : Int).tdiv 4 = ((i / 4 : Nat) : Int) from rfl]; exact IntWalk.i64_in _ (by omega)
     have m2 : (i : Int).tmod 4 = ((i % 4 : Nat) : Int) := rfl
     have m3 : IntKind.i64.wrap (8 * ((i % 4 : Nat) : Int)) = ((8 * (i % 4) : Nat) : Int) := by rw [IntWalk.i64_in _ (by omega)]; omega
     have m4 : IntKind.i64.wrap (24 - ((8 * (i % 4) : Nat) : Int)) = ((24 - 8 * (i % 4) : Nat) : Int) := by rw [IntWalk.i64_in _ (by omega)]; omega
     have m5 : IntKind.u64.wrap ((24 - 8 * (i % 4) : Nat) : Int) = ((24 - 8 * (i % 4) : Nat) : Int) := IntWalk.u64_in _ (by omega)
     have q1 : i / 4 < 8 := by omega
     have z1 : ((i / 4 : Nat) : Int) < 8 := by omega
     have z2 : (i : Int) < 32 := by omega
     have q2 : 24 - 8 * (i % 4) ≤ 32 := by omega
     refine hw_skip ?_
     simp (maxSteps := 4000000) only [↓sP, sA, tyS, simprocAttr]
     repeat refine AI ?_
     refine hK _ _ _ ?_
     clear hK K
     refine hw_seq fun K hK => ?_
     refine hw_block ?_
     refine hw_region (by kernel_rfl) ?_
     simp only [sR, simprocAttr]
     iterate 14
      (refine hlex_step (g := none) rfl rfl fun K' hK' => ?_; simp only [sH, ↓sP, sA, tyS, simprocAttr, m1, m2, m3, m4, m5, q1, z1, z2, q2, hi32, hol, St_len, ws_gw, Int.natCast_nonneg, Nat.mul_one, w_shr, byte_w, us_setb, toCL_c]; (repeat refine AI ?_); refine hK' _ _ ?_; clear hK' K')
     simp only [sE, ↓reduceIte, simprocAttr]
     repeat refine AI ?_
     refine hK _ _ _ ?_
     clear hK K
     refine hw_region (by kernel_rfl) ?_
     simp (maxSteps := 4000000) only [↓sP, sA, tyS, simprocAttr, IntWalk.i64_in _ (show -9223372036854775808 ≤ (i : Int) + 1 ∧ (i : Int) + 1 ≤ 9223372036854775807 by omega)]
     refine ⟨⟨i + 1, hi32⟩, fits_fin (by omega) (by simp [FinOk, fin_at, finA_at, upd_at, HV.men, HV.menL, HV.norm, HV.toC, HV.toCL]) (by simp [FobOk, fob_at, upd_at, none0_at, gone, HO.men, HV.men, HV.menL, HV.norm, HV.toC, HV.toCL]; rfl), ?_⟩
     show 32 - (i + 1) < 32 - i
     omega
    ·
     refine hw_exit ?_
     simp (maxSteps := 4000000) only [↓sP, sA, tyS, simprocAttr]
     clear hK K
     repeat refine AI ?_
     refine hK _ _ _ ?_
     clear hK K
     have hei : i = 32 := by simp at hb; omega
     subst hei
     clear hb
     refine hw_seq fun K hK => hw_region (by kernel_rfl) ?_
     simp (maxSteps := 4000000) only [↓sP, sA, tyS, simprocAttr, us_all, hol]
     repeat refine AI ?_
     refine hK _ _ _ ?_
     clear hK K
     refine hw_ret ?_
     simp (maxSteps := 4000000) only [hpost, Tryz.results57, hresL, hres1, tupOf, ↓sP, sA, tyS, simprocAttr]
     simp only [us_all hol, Option.map_some]
     refine hret_pure [] (us (outL S 32)) (close_c (us_denil _)) ?_
     have e9 : q = (pad b).length / 64 := by omega
     rw [outL_all, hS, ← sha_out, ← e9]


theorem pid_ok (p : Pk) : HPure Tryz.prog 32 [p.cv] (fun v => v = dg (pid p)) := by
 refine hfn_walk Tryz.func32 rfl (by kernel_rfl) (locOk_nil _) (Nat.le_of_ble_eq_true rfl) ?_
 refine hw_seq fun K hK => hw_region (by kernel_rfl) ?_
 simp (maxSteps := 4000000) only [↓sP, sA, tyS, simprocAttr]
 repeat refine AI ?_
 refine hK _ _ _ ?_
 clear hK K
 refine hw_freeze 1 0 rfl rfl ?_
 refine hw_seq fun K hK => hw_draw2 mixed [(0, [], []), (1, [], []), (2, [], []), (3, [], []), (4, [3], []), (5, [3], []), (6, [], []), (7, [], []), (8, [], [])] [0, 1, 3, 7, 0, 16, 63, 127, 255] (by kernel_rfl) (by kernel_rfl) (by kernel_rfl) (by kernel_rfl) rfl (by kernel_rfl) ?_
 iterate 7
  (refine hwalk2_step (g := none) rfl rfl fun K' hK' => ?_; simp only [sH, ↓sP, sA, tyS, simprocAttr, gone_at, u8_ofInt, hf_us, p.r.2, hf_take, cells_u8, List.drop_zero, denilL_u8]; (repeat refine AI ?_); refine hK' _ _ ?_; clear hK' K')
 refine hwalk2_step (g := none) rfl rfl fun K' hK' => ?_
 simp (maxSteps := 4000000) only [sH, ↓sP, sA, tyS, simprocAttr, gone_at, u8_ofInt, hf_us, p.r.2, hf_take, cells_u8, List.drop_zero, denilL_u8]
 refine call_close (e := 5) (sz := 1) (l := (keyIn (UInt8.ofNat (p.h.emod 256).toNat) p.r.1).map u8) [] [] (dsum_ok (keyIn (UInt8.ofNat (p.h.emod 256).toNat) p.r.1) (by simp [keyIn, p.r.2])) rfl (by simp [keyIn, p.r.2]) (by simp) ⟨rfl, rfl, rfl, rfl⟩ ?_
 rintro u rfl
 repeat refine AI ?_
 refine hK' _ _ ?_
 clear hK' K'
 refine hwalk2_step (g := none) rfl rfl fun K' hK' => ?_
 simp (maxSteps := 4000000) only [sH, ↓sP, sA, tyS, simprocAttr, gone_at, u8_ofInt, hf_us, p.r.2, hf_take, cells_u8, List.drop_zero, denilL_u8]
 repeat refine AI ?_
 refine hK' _ _ ?_
 clear hK' K'
 simp only [sE, ↓reduceIte, simprocAttr]
 repeat refine AI ?_
 refine hK _ _ _ ?_
 clear hK K
 refine hw_ret ?_
 simp (maxSteps := 4000000) only [hpost, Tryz.results32, hresL, hres1, tupOf, ↓sP, sA, tyS, simprocAttr]
 exact hret_pure [] (dg (pid p)) rfl rfl


theorem rid_ok (p : Pk) : HPure Tryz.prog 35 [p.cv] (fun v => v = dg (pid p)) := by
 refine hfn_walk Tryz.func35 rfl (by kernel_rfl) (locOk_nil _) (Nat.le_of_ble_eq_true rfl) ?_
 refine hw_seq fun K hK => hw_region (by kernel_rfl) ?_
 simp (maxSteps := 4000000) only [↓sP, sA, tyS, simprocAttr]
 repeat refine AI ?_
 refine hK _ _ _ ?_
 clear hK K
 refine hw_seq fun K hK => hw_region (by kernel_rfl) ?_
 simp only [sR, simprocAttr]
 iterate 5
  (refine hlex_step (g := none) rfl rfl fun K' hK' => ?_; simp only [sH, ↓sP, sA, tyS, simprocAttr, u8_ofInt]; (repeat refine AI ?_); refine hK' _ _ ?_; clear hK' K')
 simp only [sE, ↓reduceIte, simprocAttr]
 repeat refine AI ?_
 refine hK _ _ _ ?_
 clear hK K
 refine hw_freeze 1 0 rfl rfl ?_
 refine hw_seq fun K hK => hw_region (by kernel_rfl) ?_
 simp only [sR, simprocAttr]
 iterate 4
  (refine hlex_step (g := none) rfl rfl fun K' hK' => ?_; simp only [sH, ↓sP, sA, tyS, simprocAttr, gone_at, hf_us, p.r.2, hf_take, cells_u8, List.drop_zero, denilL_u8]; (repeat refine AI ?_); refine hK' _ _ ?_; clear hK' K')
 refine hlex_step (g := none) rfl rfl fun K' hK' => ?_
 simp (maxSteps := 4000000) only [sH, ↓sP, sA, tyS, simprocAttr, gone_at, hf_us, p.r.2, hf_take, cells_u8, List.drop_zero, denilL_u8]
 refine call_close (e := 5) (sz := 1) (l := (keyIn (UInt8.ofNat (p.h.emod 256).toNat) p.r.1).map u8) [] [] (rsum_ok (keyIn (UInt8.ofNat (p.h.emod 256).toNat) p.r.1) (by simp [keyIn, p.r.2])) rfl (by simp [keyIn, p.r.2]) (by simp) ⟨rfl, rfl, rfl, rfl⟩ ?_
 rintro u rfl
 repeat refine AI ?_
 refine hK' _ _ ?_
 clear hK' K'
 refine hlex_step (g := none) rfl rfl fun K' hK' => ?_
 simp (maxSteps := 4000000) only [sH, ↓sP, sA, tyS, simprocAttr, gone_at, hf_us, p.r.2, hf_take, cells_u8, List.drop_zero, denilL_u8]
 repeat refine AI ?_
 refine hK' _ _ ?_
 clear hK' K'
 simp only [sE, ↓reduceIte, simprocAttr]
 repeat refine AI ?_
 refine hK _ _ _ ?_
 clear hK K
 refine hw_ret ?_
 simp (maxSteps := 4000000) only [hpost, Tryz.results35, hresL, hres1, tupOf, ↓sP, sA, tyS, simprocAttr]
 exact hret_pure [] (dg (pid p)) rfl rfl

end Go.Proofs.YtbdgmfbhiihcfaaGreat

namespace Go.Hl
open Go Go.RowKit Go.Sort Go.Proofs

def HSort (P : Program) (f : FuncId) (e : TypeId) (ss : List (List UInt8)) : Prop :=
  HFn P f [.own 0 ss.length] 1 (fob [(0, .row e 1 (ss.map .str))]) (fun r ob' => r = .tup [] ∧ ob' = fob [(0, .row e 1 ((ss.mergeSort leW).map .str))])

theorem repL_strs_inv {w : World} {O : Nat → Prop} : ∀ {ss : List (List UInt8)} {xs : List Value}, RepL w O (ss.map CV.str) xs → xs = ss.map skey
  | [], xs, h => by simpa [RepL] using h
  | s :: ss, xs, h => by
    simp only [List.map_cons, RepL, RepC] at h
    obtain ⟨c1, c2, rfl, rfl, h2⟩ := h
    rw [repL_strs_inv h2]
    rfl
theorem putCells_take (S : List (List UInt8)) (cur : Array Value) (h : S.length ≤ cur.size) : (putCells encStr 0 S.toArray cur).toList.take S.length = S.map skey := by
  apply List.ext_getElem?
  intro i
  by_cases hi : i < S.length
  · rw [List.getElem?_take, if_pos hi, List.getElem?_map]
    have hc : i < cur.size := by omega
    simp only [putCells, Array.getElem?_toList, Array.getElem?_mapIdx, Array.getElem?_eq_getElem hc, Option.map_some, List.getElem?_eq_getElem hi]
    rw [if_pos ⟨by omega, by simpa using hi⟩]
    simp [hi]
    rfl
  · rw [List.getElem?_take, if_neg hi, List.getElem?_eq_none (by simpa using hi)]

theorem hfn_sort {P : Program} {f : FuncId} {e : TypeId} {ss : List (List UInt8)} (hok : callOk P f = true)
    (hc : ∀ (blk cap : Nat) (w : World), Holds encStr w blk 0 ss.toArray → blk < w.heap.size → Calls P f #[.slice (some ⟨blk, 0, none⟩) ss.length cap] w fun x w' => x = .returned (.tuple #[]) ∧ ∃ n os, w' = grow (putRow encStr (Sort.ahead w n) blk 0 (ss.mergeSort leW).toArray) os)
    (hc0 : ∀ (cap : Nat) (w : World), Calls P f #[.slice none 0 cap] w fun x w' => x = .returned (.tuple #[]) ∧ w' = w) : HSort P f e ss := by
  refine ⟨fnOk_of hok, fun w ρ X xs hS hA hX => Does.of hok ?_⟩
  obtain ⟨h, ys, hρ, hL, hcs, how⟩ := hS.objs 0 (.row e 1 (ss.map .str)) rfl
  have hys := repL_strs_inv hL
  subst hys
  have hlen : hlen h = ss.length := by have := ownsRow_size how; simpa using this
  have hargs : xs = [h] := by
    rw [repHV_cons] at hA
    obtain ⟨y, zs, rfl, hy, hz⟩ := hA
    simp only [RepHV] at hz
    subst hz
    obtain ⟨hy1, hy2⟩ := hy
    have hag : Value.isAgg' y = false := by rw [← hy2]; rfl
    rw [cells_single hag] at hy1
    simp only [RepH, List.cons.injEq, and_true] at hy1
    obtain ⟨x, rfl, _, hx⟩ := hy1
    rw [(hx h hρ).2 hlen]
  subst hargs
  have hrt : ∀ w' : World, RepV w' ρ (Owned ρ X) (.tup []) (.tuple #[]) := fun w' => by
    refine ⟨?_, rfl⟩
    simp only [RepH]
    exact ⟨[], rfl, by simp [RepHV]⟩
  rcases how.2 with ⟨rfl, hz⟩ | ⟨g, cap, cur, rfl, hg0, hg, hcap, hmax, hcsz, htake⟩
  · have : ss = [] := List.eq_nil_of_length_eq_zero (by simpa using hz)
    subst this
    refine (hc0 0 w).mono ?_
    rintro ex w' ⟨rfl, rfl⟩
    refine ⟨.tup [], _, ρ, .tuple #[], rfl, ⟨rfl, rfl⟩, ⟨hrt _, by simpa using hS, by simp [HV.men, HV.menL], fun i o ho => ?_, Stay2.refl _ _, Moves.refl _ _⟩⟩
    simp only [fob_at, fob_nil] at ho
    split at ho
    · rename_i e0; subst e0; cases ho; exact ⟨by omega, trivial⟩
    · cases ho
  · simp only [List.length_map, Nat.mul_one] at hcap hcsz htake
    have hgs : g < w.heap.size := (Array.getElem?_eq_some_iff.1 hg).1
    have hH : Holds encStr w g 0 ss.toArray := fun j hj => by
      have hj' : j < ss.length := by simpa using hj
      refine ⟨?_, by simp [World.frozen?, hg]⟩
      have e1 : cur.toList[j]? = some (skey ss[j]) := by
        have : (cur.toList.take ss.length)[j]? = (ss.map skey)[j]? := by rw [htake]
        rw [List.getElem?_take, if_pos hj', List.getElem?_map, List.getElem?_eq_getElem hj'] at this
        simpa using this
      rw [Array.getElem?_toList] at e1
      simp only [World.cell?, hg, Nat.zero_add, e1]
      simp [hj']
      rfl
    simp only [List.length_map]
    refine (hc g cap w hH hgs).mono ?_
    rintro ex w' ⟨rfl, n, os, rfl⟩
    obtain ⟨S, hSd⟩ : ∃ S, S = ss.mergeSort leW := ⟨_, rfl⟩
    rw [← hSd]
    have hSl : S.length = ss.length := by rw [hSd]; exact (List.mergeSort_perm ss _).length_eq
    have hother : ∀ b, b < w.heap.size → b ≠ g → (grow (putRow encStr (Sort.ahead w n) g 0 S.toArray) os).heap[b]? = w.heap[b]? := fun b hb hne => by
      simp only [grow, putRow, mapBlock, Sort.ahead]
      rw [Array.getElem?_append_left (by simpa using hb), Array.getElem?_modify, if_neg (fun h => hne h.symm)]
    have hthis : (grow (putRow encStr (Sort.ahead w n) g 0 S.toArray) os).heap[g]? = some (.cells (putCells encStr 0 S.toArray cur) e (0, 0)) := by
      simp only [grow, putRow, mapBlock, Sort.ahead]
      rw [Array.getElem?_append_left (by simpa using hgs), Array.getElem?_modify, if_pos rfl, hg]
      rfl
    have hs2 : Stay2 w (Own ρ) (grow (putRow encStr (Sort.ahead w n) g 0 S.toArray) os) (Own ρ) := ⟨fun b hb hno => hother b hb (fun e' => hno ⟨0, _, hρ, by rw [e']; rfl⟩), fun _ h => .inl h, by simp [grow, putRow, mapBlock, Sort.ahead], rfl, rfl, rfl⟩
    refine ⟨.tup [], _, ρ, .tuple #[], rfl, ⟨rfl, rfl⟩, ⟨hrt _, ⟨fun i o ho => ?_, fun i hi => hS.none i ?_, hS.apart, hS.xb⟩, by simp [HV.men, HV.menL], fun i o ho => ?_, hs2, Moves.refl _ _⟩⟩
    · simp only [fob_at, fob_nil] at ho
      split at ho
      · rename_i e0; subst e0; cases ho
        refine ⟨_, S.map skey, hρ, repL_strs S, fun v hv => ?_, by simp, .inr ⟨g, cap, putCells encStr 0 S.toArray cur, by simp [hSl], Nat.zero_le _, hthis, by simp [hSl]; exact hcap, hmax, ?_, ?_⟩⟩
        · obtain ⟨s, _, rfl⟩ := List.mem_map.1 hv; rfl
        · rw [← hcsz]; simp [putCells]
        · simp only [List.length_map, Nat.mul_one]
          exact putCells_take S cur (by omega)
      · cases ho
    · simp only [fob_at, fob_nil] at hi ⊢
      split at hi
      · cases hi
      · rename_i hne; rw [if_neg hne]
    · simp only [fob_at, fob_nil] at ho
      split at ho
      · rename_i e0; subst e0; cases ho; exact ⟨by omega, trivial⟩
      · cases ho

theorem call_sort {P : Program} {av : List Nat} {f : FuncId} {ob : Ob} {nid id n : Nat} {K : HV → Ob → Prop} {e : TypeId} {ss : List (List UInt8)} (h : HSort P f e ss) (hid : ob id = some (.row e 1 (ss.map .str))) (hn : n = ss.length) (hav : id ∉ av)
    (hfree : Free4 ob nid) (hK : K (.tup []) (upd ob id (some (.row e 1 ((ss.mergeSort leW).map .str))))) : HCall P av f [.own id n] ob nid K := by
  have h0 : sub [id] nid 0 = id := rfl
  subst hn
  refine ⟨[id], _, _, _, h, by simpa using locOk_take e 1 ss.length (ss.map .str), ⟨by simp, by simpa using hav⟩, by simp only [HV.renL, HV.ren, h0], fun j o hj => ?_, fun r lob' hR _ => ?_⟩
  · simp only [fob_at, fob_nil] at hj
    split at hj
    · rename_i e0; subst e0; cases hj; simpa [HO.ren] using hid
    · cases hj
  · obtain ⟨rfl, rfl⟩ := hR
    have e : obAfter ob [id] nid (fob [(0, .row e 1 ((ss.mergeSort leW).map .str))]) = upd ob id (some (.row e 1 ((ss.mergeSort leW).map .str))) := by
      funext i
      by_cases e : i = id
      · subst e
        simp only [obAfter, upd_same, List.findIdx?_cons, beq_self_eq_true, if_true, fob_at, Option.map_some]
        rfl
      · have e' : (id == i) = false := by simp; exact fun h => e h.symm
        simp only [obAfter, List.findIdx?_cons, e', List.findIdx?_nil, Option.map_none, upd_ne _ _ e]
        simp only [Bool.false_eq_true, if_false]
        split
        · rename_i hr
          have h1 : [id].length + (i - nid) ≠ 0 := by simp
          rw [fob_at, if_neg h1, fob_nil]
          have : i = nid ∨ i = nid + 1 ∨ i = nid + 2 ∨ i = nid + 3 := by omega
          rcases this with rfl | rfl | rfl | rfl
          · exact hfree.1.symm
          · exact hfree.2.1.symm
          · exact hfree.2.2.1.symm
          · exact hfree.2.2.2.symm
        · rfl
    rw [e]
    exact hK
end Go.Hl

namespace Go.Hl
open Go Go.RowKit Go.Sort Go.Proofs

def leZ (x y : Int) : Bool := decide (x ≤ y)
theorem repL_ints {w : World} {O : Nat → Prop} : ∀ (l : List Int), RepL w O (l.map (CV.int .i64)) (l.map (Value.int .i64))
  | [] => by simp [RepL]
  | x :: l => by simp only [List.map_cons, RepL]; exact ⟨[Value.int .i64 x], _, rfl, by simp [RepC], repL_ints l⟩
def HSortI (P : Program) (f : FuncId) (e : TypeId) (ss : List Int) : Prop :=
  HFn P f [.own 0 ss.length] 1 (fob [(0, .row e 1 (ss.map (.int .i64)))]) (fun r ob' => r = .tup [] ∧ ob' = fob [(0, .row e 1 ((ss.mergeSort leZ).map (.int .i64)))])

theorem repL_ints_inv {w : World} {O : Nat → Prop} : ∀ {ss : List Int} {xs : List Value}, RepL w O (ss.map (CV.int .i64)) xs → xs = ss.map (Value.int .i64)
  | [], xs, h => by simpa [RepL] using h
  | s :: ss, xs, h => by
    simp only [List.map_cons, RepL, RepC] at h
    obtain ⟨c1, c2, rfl, rfl, h2⟩ := h
    rw [repL_ints_inv h2]
    rfl
theorem putCells_takeI (S : List Int) (cur : Array Value) (h : S.length ≤ cur.size) : (putCells (Value.int .i64) 0 S.toArray cur).toList.take S.length = S.map (Value.int .i64) := by
  apply List.ext_getElem?
  intro i
  by_cases hi : i < S.length
  · rw [List.getElem?_take, if_pos hi, List.getElem?_map]
    have hc : i < cur.size := by omega
    simp only [putCells, Array.getElem?_toList, Array.getElem?_mapIdx, Array.getElem?_eq_getElem hc, Option.map_some, List.getElem?_eq_getElem hi]
    rw [if_pos ⟨by omega, by simpa using hi⟩]
    simp [hi]
  · rw [List.getElem?_take, if_neg hi, List.getElem?_eq_none (by simpa using hi)]

theorem hfn_sorti {P : Program} {f : FuncId} {e : TypeId} {ss : List Int} (hok : callOk P f = true)
    (hc : ∀ (blk cap : Nat) (w : World), Holds (Value.int .i64) w blk 0 ss.toArray → blk < w.heap.size → Calls P f #[.slice (some ⟨blk, 0, none⟩) ss.length cap] w fun x w' => x = .returned (.tuple #[]) ∧ ∃ n os, w' = grow (putRow (Value.int .i64) (Sort.ahead w n) blk 0 (ss.mergeSort leZ).toArray) os)
    (hc0 : ∀ (cap : Nat) (w : World), Calls P f #[.slice none 0 cap] w fun x w' => x = .returned (.tuple #[]) ∧ w' = w) : HSortI P f e ss := by
  refine ⟨fnOk_of hok, fun w ρ X xs hS hA hX => Does.of hok ?_⟩
  obtain ⟨h, ys, hρ, hL, hcs, how⟩ := hS.objs 0 (.row e 1 (ss.map (.int .i64))) rfl
  have hys := repL_ints_inv hL
  subst hys
  have hlen : hlen h = ss.length := by have := ownsRow_size how; simpa using this
  have hargs : xs = [h] := by
    rw [repHV_cons] at hA
    obtain ⟨y, zs, rfl, hy, hz⟩ := hA
    simp only [RepHV] at hz
    subst hz
    obtain ⟨hy1, hy2⟩ := hy
    have hag : Value.isAgg' y = false := by rw [← hy2]; rfl
    rw [cells_single hag] at hy1
    simp only [RepH, List.cons.injEq, and_true] at hy1
    obtain ⟨x, rfl, _, hx⟩ := hy1
    rw [(hx h hρ).2 hlen]
  subst hargs
  have hrt : ∀ w' : World, RepV w' ρ (Owned ρ X) (.tup []) (.tuple #[]) := fun w' => by
    refine ⟨?_, rfl⟩
    simp only [RepH]
    exact ⟨[], rfl, by simp [RepHV]⟩
  rcases how.2 with ⟨rfl, hz⟩ | ⟨g, cap, cur, rfl, hg0, hg, hcap, hmax, hcsz, htake⟩
  · have : ss = [] := List.eq_nil_of_length_eq_zero (by simpa using hz)
    subst this
    refine (hc0 0 w).mono ?_
    rintro ex w' ⟨rfl, rfl⟩
    refine ⟨.tup [], _, ρ, .tuple #[], rfl, ⟨rfl, rfl⟩, ⟨hrt _, by simpa using hS, by simp [HV.men, HV.menL], fun i o ho => ?_, Stay2.refl _ _, Moves.refl _ _⟩⟩
    simp only [fob_at, fob_nil] at ho
    split at ho
    · rename_i e0; subst e0; cases ho; exact ⟨by omega, trivial⟩
    · cases ho
  · simp only [List.length_map, Nat.mul_one] at hcap hcsz htake
    have hgs : g < w.heap.size := (Array.getElem?_eq_some_iff.1 hg).1
    have hH : Holds (Value.int .i64) w g 0 ss.toArray := fun j hj => by
      have hj' : j < ss.length := by simpa using hj
      refine ⟨?_, by simp [World.frozen?, hg]⟩
      have e1 : cur.toList[j]? = some (Value.int .i64 ss[j]) := by
        have : (cur.toList.take ss.length)[j]? = (ss.map (Value.int .i64))[j]? := by rw [htake]
        rw [List.getElem?_take, if_pos hj', List.getElem?_map, List.getElem?_eq_getElem hj'] at this
        simpa using this
      rw [Array.getElem?_toList] at e1
      simp only [World.cell?, hg, Nat.zero_add, e1]
      simp [hj']
    simp only [List.length_map]
    refine (hc g cap w hH hgs).mono ?_
    rintro ex w' ⟨rfl, n, os, rfl⟩
    obtain ⟨S, hSd⟩ : ∃ S, S = ss.mergeSort leZ := ⟨_, rfl⟩
    rw [← hSd]
    have hSl : S.length = ss.length := by rw [hSd]; exact (List.mergeSort_perm ss _).length_eq
    have hother : ∀ b, b < w.heap.size → b ≠ g → (grow (putRow (Value.int .i64) (Sort.ahead w n) g 0 S.toArray) os).heap[b]? = w.heap[b]? := fun b hb hne => by
      simp only [grow, putRow, mapBlock, Sort.ahead]
      rw [Array.getElem?_append_left (by simpa using hb), Array.getElem?_modify, if_neg (fun h => hne h.symm)]
    have hthis : (grow (putRow (Value.int .i64) (Sort.ahead w n) g 0 S.toArray) os).heap[g]? = some (.cells (putCells (Value.int .i64) 0 S.toArray cur) e (0, 0)) := by
      simp only [grow, putRow, mapBlock, Sort.ahead]
      rw [Array.getElem?_append_left (by simpa using hgs), Array.getElem?_modify, if_pos rfl, hg]
      rfl
    have hs2 : Stay2 w (Own ρ) (grow (putRow (Value.int .i64) (Sort.ahead w n) g 0 S.toArray) os) (Own ρ) := ⟨fun b hb hno => hother b hb (fun e' => hno ⟨0, _, hρ, by rw [e']; rfl⟩), fun _ h => .inl h, by simp [grow, putRow, mapBlock, Sort.ahead], rfl, rfl, rfl⟩
    refine ⟨.tup [], _, ρ, .tuple #[], rfl, ⟨rfl, rfl⟩, ⟨hrt _, ⟨fun i o ho => ?_, fun i hi => hS.none i ?_, hS.apart, hS.xb⟩, by simp [HV.men, HV.menL], fun i o ho => ?_, hs2, Moves.refl _ _⟩⟩
    · simp only [fob_at, fob_nil] at ho
      split at ho
      · rename_i e0; subst e0; cases ho
        refine ⟨_, S.map (Value.int .i64), hρ, repL_ints S, fun v hv => ?_, by simp, .inr ⟨g, cap, putCells (Value.int .i64) 0 S.toArray cur, by simp [hSl], Nat.zero_le _, hthis, by simp [hSl]; exact hcap, hmax, ?_, ?_⟩⟩
        · obtain ⟨s, _, rfl⟩ := List.mem_map.1 hv; rfl
        · rw [← hcsz]; simp [putCells]
        · simp only [List.length_map, Nat.mul_one]
          exact putCells_takeI S cur (by omega)
      · cases ho
    · simp only [fob_at, fob_nil] at hi ⊢
      split at hi
      · cases hi
      · rename_i hne; rw [if_neg hne]
    · simp only [fob_at, fob_nil] at ho
      split at ho
      · rename_i e0; subst e0; cases ho; exact ⟨by omega, trivial⟩
      · cases ho

theorem call_sorti {P : Program} {av : List Nat} {f : FuncId} {ob : Ob} {nid id n : Nat} {K : HV → Ob → Prop} {e : TypeId} {ss : List Int} (h : HSortI P f e ss) (hid : ob id = some (.row e 1 (ss.map (.int .i64)))) (hn : n = ss.length) (hav : id ∉ av)
    (hfree : Free4 ob nid) (hK : K (.tup []) (upd ob id (some (.row e 1 ((ss.mergeSort leZ).map (.int .i64)))))) : HCall P av f [.own id n] ob nid K := by
  have h0 : sub [id] nid 0 = id := rfl
  subst hn
  refine ⟨[id], _, _, _, h, by simpa using locOk_take e 1 ss.length (ss.map (.int .i64)), ⟨by simp, by simpa using hav⟩, by simp only [HV.renL, HV.ren, h0], fun j o hj => ?_, fun r lob' hR _ => ?_⟩
  · simp only [fob_at, fob_nil] at hj
    split at hj
    · rename_i e0; subst e0; cases hj; simpa [HO.ren] using hid
    · cases hj
  · obtain ⟨rfl, rfl⟩ := hR
    have e : obAfter ob [id] nid (fob [(0, .row e 1 ((ss.mergeSort leZ).map (.int .i64)))]) = upd ob id (some (.row e 1 ((ss.mergeSort leZ).map (.int .i64)))) := by
      funext i
      by_cases e : i = id
      · subst e
        simp only [obAfter, upd_same, List.findIdx?_cons, beq_self_eq_true, if_true, fob_at, Option.map_some]
        rfl
      · have e' : (id == i) = false := by simp; exact fun h => e h.symm
        simp only [obAfter, List.findIdx?_cons, e', List.findIdx?_nil, Option.map_none, upd_ne _ _ e]
        simp only [Bool.false_eq_true, if_false]
        split
        · rename_i hr
          have h1 : [id].length + (i - nid) ≠ 0 := by simp
          rw [fob_at, if_neg h1, fob_nil]
          have : i = nid ∨ i = nid + 1 ∨ i = nid + 2 ∨ i = nid + 3 := by omega
          rcases this with rfl | rfl | rfl | rfl
          · exact hfree.1.symm
          · exact hfree.2.1.symm
          · exact hfree.2.2.1.symm
          · exact hfree.2.2.2.symm
        · rfl
    rw [e]
    exact hK
end Go.Hl

namespace Go.Hl
open Go Go.RowKit

theorem hpure_clone {P : Program} {f : FuncId} {e : TypeId} {l : List (List UInt8)} (hok : callOk P f = true) (hbig : l.length * 16 ≤ 140737488355328)
    (hc : ∀ (b off c : Nat) (w : World), (∀ j, j < l.length → w.cell? ⟨b, off + j, none⟩ = some (skey (l.getD j []))) → Calls P f #[.slice (some ⟨b, off, none⟩) l.length c] w fun x w' => ∃ v', x = .returned v' ∧ w'.ownsRow w.heap.size e 1 v' l.length (l.map skey) ∧ v' ≠ .slice none 0 0 ∧ Below w.heap.size w w')
    (hc0 : ∀ (c : Nat) (w : World), Calls P f #[.slice none 0 c] w fun x w' => x = .returned (.slice none 0 0) ∧ w' = w)
    (hcz : ∀ (a : Addr) (c : Nat) (w : World), Calls P f #[.slice (some a) 0 c] w fun x w' => ∃ v', x = .returned v' ∧ w'.ownsRow w.heap.size e 1 v' 0 [] ∧ v' ≠ .slice none 0 0 ∧ Below w.heap.size w w') :
    HPure P f [.slc (l.map .str)] (fun v => v = .slc (l.map .str)) := by
  refine ⟨fnOk_of hok, fun w ρ X xs hS hA hX => Does.of hok ?_⟩
  have done : ∀ (w' : World) (v : Value), w'.ownsRow w.heap.size e 1 v l.length (l.map skey) → Below w.heap.size w w' → ∃ r ob' ρ' x, Ending.returned v = .returned x ∧ (∃ u, r = HV.c u ∧ u = .slc (l.map .str) ∧ ob' = none0) ∧ Gave w ρ X 0 r ob' w' ρ' x := by
    intro w' v hrow hb
    have hs2 : Stay2 w (Own ρ) w' (Own ρ) := ⟨fun g hg _ => hb.block g hg, fun _ h => .inl h, hb.size, hb.os, hb.tape, hb.output⟩
    have hst := hs2.stay X
    refine ⟨_, _, ρ, v, rfl, ⟨_, rfl, rfl, rfl⟩, ⟨?_, ⟨fun i o ho => by simp [none0] at ho, hS.none, hS.apart, hS.xb⟩, by simp [HV.men], fun i o ho => by simp [none0] at ho, hs2, Moves.refl _ _⟩⟩
    have hag : Value.isAgg' v = false := by rcases hrow.2 with ⟨rfl, _⟩ | ⟨g, cap, cur, rfl, _⟩ <;> rfl
    refine repV_single ?_ rfl hag
    simp only [RepC]
    rcases hrow.2 with ⟨rfl, hz⟩ | ⟨g, cap, cur, rfl, hg0, hg, hcap, _⟩
    · have : l = [] := List.eq_nil_of_length_eq_zero hz
      exact ⟨none, 0, [], 1, by simp [this], by simp [this, RepL], by simp [this], by simp [this], fun _ => rfl, fun ad had => (by cases had)⟩
    · refine ⟨some ⟨g, 0, none⟩, cap, l.map skey, 1, by simp, repL_strs _, fun u hu => ?_, by simp; omega, fun hh => (by cases hh), fun ad had => ?_⟩
      · obtain ⟨k, _, rfl⟩ := List.mem_map.1 hu; rfl
      · cases had
        refine ⟨hrow.cells (g := g) rfl, fun _ => ?_⟩
        rintro (hx | ⟨i, L, h1, h2⟩)
        · have : g < w.heap.size := hX g hx
          omega
        · have : g < w.heap.size := Owned.lt hS h1 h2
          omega
  simp only [List.map_cons, List.map_nil, repHV_cons, RepHV] at hA
  obtain ⟨x, zs, rfl, hx, rfl⟩ := hA
  have h1 := RepV.single hx rfl
  simp only [RepC, List.cons.injEq, and_true] at h1
  obtain ⟨a, cap, ys, sz, rfl, h2, _, h4, h5, h6⟩ := h1
  have hys := repL_strs_inv h2
  subst hys
  simp only [List.length_map]
  cases a with
  | none =>
    have hz := h5 rfl
    have hl0 : l = [] := by
      refine List.eq_nil_of_length_eq_zero ?_
      simp only [List.length_map] at h4; omega
    subst hl0
    refine (hc0 cap w).mono ?_
    rintro ex w' ⟨rfl, rfl⟩
    exact done w' _ ⟨rfl, .inl ⟨rfl, rfl⟩⟩ (Below.refl _ _)
  | some ad =>
    have hr := (h6 ad rfl).1
    by_cases hl0 : l = []
    · subst hl0
      refine (hcz ad cap w).mono ?_
      rintro ex w' ⟨v', rfl, hrow, _, hb⟩
      exact done w' v' hrow hb
    · have hpos : 0 < l.length := List.length_pos_iff.2 hl0
      have hspot : ad.spot = none := by
        have := hr 0 (skey l[0]) (by simp [hpos])
        simp only [World.cell?] at this
        split at this
        · split at this
          · cases this
          · rename_i hh; simpa [Addr.add] using hh
        · cases this
      obtain ⟨b, off, spot⟩ := ad
      simp only at hspot
      subst hspot
      refine (hc b off cap w fun j hj => ?_).mono ?_
      · have := hr j (skey l[j]) (by simp [hj])
        have e : (⟨b, off, none⟩ : Addr).add j = ⟨b, off + j, none⟩ := by
          by_cases h0 : j = 0
          · subst h0; rfl
          · simp [Addr.add, h0]
        rw [e] at this
        rw [this]
        simp [hj]
      · rintro ex w' ⟨v', rfl, hrow, _, hb⟩
        exact done w' v' hrow hb
end Go.Hl

namespace Go.Proofs.YtbdgmfbhiihcfaaGreat
open Go.RowKit Go.Sort Go.Shelf

def sort53_ren : Go.Shelf.Ren := ⟨fun | 6 => 53 | 8 => 51 | 9 => 78 | 19 => 75 | 20 => 76 | 21 => 91 | 22 => 92 | 23 => 93 | 24 => 94 | 25 => 95 | 26 => 96 | 27 => 97 | 28 => 98 | 29 => 99 | 36 => 106 | 31 => 86 | 32 => 87 | 37 => 107 | 38 => 108 | 39 => 109 | 41 => 110 | n => n, fun | 27 => 33 | 29 => 9 | 3 => 3 | 32 => 88 | 26 => 33 | 0 => 0 | 44 => 107 | 46 => 109 | 4 => 4 | 36 => 100 | 35 => 99 | 41 => 104 | 5 => 5 | 9 => 9 | 53 => 122 | 57 => 126 | 63 => 136 | 64 => 137 | n => n, fun | n => n⟩
theorem sort53 : Go.Proofs.SlLaysM.n6 Tryz.prog sort53_ren := {
 mixed := by kernel_rfl
 f6 := ⟨Tryz.f53.name, by decide, Tryz.func53.trans (congrArg some (by kernel_rfl))⟩
 f8 := Tryz.func51.trans (congrArg some (by kernel_rfl))
 f9 := ⟨Tryz.f78.name, by decide, Tryz.func78.trans (congrArg some (by kernel_rfl))⟩
 f19 := Tryz.func75.trans (congrArg some (by kernel_rfl))
 f20 := Tryz.func76.trans (congrArg some (by kernel_rfl))
 f21 := ⟨Tryz.f91.name, by decide, Tryz.func91.trans (congrArg some (by kernel_rfl))⟩
 f22 := ⟨Tryz.f92.name, by decide, Tryz.func92.trans (congrArg some (by kernel_rfl))⟩
 f23 := ⟨Tryz.f93.name, by decide, Tryz.func93.trans (congrArg some (by kernel_rfl))⟩
 f24 := ⟨Tryz.f94.name, by decide, Tryz.func94.trans (congrArg some (by kernel_rfl))⟩
 f25 := ⟨Tryz.f95.name, by decide, Tryz.func95.trans (congrArg some (by kernel_rfl))⟩
 f26 := ⟨Tryz.f96.name, by decide, Tryz.func96.trans (congrArg some (by kernel_rfl))⟩
 f27 := ⟨Tryz.f97.name, by decide, Tryz.func97.trans (congrArg some (by kernel_rfl))⟩
 f28 := ⟨Tryz.f98.name, by decide, Tryz.func98.trans (congrArg some (by kernel_rfl))⟩
 f29 := ⟨Tryz.f99.name, by decide, Tryz.func99.trans (congrArg some (by kernel_rfl))⟩
 f31 := Tryz.func86.trans (congrArg some (by kernel_rfl))
 f32 := Tryz.func87.trans (congrArg some (by kernel_rfl))
 f36 := ⟨Tryz.f106.name, by decide, Tryz.func106.trans (congrArg some (by kernel_rfl))⟩
 f37 := ⟨Tryz.f107.name, by decide, Tryz.func107.trans (congrArg some (by kernel_rfl))⟩
 f38 := ⟨Tryz.f108.name, by decide, Tryz.func108.trans (congrArg some (by kernel_rfl))⟩
 f39 := ⟨Tryz.f109.name, by decide, Tryz.func109.trans (congrArg some (by kernel_rfl))⟩
 f41 := ⟨Tryz.f110.name, by decide, Tryz.func110.trans (congrArg some (by kernel_rfl))⟩
 t0 := Tryz.underlying0
 a0 := Tryz.isAgg0
 z0 := Tryz.sizeOf0
 v0 := Tryz.zeroValue0
 t3 := Tryz.underlying3
 a3 := Tryz.isAgg3
 z3 := Tryz.sizeOf3
 v3 := Tryz.zeroValue3
 t4 := Tryz.underlying4
 a4 := Tryz.isAgg4
 z4 := Tryz.sizeOf4
 v4 := Tryz.zeroValue4
 t5 := Tryz.underlying5
 a5 := Tryz.isAgg5
 z5 := Tryz.sizeOf5
 v5 := Tryz.zeroValue5
 t9 := Tryz.underlying9
 a9 := Tryz.isAgg9
 z9 := Tryz.sizeOf9
 v9 := Tryz.zeroValue9
 t26 := Tryz.underlying33
 a26 := Tryz.isAgg33
 z26 := Tryz.sizeOf33
 v26 := Tryz.zeroValue33
 t27 := Tryz.underlying33
 a27 := Tryz.isAgg33
 z27 := Tryz.sizeOf33
 v27 := Tryz.zeroValue33
 t29 := Tryz.underlying9
 a29 := Tryz.isAgg9
 z29 := Tryz.sizeOf9
 v29 := Tryz.zeroValue9
 t32 := Tryz.underlying88
 a32 := Tryz.isAgg88
 z32 := Tryz.sizeOf88
 v32 := Tryz.zeroValue88
 t35 := Tryz.underlying99
 a35 := Tryz.isAgg99
 z35 := Tryz.sizeOf99
 v35 := Tryz.zeroValue99
 t36 := Tryz.underlying100
 a36 := Tryz.isAgg100
 z36 := Tryz.sizeOf100
 v36 := Tryz.zeroValue100
 t41 := Tryz.underlying104
 a41 := Tryz.isAgg104
 z41 := Tryz.sizeOf104
 v41 := Tryz.zeroValue104
 t44 := Tryz.underlying107
 a44 := Tryz.isAgg107
 z44 := Tryz.sizeOf107
 v44 := Tryz.zeroValue107
 t46 := Tryz.underlying109
 a46 := Tryz.isAgg109
 z46 := Tryz.sizeOf109
 v46 := Tryz.zeroValue109
 t53 := Tryz.underlying122
 a53 := Tryz.isAgg122
 z53 := Tryz.sizeOf122
 v53 := Tryz.zeroValue122
 t57 := Tryz.underlying126
 a57 := Tryz.isAgg126
 z57 := Tryz.sizeOf126
 v57 := Tryz.zeroValue126
 t63 := Tryz.underlying136
 a63 := Tryz.isAgg136
 z63 := Tryz.sizeOf136
 v63 := Tryz.zeroValue136
 t64 := Tryz.underlying137
 a64 := Tryz.isAgg137
 z64 := Tryz.sizeOf137
 v64 := Tryz.zeroValue137 }
def sort25_ren : Go.Shelf.Ren := ⟨fun | 5 => 25 | 8 => 51 | 7 => 50 | 19 => 75 | 20 => 76 | 10 => 66 | 11 => 67 | 12 => 68 | 13 => 69 | 14 => 70 | 15 => 71 | 16 => 72 | 17 => 73 | 18 => 74 | 30 => 85 | 31 => 86 | 32 => 87 | 33 => 88 | 34 => 89 | 35 => 90 | 40 => 105 | n => n, fun | 23 => 37 | 25 => 2 | 3 => 3 | 32 => 88 | 22 => 37 | 0 => 0 | 44 => 107 | 46 => 109 | 4 => 4 | 36 => 100 | 35 => 99 | 41 => 104 | 5 => 5 | 9 => 9 | 53 => 122 | 57 => 126 | 63 => 136 | 64 => 137 | n => n, fun | n => n⟩
theorem sort25 : Go.Proofs.SlLaysM.n5 Tryz.prog sort25_ren := {
 mixed := by kernel_rfl
 f5 := ⟨Tryz.f25.name, by decide, Tryz.func25.trans (congrArg some (by kernel_rfl))⟩
 f7 := ⟨Tryz.f50.name, by decide, Tryz.func50.trans (congrArg some (by kernel_rfl))⟩
 f8 := Tryz.func51.trans (congrArg some (by kernel_rfl))
 f10 := ⟨Tryz.f66.name, by decide, Tryz.func66.trans (congrArg some (by kernel_rfl))⟩
 f11 := ⟨Tryz.f67.name, by decide, Tryz.func67.trans (congrArg some (by kernel_rfl))⟩
 f12 := ⟨Tryz.f68.name, by decide, Tryz.func68.trans (congrArg some (by kernel_rfl))⟩
 f13 := ⟨Tryz.f69.name, by decide, Tryz.func69.trans (congrArg some (by kernel_rfl))⟩
 f14 := ⟨Tryz.f70.name, by decide, Tryz.func70.trans (congrArg some (by kernel_rfl))⟩
 f15 := ⟨Tryz.f71.name, by decide, Tryz.func71.trans (congrArg some (by kernel_rfl))⟩
 f16 := ⟨Tryz.f72.name, by decide, Tryz.func72.trans (congrArg some (by kernel_rfl))⟩
 f17 := ⟨Tryz.f73.name, by decide, Tryz.func73.trans (congrArg some (by kernel_rfl))⟩
 f18 := ⟨Tryz.f74.name, by decide, Tryz.func74.trans (congrArg some (by kernel_rfl))⟩
 f19 := Tryz.func75.trans (congrArg some (by kernel_rfl))
 f20 := Tryz.func76.trans (congrArg some (by kernel_rfl))
 f30 := ⟨Tryz.f85.name, by decide, Tryz.func85.trans (congrArg some (by kernel_rfl))⟩
 f31 := Tryz.func86.trans (congrArg some (by kernel_rfl))
 f32 := Tryz.func87.trans (congrArg some (by kernel_rfl))
 f33 := ⟨Tryz.f88.name, by decide, Tryz.func88.trans (congrArg some (by kernel_rfl))⟩
 f34 := ⟨Tryz.f89.name, by decide, Tryz.func89.trans (congrArg some (by kernel_rfl))⟩
 f35 := ⟨Tryz.f90.name, by decide, Tryz.func90.trans (congrArg some (by kernel_rfl))⟩
 f40 := ⟨Tryz.f105.name, by decide, Tryz.func105.trans (congrArg some (by kernel_rfl))⟩
 t0 := Tryz.underlying0
 a0 := Tryz.isAgg0
 z0 := Tryz.sizeOf0
 v0 := Tryz.zeroValue0
 t3 := Tryz.underlying3
 a3 := Tryz.isAgg3
 z3 := Tryz.sizeOf3
 v3 := Tryz.zeroValue3
 t4 := Tryz.underlying4
 a4 := Tryz.isAgg4
 z4 := Tryz.sizeOf4
 v4 := Tryz.zeroValue4
 t5 := Tryz.underlying5
 a5 := Tryz.isAgg5
 z5 := Tryz.sizeOf5
 v5 := Tryz.zeroValue5
 t9 := Tryz.underlying9
 a9 := Tryz.isAgg9
 z9 := Tryz.sizeOf9
 v9 := Tryz.zeroValue9
 t22 := Tryz.underlying37
 a22 := Tryz.isAgg37
 z22 := Tryz.sizeOf37
 v22 := Tryz.zeroValue37
 t23 := Tryz.underlying37
 a23 := Tryz.isAgg37
 z23 := Tryz.sizeOf37
 v23 := Tryz.zeroValue37
 t25 := Tryz.underlying2
 a25 := Tryz.isAgg2
 z25 := Tryz.sizeOf2
 v25 := Tryz.zeroValue2
 t32 := Tryz.underlying88
 a32 := Tryz.isAgg88
 z32 := Tryz.sizeOf88
 v32 := Tryz.zeroValue88
 t35 := Tryz.underlying99
 a35 := Tryz.isAgg99
 z35 := Tryz.sizeOf99
 v35 := Tryz.zeroValue99
 t36 := Tryz.underlying100
 a36 := Tryz.isAgg100
 z36 := Tryz.sizeOf100
 v36 := Tryz.zeroValue100
 t41 := Tryz.underlying104
 a41 := Tryz.isAgg104
 z41 := Tryz.sizeOf104
 v41 := Tryz.zeroValue104
 t44 := Tryz.underlying107
 a44 := Tryz.isAgg107
 z44 := Tryz.sizeOf107
 v44 := Tryz.zeroValue107
 t46 := Tryz.underlying109
 a46 := Tryz.isAgg109
 z46 := Tryz.sizeOf109
 v46 := Tryz.zeroValue109
 t53 := Tryz.underlying122
 a53 := Tryz.isAgg122
 z53 := Tryz.sizeOf122
 v53 := Tryz.zeroValue122
 t57 := Tryz.underlying126
 a57 := Tryz.isAgg126
 z57 := Tryz.sizeOf126
 v57 := Tryz.zeroValue126
 t63 := Tryz.underlying136
 a63 := Tryz.isAgg136
 z63 := Tryz.sizeOf136
 v63 := Tryz.zeroValue136
 t64 := Tryz.underlying137
 a64 := Tryz.isAgg137
 z64 := Tryz.sizeOf137
 v64 := Tryz.zeroValue137 }
def clone49_ren : Go.Shelf.Ren := ⟨fun | 16 => 49 | n => n, fun | 24 => 33 | 9 => 9 | 4 => 4 | n => n, fun | n => n⟩
theorem clone49 : Go.Proofs.Lays2.n16 Tryz.prog clone49_ren := {
 mixed := by kernel_rfl
 f16 := Tryz.func49.trans (congrArg some (by kernel_rfl))
 t4 := Tryz.underlying4
 a4 := Tryz.isAgg4
 z4 := Tryz.sizeOf4
 v4 := Tryz.zeroValue4
 t9 := Tryz.underlying9
 a9 := Tryz.isAgg9
 z9 := Tryz.sizeOf9
 v9 := Tryz.zeroValue9
 t24 := Tryz.underlying33
 a24 := Tryz.isAgg33
 z24 := Tryz.sizeOf33
 v24 := Tryz.zeroValue33
 i9 := by kernel_rfl }

theorem sort_ok (ss : List (List UInt8)) (hl : ss.length < 2 ^ 40) : Hl.HSort Tryz.prog 53 9 ss :=
 Hl.hfn_sort (by kernel_rfl) (fun blk cap w hH hb => AnyM.slices_Sort_string sort53 blk 0 cap ss w hH hb (by omega)) (fun cap w => AnyM.slices_Sort_string_none sort53 none cap w)
theorem sorti_ok (ss : List Int) (hl : ss.length < 2 ^ 40) : Hl.HSortI Tryz.prog 25 2 ss :=
 Hl.hfn_sorti (by kernel_rfl) (fun blk cap w hH hb => AnyM.slices_Sort_int sort25 blk 0 cap ss w hH hb (by omega)) (fun cap w => AnyM.slices_Sort_int_none sort25 none cap w)
theorem clone_ok (l : List (List UInt8)) (hl : l.length < 2 ^ 40) : Hl.HPure Tryz.prog 49 [.slc (l.map .str)] (fun v => v = .slc (l.map .str)) := by
 refine Hl.hpure_clone (e := 9) (by kernel_rfl) (by omega) (fun b off c w hc => ?_) (fun c w => Any.slices_Clone_string_nil clone49 0 c w) (fun a c w => Any.slices_Clone_string_zero clone49 a c w)
 have := Any.slices_Clone_string clone49 b off l.length c (l.map fun s => ⟨s.toArray⟩) w (by simp) (by omega) (fun j hj => by
  have hj' : j < l.length := by simpa using hj
  rw [hc j hj']
  simp [hj', Hl.skey])
 refine this.mono ?_
 rintro x w' ⟨v', h1, h2, h3, h4⟩
 refine ⟨v', h1, ?_, h3, h4⟩
 have e : ((l.map fun s => (⟨s.toArray⟩ : ByteArray)).take l.length).map Value.string = l.map Hl.skey := by
  rw [List.take_of_length_le (by simp), List.map_map]
  rfl
 rw [e] at h2
 exact h2
end Go.Proofs.YtbdgmfbhiihcfaaGreat

namespace Go.Pl
open Go Go.Hl

theorem dedup_snoc (a b : Word) : ∀ p : List Word, dedup (p ++ [a, b]) = if a == b then dedup (p ++ [a]) else dedup (p ++ [a]) ++ [b]
  | [] => by
    simp only [List.nil_append, dedup]
    split
    · rename_i h
      rw [eq_of_beq h]
    · rfl
  | [x] => by
    have ih := dedup_snoc a b []
    simp only [List.nil_append] at ih
    simp only [List.cons_append, List.nil_append]
    have e1 : dedup (x :: a :: [b]) = if x == a then dedup [a, b] else x :: dedup [a, b] := by rw [dedup]
    have e2 : dedup (x :: a :: []) = if x == a then dedup [a] else x :: dedup [a] := by rw [dedup]
    rw [e1, e2, ih]
    by_cases h1 : (x == a) = true <;> by_cases h2 : (a == b) = true <;> simp [h1, h2]
  | x :: y :: p => by
    have ih := dedup_snoc a b (y :: p)
    simp only [List.cons_append] at ih ⊢
    have e1 : dedup (x :: y :: (p ++ [a, b])) = if x == y then dedup (y :: (p ++ [a, b])) else x :: dedup (y :: (p ++ [a, b])) := by rw [dedup]
    have e2 : dedup (x :: y :: (p ++ [a])) = if x == y then dedup (y :: (p ++ [a])) else x :: dedup (y :: (p ++ [a])) := by rw [dedup]
    rw [e1, e2, ih]
    by_cases h1 : (x == y) = true <;> by_cases h2 : (a == b) = true <;> simp [h1, h2]
theorem dedup_take {l : List Word} {j : Nat} (h0 : 1 ≤ j) (h : j < l.length) : dedup (l.take (j + 1)) = if l[j] == l[j - 1] then dedup (l.take j) else dedup (l.take j) ++ [l[j]] := by
  have e1 : l.take j = l.take (j - 1) ++ [l[j - 1]] := by
    have := List.take_succ_eq_append_getElem (show j - 1 < l.length by omega)
    rwa [show j - 1 + 1 = j by omega] at this
  rw [List.take_succ_eq_append_getElem h, e1, List.append_assoc]
  have := dedup_snoc l[j - 1] l[j] (l.take (j - 1))
  simp only [List.singleton_append]
  rw [this]
  have e2 : (l[j - 1] == l[j]) = (l[j] == l[j - 1]) := by rw [Bool.eq_iff_iff]; simp only [beq_iff_eq]; exact eq_comm
  rw [e2]
theorem dedup_short : ∀ {l : List Word}, l.length < 2 → dedup l = l
  | [], _ => rfl
  | [_], _ => rfl
  | _ :: _ :: _, h => by simp at h; omega
theorem dedup_keep {l : List Word} {k : Nat} (h0 : 1 ≤ k) (h : k < l.length) (hne : (l[k] == l[k - 1]) = false) (hd : dedup (l.take k) = l.take k) : dedup (l.take (k + 1)) = l.take (k + 1) := by
  rw [dedup_take h0 h, hne, hd, List.take_succ_eq_append_getElem h]; rfl
theorem dedup_skip {l : List Word} {k : Nat} (h0 : 1 ≤ k) (h : k < l.length) (he : (l[k] == l[k - 1]) = true) : dedup (l.take (k + 1)) = dedup (l.take k) := by
  rw [dedup_take h0 h, he]; rfl
theorem dedup_put {l : List Word} {k : Nat} (h0 : 1 ≤ k) (h : k < l.length) (hne : (l[k] == l[k - 1]) = false) : dedup (l.take (k + 1)) = dedup (l.take k) ++ [l[k]] := by
  rw [dedup_take h0 h, hne]; rfl
end Go.Pl

namespace Go.Proofs.YtbdgmfbhiihcfaaGreat
open Go Go.Hl Go.Pl
set_option maxRecDepth 10000
set_option maxHeartbeats 4000000
set_option linter.unusedSimpArgs false
set_option linter.unusedVariables false

theorem compact_ok (l : List Word) (hl : l.length < 2 ^ 40) : HTake Tryz.prog 54 9 1 (l.map .str) (fun u => u = .slc ((dedup l).map .str)) := by
 show HFn _ _ [.own 0 (l.map CV.str).length] 1 _ _
 rw [List.length_map]
 refine hfn_walk (args := [.own 0 l.length]) Tryz.func54 rfl (by kernel_rfl) (locOk_take 9 1 l.length _) (Nat.le_of_ble_eq_true rfl) ?_
 refine hw_seq fun K hK => hw_region (by kernel_rfl) ?_
 simp (maxSteps := 4000000) only [↓sP, sA, tyS, simprocAttr]
 repeat refine AI ?_
 refine hK _ _ _ ?_
 clear hK K
 refine hw_seq fun K hK => ?_
 refine hw_seq fun K hK => hw_region (by kernel_rfl) ?_
 simp (maxSteps := 4000000) only [↓sP, sA, tyS, simprocAttr]
 repeat refine AI ?_
 refine hK _ _ _ ?_
 clear hK K
 refine hw_cond (b := decide ((l.length : Int) < 2)) rfl (fun hb => ?_) (fun hb => ?_)
 ·
  refine hw_seq fun K hK => hw_region (by kernel_rfl) ?_
  simp (maxSteps := 4000000) only [↓sP, sA, tyS, simprocAttr]
  repeat refine AI ?_
  refine hK _ _ _ ?_
  clear hK K
  refine hw_ret ?_
  simp (maxSteps := 4000000) only [hpost, Tryz.results54, hresL, hres1, tupOf, ↓sP, sA, tyS, simprocAttr]
  exact hret_take [0] (.slc (l.map .str)) (by simp [HV.close, HV.norm, HV.toC, fob_at]) (by rw [dedup_short (by simp at hb; omega)])
 ·
  refine hw_skip ?_
  simp (maxSteps := 4000000) only [↓sP, sA, tyS, simprocAttr]
  repeat refine AI ?_
  refine hK _ _ _ ?_
  clear hK K
  refine hw_seq fun K hK => ?_
  refine hw_seq fun K hK => hw_region (by kernel_rfl) ?_
  simp (maxSteps := 4000000) only [↓sP, sA, tyS, simprocAttr]
  repeat refine AI ?_
  refine hK _ _ _ ?_
  clear hK K
  refine hw_block ?_
  have h2 : 2 ≤ l.length := by simp at hb; omega
  refine hw_loop (α := {k : Nat // 1 ≤ k ∧ k ≤ l.length ∧ dedup (l.take k) = l.take k}) (fun k => (fin [(0, .own 0 l.length), (3, .c (.int .i64 k.1))], fob [(0, .row 9 1 (l.map .str))])) 100 (fun k => l.length - k.1) ⟨1, by omega, by omega, dedup_short (by simp; omega)⟩ (fits_fin (by omega) (by simp [FinOk, fin_at, finA_at, upd_at, HV.men, HV.menL, HV.norm, HV.toC, HV.toCL]) (by simp [FobOk, fob_at, upd_at, none0_at, gone, HO.men, HV.men, HV.menL, HV.norm, HV.toC, HV.toCL])) ?_
  clear hb
  rintro ⟨k, hk1, hk, hd⟩
  refine hw_seq fun K hK => ?_
  refine hw_seq fun K hK => hw_region (by kernel_rfl) ?_
  simp only [sR, simprocAttr]
  iterate 4
   (refine hlex_step (g := none) rfl rfl fun K' hK' => ?_; simp only [sH, ↓sP, sA, tyS, simprocAttr]; (repeat refine AI ?_); refine hK' _ _ ?_; clear hK' K')
  simp only [sE, ↓reduceIte, simprocAttr]
  repeat refine AI ?_
  refine hK _ _ _ ?_
  clear hK K
  refine hw_cond (b := decide ((k : Int) < l.length)) rfl (fun hb => ?_) (fun hb => ?_)
  ·
   have hlt : k < l.length := by simpa using hb
   have hlt1 : k - 1 < l.length := by omega
   have m1 : IntKind.i64.wrap ((k : Int) - 1) = ((k - 1 : Nat) : Int) := by rw [IntWalk.i64_in _ (by omega)]; omega
   refine hw_skip ?_
   simp (maxSteps := 4000000) only [↓sP, sA, tyS, simprocAttr]
   repeat refine AI ?_
   refine hK _ _ _ ?_
   clear hK K
   refine hw_seq fun K hK => ?_
   refine hw_block ?_
   refine hw_seq fun K hK => hw_quiet mixed (by kernel_rfl) (by kernel_rfl) (by kernel_rfl) ?_
   simp only [sR, simprocAttr]
   iterate 10
    (refine hlex_step (g := none) rfl rfl fun K' hK' => ?_; simp only [sH, ↓sP, sA, tyS, simprocAttr, m1, Int.natCast_nonneg, Int.ofNat_lt, hlt, hlt1, nth_map hlt, nth_map hlt1]; (repeat refine AI ?_); refine hK' _ _ ?_; clear hK' K')
   simp only [sE, ↓reduceIte, simprocAttr]
   repeat refine AI ?_
   refine hK _ _ _ ?_
   clear hK K
   refine hw_cond (b := l[k] == l[k - 1]) rfl (fun hb => ?_) (fun hb => ?_)
   ·
    refine hw_seq fun K hK => hw_region (by kernel_rfl) ?_
    simp only [sR, simprocAttr]
    iterate 4
     (refine hlex_step (g := none) rfl rfl fun K' hK' => ?_; simp only [sH, ↓sP, sA, tyS, simprocAttr]; (repeat refine AI ?_); refine hK' _ _ ?_; clear hK' K')
    simp only [sE, ↓reduceIte, simprocAttr]
    repeat refine AI ?_
    refine hK _ _ _ ?_
    clear hK K
    refine hw_seq fun K hK => ?_
    refine hw_seq fun K hK => hw_region (by kernel_rfl) ?_
    simp (maxSteps := 4000000) only [↓sP, sA, tyS, simprocAttr]
    repeat refine AI ?_
    refine hK _ _ _ ?_
    clear hK K
    refine hw_block ?_
    refine hw_loop (α := {x : Nat × Nat × List Word // x.2.2.length = l.length ∧ 1 ≤ x.1 ∧ x.1 < x.2.1 ∧ x.2.1 ≤ l.length ∧ k < x.2.1 ∧ x.2.2.take x.1 = dedup (l.take x.2.1) ∧ x.2.2.drop (x.2.1 - 1) = l.drop (x.2.1 - 1)}) (fun x => (fin [(0, .own 0 l.length), (3, .c (.int .i64 x.1.1)), (4, .osl 0 l.length k 1 l.length), (5, .c (.int .i64 ((x.1.2.1 - k : Nat) : Int)))], fob [(0, .row 9 1 (x.1.2.2.map .str))])) 300 (fun x => l.length - x.1.2.1) ⟨(k, k + 1, l), rfl, hk1, by simp, hlt, by simp, by rw [dedup_skip hk1 hlt hb, hd], rfl⟩ (fits_fin (by omega) (by simp [FinOk, fin_at, finA_at, upd_at, HV.men, HV.menL, HV.norm, HV.toC, HV.toCL]) (by simp [FobOk, fob_at, upd_at, none0_at, gone, HO.men, HV.men, HV.menL, HV.norm, HV.toC, HV.toCL])) ?_
    rintro ⟨⟨i, j, r⟩, hr, hi1, hij, hj, hkj, g1, g2⟩
    simp only at hr hi1 hij hj hkj g1 g2 ⊢
    have hrl : (r.map CV.str).length = l.length := by rw [List.length_map, hr]
    have p0 : 0 < l.length := by omega
    have e9 : (List.take (l.length - k) (List.drop k (r.map CV.str))).length = l.length - k := by simp [hr]
    refine hw_seq fun K hK => ?_
    refine hw_seq fun K hK => hw_region (by kernel_rfl) ?_
    simp only [sR, simprocAttr]
    iterate 4
     (refine hlex_step (g := none) rfl rfl fun K' hK' => ?_; simp only [sH, ↓sP, sA, tyS, simprocAttr, hr, p0, hk, Nat.le_refl, e9]; (repeat refine AI ?_); refine hK' _ _ ?_; clear hK' K')
    simp only [sE, ↓reduceIte, simprocAttr]
    repeat refine AI ?_
    refine hK _ _ _ ?_
    clear hK K
    refine hw_cond (b := decide (((j - k : Nat) : Int) < ((l.length - k : Nat) : Int))) rfl (fun hb => ?_) (fun hb => ?_)
    ·
     have hjl : j < l.length := by simp at hb; omega
     have hjr : j < r.length := by omega
     have hj1r : j - 1 < r.length := by omega
     have hir : i < r.length := by omega
     have hil : i < l.length := by omega
     have hj1l : j - 1 < l.length := by omega
     have z1 : ((j - k : Nat) : Int) < ((l.length - k : Nat) : Int) := by omega
     have z2 : ((j - k - 1 : Nat) : Int) < ((l.length - k : Nat) : Int) := by omega
     have e1 : k + (j - k) = j := by omega
     have e2 : k + (j - k - 1) = j - 1 := by omega
     have m2 : IntKind.i64.wrap (((j - k : Nat) : Int) - 1) = ((j - k - 1 : Nat) : Int) := by rw [IntWalk.i64_in _ (by omega)]; omega
     have m3 : IntKind.i64.wrap (((j - k : Nat) : Int) + 1) = ((j + 1 - k : Nat) : Int) := by rw [IntWalk.i64_in _ (by omega)]; omega
     have q0 : r[j - 1] = l[j - 1] ∧ r[j] = l[j] := by
      have a1 : (r.drop (j - 1))[0]? = (l.drop (j - 1))[0]? := by rw [g2]
      have a2 : (r.drop (j - 1))[1]? = (l.drop (j - 1))[1]? := by rw [g2]
      simp only [List.getElem?_drop, Nat.add_zero, show j - 1 + 1 = j by omega, List.getElem?_eq_getElem hjr, List.getElem?_eq_getElem hj1r, List.getElem?_eq_getElem hjl, List.getElem?_eq_getElem hj1l, Option.some.injEq] at a1 a2
      exact ⟨a1, a2⟩
     have q1 : nth (r.map CV.str) j = .str l[j] := by rw [nth_map hjr, q0.2]
     have q2 : nth (r.map CV.str) (j - 1) = .str l[j - 1] := by rw [nth_map hj1r, q0.1]
     have g3 : r.drop j = l.drop j := by
      have : (r.drop (j - 1)).drop 1 = (l.drop (j - 1)).drop 1 := by rw [g2]
      rwa [List.drop_drop, List.drop_drop, show j - 1 + 1 = j by omega] at this
     refine hw_skip ?_
     simp (maxSteps := 4000000) only [↓sP, sA, tyS, simprocAttr]
     repeat refine AI ?_
     refine hK _ _ _ ?_
     clear hK K
     refine hw_seq fun K hK => ?_
     have key : ∀ (i' : Nat) (r' : List Word) fr ob nx, r'.length = l.length → 1 ≤ i' → i' < j + 1 → r'.take i' = dedup (l.take (j + 1)) → r'.drop j = l.drop j → Fits 1 fr ob (fin [(0, .own 0 l.length), (3, .c (.int .i64 i')), (4, .osl 0 l.length k 1 l.length), (5, .c (.int .i64 ((j - k : Nat) : Int)))]) (fob [(0, .row 9 1 (r'.map .str))]) 500 → K fr ob nx := by
      rintro i' r' fr ob nx w1 w2 w3 w4 w5 hf
      refine hK _ _ _ (hw_fits hf ?_)
      clear hf hK K
      refine hw_region (by kernel_rfl) ?_
      simp (maxSteps := 4000000) only [↓sP, sA, tyS, simprocAttr, m3]
      refine ⟨⟨(i', j + 1, r'), w1, w2, w3, hjl, by simp only; omega, w4, w5⟩, fits_fin (by omega) (by simp [FinOk, fin_at, finA_at, upd_at, HV.men, HV.menL, HV.norm, HV.toC, HV.toCL]) (by simp [FobOk, fob_at, upd_at, none0_at, gone, HO.men, HV.men, HV.menL, HV.norm, HV.toC, HV.toCL]), ?_⟩
      show l.length - (j + 1) < l.length - j
      omega
     refine hw_block ?_
     refine hw_seq fun K hK => hw_quiet mixed (by kernel_rfl) (by kernel_rfl) (by kernel_rfl) ?_
     simp only [sR, simprocAttr]
     iterate 10
      (refine hlex_step (g := none) rfl rfl fun K' hK' => ?_; simp only [sH, ↓sP, sA, tyS, simprocAttr, hr, m2, e1, e2, z1, z2, q1, q2, hjl, hj1l, hjr, hj1r, Int.natCast_nonneg, Int.ofNat_lt]; (repeat refine AI ?_); refine hK' _ _ ?_; clear hK' K')
     simp only [sE, ↓reduceIte, simprocAttr]
     repeat refine AI ?_
     refine hK _ _ _ ?_
     clear hK K
     refine hw_cond (b := !(l[j] == l[j - 1])) rfl (fun hb => ?_) (fun hb => ?_)
     ·
      refine hw_seq fun K hK => hw_region (by kernel_rfl) ?_
      simp only [sR, simprocAttr]
      iterate 8
       (refine hlex_step (g := none) rfl rfl fun K' hK' => ?_; simp only [sH, ↓sP, sA, tyS, simprocAttr, hr, e1, z1, q1, nth_map hir, hil, hir, hjl, hjr, Int.natCast_nonneg, Int.ofNat_lt, ← List.map_set]; (repeat refine AI ?_); refine hK' _ _ ?_; clear hK' K')
      simp only [sE, ↓reduceIte, simprocAttr]
      repeat refine AI ?_
      refine hK _ _ _ ?_
      clear hK K
      refine hw_region (by kernel_rfl) ?_
      simp (maxSteps := 4000000) only [↓sP, sA, tyS, simprocAttr, IntWalk.i64_in _ (show -9223372036854775808 ≤ (i : Int) + 1 ∧ (i : Int) + 1 ≤ 9223372036854775807 by omega)]
      refine key (i + 1) (r.set i l[j]) _ _ _ (by simp [hr]) (by omega) (by omega) ?_ ?_ (fits_fin (by omega) (by simp [FinOk, fin_at, finA_at, upd_at, HV.men, HV.menL, HV.norm, HV.toC, HV.toCL]) (by simp [FobOk, fob_at, upd_at, none0_at, gone, HO.men, HV.men, HV.menL, HV.norm, HV.toC, HV.toCL]))
      ·
       rw [dedup_put (by omega) hjl (by simpa using hb), ← g1, List.take_succ_eq_append_getElem (by simp; omega), List.take_set_of_le (by omega)]
       simp
      ·
       rw [List.drop_set_of_lt (by omega), g3]
     ·
      refine hw_skip ?_
      simp (maxSteps := 4000000) only [↓sP, sA, tyS, simprocAttr]
      exact key i r _ _ _ hr hi1 (by omega) (by rw [dedup_skip (by omega) hjl (by simpa using hb), g1]) g3 (fits_fin (by omega) (by simp [FinOk, fin_at, finA_at, upd_at, HV.men, HV.menL, HV.norm, HV.toC, HV.toCL]) (by simp [FobOk, fob_at, upd_at, none0_at, gone, HO.men, HV.men, HV.menL, HV.norm, HV.toC, HV.toCL]))
    ·
     have hjl : j = l.length := by simp at hb; omega
     subst hjl
     rw [List.take_length] at g1
     refine hw_exit ?_
     simp (maxSteps := 4000000) only [↓sP, sA, tyS, simprocAttr]
     clear hK K
     repeat refine AI ?_
     refine hK _ _ _ ?_
     clear hK K
     refine hw_seq fun K hK => hw_region (by kernel_rfl) ?_
     simp only [sR, simprocAttr]
     iterate 4
      (refine hlex_step (g := none) rfl rfl fun K' hK' => ?_; simp only [sH, ↓sP, sA, tyS, simprocAttr, hr]; (repeat refine AI ?_); refine hK' _ _ ?_; clear hK' K')
     simp only [sE, ↓reduceIte, simprocAttr]
     repeat refine AI ?_
     refine hK _ _ _ ?_
     clear hK K
     refine hw_seq fun K hK => hw_region (by kernel_rfl) ?_
     simp only [sR, simprocAttr]
     iterate 4
      (refine hlex_step (g := none) rfl rfl fun K' hK' => ?_; simp only [sH, ↓sP, sA, tyS, simprocAttr, hr]; (repeat refine AI ?_); refine hK' _ _ ?_; clear hK' K')
     simp only [sE, ↓reduceIte, simprocAttr]
     repeat refine AI ?_
     refine hK _ _ _ ?_
     clear hK K
     refine hw_ret ?_
     simp (maxSteps := 4000000) only [hpost, Tryz.results54, hresL, hres1, tupOf, ↓sP, sA, tyS, simprocAttr]
     refine hret_take [0] (.slc ((r.take i).map .str)) ?_ (by rw [g1])
     simp [HV.close, HV.norm, fob_at]
     rw [if_pos ⟨by omega, by omega, by omega⟩]
     show HV.c (CV.slc _) = _
     rw [List.take_append_of_le_length (by simp; omega), List.take_take, Nat.min_self]
   ·
    refine hw_skip ?_
    simp (maxSteps := 4000000) only [↓sP, sA, tyS, simprocAttr]
    repeat refine AI ?_
    refine hK _ _ _ ?_
    clear hK K
    refine hw_region (by kernel_rfl) ?_
    simp (maxSteps := 4000000) only [↓sP, sA, tyS, simprocAttr, IntWalk.i64_in _ (show -9223372036854775808 ≤ (k : Int) + 1 ∧ (k : Int) + 1 ≤ 9223372036854775807 by omega)]
    refine ⟨⟨k + 1, by omega, hlt, dedup_keep hk1 hlt hb hd⟩, fits_fin (by omega) (by simp [FinOk, fin_at, finA_at, upd_at, HV.men, HV.menL, HV.norm, HV.toC, HV.toCL]) (by simp [FobOk, fob_at, upd_at, none0_at, gone, HO.men, HV.men, HV.menL, HV.norm, HV.toC, HV.toCL]), ?_⟩
    show l.length - (k + 1) < l.length - k
    omega
  ·
   refine hw_exit ?_
   simp (maxSteps := 4000000) only [↓sP, sA, tyS, simprocAttr]
   clear hK K
   repeat refine AI ?_
   refine hK _ _ _ ?_
   clear hK K
   refine hw_seq fun K hK => hw_region (by kernel_rfl) ?_
   simp (maxSteps := 4000000) only [↓sP, sA, tyS, simprocAttr]
   repeat refine AI ?_
   refine hK _ _ _ ?_
   clear hK K
   refine hw_ret ?_
   simp (maxSteps := 4000000) only [hpost, Tryz.results54, hresL, hres1, tupOf, ↓sP, sA, tyS, simprocAttr]
   have hkl : k = l.length := by simp at hb; omega
   subst hkl
   rw [List.take_length] at hd
   exact hret_take [0] (.slc (l.map .str)) (by simp [HV.close, HV.norm, HV.toC, fob_at]) (by rw [hd])

end Go.Proofs.YtbdgmfbhiihcfaaGreat
