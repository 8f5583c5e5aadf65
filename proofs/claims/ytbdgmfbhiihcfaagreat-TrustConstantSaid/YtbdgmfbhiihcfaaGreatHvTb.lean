/- Part of a proof: walks of functions of the program, by contracts, and the rules they use. By an AI agent. -/
import Derived.Test.YtbdgmfbhiihcfaaGreatHvT9
import Derived.Test.YtbdgmfbhiihcfaaGreatHvT1
set_option linter.unusedSimpArgs false
set_option linter.unusedVariables false
set_option linter.defProp false
namespace Go.Proofs.YtbdgmfbhiihcfaaGreat
open Go Go.Hl Go.Pl
set_option maxRecDepth 10000
set_option maxHeartbeats 4000000
set_option linter.unusedSimpArgs false
set_option linter.unusedVariables false

theorem block_ok (s : St) (p : List UInt8) (hp : p.length = 64) : HPure Tryz.prog 81 [ws s.l, .slc (p.map u8)] (fun v => v = ws (comp s p).l) := by
 refine hfn_walk Tryz.func81 rfl (by kernel_rfl) (locOk_nil _) (Nat.le_of_ble_eq_true rfl) ?_
 refine hw_seq fun K hK => hw_region (by kernel_rfl) ?_
 simp (maxSteps := 4000000) only [↓sP, sA, tyS, simprocAttr]
 repeat refine AI ?_
 refine hK _ _ _ ?_
 clear hK K
 refine hw_seq fun K hK => hw_region (by kernel_rfl) ?_
 simp (maxSteps := 4000000) only [↓sP, sA, tyS, simprocAttr]
 repeat refine AI ?_
 refine hK _ _ _ ?_
 clear hK K
 refine hw_seq fun K hK => ?_
 refine hw_seq fun K hK => hw_region (by kernel_rfl) ?_
 simp (maxSteps := 4000000) only [↓sP, sA, tyS, simprocAttr]
 repeat refine AI ?_
 refine hK _ _ _ ?_
 clear hK K
 refine hw_block ?_
 refine hw_loop (α := {i : Nat // i ≤ 16}) (fun i => (fin [(1, .c (.slc (p.map u8))), (2, .ptr 0 0), (4, .ptr 4 0), (5, .ptr 8 0), (6, .c (.int .i64 i.1))], fob [(0, .box 112 (.c (ws s.l))), (4, .box 112 (.c (ws (wz 8)))), (8, .box 113 (.c (ws (wA p i.1))))])) 100 (fun i => 16 - i.1) ⟨0, by omega⟩ (fits_fin (by omega) (by simp [FinOk, fin_at, finA_at, upd_at, HV.men, HV.menL, HV.norm, HV.toC, HV.toCL]) (by simp [FobOk, fob_at, upd_at, none0_at, gone, HO.men, HV.men, HV.menL, HV.norm, HV.toC, HV.toCL])) ?_
 rintro ⟨i, hi⟩
 have hlen := wA_len p i
 refine hw_seq fun K hK => ?_
 refine hw_seq fun K hK => hw_region (by kernel_rfl) ?_
 simp (maxSteps := 4000000) only [↓sP, sA, tyS, simprocAttr]
 repeat refine AI ?_
 refine hK _ _ _ ?_
 clear hK K
 refine hw_cond (b := decide ((i : Int) < 16)) rfl (fun hb => ?_) (fun hb => ?_)
 ·
  have hlt : i < 16 := by simp at hb; omega
  have z : (i : Int) < 64 := by omega
  have q : i < 64 := by omega
  have q0 : 4 * i < 64 := by omega
  have q1 : 4 * i + 1 < 64 := by omega
  have q2 : 4 * i + 2 < 64 := by omega
  have q3 : 4 * i + 3 < 64 := by omega
  have z0 : ((4 * i : Nat) : Int) < 64 := by omega
  have z1 : ((4 * i + 1 : Nat) : Int) < 64 := by omega
  have z2 : ((4 * i + 2 : Nat) : Int) < 64 := by omega
  have z3 : ((4 * i + 3 : Nat) : Int) < 64 := by omega
  have m0 : IntKind.i64.wrap (4 * (i : Int)) = ((4 * i : Nat) : Int) := by rw [IntWalk.i64_in _ (by omega)]; omega
  have m1 : IntKind.i64.wrap (((4 * i : Nat) : Int) + 1) = ((4 * i + 1 : Nat) : Int) := by rw [IntWalk.i64_in _ (by omega)]; omega
  have m2 : IntKind.i64.wrap (((4 * i : Nat) : Int) + 2) = ((4 * i + 2 : Nat) : Int) := by rw [IntWalk.i64_in _ (by omega)]; omega
  have m3 : IntKind.i64.wrap (((4 * i : Nat) : Int) + 3) = ((4 * i + 3 : Nat) : Int) := by rw [IntWalk.i64_in _ (by omega)]; omega
  refine hw_skip ?_
  simp (maxSteps := 4000000) only [↓sP, sA, tyS, simprocAttr]
  repeat refine AI ?_
  refine hK _ _ _ ?_
  clear hK K
  refine hw_seq fun K hK => ?_
  refine hw_block ?_
  refine hw_draw2 mixed [(0, [], []), (1, [], []), (2, [], []), (3, [], []), (4, [], []), (5, [], []), (6, [], []), (7, [], []), (8, [], []), (9, [], []), (10, [], []), (11, [], []), (12, [], []), (13, [], []), (14, [], []), (15, [], []), (16, [], []), (17, [], []), (18, [], []), (19, [], []), (20, [], []), (21, [], []), (22, [], []), (23, [], []), (24, [], []), (25, [], []), (26, [], []), (27, [], []), (28, [], []), (29, [], []), (30, [], []), (31, [], []), (32, [], []), (33, [], []), (34, [], []), (35, [], [])] [0, 0, 0, 4, 14, 30, 62, 126, 0, 0, 512, 1536, 3840, 7936, 16128, 32512, 65534, 0, 0, 262144, 786432, 1966080, 4063232, 8257536, 16646144, 33554430, 0, 0, 134217728, 402653184, 1006632960, 2080374784, 4227858432, 8589934590, 17179869183, 34359738367] (by kernel_rfl) (by kernel_rfl) (by kernel_rfl) (by kernel_rfl) rfl (by kernel_rfl) ?_
  iterate 36
   (refine hwalk2_step (g := none) rfl rfl fun K' hK' => ?_; simp only [sH, ↓sP, sA, tyS, simprocAttr, m0, m1, m2, m3, q, q0, q1, q2, q3, z, z0, z1, z2, z3, hp, hlen, Int.natCast_nonneg, nth_u8, Nat.mul_one, w_byte, w_shl, w_or, ws_setw, toCL_c]; (repeat refine AI ?_); refine hK' _ _ ?_; clear hK' K')
  simp only [sE, ↓reduceIte, simprocAttr]
  repeat refine AI ?_
  refine hK _ _ _ ?_
  clear hK K
  refine hw_region (by kernel_rfl) ?_
  simp (maxSteps := 4000000) only [↓sP, sA, tyS, simprocAttr, IntWalk.i64_in _ (show -9223372036854775808 ≤ (i : Int) + 1 ∧ (i : Int) + 1 ≤ 9223372036854775807 by omega)]
  refine ⟨⟨i + 1, hlt⟩, fits_fin (by omega) (by simp [FinOk, fin_at, finA_at, upd_at, HV.men, HV.menL, HV.norm, HV.toC, HV.toCL]) (by simp [FobOk, fob_at, upd_at, none0_at, gone, HO.men, HV.men, HV.menL, HV.norm, HV.toC, HV.toCL]; rfl), ?_⟩
  show 16 - (i + 1) < 16 - i
  omega
 ·
  refine hw_exit ?_
  simp (maxSteps := 4000000) only [↓sP, sA, tyS, simprocAttr]
  clear hK K
  repeat refine AI ?_
  refine hK _ _ _ ?_
  clear hK K
  refine hw_seq fun K hK => ?_
  refine hw_seq fun K hK => hw_region (by kernel_rfl) ?_
  simp (maxSteps := 4000000) only [↓sP, sA, tyS, simprocAttr]
  repeat refine AI ?_
  refine hK _ _ _ ?_
  clear hK K
  refine hw_block ?_
  have hei : i = 16 := by simp at hb; omega
  subst hei
  clear hb hlen
  refine hw_loop (α := {i : Nat // i ≤ 48}) (fun i => (fin [(2, .ptr 0 0), (4, .ptr 4 0), (5, .ptr 8 0), (7, .c (.int .i64 ((i.1 + 16 : Nat) : Int)))], fob [(0, .box 112 (.c (ws s.l))), (4, .box 112 (.c (ws (wz 8)))), (8, .box 113 (.c (ws (wB (wA p 16) i.1))))])) 100 (fun i => 48 - i.1) ⟨0, by omega⟩ (fits_fin (by omega) (by simp [FinOk, fin_at, finA_at, upd_at, HV.men, HV.menL, HV.norm, HV.toC, HV.toCL]) (by simp [FobOk, fob_at, upd_at, none0_at, gone, HO.men, HV.men, HV.menL, HV.norm, HV.toC, HV.toCL])) ?_
  rintro ⟨i, hi⟩
  have hlen : (wB (wA p 16) i).length = 64 := by rw [wB_len, wA_len]
  refine hw_seq fun K hK => ?_
  refine hw_seq fun K hK => hw_region (by kernel_rfl) ?_
  simp (maxSteps := 4000000) only [↓sP, sA, tyS, simprocAttr]
  repeat refine AI ?_
  refine hK _ _ _ ?_
  clear hK K
  refine hw_cond (b := decide (((i + 16 : Nat) : Int) < 64)) rfl (fun hb => ?_) (fun hb => ?_)
  ·
   have hlt : i < 48 := by simp at hb; omega
   have q0 : i < 64 := by omega
   have q1 : i + 1 < 64 := by omega
   have q2 : i + 14 < 64 := by omega
   have q3 : i + 9 < 64 := by omega
   have q4 : i + 16 < 64 := by omega
   have z0 : (i : Int) < 64 := by omega
   have z1 : ((i + 1 : Nat) : Int) < 64 := by omega
   have z2 : ((i + 14 : Nat) : Int) < 64 := by omega
   have z3 : ((i + 9 : Nat) : Int) < 64 := by omega
   have z4 : ((i + 16 : Nat) : Int) < 64 := by omega
   have m0 : IntKind.i64.wrap (((i + 16 : Nat) : Int) - 16) = (i : Int) := by rw [IntWalk.i64_in _ (by omega)]; omega
   have m1 : IntKind.i64.wrap (((i + 16 : Nat) : Int) - 15) = ((i + 1 : Nat) : Int) := by rw [IntWalk.i64_in _ (by omega)]; omega
   have m2 : IntKind.i64.wrap (((i + 16 : Nat) : Int) - 2) = ((i + 14 : Nat) : Int) := by rw [IntWalk.i64_in _ (by omega)]; omega
   have m3 : IntKind.i64.wrap (((i + 16 : Nat) : Int) - 7) = ((i + 9 : Nat) : Int) := by rw [IntWalk.i64_in _ (by omega)]; omega
   have m4 : IntKind.i64.wrap (((i + 16 : Nat) : Int) + 1) = ((i + 1 + 16 : Nat) : Int) := by rw [IntWalk.i64_in _ (by omega)]; omega
   refine hw_skip ?_
   simp (maxSteps := 4000000) only [↓sP, sA, tyS, simprocAttr]
   repeat refine AI ?_
   refine hK _ _ _ ?_
   clear hK K
   refine hw_seq fun K hK => ?_
   refine hw_block ?_
   refine hw_seq fun K hK => hw_draw2 mixed [(0, [], []), (1, [], []), (2, [], []), (3, [], []), (5, [], []), (6, [], []), (7, [], []), (8, [], []), (11, [], []), (12, [], []), (13, [], []), (14, [], []), (15, [], []), (4, [], [5, 6, 7, 8, 11, 12, 13, 14, 15]), (9, [], [11, 12, 13, 14, 15]), (10, [], []), (16, [], []), (17, [], [])] [0, 1, 3, 7, 15, 0, 32, 96, 224, 511, 1023, 0, 2048, 6144, 14336, 30720, 65535, 131071] (by kernel_rfl) (by kernel_rfl) (by kernel_rfl) (by kernel_rfl) rfl (by kernel_rfl) ?_
   iterate 13
    (refine hwalk2_step (g := none) rfl rfl fun K' hK' => ?_; simp only [sH, ↓sP, sA, tyS, simprocAttr, m1, q1, z1, hlen, Int.natCast_nonneg, Nat.mul_one, ws_gw, w_xor, w_shr]; (repeat refine AI ?_); refine hK' _ _ ?_; clear hK' K')
   refine hwalk2_step (g := none) rfl rfl fun K' hK' => ?_
   simp (maxSteps := 4000000) only [sH, ↓sP, sA, tyS, simprocAttr, m1, q1, z1, hlen, Int.natCast_nonneg, Nat.mul_one, ws_gw, w_xor, w_shr]
   refine call_pure (args := [_, _]) (rot_ok _ 7 (by omega) (by omega)) ⟨rfl, rfl, rfl, rfl⟩ ?_
   rintro u rfl
   repeat refine AI ?_
   refine hK' _ _ ?_
   clear hK' K'
   refine hwalk2_step (g := none) rfl rfl fun K' hK' => ?_
   simp (maxSteps := 4000000) only [sH, ↓sP, sA, tyS, simprocAttr, m1, q1, z1, hlen, Int.natCast_nonneg, Nat.mul_one, ws_gw, w_xor, w_shr]
   refine call_pure (args := [_, _]) (rot_ok _ 18 (by omega) (by omega)) ⟨rfl, rfl, rfl, rfl⟩ ?_
   rintro u rfl
   repeat refine AI ?_
   refine hK' _ _ ?_
   clear hK' K'
   iterate 3
    (refine hwalk2_step (g := none) rfl rfl fun K' hK' => ?_; simp only [sH, ↓sP, sA, tyS, simprocAttr, m1, q1, z1, hlen, Int.natCast_nonneg, Nat.mul_one, ws_gw, w_xor, w_shr]; (repeat refine AI ?_); refine hK' _ _ ?_; clear hK' K')
   simp only [sE, ↓reduceIte, simprocAttr]
   repeat refine AI ?_
   refine hK _ _ _ ?_
   clear hK K
   refine hw_seq fun K hK => hw_draw2 mixed [(0, [], []), (1, [], []), (2, [], []), (3, [], []), (5, [], []), (6, [], []), (7, [], []), (8, [], []), (11, [], []), (12, [], []), (13, [], []), (14, [], []), (15, [], []), (4, [], [5, 6, 7, 8, 11, 12, 13, 14, 15]), (9, [], [11, 12, 13, 14, 15]), (10, [], []), (16, [], []), (17, [], [])] [0, 1, 3, 7, 15, 0, 32, 96, 224, 511, 1023, 0, 2048, 6144, 14336, 30720, 65535, 131071] (by kernel_rfl) (by kernel_rfl) (by kernel_rfl) (by kernel_rfl) rfl (by kernel_rfl) ?_
   iterate 13
    (refine hwalk2_step (g := none) rfl rfl fun K' hK' => ?_; simp only [sH, ↓sP, sA, tyS, simprocAttr, m2, q2, z2, hlen, Int.natCast_nonneg, Nat.mul_one, ws_gw, w_xor, w_shr]; (repeat refine AI ?_); refine hK' _ _ ?_; clear hK' K')
   refine hwalk2_step (g := none) rfl rfl fun K' hK' => ?_
   simp (maxSteps := 4000000) only [sH, ↓sP, sA, tyS, simprocAttr, m2, q2, z2, hlen, Int.natCast_nonneg, Nat.mul_one, ws_gw, w_xor, w_shr]
   refine call_pure (args := [_, _]) (rot_ok _ 17 (by omega) (by omega)) ⟨rfl, rfl, rfl, rfl⟩ ?_
   rintro u rfl
   repeat refine AI ?_
   refine hK' _ _ ?_
   clear hK' K'
   refine hwalk2_step (g := none) rfl rfl fun K' hK' => ?_
   simp (maxSteps := 4000000) only [sH, ↓sP, sA, tyS, simprocAttr, m2, q2, z2, hlen, Int.natCast_nonneg, Nat.mul_one, ws_gw, w_xor, w_shr]
   refine call_pure (args := [_, _]) (rot_ok _ 19 (by omega) (by omega)) ⟨rfl, rfl, rfl, rfl⟩ ?_
   rintro u rfl
   repeat refine AI ?_
   refine hK' _ _ ?_
   clear hK' K'
   iterate 3
    (refine hwalk2_step (g := none) rfl rfl fun K' hK' => ?_; simp only [sH, ↓sP, sA, tyS, simprocAttr, m2, q2, z2, hlen, Int.natCast_nonneg, Nat.mul_one, ws_gw, w_xor, w_shr]; (repeat refine AI ?_); refine hK' _ _ ?_; clear hK' K')
   simp only [sE, ↓reduceIte, simprocAttr]
   repeat refine AI ?_
   refine hK _ _ _ ?_
   clear hK K
   refine hw_draw2 mixed [(0, [], []), (1, [], []), (2, [], []), (3, [], []), (4, [], []), (5, [], []), (6, [], []), (7, [], []), (8, [], []), (9, [], []), (10, [], []), (11, [], []), (12, [], []), (13, [], []), (14, [], []), (15, [], [])] [0, 0, 2, 6, 14, 0, 62, 0, 128, 384, 896, 2046, 0, 8190, 16383, 32767] (by kernel_rfl) (by kernel_rfl) (by kernel_rfl) (by kernel_rfl) rfl (by kernel_rfl) ?_
   iterate 16
    (refine hwalk2_step (g := none) rfl rfl fun K' hK' => ?_; simp only [sH, ↓sP, sA, tyS, simprocAttr, m0, m3, q0, q3, q4, z0, z3, z4, hlen, Int.natCast_nonneg, Nat.mul_one, ws_gw, w_add, ws_setw, toCL_c]; (repeat refine AI ?_); refine hK' _ _ ?_; clear hK' K')
   simp only [sE, ↓reduceIte, simprocAttr]
   repeat refine AI ?_
   refine hK _ _ _ ?_
   clear hK K
   refine hw_region (by kernel_rfl) ?_
   simp (maxSteps := 4000000) only [↓sP, sA, tyS, simprocAttr, m4]
   refine ⟨⟨i + 1, hlt⟩, fits_fin (by omega) (by simp [FinOk, fin_at, finA_at, upd_at, HV.men, HV.menL, HV.norm, HV.toC, HV.toCL]) (by simp [FobOk, fob_at, upd_at, none0_at, gone, HO.men, HV.men, HV.menL, HV.norm, HV.toC, HV.toCL]; rfl), ?_⟩
   show 48 - (i + 1) < 48 - i
   omega
  ·
   refine hw_exit ?_
   simp (maxSteps := 4000000) only [↓sP, sA, tyS, simprocAttr]
   clear hK K
   repeat refine AI ?_
   refine hK _ _ _ ?_
   clear hK K
   have hei : i = 48 := by simp at hb; omega
   subst hei
   clear hb hlen
   rw [wsched_eq]
   refine hw_seq fun K hK => hw_region (by kernel_rfl) ?_
   simp only [sR, simprocAttr]
   refine hlex_step (g := none) rfl rfl fun K' hK' => ?_
   simp (maxSteps := 4000000) only [sH, ↓sP, sA, tyS, simprocAttr, ws_setAll, wz_len, K_len]
   refine call_pure (args := []) constants_ok ⟨rfl, rfl, rfl, rfl⟩ ?_
   rintro u rfl
   repeat refine AI ?_
   refine hK' _ _ ?_
   clear hK' K'
   iterate 2
    (refine hlex_step (g := none) rfl rfl fun K' hK' => ?_; simp only [sH, ↓sP, sA, tyS, simprocAttr, ws_setAll, wz_len, K_len]; (repeat refine AI ?_); refine hK' _ _ ?_; clear hK' K')
   simp only [sE, ↓reduceIte, simprocAttr]
   repeat refine AI ?_
   refine hK _ _ _ ?_
   clear hK K
   refine hw_seq fun K hK => hw_region (by kernel_rfl) ?_
   simp (maxSteps := 4000000) only [↓sP, sA, tyS, simprocAttr, ws_all, ws_setAll, wz_len, St_len]
   repeat refine AI ?_
   refine hK _ _ _ ?_
   clear hK K
   refine hw_seq fun K hK => ?_
   refine hw_seq fun K hK => hw_region (by kernel_rfl) ?_
   simp (maxSteps := 4000000) only [↓sP, sA, tyS, simprocAttr]
   repeat refine AI ?_
   refine hK _ _ _ ?_
   clear hK K
   refine hw_block ?_
   refine hw_loop (α := {x : Nat × St // x.1 ≤ 64 ∧ x.2 = itN (rnd (wsched p)) x.1 s}) (fun x => (fin [(2, .ptr 0 0), (4, .ptr 4 0), (5, .ptr 8 0), (10, .ptr 112 0), (11, .ptr 124 0), (12, .c (.int .i64 x.1.1))], fob [(0, .box 112 (.c (ws s.l))), (4, .box 112 (.c (ws (wz 8)))), (8, .box 113 (.c (ws (wsched p)))), (112, .box 113 (.c (ws K256))), (124, .box 112 (.c (ws x.1.2.l)))])) 300 (fun x => 64 - x.1.1) ⟨(0, s), by omega, rfl⟩ (fits_fin (by omega) (by simp [FinOk, fin_at, finA_at, upd_at, HV.men, HV.menL, HV.norm, HV.toC, HV.toCL]) (by simp [FobOk, fob_at, upd_at, none0_at, gone, HO.men, HV.men, HV.menL, HV.norm, HV.toC, HV.toCL])) ?_
   rintro ⟨⟨i, S⟩, hi, hS⟩
   replace hi : i ≤ 64 := hi
   replace hS : S = itN (rnd (wsched p)) i s := hS
   refine hw_seq fun K hK => ?_
   refine hw_seq fun K hK => hw_region (by kernel_rfl) ?_
   simp (maxSteps := 4000000) only [↓sP, sA, tyS, simprocAttr]
   repeat refine AI ?_
   refine hK _ _ _ ?_
   clear hK K
   refine hw_cond (b := decide ((i : Int) < 64)) rfl (fun hb => ?_) (fun hb => ?_)
   ·
    have hlt : i < 64 := by simp at hb; omega
    have z : (i : Int) < 64 := by omega
    refine hw_skip ?_
    simp (maxSteps := 4000000) only [↓sP, sA, tyS, simprocAttr]
    repeat refine AI ?_
    refine hK _ _ _ ?_
    clear hK K
    refine hw_seq fun K hK => ?_
    refine hw_block ?_
    refine hw_seq fun K hK => hw_draw2 mixed [(0, [], []), (1, [], []), (3, [], []), (4, [], []), (7, [], []), (8, [], []), (2, [], [3, 4, 7, 8]), (5, [], [7, 8]), (6, [], []), (9, [], [6]), (10, [], []), (11, [], [])] [0, 1, 3, 0, 8, 31, 63, 0, 128, 447, 1023, 2047] (by kernel_rfl) (by kernel_rfl) (by kernel_rfl) (by kernel_rfl) rfl (by kernel_rfl) ?_
    iterate 6
     (refine hwalk2_step (g := none) rfl rfl fun K' hK' => ?_; simp only [sH, ↓sP, sA, tyS, simprocAttr, ws_gw, St_len, gw_a, gw_b, gw_c, gw_d, gw_e, gw_f, gw_g, gw_h, ws_isAgg, Nat.mul_one, Int.natCast_nonneg, w_xor]; (repeat refine AI ?_); refine hK' _ _ ?_; clear hK' K')
    refine hwalk2_step (g := none) rfl rfl fun K' hK' => ?_
    simp (maxSteps := 4000000) only [sH, ↓sP, sA, tyS, simprocAttr, ws_gw, St_len, gw_a, gw_b, gw_c, gw_d, gw_e, gw_f, gw_g, gw_h, ws_isAgg, Nat.mul_one, Int.natCast_nonneg, w_xor]
    refine call_pure (args := [_, _]) (rot_ok _ 6 (by omega) (by omega)) ⟨rfl, rfl, rfl, rfl⟩ ?_
    rintro u rfl
    repeat refine AI ?_
    refine hK' _ _ ?_
    clear hK' K'
    refine hwalk2_step (g := none) rfl rfl fun K' hK' => ?_
    simp (maxSteps := 4000000) only [sH, ↓sP, sA, tyS, simprocAttr, ws_gw, St_len, gw_a, gw_b, gw_c, gw_d, gw_e, gw_f, gw_g, gw_h, ws_isAgg, Nat.mul_one, Int.natCast_nonneg, w_xor]
    refine call_pure (args := [_, _]) (rot_ok _ 11 (by omega) (by omega)) ⟨rfl, rfl, rfl, rfl⟩ ?_
    rintro u rfl
    repeat refine AI ?_
    refine hK' _ _ ?_
    clear hK' K'
    refine hwalk2_step (g := none) rfl rfl fun K' hK' => ?_
    simp (maxSteps := 4000000) only [sH, ↓sP, sA, tyS, simprocAttr, ws_gw, St_len, gw_a, gw_b, gw_c, gw_d, gw_e, gw_f, gw_g, gw_h, ws_isAgg, Nat.mul_one, Int.natCast_nonneg, w_xor]
    repeat refine AI ?_
    refine hK' _ _ ?_
    clear hK' K'
    refine hwalk2_step (g := none) rfl rfl fun K' hK' => ?_
    simp (maxSteps := 4000000) only [sH, ↓sP, sA, tyS, simprocAttr, ws_gw, St_len, gw_a, gw_b, gw_c, gw_d, gw_e, gw_f, gw_g, gw_h, ws_isAgg, Nat.mul_one, Int.natCast_nonneg, w_xor]
    refine call_pure (args := [_, _]) (rot_ok _ 25 (by omega) (by omega)) ⟨rfl, rfl, rfl, rfl⟩ ?_
    rintro u rfl
    repeat refine AI ?_
    refine hK' _ _ ?_
    clear hK' K'
    iterate 2
     (refine hwalk2_step (g := none) rfl rfl fun K' hK' => ?_; simp only [sH, ↓sP, sA, tyS, simprocAttr, ws_gw, St_len, gw_a, gw_b, gw_c, gw_d, gw_e, gw_f, gw_g, gw_h, ws_isAgg, Nat.mul_one, Int.natCast_nonneg, w_xor]; (repeat refine AI ?_); refine hK' _ _ ?_; clear hK' K')
    simp only [sE, ↓reduceIte, simprocAttr]
    repeat refine AI ?_
    refine hK _ _ _ ?_
    clear hK K
    refine hw_seq fun K hK => hw_quiet mixed (by kernel_rfl) (by kernel_rfl) (by kernel_rfl) ?_
    simp only [sR, simprocAttr]
    iterate 26
     (refine hlex_step (g := none) rfl rfl fun K' hK' => ?_; simp only [sH, ↓sP, sA, tyS, simprocAttr, ws_gw, St_len, gw_a, gw_b, gw_c, gw_d, gw_e, gw_f, gw_g, gw_h, ws_isAgg, Nat.mul_one, Int.natCast_nonneg, z, hlt, K_len, wsched_len, w_add, w_and, w_xor, w_not, t1_ref]; (repeat refine AI ?_); refine hK' _ _ ?_; clear hK' K')
    simp only [sE, ↓reduceIte, simprocAttr]
    repeat refine AI ?_
    refine hK _ _ _ ?_
    clear hK K
    refine hw_seq fun K hK => hw_draw2 mixed [(0, [], []), (1, [], []), (3, [], []), (4, [], []), (7, [], []), (8, [], []), (2, [], [3, 4, 7, 8]), (5, [], [7, 8]), (6, [], []), (9, [], [6]), (10, [], []), (11, [], [])] [0, 1, 3, 0, 8, 31, 63, 0, 128, 447, 1023, 2047] (by kernel_rfl) (by kernel_rfl) (by kernel_rfl) (by kernel_rfl) rfl (by kernel_rfl) ?_
    iterate 6
     (refine hwalk2_step (g := none) rfl rfl fun K' hK' => ?_; simp only [sH, ↓sP, sA, tyS, simprocAttr, ws_gw, St_len, gw_a, gw_b, gw_c, gw_d, gw_e, gw_f, gw_g, gw_h, ws_isAgg, Nat.mul_one, Int.natCast_nonneg, w_xor]; (repeat refine AI ?_); refine hK' _ _ ?_; clear hK' K')
    refine hwalk2_step (g := none) rfl rfl fun K' hK' => ?_
    simp (maxSteps := 4000000) only [sH, ↓sP, sA, tyS, simprocAttr, ws_gw, St_len, gw_a, gw_b, gw_c, gw_d, gw_e, gw_f, gw_g, gw_h, ws_isAgg, Nat.mul_one, Int.natCast_nonneg, w_xor]
    refine call_pure (args := [_, _]) (rot_ok _ 2 (by omega) (by omega)) ⟨rfl, rfl, rfl, rfl⟩ ?_
    rintro u rfl
    repeat refine AI ?_
    refine hK' _ _ ?_
    clear hK' K'
    refine hwalk2_step (g := none) rfl rfl fun K' hK' => ?_
    simp (maxSteps := 4000000) only [sH, ↓sP, sA, tyS, simprocAttr, ws_gw, St_len, gw_a, gw_b, gw_c, gw_d, gw_e, gw_f, gw_g, gw_h, ws_isAgg, Nat.mul_one, Int.natCast_nonneg, w_xor]
    refine call_pure (args := [_, _]) (rot_ok _ 13 (by omega) (by omega)) ⟨rfl, rfl, rfl, rfl⟩ ?_
    rintro u rfl
    repeat refine AI ?_
    refine hK' _ _ ?_
    clear hK' K'
    refine hwalk2_step (g := none) rfl rfl fun K' hK' => ?_
    simp (maxSteps := 4000000) only [sH, ↓sP, sA, tyS, simprocAttr, ws_gw, St_len, gw_a, gw_b, gw_c, gw_d, gw_e, gw_f, gw_g, gw_h, ws_isAgg, Nat.mul_one, Int.natCast_nonneg, w_xor]
    repeat refine AI ?_
    refine hK' _ _ ?_
    clear hK' K'
    refine hwalk2_step (g := none) rfl rfl fun K' hK' => ?_
    simp (maxSteps := 4000000) only [sH, ↓sP, sA, tyS, simprocAttr, ws_gw, St_len, gw_a, gw_b, gw_c, gw_d, gw_e, gw_f, gw_g, gw_h, ws_isAgg, Nat.mul_one, Int.natCast_nonneg, w_xor]
    refine call_pure (args := [_, _]) (rot_ok _ 22 (by omega) (by omega)) ⟨rfl, rfl, rfl, rfl⟩ ?_
    rintro u rfl
    repeat refine AI ?_
    refine hK' _ _ ?_
    clear hK' K'
    iterate 2
     (refine hwalk2_step (g := none) rfl rfl fun K' hK' => ?_; simp only [sH, ↓sP, sA, tyS, simprocAttr, ws_gw, St_len, gw_a, gw_b, gw_c, gw_d, gw_e, gw_f, gw_g, gw_h, ws_isAgg, Nat.mul_one, Int.natCast_nonneg, w_xor]; (repeat refine AI ?_); refine hK' _ _ ?_; clear hK' K')
    simp only [sE, ↓reduceIte, simprocAttr]
    repeat refine AI ?_
    refine hK _ _ _ ?_
    clear hK K
    refine hw_seq fun K hK => hw_region (by kernel_rfl) ?_
    simp only [sR, simprocAttr]
    iterate 20
     (refine hlex_step (g := none) rfl rfl fun K' hK' => ?_; simp only [sH, ↓sP, sA, tyS, simprocAttr, ws_gw, St_len, gw_a, gw_b, gw_c, gw_d, gw_e, gw_f, gw_g, gw_h, ws_isAgg, Nat.mul_one, Int.natCast_nonneg, w_add, w_and, w_xor, t2_ref]; (repeat refine AI ?_); refine hK' _ _ ?_; clear hK' K')
    simp only [sE, ↓reduceIte, simprocAttr]
    repeat refine AI ?_
    refine hK _ _ _ ?_
    clear hK K
    refine hw_region (by kernel_rfl) ?_
    simp only [sR, simprocAttr]
    iterate 19
     (refine hlex_step (g := none) rfl rfl fun K' hK' => ?_; simp only [sH, ↓sP, sA, tyS, simprocAttr, ws_gw, St_len, gw_a, gw_b, gw_c, gw_d, gw_e, gw_f, gw_g, gw_h, ws_isAgg, Nat.mul_one, Int.natCast_nonneg, w_add, ws_setAll]; (repeat refine AI ?_); refine hK' _ _ ?_; clear hK' K')
    refine hlex_step (g := none) rfl rfl fun K' hK' => ?_
    simp (maxSteps := 4000000) only [sH, ↓sP, sA, tyS, simprocAttr, ws_gw, St_len, gw_a, gw_b, gw_c, gw_d, gw_e, gw_f, gw_g, gw_h, ws_isAgg, Nat.mul_one, Int.natCast_nonneg, w_add, ws_setAll]
    rw [hbuild_ws (n := 8) (rnd (wsched p) i S).l rfl rfl]
    repeat refine AI ?_
    refine hK' _ _ ?_
    clear hK' K'
    refine hlex_step (g := none) rfl rfl fun K' hK' => ?_
    simp (maxSteps := 4000000) only [sH, ↓sP, sA, tyS, simprocAttr, ws_gw, St_len, gw_a, gw_b, gw_c, gw_d, gw_e, gw_f, gw_g, gw_h, ws_isAgg, Nat.mul_one, Int.natCast_nonneg, w_add, ws_setAll]
    repeat refine AI ?_
    refine hK' _ _ ?_
    clear hK' K'
    simp only [sE, ↓reduceIte, simprocAttr]
    repeat refine AI ?_
    refine hK _ _ _ ?_
    clear hK K
    refine hw_region (by kernel_rfl) ?_
    simp (maxSteps := 4000000) only [↓sP, sA, tyS, simprocAttr, IntWalk.i64_in _ (show -9223372036854775808 ≤ (i : Int) + 1 ∧ (i : Int) + 1 ≤ 9223372036854775807 by omega)]
    refine ⟨⟨(i + 1, rnd (wsched p) i S), hlt, by rw [hS]; rfl⟩, fits_fin (by omega) (by simp [FinOk, fin_at, finA_at, upd_at, HV.men, HV.menL, HV.norm, HV.toC, HV.toCL]) (by simp [FobOk, fob_at, upd_at, none0_at, gone, HO.men, HV.men, HV.menL, HV.norm, HV.toC, HV.toCL]), ?_⟩
    show 64 - (i + 1) < 64 - i
    omega
   ·
    refine hw_exit ?_
    simp (maxSteps := 4000000) only [↓sP, sA, tyS, simprocAttr]
    clear hK K
    repeat refine AI ?_
    refine hK _ _ _ ?_
    clear hK K
    refine hw_seq fun K hK => ?_
    refine hw_seq fun K hK => hw_region (by kernel_rfl) ?_
    simp (maxSteps := 4000000) only [↓sP, sA, tyS, simprocAttr]
    repeat refine AI ?_
    refine hK _ _ _ ?_
    clear hK K
    refine hw_block ?_
    have hei : i = 64 := by simp at hb; omega
    subst hei
    clear hb
    have e8 : addL s S 8 = (comp s p).l := by rw [hS]; rfl
    clear hS
    refine hw_loop (α := {j : Nat // j ≤ 8}) (fun j => (fin [(2, .ptr 0 0), (4, .ptr 4 0), (11, .ptr 124 0), (17, .c (.int .i64 j.1))], fob [(0, .box 112 (.c (ws (addL s S j.1)))), (4, .box 112 (.c (ws (wz 8)))), (124, .box 112 (.c (ws S.l)))])) 300 (fun j => 8 - j.1) ⟨0, by omega⟩ (fits_fin (by omega) (by simp [FinOk, fin_at, finA_at, upd_at, HV.men, HV.menL, HV.norm, HV.toC, HV.toCL]) (by simp [FobOk, fob_at, upd_at, none0_at, gone, HO.men, HV.men, HV.menL, HV.norm, HV.toC, HV.toCL])) ?_
    rintro ⟨j, hj⟩
    have hlen := addL_len s S j (by omega)
    refine hw_seq fun K hK => ?_
    refine hw_seq fun K hK => hw_region (by kernel_rfl) ?_
    simp (maxSteps := 4000000) only [↓sP, sA, tyS, simprocAttr]
    repeat refine AI ?_
    refine hK _ _ _ ?_
    clear hK K
    refine hw_cond (b := decide ((j : Int) < 8)) rfl (fun hb => ?_) (fun hb => ?_)
    ·
     have hlt : j < 8 := by simp at hb; omega
     have z : (j : Int) < 8 := by omega
     have hg := addL_gw s S j hlt
     refine hw_skip ?_
     simp (maxSteps := 4000000) only [↓sP, sA, tyS, simprocAttr]
     repeat refine AI ?_
     refine hK _ _ _ ?_
     clear hK K
     refine hw_seq fun K hK => ?_
     refine hw_block ?_
     refine hw_draw2 mixed [(0, [], []), (1, [], []), (2, [], []), (3, [], []), (4, [], []), (5, [], []), (6, [], []), (7, [], []), (8, [], []), (9, [], [])] [0, 0, 2, 6, 0, 16, 48, 126, 255, 511] (by kernel_rfl) (by kernel_rfl) (by kernel_rfl) (by kernel_rfl) rfl (by kernel_rfl) ?_
     iterate 10
      (refine hwalk2_step (g := none) rfl rfl fun K' hK' => ?_; simp only [sH, ↓sP, sA, tyS, simprocAttr, z, hlt, hlen, hg, ws_gw, St_len, Nat.mul_one, Int.natCast_nonneg, w_add, ws_setw, toCL_c]; (repeat refine AI ?_); refine hK' _ _ ?_; clear hK' K')
     simp only [sE, ↓reduceIte, simprocAttr]
     repeat refine AI ?_
     refine hK _ _ _ ?_
     clear hK K
     refine hw_region (by kernel_rfl) ?_
     simp (maxSteps := 4000000) only [↓sP, sA, tyS, simprocAttr, IntWalk.i64_in _ (show -9223372036854775808 ≤ (j : Int) + 1 ∧ (j : Int) + 1 ≤ 9223372036854775807 by omega)]
     refine ⟨⟨j + 1, hlt⟩, fits_fin (by omega) (by simp [FinOk, fin_at, finA_at, upd_at, HV.men, HV.menL, HV.norm, HV.toC, HV.toCL]) (by simp [FobOk, fob_at, upd_at, none0_at, HO.men, HV.men, HV.menL, HV.norm, HV.toC, HV.toCL]; rw [addL_step s S j hlt]), ?_⟩
     show 8 - (j + 1) < 8 - j
     omega
    ·
     refine hw_exit ?_
     simp (maxSteps := 4000000) only [↓sP, sA, tyS, simprocAttr]
     clear hK K
     repeat refine AI ?_
     refine hK _ _ _ ?_
     clear hK K
     have hej : j = 8 := by simp at hb; omega
     subst hej
     clear hb
     refine hw_seq fun K hK => hw_region (by kernel_rfl) ?_
     simp (maxSteps := 4000000) only [↓sP, sA, tyS, simprocAttr, ws_all, ws_setAll, wz_len, hlen]
     repeat refine AI ?_
     refine hK _ _ _ ?_
     clear hK K
     refine hw_ret ?_
     simp (maxSteps := 4000000) only [hpost, Tryz.results81, hresL, hres1, tupOf, ↓sP, sA, tyS, simprocAttr]
     simp only [ws_all hlen, Option.map_some]
     exact hret_pure [] (ws (addL s S 8)) (close_c (ws_denil _)) (by rw [e8])

end Go.Proofs.YtbdgmfbhiihcfaaGreat

namespace Go.Pl
open Go Go.Hl

theorem blk_succ (p : List UInt8) (n : Nat) (s : St) : blk p (n + 1) s = comp (blk p n s) ((p.drop (64 * n)).take 64) := rfl
theorem len8_len (n : Nat) : (len8 n).length = 8 := by simp [len8]
theorem pad_len (b : List UInt8) : (pad b).length = b.length + 1 + zs b.length + 8 := by simp [pad, len8_len]; omega
theorem pad_mod (b : List UInt8) : (pad b).length % 64 = 0 := by
  rw [pad_len]; unfold zs; omega
theorem pad_blk {b : List UInt8} {j : Nat} (h : 64 * (j + 1) ≤ b.length) : ((pad b).drop (64 * j)).take 64 = (b.drop (64 * j)).take 64 := by
  unfold pad
  rw [List.append_assoc, List.append_assoc, List.drop_append_of_le_length (by omega), List.take_append_of_le_length (by rw [List.length_drop]; omega)]
/-- The bytes of the last one or two blocks before the length. -/
def padP (b : List UInt8) (j : Nat) : List UInt8 := b.drop (64 * j) ++ [0x80] ++ List.replicate (zs b.length) 0
theorem pad_tail {b : List UInt8} {j : Nat} (h : 64 * j ≤ b.length) : (pad b).drop (64 * j) = padP b j ++ len8 b.length := by
  unfold pad padP
  rw [List.append_assoc, List.append_assoc, List.drop_append_of_le_length h]
  simp
def lastM (b : List UInt8) (j : Nat) : Nat := if b.length - 64 * j < 56 then 64 else 128
section
variable {b : List UInt8} {j : Nat} (h0 : 64 * j ≤ b.length) (h1 : b.length < 64 * j + 64)
include h0 h1
theorem padP_len : (padP b j).length + 8 = lastM b j := by
  simp only [padP, lastM, List.length_append, List.length_drop, List.length_singleton, List.length_replicate]
  unfold zs
  split <;> omega
theorem pad_blocks : (pad b).length = 64 * j + lastM b j := by
  have e := congrArg List.length (pad_tail h0)
  rw [List.length_drop, List.length_append, len8_len, padP_len h0 h1] at e
  have : 64 * j ≤ (pad b).length := by rw [pad_len]; omega
  omega
theorem arr0 : ((b.drop (64 * j) ++ (uz 128).drop (b.length - 64 * j)).set (b.length - 64 * j) 0x80) = padP b j ++ (List.replicate 8 0 ++ List.replicate (128 - lastM b j) 0) := by
  have hl : (b.drop (64 * j)).length = b.length - 64 * j := List.length_drop
  have e : (uz 128).drop (b.length - 64 * j) = 0 :: List.replicate (127 - (b.length - 64 * j)) 0 := by
    unfold uz
    rw [List.drop_replicate, ← List.replicate_succ]
    congr 1; omega
  rw [List.set_append_right _ _ (by omega), hl, Nat.sub_self, e, List.set_cons_zero, List.replicate_append_replicate]
  have e2 : 127 - (b.length - 64 * j) = zs b.length + (8 + (128 - lastM b j)) := by
    unfold zs lastM; split <;> omega
  rw [e2, ← List.replicate_append_replicate, ← List.replicate_append_replicate]
  simp only [padP, List.append_assoc, List.singleton_append, List.cons_append, List.nil_append, List.replicate_append_replicate]
end
def midB (n i : Nat) : List UInt8 := (List.range 8).map fun q => if 7 - q < i then UInt8.ofNat (8 * n / 2 ^ (8 * (7 - q))) else 0
theorem midB_zero (n : Nat) : List.replicate 8 0 = midB n 0 := rfl
theorem midB_step (n : Nat) : ∀ i, i < 8 → (midB n i).set (7 - i) (UInt8.ofNat (8 * n / 2 ^ (8 * i))) = midB n (i + 1)
  | 0, _ => rfl | 1, _ => rfl | 2, _ => rfl | 3, _ => rfl | 4, _ => rfl | 5, _ => rfl | 6, _ => rfl | 7, _ => rfl
  | j + 8, h => by omega
theorem midB_all (n : Nat) : midB n 8 = len8 n := rfl
theorem midB_len (n i : Nat) : (midB n i).length = 8 := by simp [midB]
/-- The buffer after i bytes of the length. -/
def arrB (b : List UInt8) (j i : Nat) : List UInt8 := padP b j ++ (midB b.length i ++ List.replicate (128 - lastM b j) 0)
section
variable {b : List UInt8} {j : Nat} (h0 : 64 * j ≤ b.length) (h1 : b.length < 64 * j + 64)
include h0 h1
theorem arrB_zero : ((b.drop (64 * j) ++ (uz 128).drop (b.length - 64 * j)).set (b.length - 64 * j) 0x80) = arrB b j 0 := by rw [arr0 h0 h1, midB_zero b.length]; rfl
theorem arrB_len (i : Nat) : (arrB b j i).length = 128 := by
  have := padP_len h0 h1
  simp only [arrB, List.length_append, midB_len, List.length_replicate]
  have : lastM b j ≤ 128 := by unfold lastM; split <;> omega
  omega
theorem arrB_step {i : Nat} (hi : i < 8) : (arrB b j i).set (lastM b j - 1 - i) (UInt8.ofNat (8 * b.length / 2 ^ (8 * i))) = arrB b j (i + 1) := by
  have hp := padP_len h0 h1
  unfold arrB
  rw [List.set_append_right _ _ (by omega), List.set_append_left _ _ (by rw [midB_len]; omega)]
  have : lastM b j - 1 - i - (padP b j).length = 7 - i := by omega
  rw [this, midB_step _ _ hi]
theorem arrB_blk {q : Nat} (hq : 64 * (q + 1) ≤ lastM b j) : ((arrB b j 8).drop (64 * q)).take 64 = ((pad b).drop (64 * (j + q))).take 64 := by
  have hp := padP_len h0 h1
  have e : (arrB b j 8) = (pad b).drop (64 * j) ++ List.replicate (128 - lastM b j) 0 := by rw [pad_tail h0]; unfold arrB; rw [midB_all]; simp
  have hl : ((pad b).drop (64 * j)).length = lastM b j := by rw [List.length_drop, pad_blocks h0 h1]; omega
  rw [e, List.drop_append_of_le_length (by omega), List.take_append_of_le_length (by rw [List.length_drop]; omega), List.drop_drop]
  congr 2; omega
end
theorem over_u8 {r : List UInt8} {n : Nat} (h : r.length ≤ n) : over ((uz n).map u8) ((r.map u8).take n) 0 = (r ++ (uz n).drop r.length).map u8 := by
  have e : (r.map u8).take n = r.map u8 := List.take_of_length_le (by rw [List.length_map]; exact h)
  simp [over, e]
@[simp] theorem us_fold (l : List UInt8) : CV.agg (l.map u8) = us l := rfl
theorem byte_shr (v i : Nat) (h : 8 * i ≤ 64) : IntKind.u8.wrap (Int.fdiv (v : Int) (2 ^ (min (8 * i) IntKind.u64.bits))) = ((UInt8.ofNat (v / 2 ^ (8 * i))).toNat : Int) := by
  have : min (8 * i) IntKind.u64.bits = 8 * i := Nat.min_eq_left h
  rw [this, Int.fdiv_eq_ediv_of_nonneg _ (Int.pow_nonneg (by omega))]
  have e : (v : Int) / 2 ^ (8 * i) = ((v / 2 ^ (8 * i) : Nat) : Int) := by norm_cast
  rw [e, IntKind.wrap_u8, UInt8.toNat_ofNat']
  omega
def ob8 (s : St) (i : Nat) : UInt8 := UInt8.ofNat ((gw s.l (i / 4)) >>> (24 - 8 * (i % 4))).toNat
def outL (s : St) (n : Nat) : List UInt8 := itN (fun i l => l.set i (ob8 s i)) n (uz 32)
@[simp] theorem outL_zero (s : St) : outL s 0 = uz 32 := rfl
theorem outL_succ (s : St) (n : Nat) : (outL s n).set n (ob8 s n) = outL s (n + 1) := rfl
theorem outL_len (s : St) (n : Nat) : (outL s n).length = 32 := by unfold outL; rw [itN_len (fun i l => by simp)]; simp [uz]
theorem outL_all (s : St) : outL s 32 = outB s := by
  unfold outL
  rw [itN_set _ _ _ (by simp [uz])]
  simp [uz, outB, ob8]
theorem len8_take {n i : Nat} (h : i < 8) : (len8 n).take (i + 1) = (len8 n).take i ++ [UInt8.ofNat (8 * n / 2 ^ (8 * (7 - i)))] := by
  rw [List.take_succ_eq_append_getElem (by rw [len8_len]; exact h)]
  simp [len8]
theorem padded {b : List UInt8} : b ++ [0x80] ++ List.replicate (zs b.length) 0 ++ (len8 b.length).take 8 = pad b := by
  rw [List.take_of_length_le (by rw [len8_len]; exact Nat.le_refl _)]; rfl
theorem hf_take (h : Half) : (h.1.map u8).take 16 = h.1.map u8 := List.take_of_length_le (by rw [List.length_map, h.2]; exact Nat.le_refl _)
theorem zd_us : zd = us (uz 32) := rfl
theorem sha_out (b : List UInt8) : us (outB (blk (pad b) ((pad b).length / 64) St0)) = dg (sha b) := rfl
end Go.Pl

namespace Go.Proofs.YtbdgmfbhiihcfaaGreat
open Go Go.Hl Go.Pl
set_option maxRecDepth 10000
set_option maxHeartbeats 4000000
set_option linter.unusedSimpArgs false
set_option linter.unusedVariables false

theorem dsum_ok (b : List UInt8) (hb40 : b.length < 2 ^ 40) : HPure Tryz.prog 56 [.slc (b.map u8)] (fun v => v = dg (sha b)) := by
 have c0 : IntKind.u64.wrap (b.length : Int) = (b.length : Int) := IntWalk.u64_in _ (by omega)
 have c1 : IntKind.u64.wrap ((b.length : Int) * 8) = ((8 * b.length : Nat) : Int) := by rw [IntWalk.u64_in _ (by omega)]; omega
 refine hfn_walk Tryz.func56 rfl (by kernel_rfl) (locOk_nil _) (Nat.le_of_ble_eq_true rfl) ?_
 refine hw_seq fun K hK => hw_region (by kernel_rfl) ?_
 simp (maxSteps := 4000000) only [↓sP, sA, tyS, simprocAttr]
 repeat refine AI ?_
 refine hK _ _ _ ?_
 clear hK K
 refine hw_seq fun K hK => hw_region (by kernel_rfl) ?_
 simp only [sR, simprocAttr]
 refine hlex_step (g := none) rfl rfl fun K' hK' => ?_
 simp (maxSteps := 4000000) only [sH, ↓sP, sA, tyS, simprocAttr, ws_setAll, wz_len, St_len]
 rw [hbuild_ws (n := 8) St0.l rfl rfl]
 repeat refine AI ?_
 refine hK' _ _ ?_
 clear hK' K'
 iterate 2
  (refine hlex_step (g := none) rfl rfl fun K' hK' => ?_; simp only [sH, ↓sP, sA, tyS, simprocAttr, ws_setAll, wz_len, St_len]; (repeat refine AI ?_); refine hK' _ _ ?_; clear hK' K')
 simp only [sE, ↓reduceIte, simprocAttr]
 repeat refine AI ?_
 refine hK _ _ _ ?_
 clear hK K
 refine hw_seq fun K hK => hw_region (by kernel_rfl) ?_
 simp only [sR, simprocAttr]
 refine hlex_step (g := none) rfl rfl fun K' hK' => ?_
 simp (maxSteps := 4000000) only [sH, ↓sP, sA, tyS, simprocAttr, ws_setAll, wz_len, K_len]
 refine call_pure (args := []) rounds_ok ⟨rfl, rfl, rfl, rfl⟩ ?_
 rintro u rfl
 repeat refine AI ?_
 refine hK' _ _ ?_
 clear hK' K'
 iterate 2
  (refine hlex_step (g := none) rfl rfl fun K' hK' => ?_; simp only [sH, ↓sP, sA, tyS, simprocAttr, ws_setAll, wz_len, K_len]; (repeat refine AI ?_); refine hK' _ _ ?_; clear hK' K')
 simp only [sE, ↓reduceIte, simprocAttr]
 repeat refine AI ?_
 refine hK _ _ _ ?_
 clear hK K
 refine hw_freeze 4 20 rfl rfl ?_
 refine hw_seq fun K hK => hw_region (by kernel_rfl) ?_
 simp only [sR, simprocAttr]
 iterate 5
  (refine hlex_step (g := none) rfl rfl fun K' hK' => ?_; simp only [sH, ↓sP, sA, tyS, simprocAttr, c0, c1]; (repeat refine AI ?_); refine hK' _ _ ?_; clear hK' K')
 simp only [sE, ↓reduceIte, simprocAttr]
 repeat refine AI ?_
 refine hK _ _ _ ?_
 clear hK K
 refine hw_seq fun K hK => ?_
 refine hw_block ?_
 refine hw_loop (α := {x : Nat × St // 64 * x.1 ≤ b.length ∧ x.2 = blk (pad b) x.1 St0}) (fun x => (fin [(0, .c (.slc ((b.drop (64 * x.1.1)).map u8))), (2, .ptr 0 0), (3, .ptr 8 0), (4, .c (.rp (ws K256))), (5, .c (.int .u64 ((8 * b.length : Nat) : Int)))], fob [(0, .box 57 (.c zd)), (8, .box 112 (.c (ws x.1.2.l)))])) 100 (fun x => b.length - 64 * x.1.1) ⟨(0, St0), by omega, rfl⟩ (fits_fin (by omega) (by simp [FinOk, fin_at, finA_at, upd_at, HV.men, HV.menL, HV.norm, HV.toC, HV.toCL]) (by simp [FobOk, fob_at, upd_at, none0_at, gone, HO.men, HV.men, HV.menL, HV.norm, HV.toC, HV.toCL])) ?_
 rintro ⟨⟨j, S⟩, hj, hS⟩
 replace hj : 64 * j ≤ b.length := hj
 replace hS : S = blk (pad b) j St0 := hS
 have hdl : (b.drop (64 * j)).length = b.length - 64 * j := List.length_drop
 refine hw_seq fun K hK => ?_
 refine hw_seq fun K hK => hw_region (by kernel_rfl) ?_
 simp only [sR, simprocAttr]
 iterate 3
  (refine hlex_step (g := none) rfl rfl fun K' hK' => ?_; simp only [sH, ↓sP, sA, tyS, simprocAttr, hdl]; (repeat refine AI ?_); refine hK' _ _ ?_; clear hK' K')
 simp only [sE, ↓reduceIte, simprocAttr]
 repeat refine AI ?_
 refine hK _ _ _ ?_
 clear hK K
 refine hw_cond (b := decide ((64 : Int) ≤ ((b.length - 64 * j : Nat) : Int))) rfl (fun hb => ?_) (fun hb => ?_)
 ·
  have hge : 64 ≤ b.length - 64 * j := by simp at hb; omega
  have hge' : (64 : Int) ≤ ((b.length - 64 * j : Nat) : Int) := by omega
  have hp : ((b.drop (64 * j)).take 64).length = 64 := by rw [List.length_take, hdl]; omega
  refine hw_skip ?_
  simp (maxSteps := 4000000) only [↓sP, sA, tyS, simprocAttr]
  repeat refine AI ?_
  refine hK _ _ _ ?_
  clear hK K
  refine hw_block ?_
  refine hw_seq fun K hK => hw_region (by kernel_rfl) ?_
  simp only [sR, simprocAttr]
  iterate 2
   (refine hlex_step (g := none) rfl rfl fun K' hK' => ?_; simp only [sH, ↓sP, sA, tyS, simprocAttr, cells_u8, hdl, hge', List.drop_zero, ← List.map_take, denilL_u8, ws_denil]; (repeat refine AI ?_); refine hK' _ _ ?_; clear hK' K')
  refine hlex_step (g := none) rfl rfl fun K' hK' => ?_
  simp (maxSteps := 4000000) only [sH, ↓sP, sA, tyS, simprocAttr, cells_u8, hdl, hge', List.drop_zero, ← List.map_take, denilL_u8, ws_denil]
  refine call_box0 (args := [_, _]) (absorb_ok S ((b.drop (64 * j)).take 64) hp) rfl (by simp) ⟨rfl, rfl, rfl, rfl⟩ ?_
  rintro v' rfl
  repeat refine AI ?_
  refine hK' _ _ ?_
  clear hK' K'
  simp only [sE, ↓reduceIte, simprocAttr]
  repeat refine AI ?_
  refine hK _ _ _ ?_
  clear hK K
  refine hw_region (by kernel_rfl) ?_
  simp only [sR, simprocAttr]
  iterate 3
   (refine hlex_step (g := none) rfl rfl fun K' hK' => ?_; simp only [sH, ↓sP, sA, tyS, simprocAttr, cells_u8, hdl, hge', ← List.map_drop, ← List.map_take]; (repeat refine AI ?_); refine hK' _ _ ?_; clear hK' K')
  simp only [sE, ↓reduceIte, simprocAttr]
  have e1 : List.take (b.length - 64 * j - 64) (List.drop (64 * j + 64) (List.map u8 b)) = List.drop (64 * (j + 1)) (List.map u8 b) := by
   rw [List.take_of_length_le (by rw [List.length_drop, List.length_map]; omega), show 64 * (j + 1) = 64 * j + 64 from by omega]
  refine ⟨⟨(j + 1, comp S ((b.drop (64 * j)).take 64)), by show 64 * (j + 1) ≤ b.length; omega, by rw [blk_succ, ← hS, pad_blk (by omega)]⟩, fits_fin (by omega) (by simp [FinOk, fin_at, finA_at, upd_at, HV.men, HV.menL, HV.norm, HV.toC, HV.toCL]; exact e1) (by simp [FobOk, fob_at, upd_at, none0_at, gone, HO.men, HV.men, HV.menL, HV.norm, HV.toC, HV.toCL]), ?_⟩
  show b.length - 64 * (j + 1) < b.length - 64 * j
  omega
 ·
  refine hw_exit ?_
  simp (maxSteps := 4000000) only [↓sP, sA, tyS, simprocAttr]
  clear hK K
  repeat refine AI ?_
  refine hK _ _ _ ?_
  clear hK K
  have hlt : b.length < 64 * j + 64 := by simp at hb; omega
  clear hb
  have hov : over ((uz 128).map u8) (((b.drop (64 * j)).map u8).take 128) 0 = ((b.drop (64 * j)) ++ (uz 128).drop (b.length - 64 * j)).map u8 := by rw [over_u8 (by omega), hdl]
  have h80 : CV.setAt (b.length - 64 * j) 1 (.c (.int .u8 128)) (.agg ((b.drop (64 * j) ++ (uz 128).drop (b.length - 64 * j)).map u8)) = some (.agg (((arrB b j 0).map u8).map .c)) := by rw [← arrB_zero hj hlt]; exact us_setb 128 (by simp [uz_len]; omega) (by simp [uz_len]; omega)
  have z80 : ((b.length - 64 * j : Nat) : Int) < 128 := by omega
  refine hw_seq fun K hK => hw_region (by kernel_rfl) ?_
  simp (maxSteps := 4000000) only [↓sP, sA, tyS, simprocAttr]
  repeat refine AI ?_
  refine hK _ _ _ ?_
  clear hK K
  refine hw_seq fun K hK => hw_region (by kernel_rfl) ?_
  simp only [sR, simprocAttr]
  iterate 3
   (refine hlex_step (g := none) rfl rfl fun K' hK' => ?_; simp only [sH, ↓sP, sA, tyS, simprocAttr, us, hdl, uz_len, cells_u8, hov]; (repeat refine AI ?_); refine hK' _ _ ?_; clear hK' K')
  simp only [sE, ↓reduceIte, simprocAttr]
  repeat refine AI ?_
  refine hK _ _ _ ?_
  clear hK K
  refine hw_seq fun K hK => hw_region (by kernel_rfl) ?_
  simp only [sR, simprocAttr]
  iterate 4
   (refine hlex_step (g := none) rfl rfl fun K' hK' => ?_; simp only [sH, ↓sP, sA, tyS, simprocAttr, hdl, z80, h80, toCL_c, Nat.mul_one, Int.natCast_nonneg]; (repeat refine AI ?_); refine hK' _ _ ?_; clear hK' K')
  simp only [sE, ↓reduceIte, simprocAttr]
  repeat refine AI ?_
  refine hK _ _ _ ?_
  clear hK K
  refine hw_seq fun K hK => hw_region (by kernel_rfl) ?_
  simp (maxSteps := 4000000) only [↓sP, sA, tyS, simprocAttr]
  repeat refine AI ?_
  refine hK _ _ _ ?_
  clear hK K
  refine hw_seq fun K hK => ?_
  have key : ∀ m : Nat, m = lastM b j → ∀ fr ob nx, Fits 0 fr ob (fin [(2, .ptr 0 0), (3, .ptr 8 0), (4, .c (.rp (ws K256))), (5, .c (.int .u64 ((8 * b.length : Nat) : Int))), (6, .ptr 112 0), (7, .c (.int .i64 m))]) (fob [(0, .box 57 (.c zd)), (8, .box 112 (.c (ws S.l))), (112, .box 118 (.c (us (arrB b j 0))))]) 200 → K fr ob nx := by
   rintro m rfl fr ob nx hf
   refine hK _ _ _ (hw_fits hf ?_)
   clear hf hK K
   refine hw_seq fun K hK => ?_
   refine hw_seq fun K hK => hw_region (by kernel_rfl) ?_
   simp (maxSteps := 4000000) only [↓sP, sA, tyS, simprocAttr]
   repeat refine AI ?_
   refine hK _ _ _ ?_
   clear hK K
   refine hw_block ?_
   refine hw_loop (α := {i : Nat // i ≤ 8}) (fun i => (fin [(2, .ptr 0 0), (3, .ptr 8 0), (4, .c (.rp (ws K256))), (5, .c (.int .u64 ((8 * b.length : Nat) : Int))), (6, .ptr 112 0), (7, .c (.int .i64 (lastM b j : Nat))), (35, .c (.int .i64 i.1))], fob [(0, .box 57 (.c zd)), (8, .box 112 (.c (ws S.l))), (112, .box 118 (.c (us (arrB b j i.1))))])) 200 (fun i => 8 - i.1) ⟨0, by omega⟩ (fits_fin (by omega) (by simp [FinOk, fin_at, finA_at, upd_at, HV.men, HV.menL, HV.norm, HV.toC, HV.toCL]) (by simp [FobOk, fob_at, upd_at, none0_at, gone, HO.men, HV.men, HV.menL, HV.norm, HV.toC, HV.toCL])) ?_
   rintro ⟨i, hi⟩
   have hlen := arrB_len hj hlt i
   have hm0 : lastM b j = 64 ∨ lastM b j = 128 := by unfold lastM; split <;> simp
   refine hw_seq fun K hK => hw_region (by kernel_rfl) ?_
   simp (maxSteps := 4000000) only [↓sP, sA, tyS, simprocAttr]
   repeat refine AI ?_
   refine hK _ _ _ ?_
   clear hK K
   refine hw_seq fun K hK => ?_
   refine hw_cond (b := decide ((i : Int) < 8)) rfl (fun hb => ?_) (fun hb => ?_)
   ·
    have hi8 : i < 8 := by simp at hb; omega
    have z : ((lastM b j - 1 - i : Nat) : Int) < 128 := by omega
    have q : lastM b j - 1 - i < 128 := by omega
    have m1 : IntKind.i64.wrap ((lastM b j : Int) - 1) = ((lastM b j - 1 : Nat) : Int) := by rw [IntWalk.i64_in _ (by omega)]; omega
    have m2 : IntKind.i64.wrap (((lastM b j - 1 : Nat) : Int) - (i : Int)) = ((lastM b j - 1 - i : Nat) : Int) := by rw [IntWalk.i64_in _ (by omega)]; omega
    have m3 : IntKind.i64.wrap (8 * (i : Int)) = ((8 * i : Nat) : Int) := by rw [IntWalk.i64_in _ (by omega)]; omega
    have m4 := byte_shr (8 * b.length) i (by omega)
    refine hw_skip ?_
    simp (maxSteps := 4000000) only [↓sP, sA, tyS, simprocAttr]
    repeat refine AI ?_
    refine hK _ _ _ ?_
    clear hK K
    refine hw_seq fun K hK => ?_
    refine hw_block ?_
    refine hw_seq fun K hK => hw_region (by kernel_rfl) ?_
    simp (maxSteps := 4000000) only [↓sP, sA, tyS, simprocAttr]
    repeat refine AI ?_
    refine hK _ _ _ ?_
    clear hK K
    refine hw_region (by kernel_rfl) ?_
    simp only [sR, simprocAttr]
    iterate 11
     (refine hlex_step (g := none) rfl rfl fun K' hK' => ?_; simp only [sH, ↓sP, sA, tyS, simprocAttr, m1, m2, m3, m4, z, q, hlen, Int.natCast_nonneg, Nat.mul_one, us_setb, toCL_c]; (repeat refine AI ?_); refine hK' _ _ ?_; clear hK' K')
    simp only [sE, ↓reduceIte, simprocAttr]
    repeat refine AI ?_
    refine hK _ _ _ ?_
    clear hK K
    refine hw_region (by kernel_rfl) ?_
    simp (maxSteps := 4000000) only [↓sP, sA, tyS, simprocAttr, IntWalk.i64_in _ (show -9223372036854775808 ≤ (i : Int) + 1 ∧ (i : Int) + 1 ≤ 9223372036854775807 by omega)]
    refine ⟨⟨i + 1, hi8⟩, fits_fin (by omega) (by simp [FinOk, fin_at, finA_at, upd_at, HV.men, HV.menL, HV.norm, HV.toC, HV.toCL]) (by simp [FobOk, fob_at, upd_at, none0_at, HO.men, HV.men, HV.menL, HV.norm, HV.toC, HV.toCL]; rw [arrB_step hj hlt hi8]), ?_⟩
    show 8 - (i + 1) < 8 - i
    omega
   ·
    refine hw_exit ?_
    simp (maxSteps := 4000000) only [↓sP, sA, tyS, simprocAttr]
    clear hK K
    repeat refine AI ?_
    refine hK _ _ _ ?_
    clear hK K
    refine hw_seq fun K hK => ?_
    refine hw_seq fun K hK => hw_region (by kernel_rfl) ?_
    simp (maxSteps := 4000000) only [↓sP, sA, tyS, simprocAttr]
    repeat refine AI ?_
    refine hK _ _ _ ?_
    clear hK K
    refine hw_block ?_
    have hei : i = 8 := by simp at hb; omega
    subst hei
    clear hb
    refine hw_freeze 6 112 rfl rfl ?_
    refine hw_loop (α := {x : Nat × St // 64 * x.1 ≤ lastM b j ∧ x.2 = blk (pad b) (j + x.1) St0}) (fun x => (fin [(2, .ptr 0 0), (3, .ptr 8 0), (4, .c (.rp (ws K256))), (6, .c (.rp (us (arrB b j 8)))), (7, .c (.int .i64 (lastM b j : Nat))), (9, .c (.int .i64 ((64 * x.1.1 : Nat) : Int)))], fob [(0, .box 57 (.c zd)), (8, .box 112 (.c (ws x.1.2.l)))])) 300 (fun x => lastM b j - 64 * x.1.1) ⟨(0, S), by omega, hS⟩ (fits_fin (by omega) (by simp [FinOk, fin_at, finA_at, upd_at, HV.men, HV.menL, HV.norm, HV.toC, HV.toCL]) (by simp [FobOk, fob_at, upd_at, none0_at, gone, HO.men, HV.men, HV.menL, HV.norm, HV.toC, HV.toCL])) ?_
    clear hS
    rintro ⟨⟨q, S⟩, hq, hS⟩
    replace hq : 64 * q ≤ lastM b j := hq
    replace hS : S = blk (pad b) (j + q) St0 := hS
    refine hw_seq fun K hK => ?_
    refine hw_seq fun K hK => hw_region (by kernel_rfl) ?_
    simp (maxSteps := 4000000) only [↓sP, sA, tyS, simprocAttr]
    repeat refine AI ?_
    refine hK _ _ _ ?_
    clear hK K
    refine hw_cond (b := decide (((64 * q : Nat) : Int) < (lastM b j : Int))) rfl (fun hb => ?_) (fun hb => ?_)
    ·
     have hlt2 : 64 * (q + 1) ≤ lastM b j := by simp at hb; omega
     have m1 : IntKind.i64.wrap (((64 * q : Nat) : Int) + 64) = ((64 * q + 64 : Nat) : Int) := by rw [IntWalk.i64_in _ (by omega)]; omega
     have z1 : ((64 * q : Nat) : Int) ≤ ((64 * q + 64 : Nat) : Int) := by omega
     have z2 : ((64 * q + 64 : Nat) : Int) ≤ 128 := by omega
     have hp : (((arrB b j 8).drop (64 * q)).take 64).length = 64 := by rw [List.length_take, List.length_drop, hlen]; omega
     refine hw_skip ?_
     simp (maxSteps := 4000000) only [↓sP, sA, tyS, simprocAttr]
     repeat refine AI ?_
     refine hK _ _ _ ?_
     clear hK K
     refine hw_seq fun K hK => ?_
     refine hw_block ?_
     refine hw_region (by kernel_rfl) ?_
     simp only [sR, simprocAttr]
     iterate 4
      (refine hlex_step (g := none) rfl rfl fun K' hK' => ?_; simp only [sH, ↓sP, sA, tyS, simprocAttr, us, m1, z1, z2, hlen, cells_u8, Nat.add_sub_cancel_left, ← List.map_drop, ← List.map_take, denilL_u8, ws_denil, Int.natCast_nonneg]; (repeat refine AI ?_); refine hK' _ _ ?_; clear hK' K')
     refine hlex_step (g := none) rfl rfl fun K' hK' => ?_
     simp (maxSteps := 4000000) only [sH, ↓sP, sA, tyS, simprocAttr, us, m1, z1, z2, hlen, cells_u8, Nat.add_sub_cancel_left, ← List.map_drop, ← List.map_take, denilL_u8, ws_denil, Int.natCast_nonneg]
     refine call_box0 (args := [_, _]) (absorb_ok S (((arrB b j 8).drop (64 * q)).take 64) hp) rfl (by simp) ⟨rfl, rfl, rfl, rfl⟩ ?_
     rintro v' rfl
     repeat refine AI ?_
     refine hK' _ _ ?_
     clear hK' K'
     simp only [sE, ↓reduceIte, simprocAttr]
     repeat refine AI ?_
     refine hK _ _ _ ?_
     clear hK K
     refine hw_region (by kernel_rfl) ?_
     simp (maxSteps := 4000000) only [↓sP, sA, tyS, simprocAttr, m1]
     refine ⟨⟨(q + 1, comp S (((arrB b j 8).drop (64 * q)).take 64)), hlt2, by rw [arrB_blk hj hlt hlt2, hS]; rfl⟩, fits_fin (by omega) (by simp [FinOk, fin_at, finA_at, upd_at, HV.men, HV.menL, HV.norm, HV.toC, HV.toCL]; omega) (by simp [FobOk, fob_at, upd_at, none0_at, gone, HO.men, HV.men, HV.menL, HV.norm, HV.toC, HV.toCL]), ?_⟩
     show lastM b j - 64 * (q + 1) < lastM b j - 64 * q
     omega
    ·
     refine hw_exit ?_
     simp (maxSteps := 4000000) only [↓sP, sA, tyS, simprocAttr]
     clear hK K
     repeat refine AI ?_
     refine hK _ _ _ ?_
     clear hK K
     refine hw_seq fun K hK => hw_region (by kernel_rfl) ?_
     simp (maxSteps := 4000000) only [↓sP, sA, tyS, simprocAttr]
     repeat refine AI ?_
     refine hK _ _ _ ?_
     clear hK K
     refine hw_seq fun K hK => ?_
     refine hw_seq fun K hK => hw_region (by kernel_rfl) ?_
     simp (maxSteps := 4000000) only [↓sP, sA, tyS, simprocAttr]
     repeat refine AI ?_
     refine hK _ _ _ ?_
     clear hK K
     refine hw_block ?_
     have heq : 64 * q = lastM b j := by simp at hb; omega
     clear hb
     refine hw_loop (α := {i : Nat // i ≤ 32}) (fun i => (fin [(2, .ptr 0 0), (3, .ptr 8 0), (10, .ptr 312 0), (59, .c (.int .i64 i.1))], fob [(0, .box 57 (.c zd)), (8, .box 112 (.c (ws S.l))), (312, .box 57 (.c (us (outL S i.1))))])) 400 (fun i => 32 - i.1) ⟨0, by omega⟩ (fits_fin (by omega) (by simp [FinOk, fin_at, finA_at, upd_at, HV.men, HV.menL, HV.norm, HV.toC, HV.toCL]) (by simp [FobOk, fob_at, upd_at, none0_at, gone, HO.men, HV.men, HV.menL, HV.norm, HV.toC, HV.toCL]; rfl)) ?_
     rintro ⟨i, hi⟩
     have hol := outL_len S i
     refine hw_seq fun K hK => hw_region (by kernel_rfl) ?_
     simp (maxSteps := 4000000) only [↓sP, sA, tyS, simprocAttr]
     repeat refine AI ?_
     refine hK _ _ _ ?_
     clear hK K
     refine hw_seq fun K hK => ?_
     refine hw_cond (b := decide ((i : Int) < 32)) rfl (fun hb => ?_) (fun hb => ?_)
     ·
      have hi32 : i < 32 := by simp at hb; omega
      have m1 : IntKind.i64.wrap ((i : Int).tdiv 4) = ((i / 4 : Nat) : Int) := by
       rw [show (i : Int).tdiv 4 = ((i / 4 : Nat) : Int) from rfl]; exact IntWalk.i64_in _ (by omega)
      have m2 : (i : Int).tmod 4 = ((i % 4 : Nat) : Int) := rfl
      have m3 : IntKind.i64.wrap (8 * ((i % 4 : Nat) : Int)) = ((8 * (i % 4) : Nat) : Int) := by rw [IntWalk.i64_in _ (by omega)]; omega
      have m4 : IntKind.i64.wrap (24 - ((8 * (i % 4) : Nat) : Int)) = ((24 - 8 * (i % 4) : Nat) : Int) := by rw [IntWalk.i64_in _ (by omega)]; omega
      have q1 : i / 4 < 8 := by omega
      have z1 : ((i / 4 : Nat) : Int) < 8 := by omega
      have z2 : (i : Int) < 32 := by omega
      have q2 : 24 - 8 * (i % 4) ≤ 32 := by omega
      refine hw_skip ?_
      simp (maxSteps := 4000000) only [↓sP, sA, tyS, simprocAttr]
      repeat refine AI ?_
      refine hK _ _ _ ?_
      clear hK K
      refine hw_seq fun K hK => ?_
      refine hw_block ?_
      refine hw_seq fun K hK => hw_region (by kernel_rfl) ?_
      simp (maxSteps := 4000000) only [↓sP, sA, tyS, simprocAttr]
      repeat refine AI ?_
      refine hK _ _ _ ?_
      clear hK K
      refine hw_region (by kernel_rfl) ?_
      simp only [sR, simprocAttr]
      iterate 13
       (refine hlex_step (g := none) rfl rfl fun K' hK' => ?_; simp only [sH, ↓sP, sA, tyS, simprocAttr, m1, m2, m3, m4, q1, z1, z2, q2, hi32, hol, St_len, ws_gw, Int.natCast_nonneg, Nat.mul_one, w_shr, byte_w, us_setb, toCL_c]; (repeat refine AI ?_); refine hK' _ _ ?_; clear hK' K')
      simp only [sE, ↓reduceIte, simprocAttr]
      repeat refine AI ?_
      refine hK _ _ _ ?_
      clear hK K
      refine hw_region (by kernel_rfl) ?_
      simp (maxSteps := 4000000) only [↓sP, sA, tyS, simprocAttr, IntWalk.i64_in _ (show -9223372036854775808 ≤ (i : Int) + 1 ∧ (i : Int) + 1 ≤ 9223372036854775807 by omega)]
      refine ⟨⟨i + 1, hi32⟩, fits_fin (by omega) (by simp [FinOk, fin_at, finA_at, upd_at, HV.men, HV.menL, HV.norm, HV.toC, HV.toCL]) (by simp [FobOk, fob_at, upd_at, none0_at, gone, HO.men, HV.men, HV.menL, HV.norm, HV.toC, HV.toCL]; rfl), ?_⟩
      show 32 - (i + 1) < 32 - i
      omega
     ·
      refine hw_exit ?_
      simp (maxSteps := 4000000) only [↓sP, sA, tyS, simprocAttr]
      clear hK K
      repeat refine AI ?_
      refine hK _ _ _ ?_
      clear hK K
      have hei : i = 32 := by simp at hb; omega
      subst hei
      clear hb
      refine hw_seq fun K hK => hw_region (by kernel_rfl) ?_
      simp (maxSteps := 4000000) only [↓sP, sA, tyS, simprocAttr, us_all, hol]
      repeat refine AI ?_
      refine hK _ _ _ ?_
      clear hK K
      refine hw_ret ?_
      simp (maxSteps := 4000000) only [hpost, Tryz.results56, hresL, hres1, tupOf, ↓sP, sA, tyS, simprocAttr]
      simp only [us_all hol, Option.map_some]
      refine hret_pure [] (us (outL S 32)) (close_c (us_denil _)) ?_
      have e9 : j + q = (pad b).length / 64 := by rw [pad_blocks hj hlt]; omega
      rw [outL_all, hS, ← sha_out, e9]
  refine hw_seq fun K hK => hw_region (by kernel_rfl) ?_
  simp only [sR, simprocAttr]
  iterate 3
   (refine hlex_step (g := none) rfl rfl fun K' hK' => ?_; simp only [sH, ↓sP, sA, tyS, simprocAttr, hdl]; (repeat refine AI ?_); refine hK' _ _ ?_; clear hK' K')
  simp only [sE, ↓reduceIte, simprocAttr]
  repeat refine AI ?_
  refine hK _ _ _ ?_
  clear hK K
  refine hw_cond (b := decide ((56 : Int) ≤ ((b.length - 64 * j : Nat) : Int))) rfl (fun hb => ?_) (fun hb => ?_)
  ·
   refine hw_region (by kernel_rfl) ?_
   simp (maxSteps := 4000000) only [↓sP, sA, tyS, simprocAttr]
   exact key 128 (by unfold lastM; rw [if_neg (by simp at hb; omega)]) _ _ _ (fits_fin (by omega) (by simp [FinOk, fin_at, finA_at, upd_at, HV.men, HV.menL, HV.norm, HV.toC, HV.toCL]) (by simp [FobOk, fob_at, upd_at, none0_at, gone, HO.men, HV.men, HV.menL, HV.norm, HV.toC, HV.toCL]))
  ·
   refine hw_skip ?_
   simp (maxSteps := 4000000) only [↓sP, sA, tyS, simprocAttr]
   exact key 64 (by unfold lastM; rw [if_pos (by simp at hb; omega)]) _ _ _ (fits_fin (by omega) (by simp [FinOk, fin_at, finA_at, upd_at, HV.men, HV.menL, HV.norm, HV.toC, HV.toCL]) (by simp [FobOk, fob_at, upd_at, none0_at, gone, HO.men, HV.men, HV.menL, HV.norm, HV.toC, HV.toCL]))

end Go.Proofs.YtbdgmfbhiihcfaaGreat
