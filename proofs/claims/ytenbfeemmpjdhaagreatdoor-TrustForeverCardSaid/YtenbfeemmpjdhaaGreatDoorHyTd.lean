/- Part of a proof: walks of functions of the program, by contracts, and the rules they use. By an AI agent. -/
import Derived.Test.YtenbfeemmpjdhaaGreatDoorHySq
import Derived.Test.YtenbfeemmpjdhaaGreatDoorHyT9
import Derived.Test.YtenbfeemmpjdhaaGreatDoorHlZb
import Derived.Test.YtenbfeemmpjdhaaGreatDoorPl11q
import Derived.Test.YtenbfeemmpjdhaaGreatDoorHyVa
set_option linter.unusedSimpArgs false
set_option linter.unusedVariables false
set_option linter.defProp false
namespace Go.Proofs.YtenbfeemmpjdhaaGreatDoor
open Go Go.Hl Go.Pl
set_option maxRecDepth 10000
set_option maxHeartbeats 4000000
set_option linter.unusedSimpArgs false
set_option linter.unusedVariables false

theorem block_ok (s : St) (p : List UInt8) (hp : p.length = 64) : HPure Tryz.prog 120 [ws s.l, .slc (p.map u8)] (fun v => v = ws (comp s p).l) := by
 refine hfn_walk Tryz.func120 rfl (by kernel_rfl) (locOk_nil _) (Nat.le_of_ble_eq_true rfl) ?_
 refine R0 ?_
 refine R0 ?_
 refine hw_seq fun K hK => ?_
 refine R0 ?_
 refine hw_block ?_
 refine hw_loop (α := {i : Nat // i ≤ 16}) (fun i => (fin [(1, .c (.slc (p.map u8))), (2, .ptr 0 0), (4, .ptr 4 0), (5, .ptr 8 0), (6, .c (.int .i64 i.1))], fob [(0, .box 152 (.c (ws s.l))), (4, .box 152 (.c (ws (wz 8)))), (8, .box 161 (.c (ws (wA p i.1))))])) 100 (fun i => 16 - i.1) ⟨0, by omega⟩ (fF) ?_
 rintro ⟨i, hi⟩
 have hlen := wA_len p i
 refine hw_seq fun K hK => ?_
 refine R0 ?_
 refine hw_cond (b := decide ((i : Int) < 16)) rfl (fun hb => ?_) (fun hb => ?_)
 ·
  have hlt : i < 16 := by simp at hb; omega
  have z : (i : Int) < 64 := by omega
  have q : i < 64 := by omega
  have q0 : 4 * i < 64 := by omega
  have q1 : 4 * i + 1 < 64 := by omega
  have q2 : 4 * i + 2 < 64 := by omega
  have q3 : 4 * i + 3 < 64 := by omega
  have z0 : ((4 * i : Nat) : Int) < 64 := by omega
  have z1 : ((4 * i + 1 : Nat) : Int) < 64 := by omega
  have z2 : ((4 * i + 2 : Nat) : Int) < 64 := by omega
  have z3 : ((4 * i + 3 : Nat) : Int) < 64 := by omega
  have m0 : IntKind.i64.wrap (4 * (i : Int)) = ((4 * i : Nat) : Int) := by rw [IntWalk.i64_in _ (by omega)]; omega
  have m1 : IntKind.i64.wrap (((4 * i : Nat) : Int) + 1) = ((4 * i + 1 : Nat) : Int) := by rw [IntWalk.i64_in _ (by omega)]; omega
  have m2 : IntKind.i64.wrap (((4 * i : Nat) : Int) + 2) = ((4 * i + 2 : Nat) : Int) := by rw [IntWalk.i64_in _ (by omega)]; omega
  have m3 : IntKind.i64.wrap (((4 * i : Nat) : Int) + 3) = ((4 * i + 3 : Nat) : Int) := by rw [IntWalk.i64_in _ (by omega)]; omega
  refine hw_skip ?_
  refine T0 (hK _ _ _ ?_)
  clear hK K
  refine hw_seq fun K hK => ?_
  refine hw_block ?_
  refine hw_draw2 mixed [(0, [], []), (1, [], []), (2, [], []), (3, [], []), (4, [], []), (5, [], []), (6, [], []), (7, [], []), (8, [], []), (9, [], []), (10, [], []), (11, [], []), (12, [], []), (13, [], []), (14, [], []), (15, [], []), (16, [], []), (17, [], []), (18, [], []), (19, [], []), (20, [], []), (21, [], []), (22, [], []), (23, [], []), (24, [], []), (25, [], []), (26, [], []), (27, [], []), (28, [], []), (29, [], []), (30, [], []), (31, [], []), (32, [], []), (33, [], []), (34, [], []), (35, [], [])] [0, 0, 0, 4, 14, 30, 62, 126, 0, 0, 512, 1536, 3840, 7936, 16128, 32512, 65534, 0, 0, 262144, 786432, 1966080, 4063232, 8257536, 16646144, 33554430, 0, 0, 134217728, 402653184, 1006632960, 2080374784, 4227858432, 8589934590, 17179869183, 34359738367] (by kernel_rfl) (by kernel_rfl) (by kernel_rfl) (by kernel_rfl) rfl (by kernel_rfl) ?_
  iterate 36 refine W0 ?_ (e := fun _ h_ => by simp only [sH, ↓sP, sA, tyS, simprocAttr, m0, m1, m2, m3, q, q0, q1, q2, q3, z, z0, z1, z2, z3, hp, hlen, Int.natCast_nonneg, nth_u8, Nat.mul_one, w_byte, w_shl, w_or, ws_setw, toCL_c]; exact AX h_)
  refine T2 (hK _ _ _ ?_)
  clear hK K
  refine hw_region (by kernel_rfl) ?_
  simp only [↓sP, sA, tyS, simprocAttr, i64s i]
  refine ⟨⟨i + 1, hlt⟩, fits_fin (by omega) (by simp [FinOk, fin_at, finA_at, upd_at, HV.men, HV.menL, HV.norm, HV.toC, HV.toCL]) (by simp [FobOk, fob_at, upd_at, none0_at, gone, HO.men, HV.men, HV.menL, HV.norm, HV.toC, HV.toCL]; rfl), ?_⟩
  show 16 - (i + 1) < 16 - i
  omega
 refine hw_exit ?_
 simp only [↓sP, sA, tyS, simprocAttr]
 clear hK K
 refine AX (hK _ _ _ ?_)
 clear hK K
 refine hw_seq fun K hK => ?_
 refine R0 ?_
 refine hw_block ?_
 have hei : i = 16 := by simp at hb; omega
 subst hei
 clear hb hlen
 refine hw_loop (α := {i : Nat // i ≤ 48}) (fun i => (fin [(2, .ptr 0 0), (4, .ptr 4 0), (5, .ptr 8 0), (7, .c (.int .i64 ((i.1 + 16 : Nat) : Int)))], fob [(0, .box 152 (.c (ws s.l))), (4, .box 152 (.c (ws (wz 8)))), (8, .box 161 (.c (ws (wB (wA p 16) i.1))))])) 100 (fun i => 48 - i.1) ⟨0, by omega⟩ (fF) ?_
 rintro ⟨i, hi⟩
 have hlen : (wB (wA p 16) i).length = 64 := by rw [wB_len, wA_len]
 refine hw_seq fun K hK => ?_
 refine R0 ?_
 refine hw_cond (b := decide (((i + 16 : Nat) : Int) < 64)) rfl (fun hb => ?_) (fun hb => ?_)
 ·
  have hlt : i < 48 := by simp at hb; omega
  have q0 : i < 64 := by omega
  have q1 : i + 1 < 64 := by omega
  have q2 : i + 14 < 64 := by omega
  have q3 : i + 9 < 64 := by omega
  have q4 : i + 16 < 64 := by omega
  have z0 : (i : Int) < 64 := by omega
  have z1 : ((i + 1 : Nat) : Int) < 64 := by omega
  have z2 : ((i + 14 : Nat) : Int) < 64 := by omega
  have z3 : ((i + 9 : Nat) : Int) < 64 := by omega
  have z4 : ((i + 16 : Nat) : Int) < 64 := by omega
  have m0 : IntKind.i64.wrap (((i + 16 : Nat) : Int) - 16) = (i : Int) := by rw [IntWalk.i64_in _ (by omega)]; omega
  have m1 : IntKind.i64.wrap (((i + 16 : Nat) : Int) - 15) = ((i + 1 : Nat) : Int) := by rw [IntWalk.i64_in _ (by omega)]; omega
  have m2 : IntKind.i64.wrap (((i + 16 : Nat) : Int) - 2) = ((i + 14 : Nat) : Int) := by rw [IntWalk.i64_in _ (by omega)]; omega
  have m3 : IntKind.i64.wrap (((i + 16 : Nat) : Int) - 7) = ((i + 9 : Nat) : Int) := by rw [IntWalk.i64_in _ (by omega)]; omega
  have m4 : IntKind.i64.wrap (((i + 16 : Nat) : Int) + 1) = ((i + 1 + 16 : Nat) : Int) := by rw [IntWalk.i64_in _ (by omega)]; omega
  refine hw_skip ?_
  refine T0 (hK _ _ _ ?_)
  clear hK K
  refine hw_seq fun K hK => ?_
  refine hw_block ?_
  refine hw_seq fun K hK => hw_draw2 mixed [(0, [], []), (1, [], []), (2, [], []), (3, [], []), (5, [], []), (6, [], []), (7, [], []), (8, [], []), (11, [], []), (12, [], []), (13, [], []), (14, [], []), (15, [], []), (4, [], [5, 6, 7, 8, 11, 12, 13, 14, 15]), (9, [], [11, 12, 13, 14, 15]), (10, [], []), (16, [], []), (17, [], [])] [0, 1, 3, 7, 15, 0, 32, 96, 224, 511, 1023, 0, 2048, 6144, 14336, 30720, 65535, 131071] (by kernel_rfl) (by kernel_rfl) (by kernel_rfl) (by kernel_rfl) rfl (by kernel_rfl) ?_
  iterate 13 refine W0 ?_ (e := fun _ h_ => by simp only [sH, ↓sP, sA, tyS, simprocAttr, m1, q1, z1, hlen, Int.natCast_nonneg, Nat.mul_one, ws_gw, w_xor, w_shr]; exact AX h_)
  refine hwalk2_step (g := none) rfl rfl fun K' hK' => ?_
  simp only [sH, ↓sP, sA, tyS, simprocAttr, m1, q1, z1, hlen, Int.natCast_nonneg, Nat.mul_one, ws_gw, w_xor, w_shr]
  refine call_pure (args := [_, _]) (rot_ok _ 7 (by omega) (by omega)) ⟨rfl, rfl, rfl, rfl⟩ ?_
  rintro u rfl
  refine AX (hK' _ _ ?_)
  clear hK' K'
  refine hwalk2_step (g := none) rfl rfl fun K' hK' => ?_
  simp only [sH, ↓sP, sA, tyS, simprocAttr, m1, q1, z1, hlen, Int.natCast_nonneg, Nat.mul_one, ws_gw, w_xor, w_shr]
  refine call_pure (args := [_, _]) (rot_ok _ 18 (by omega) (by omega)) ⟨rfl, rfl, rfl, rfl⟩ ?_
  rintro u rfl
  refine AX (hK' _ _ ?_)
  clear hK' K'
  iterate 3 refine W0 ?_ (e := fun _ h_ => by simp only [sH, ↓sP, sA, tyS, simprocAttr, m1, q1, z1, hlen, Int.natCast_nonneg, Nat.mul_one, ws_gw, w_xor, w_shr]; exact AX h_)
  refine T2 (hK _ _ _ ?_)
  clear hK K
  refine hw_seq fun K hK => hw_draw2 mixed [(0, [], []), (1, [], []), (2, [], []), (3, [], []), (5, [], []), (6, [], []), (7, [], []), (8, [], []), (11, [], []), (12, [], []), (13, [], []), (14, [], []), (15, [], []), (4, [], [5, 6, 7, 8, 11, 12, 13, 14, 15]), (9, [], [11, 12, 13, 14, 15]), (10, [], []), (16, [], []), (17, [], [])] [0, 1, 3, 7, 15, 0, 32, 96, 224, 511, 1023, 0, 2048, 6144, 14336, 30720, 65535, 131071] (by kernel_rfl) (by kernel_rfl) (by kernel_rfl) (by kernel_rfl) rfl (by kernel_rfl) ?_
  iterate 13 refine W0 ?_ (e := fun _ h_ => by simp only [sH, ↓sP, sA, tyS, simprocAttr, m2, q2, z2, hlen, Int.natCast_nonneg, Nat.mul_one, ws_gw, w_xor, w_shr]; exact AX h_)
  refine hwalk2_step (g := none) rfl rfl fun K' hK' => ?_
  simp only [sH, ↓sP, sA, tyS, simprocAttr, m2, q2, z2, hlen, Int.natCast_nonneg, Nat.mul_one, ws_gw, w_xor, w_shr]
  refine call_pure (args := [_, _]) (rot_ok _ 17 (by omega) (by omega)) ⟨rfl, rfl, rfl, rfl⟩ ?_
  rintro u rfl
  refine AX (hK' _ _ ?_)
  clear hK' K'
  refine hwalk2_step (g := none) rfl rfl fun K' hK' => ?_
  simp only [sH, ↓sP, sA, tyS, simprocAttr, m2, q2, z2, hlen, Int.natCast_nonneg, Nat.mul_one, ws_gw, w_xor, w_shr]
  refine call_pure (args := [_, _]) (rot_ok _ 19 (by omega) (by omega)) ⟨rfl, rfl, rfl, rfl⟩ ?_
  rintro u rfl
  refine AX (hK' _ _ ?_)
  clear hK' K'
  iterate 3 refine W0 ?_ (e := fun _ h_ => by simp only [sH, ↓sP, sA, tyS, simprocAttr, m2, q2, z2, hlen, Int.natCast_nonneg, Nat.mul_one, ws_gw, w_xor, w_shr]; exact AX h_)
  refine T2 (hK _ _ _ ?_)
  clear hK K
  refine hw_draw2 mixed [(0, [], []), (1, [], []), (2, [], []), (3, [], []), (4, [], []), (5, [], []), (6, [], []), (7, [], []), (8, [], []), (9, [], []), (10, [], []), (11, [], []), (12, [], []), (13, [], []), (14, [], []), (15, [], [])] [0, 0, 2, 6, 14, 0, 62, 0, 128, 384, 896, 2046, 0, 8190, 16383, 32767] (by kernel_rfl) (by kernel_rfl) (by kernel_rfl) (by kernel_rfl) rfl (by kernel_rfl) ?_
  iterate 16 refine W0 ?_ (e := fun _ h_ => by simp only [sH, ↓sP, sA, tyS, simprocAttr, m0, m3, q0, q3, q4, z0, z3, z4, hlen, Int.natCast_nonneg, Nat.mul_one, ws_gw, w_add, ws_setw, toCL_c]; exact AX h_)
  refine T2 (hK _ _ _ ?_)
  clear hK K
  refine hw_region (by kernel_rfl) ?_
  simp only [↓sP, sA, tyS, simprocAttr, m4]
  refine ⟨⟨i + 1, hlt⟩, fits_fin (by omega) (by simp [FinOk, fin_at, finA_at, upd_at, HV.men, HV.menL, HV.norm, HV.toC, HV.toCL]) (by simp [FobOk, fob_at, upd_at, none0_at, gone, HO.men, HV.men, HV.menL, HV.norm, HV.toC, HV.toCL]; rfl), ?_⟩
  show 48 - (i + 1) < 48 - i
  omega
 refine hw_exit ?_
 simp only [↓sP, sA, tyS, simprocAttr]
 clear hK K
 refine AX (hK _ _ _ ?_)
 clear hK K
 have hei : i = 48 := by simp at hb; omega
 subst hei
 clear hb hlen
 rw [wsched_eq]
 refine hw_seq fun K hK => Rg ?_
 refine hlex_step (g := none) rfl rfl fun K' hK' => ?_
 simp only [sH, ↓sP, sA, tyS, simprocAttr, ws_setAll, wz_len, K_len]
 refine call_pure (args := []) constants_ok ⟨rfl, rfl, rfl, rfl⟩ ?_
 rintro u rfl
 refine AX (hK' _ _ ?_)
 clear hK' K'
 iterate 2 refine S0 ?_ (e := fun _ h_ => by simp only [sH, ↓sP, sA, tyS, simprocAttr, ws_setAll, wz_len, K_len]; exact AX h_)
 refine T2 (hK _ _ _ ?_)
 clear hK K
 refine R0 ?_ (e := fun _ h_ => by simp only [↓sP, sA, tyS, simprocAttr, ws_all, ws_setAll, wz_len, St_len]; exact AX h_)
 refine hw_seq fun K hK => ?_
 refine R0 ?_
 refine hw_block ?_
 refine hw_loop (α := {x : Nat × St // x.1 ≤ 64 ∧ x.2 = itN (rnd (wsched p)) x.1 s}) (fun x => (fin [(2, .ptr 0 0), (4, .ptr 4 0), (5, .ptr 8 0), (10, .ptr 112 0), (11, .ptr 124 0), (12, .c (.int .i64 x.1.1))], fob [(0, .box 152 (.c (ws s.l))), (4, .box 152 (.c (ws (wz 8)))), (8, .box 161 (.c (ws (wsched p)))), (112, .box 161 (.c (ws K256))), (124, .box 152 (.c (ws x.1.2.l)))])) 300 (fun x => 64 - x.1.1) ⟨(0, s), by omega, rfl⟩ (fF) ?_
 rintro ⟨⟨i, S⟩, hi, hS⟩
 replace hi : i ≤ 64 := hi
 replace hS : S = itN (rnd (wsched p)) i s := hS
 refine hw_seq fun K hK => ?_
 refine R0 ?_
 refine hw_cond (b := decide ((i : Int) < 64)) rfl (fun hb => ?_) (fun hb => ?_)
 ·
  have hlt : i < 64 := by simp at hb; omega
  have z : (i : Int) < 64 := by omega
  refine hw_skip ?_
  refine T0 (hK _ _ _ ?_)
  clear hK K
  refine hw_seq fun K hK => ?_
  refine hw_block ?_
  refine hw_seq fun K hK => hw_draw2 mixed [(0, [], []), (1, [], []), (3, [], []), (4, [], []), (7, [], []), (8, [], []), (2, [], [3, 4, 7, 8]), (5, [], [7, 8]), (6, [], []), (9, [], [6]), (10, [], []), (11, [], [])] [0, 1, 3, 0, 8, 31, 63, 0, 128, 447, 1023, 2047] (by kernel_rfl) (by kernel_rfl) (by kernel_rfl) (by kernel_rfl) rfl (by kernel_rfl) ?_
  iterate 6 refine W0 ?_ (e := fun _ h_ => by simp only [sH, ↓sP, sA, tyS, simprocAttr, ws_gw, St_len, gw_a, gw_b, gw_c, gw_d, gw_e, gw_f, gw_g, gw_h, ws_isAgg, Nat.mul_one, Int.natCast_nonneg, w_xor]; exact AX h_)
  refine hwalk2_step (g := none) rfl rfl fun K' hK' => ?_
  simp only [sH, ↓sP, sA, tyS, simprocAttr, ws_gw, St_len, gw_a, gw_b, gw_c, gw_d, gw_e, gw_f, gw_g, gw_h, ws_isAgg, Nat.mul_one, Int.natCast_nonneg, w_xor]
  refine call_pure (args := [_, _]) (rot_ok _ 6 (by omega) (by omega)) ⟨rfl, rfl, rfl, rfl⟩ ?_
  rintro u rfl
  refine AX (hK' _ _ ?_)
  clear hK' K'
  refine hwalk2_step (g := none) rfl rfl fun K' hK' => ?_
  simp only [sH, ↓sP, sA, tyS, simprocAttr, ws_gw, St_len, gw_a, gw_b, gw_c, gw_d, gw_e, gw_f, gw_g, gw_h, ws_isAgg, Nat.mul_one, Int.natCast_nonneg, w_xor]
  refine call_pure (args := [_, _]) (rot_ok _ 11 (by omega) (by omega)) ⟨rfl, rfl, rfl, rfl⟩ ?_
  rintro u rfl
  refine AX (hK' _ _ ?_)
  clear hK' K'
  refine W0 ?_ (e := fun _ h_ => by simp only [sH, ↓sP, sA, tyS, simprocAttr, ws_gw, St_len, gw_a, gw_b, gw_c, gw_d, gw_e, gw_f, gw_g, gw_h, ws_isAgg, Nat.mul_one, Int.natCast_nonneg, w_xor]; exact AX h_)
  refine hwalk2_step (g := none) rfl rfl fun K' hK' => ?_
  simp only [sH, ↓sP, sA, tyS, simprocAttr, ws_gw, St_len, gw_a, gw_b, gw_c, gw_d, gw_e, gw_f, gw_g, gw_h, ws_isAgg, Nat.mul_one, Int.natCast_nonneg, w_xor]
  refine call_pure (args := [_, _]) (rot_ok _ 25 (by omega) (by omega)) ⟨rfl, rfl, rfl, rfl⟩ ?_
  rintro u rfl
  refine AX (hK' _ _ ?_)
  clear hK' K'
  iterate 2 refine W0 ?_ (e := fun _ h_ => by simp only [sH, ↓sP, sA, tyS, simprocAttr, ws_gw, St_len, gw_a, gw_b, gw_c, gw_d, gw_e, gw_f, gw_g, gw_h, ws_isAgg, Nat.mul_one, Int.natCast_nonneg, w_xor]; exact AX h_)
  refine T2 (hK _ _ _ ?_)
  clear hK K
  refine hw_seq fun K hK => hw_quiet mixed (by kernel_rfl) (by kernel_rfl) (by kernel_rfl) ?_
  simp only [sR, simprocAttr]
  iterate 26 refine S0 ?_ (e := fun _ h_ => by simp only [sH, ↓sP, sA, tyS, simprocAttr, ws_gw, St_len, gw_a, gw_b, gw_c, gw_d, gw_e, gw_f, gw_g, gw_h, ws_isAgg, Nat.mul_one, Int.natCast_nonneg, z, hlt, K_len, wsched_len, w_add, w_and, w_xor, w_not, t1_ref]; exact AX h_)
  refine T2 (hK _ _ _ ?_)
  clear hK K
  refine hw_seq fun K hK => hw_draw2 mixed [(0, [], []), (1, [], []), (3, [], []), (4, [], []), (7, [], []), (8, [], []), (2, [], [3, 4, 7, 8]), (5, [], [7, 8]), (6, [], []), (9, [], [6]), (10, [], []), (11, [], [])] [0, 1, 3, 0, 8, 31, 63, 0, 128, 447, 1023, 2047] (by kernel_rfl) (by kernel_rfl) (by kernel_rfl) (by kernel_rfl) rfl (by kernel_rfl) ?_
  iterate 6 refine W0 ?_ (e := fun _ h_ => by simp only [sH, ↓sP, sA, tyS, simprocAttr, ws_gw, St_len, gw_a, gw_b, gw_c, gw_d, gw_e, gw_f, gw_g, gw_h, ws_isAgg, Nat.mul_one, Int.natCast_nonneg, w_xor]; exact AX h_)
  refine hwalk2_step (g := none) rfl rfl fun K' hK' => ?_
  simp only [sH, ↓sP, sA, tyS, simprocAttr, ws_gw, St_len, gw_a, gw_b, gw_c, gw_d, gw_e, gw_f, gw_g, gw_h, ws_isAgg, Nat.mul_one, Int.natCast_nonneg, w_xor]
  refine call_pure (args := [_, _]) (rot_ok _ 2 (by omega) (by omega)) ⟨rfl, rfl, rfl, rfl⟩ ?_
  rintro u rfl
  refine AX (hK' _ _ ?_)
  clear hK' K'
  refine hwalk2_step (g := none) rfl rfl fun K' hK' => ?_
  simp only [sH, ↓sP, sA, tyS, simprocAttr, ws_gw, St_len, gw_a, gw_b, gw_c, gw_d, gw_e, gw_f, gw_g, gw_h, ws_isAgg, Nat.mul_one, Int.natCast_nonneg, w_xor]
  refine call_pure (args := [_, _]) (rot_ok _ 13 (by omega) (by omega)) ⟨rfl, rfl, rfl, rfl⟩ ?_
  rintro u rfl
  refine AX (hK' _ _ ?_)
  clear hK' K'
  refine W0 ?_ (e := fun _ h_ => by simp only [sH, ↓sP, sA, tyS, simprocAttr, ws_gw, St_len, gw_a, gw_b, gw_c, gw_d, gw_e, gw_f, gw_g, gw_h, ws_isAgg, Nat.mul_one, Int.natCast_nonneg, w_xor]; exact AX h_)
  refine hwalk2_step (g := none) rfl rfl fun K' hK' => ?_
  simp only [sH, ↓sP, sA, tyS, simprocAttr, ws_gw, St_len, gw_a, gw_b, gw_c, gw_d, gw_e, gw_f, gw_g, gw_h, ws_isAgg, Nat.mul_one, Int.natCast_nonneg, w_xor]
  refine call_pure (args := [_, _]) (rot_ok _ 22 (by omega) (by omega)) ⟨rfl, rfl, rfl, rfl⟩ ?_
  rintro u rfl
  refine AX (hK' _ _ ?_)
  clear hK' K'
  iterate 2 refine W0 ?_ (e := fun _ h_ => by simp only [sH, ↓sP, sA, tyS, simprocAttr, ws_gw, St_len, gw_a, gw_b, gw_c, gw_d, gw_e, gw_f, gw_g, gw_h, ws_isAgg, Nat.mul_one, Int.natCast_nonneg, w_xor]; exact AX h_)
  refine T2 (hK _ _ _ ?_)
  clear hK K
  refine hw_seq fun K hK => Rg ?_
  iterate 20 refine S0 ?_ (e := fun _ h_ => by simp only [sH, ↓sP, sA, tyS, simprocAttr, ws_gw, St_len, gw_a, gw_b, gw_c, gw_d, gw_e, gw_f, gw_g, gw_h, ws_isAgg, Nat.mul_one, Int.natCast_nonneg, w_add, w_and, w_xor, t2_ref]; exact AX h_)
  refine T2 (hK _ _ _ ?_)
  clear hK K
  refine hw_region (by kernel_rfl) ?_
  simp only [sR, simprocAttr]
  iterate 19 refine S0 ?_ (e := fun _ h_ => by simp only [sH, ↓sP, sA, tyS, simprocAttr, ws_gw, St_len, gw_a, gw_b, gw_c, gw_d, gw_e, gw_f, gw_g, gw_h, ws_isAgg, Nat.mul_one, Int.natCast_nonneg, w_add, ws_setAll]; exact AX h_)
  refine hlex_step (g := none) rfl rfl fun K' hK' => ?_
  simp only [sH, ↓sP, sA, tyS, simprocAttr, ws_gw, St_len, gw_a, gw_b, gw_c, gw_d, gw_e, gw_f, gw_g, gw_h, ws_isAgg, Nat.mul_one, Int.natCast_nonneg, w_add, ws_setAll]
  rw [hbuild_ws (n := 8) (rnd (wsched p) i S).l rfl rfl]
  refine AX (hK' _ _ ?_)
  clear hK' K'
  refine S0 ?_ (e := fun _ h_ => by simp only [sH, ↓sP, sA, tyS, simprocAttr, ws_gw, St_len, gw_a, gw_b, gw_c, gw_d, gw_e, gw_f, gw_g, gw_h, ws_isAgg, Nat.mul_one, Int.natCast_nonneg, w_add, ws_setAll]; exact AX h_)
  refine T2 (hK _ _ _ ?_)
  clear hK K
  refine hw_region (by kernel_rfl) ?_
  simp only [↓sP, sA, tyS, simprocAttr, i64s i]
  refine ⟨⟨(i + 1, rnd (wsched p) i S), hlt, by rw [hS]; rfl⟩, fF, ?_⟩
  show 64 - (i + 1) < 64 - i
  omega
 refine hw_exit ?_
 simp only [↓sP, sA, tyS, simprocAttr]
 clear hK K
 refine AX (hK _ _ _ ?_)
 clear hK K
 refine hw_seq fun K hK => ?_
 refine R0 ?_
 refine hw_block ?_
 have hei : i = 64 := by simp at hb; omega
 subst hei
 clear hb
 have e8 : addL s S 8 = (comp s p).l := by rw [hS]; rfl
 clear hS
 refine hw_loop (α := {j : Nat // j ≤ 8}) (fun j => (fin [(2, .ptr 0 0), (4, .ptr 4 0), (11, .ptr 124 0), (17, .c (.int .i64 j.1))], fob [(0, .box 152 (.c (ws (addL s S j.1)))), (4, .box 152 (.c (ws (wz 8)))), (124, .box 152 (.c (ws S.l)))])) 300 (fun j => 8 - j.1) ⟨0, by omega⟩ (fF) ?_
 rintro ⟨j, hj⟩
 have hlen := addL_len s S j (by omega)
 refine hw_seq fun K hK => ?_
 refine R0 ?_
 refine hw_cond (b := decide ((j : Int) < 8)) rfl (fun hb => ?_) (fun hb => ?_)
 ·
  have hlt : j < 8 := by simp at hb; omega
  have z : (j : Int) < 8 := by omega
  have hg := addL_gw s S j hlt
  refine hw_skip ?_
  refine T0 (hK _ _ _ ?_)
  clear hK K
  refine hw_seq fun K hK => ?_
  refine hw_block ?_
  refine hw_draw2 mixed [(0, [], []), (1, [], []), (2, [], []), (3, [], []), (4, [], []), (5, [], []), (6, [], []), (7, [], []), (8, [], []), (9, [], [])] [0, 0, 2, 6, 0, 16, 48, 126, 255, 511] (by kernel_rfl) (by kernel_rfl) (by kernel_rfl) (by kernel_rfl) rfl (by kernel_rfl) ?_
  iterate 10 refine W0 ?_ (e := fun _ h_ => by simp only [sH, ↓sP, sA, tyS, simprocAttr, z, hlt, hlen, hg, ws_gw, St_len, Nat.mul_one, Int.natCast_nonneg, w_add, ws_setw, toCL_c]; exact AX h_)
  refine T2 (hK _ _ _ ?_)
  clear hK K
  refine hw_region (by kernel_rfl) ?_
  simp only [↓sP, sA, tyS, simprocAttr, i64s j]
  refine ⟨⟨j + 1, hlt⟩, fits_fin (by omega) (by simp [FinOk, fin_at, finA_at, upd_at, HV.men, HV.menL, HV.norm, HV.toC, HV.toCL]) (by simp [FobOk, fob_at, upd_at, none0_at, HO.men, HV.men, HV.menL, HV.norm, HV.toC, HV.toCL]; rw [addL_step s S j hlt]), ?_⟩
  show 8 - (j + 1) < 8 - j
  omega
 refine hw_exit ?_
 simp only [↓sP, sA, tyS, simprocAttr]
 clear hK K
 refine AX (hK _ _ _ ?_)
 clear hK K
 have hej : j = 8 := by simp at hb; omega
 subst hej
 clear hb
 refine R0 ?_ (e := fun _ h_ => by simp only [↓sP, sA, tyS, simprocAttr, ws_all, ws_setAll, wz_len, hlen]; exact AX h_)
 refine hw_ret ?_
 simp only [hpost, Tryz.results120, hresL, hres1, tupOf, ↓sP, sA, tyS, simprocAttr]
 simp only [ws_all hlen, Option.map_some]
 exact hret_pure [] (ws (addL s S 8)) (close_c (ws_denil _)) (by rw [e8])

end Go.Proofs.YtenbfeemmpjdhaaGreatDoor

namespace Go.Proofs.YtenbfeemmpjdhaaGreatDoor
open Go Go.Hl Go.Pl
set_option maxRecDepth 10000
set_option maxHeartbeats 4000000
set_option linter.unusedSimpArgs false
set_option linter.unusedVariables false

theorem dsum_ok (b : List UInt8) (hb40 : b.length < 2 ^ 40) : HPure Tryz.prog 115 [.slc (b.map u8)] (fun v => v = dg (sha b)) := by
 have c0 : IntKind.u64.wrap (b.length : Int) = (b.length : Int) := IntWalk.u64_in _ (by omega)
 have c1 : IntKind.u64.wrap ((b.length : Int) * 8) = ((8 * b.length : Nat) : Int) := by rw [IntWalk.u64_in _ (by omega)]; omega
 refine hfn_walk Tryz.func115 rfl (by kernel_rfl) (locOk_nil _) (Nat.le_of_ble_eq_true rfl) ?_
 refine R0 ?_
 refine hw_seq fun K hK => Rg ?_
 refine hlex_step (g := none) rfl rfl fun K' hK' => ?_
 simp only [sH, ↓sP, sA, tyS, simprocAttr, ws_setAll, wz_len, St_len]
 rw [hbuild_ws (n := 8) St0.l rfl rfl]
 refine AX (hK' _ _ ?_)
 clear hK' K'
 iterate 2 refine S0 ?_ (e := fun _ h_ => by simp only [sH, ↓sP, sA, tyS, simprocAttr, ws_setAll, wz_len, St_len]; exact AX h_)
 refine T2 (hK _ _ _ ?_)
 clear hK K
 refine hw_seq fun K hK => Rg ?_
 refine hlex_step (g := none) rfl rfl fun K' hK' => ?_
 simp only [sH, ↓sP, sA, tyS, simprocAttr, ws_setAll, wz_len, K_len]
 refine call_pure (args := []) rounds_ok ⟨rfl, rfl, rfl, rfl⟩ ?_
 rintro u rfl
 refine AX (hK' _ _ ?_)
 clear hK' K'
 iterate 2 refine S0 ?_ (e := fun _ h_ => by simp only [sH, ↓sP, sA, tyS, simprocAttr, ws_setAll, wz_len, K_len]; exact AX h_)
 refine T2 (hK _ _ _ ?_)
 clear hK K
 refine hw_freeze 4 20 rfl rfl ?_
 refine hw_seq fun K hK => Rg ?_
 iterate 5 refine S0 ?_ (e := fun _ h_ => by simp only [sH, ↓sP, sA, tyS, simprocAttr, c0, c1]; exact AX h_)
 refine T2 (hK _ _ _ ?_)
 clear hK K
 refine hw_seq fun K hK => ?_
 refine hw_block ?_
 refine hw_loop (α := {x : Nat × St // 64 * x.1 ≤ b.length ∧ x.2 = blk (pad b) x.1 St0}) (fun x => (fin [(0, .c (.slc ((b.drop (64 * x.1.1)).map u8))), (2, .ptr 0 0), (3, .ptr 8 0), (4, .c (.rp (ws K256))), (5, .c (.int .u64 ((8 * b.length : Nat) : Int)))], fob [(0, .box 49 (.c zd)), (8, .box 152 (.c (ws x.1.2.l)))])) 100 (fun x => b.length - 64 * x.1.1) ⟨(0, St0), by omega, rfl⟩ (fF) ?_
 rintro ⟨⟨j, S⟩, hj, hS⟩
 replace hj : 64 * j ≤ b.length := hj
 replace hS : S = blk (pad b) j St0 := hS
 have hdl : (b.drop (64 * j)).length = b.length - 64 * j := List.length_drop
 refine hw_seq fun K hK => ?_
 refine hw_seq fun K hK => Rg ?_
 iterate 3 refine S0 ?_ (e := fun _ h_ => by simp only [sH, ↓sP, sA, tyS, simprocAttr, hdl]; exact AX h_)
 refine T2 (hK _ _ _ ?_)
 clear hK K
 refine hw_cond (b := decide ((64 : Int) ≤ ((b.length - 64 * j : Nat) : Int))) rfl (fun hb => ?_) (fun hb => ?_)
 ·
  have hge : 64 ≤ b.length - 64 * j := by simp at hb; omega
  have hge' : (64 : Int) ≤ ((b.length - 64 * j : Nat) : Int) := by omega
  have hp : ((b.drop (64 * j)).take 64).length = 64 := by rw [List.length_take, hdl]; omega
  refine hw_skip ?_
  refine T0 (hK _ _ _ ?_)
  clear hK K
  refine hw_block ?_
  refine hw_seq fun K hK => Rg ?_
  iterate 2 refine S0 ?_ (e := fun _ h_ => by simp only [sH, ↓sP, sA, tyS, simprocAttr, cells_u8, hdl, hge', List.drop_zero, ← List.map_take, denilL_u8, ws_denil]; exact AX h_)
  refine hlex_step (g := none) rfl rfl fun K' hK' => ?_
  simp only [sH, ↓sP, sA, tyS, simprocAttr, cells_u8, hdl, hge', List.drop_zero, ← List.map_take, denilL_u8, ws_denil]
  refine call_box0 (args := [_, _]) (absorb_ok S ((b.drop (64 * j)).take 64) hp) rfl (by simp) ⟨rfl, rfl, rfl, rfl⟩ ?_
  rintro v' rfl
  refine AX (hK' _ _ ?_)
  clear hK' K'
  refine T2 (hK _ _ _ ?_)
  clear hK K
  refine hw_region (by kernel_rfl) ?_
  simp only [sR, simprocAttr]
  iterate 3 refine S0 ?_ (e := fun _ h_ => by simp only [sH, ↓sP, sA, tyS, simprocAttr, cells_u8, hdl, hge', ← List.map_drop, ← List.map_take]; exact AX h_)
  simp only [sE, ↓reduceIte, simprocAttr]
  have e1 : List.take (b.length - 64 * j - 64) (List.drop (64 * j + 64) (List.map u8 b)) = List.drop (64 * (j + 1)) (List.map u8 b) := by
   rw [List.take_of_length_le (by rw [List.length_drop, List.length_map]; omega), show 64 * (j + 1) = 64 * j + 64 from by omega]
  refine ⟨⟨(j + 1, comp S ((b.drop (64 * j)).take 64)), by show 64 * (j + 1) ≤ b.length; omega, by rw [blk_succ, ← hS, pad_blk (by omega)]⟩, fits_fin (by omega) (by simp [FinOk, fin_at, finA_at, upd_at, HV.men, HV.menL, HV.norm, HV.toC, HV.toCL]; exact e1) (by simp [FobOk, fob_at, upd_at, none0_at, gone, HO.men, HV.men, HV.menL, HV.norm, HV.toC, HV.toCL]), ?_⟩
  show b.length - 64 * (j + 1) < b.length - 64 * j
  omega
 refine hw_exit ?_
 simp only [↓sP, sA, tyS, simprocAttr]
 clear hK K
 refine AX (hK _ _ _ ?_)
 clear hK K
 have hlt : b.length < 64 * j + 64 := by simp at hb; omega
 clear hb
 have hov : over ((uz 128).map u8) (((b.drop (64 * j)).map u8).take 128) 0 = ((b.drop (64 * j)) ++ (uz 128).drop (b.length - 64 * j)).map u8 := by rw [over_u8 (by omega), hdl]
 have h80 : CV.setAt (b.length - 64 * j) 1 (.c (.int .u8 128)) (.agg ((b.drop (64 * j) ++ (uz 128).drop (b.length - 64 * j)).map u8)) = some (.agg (((arrB b j 0).map u8).map .c)) := by rw [← arrB_zero hj hlt]; exact us_setb 128 (by simp [uz_len]; omega) (by simp [uz_len]; omega)
 have z80 : ((b.length - 64 * j : Nat) : Int) < 128 := by omega
 refine R0 ?_
 refine hw_seq fun K hK => Rg ?_
 iterate 3 refine S0 ?_ (e := fun _ h_ => by simp only [sH, ↓sP, sA, tyS, simprocAttr, us, hdl, uz_len, cells_u8, hov]; exact AX h_)
 refine T2 (hK _ _ _ ?_)
 clear hK K
 refine hw_seq fun K hK => Rg ?_
 iterate 4 refine S0 ?_ (e := fun _ h_ => by simp only [sH, ↓sP, sA, tyS, simprocAttr, hdl, z80, h80, toCL_c, Nat.mul_one, Int.natCast_nonneg]; exact AX h_)
 refine T2 (hK _ _ _ ?_)
 clear hK K
 refine R0 ?_
 refine hw_seq fun K hK => ?_
 have key : ∀ m : Nat, m = lastM b j → ∀ fr ob nx, Fits 0 fr ob (fin [(2, .ptr 0 0), (3, .ptr 8 0), (4, .c (.rp (ws K256))), (5, .c (.int .u64 ((8 * b.length : Nat) : Int))), (6, .ptr 112 0), (7, .c (.int .i64 m))]) (fob [(0, .box 49 (.c zd)), (8, .box 152 (.c (ws S.l))), (112, .box 166 (.c (us (arrB b j 0))))]) 200 → K fr ob nx := by
  rintro m rfl fr ob nx hf
  refine hK _ _ _ (hw_fits hf ?_)
  clear hf hK K
  refine hw_seq fun K hK => ?_
  refine R0 ?_
  refine hw_block ?_
  refine hw_loop (α := {i : Nat // i ≤ 8}) (fun i => (fin [(2, .ptr 0 0), (3, .ptr 8 0), (4, .c (.rp (ws K256))), (5, .c (.int .u64 ((8 * b.length : Nat) : Int))), (6, .ptr 112 0), (7, .c (.int .i64 (lastM b j : Nat))), (35, .c (.int .i64 i.1))], fob [(0, .box 49 (.c zd)), (8, .box 152 (.c (ws S.l))), (112, .box 166 (.c (us (arrB b j i.1))))])) 200 (fun i => 8 - i.1) ⟨0, by omega⟩ (fF) ?_
  rintro ⟨i, hi⟩
  have hlen := arrB_len hj hlt i
  have hm0 : lastM b j = 64 ∨ lastM b j = 128 := by unfold lastM; split <;> simp
  refine R0 ?_
  refine hw_seq fun K hK => ?_
  refine hw_cond (b := decide ((i : Int) < 8)) rfl (fun hb => ?_) (fun hb => ?_)
  ·
   have hi8 : i < 8 := by simp at hb; omega
   have z : ((lastM b j - 1 - i : Nat) : Int) < 128 := by omega
   have q : lastM b j - 1 - i < 128 := by omega
   have m1 : IntKind.i64.wrap ((lastM b j : Int) - 1) = ((lastM b j - 1 : Nat) : Int) := by rw [IntWalk.i64_in _ (by omega)]; omega
   have m2 : IntKind.i64.wrap (((lastM b j - 1 : Nat) : Int) - (i : Int)) = ((lastM b j - 1 - i : Nat) : Int) := by rw [IntWalk.i64_in _ (by omega)]; omega
   have m3 : IntKind.i64.wrap (8 * (i : Int)) = ((8 * i : Nat) : Int) := by rw [IntWalk.i64_in _ (by omega)]; omega
   have m4 := byte_shr (8 * b.length) i (by omega)
   refine hw_skip ?_
   refine T0 (hK _ _ _ ?_)
   clear hK K
   refine hw_seq fun K hK => ?_
   refine hw_block ?_
   refine R0 ?_
   refine hw_region (by kernel_rfl) ?_
   simp only [sR, simprocAttr]
   iterate 11 refine S0 ?_ (e := fun _ h_ => by simp only [sH, ↓sP, sA, tyS, simprocAttr, m1, m2, m3, m4, z, q, hlen, Int.natCast_nonneg, Nat.mul_one, us_setb, toCL_c]; exact AX h_)
   refine T2 (hK _ _ _ ?_)
   clear hK K
   refine hw_region (by kernel_rfl) ?_
   simp only [↓sP, sA, tyS, simprocAttr, i64s i]
   refine ⟨⟨i + 1, hi8⟩, fits_fin (by omega) (by simp [FinOk, fin_at, finA_at, upd_at, HV.men, HV.menL, HV.norm, HV.toC, HV.toCL]) (by simp [FobOk, fob_at, upd_at, none0_at, HO.men, HV.men, HV.menL, HV.norm, HV.toC, HV.toCL]; rw [arrB_step hj hlt hi8]), ?_⟩
   show 8 - (i + 1) < 8 - i
   omega
  refine hw_exit ?_
  simp only [↓sP, sA, tyS, simprocAttr]
  clear hK K
  refine AX (hK _ _ _ ?_)
  clear hK K
  refine hw_seq fun K hK => ?_
  refine R0 ?_
  refine hw_block ?_
  have hei : i = 8 := by simp at hb; omega
  subst hei
  clear hb
  refine hw_freeze 6 112 rfl rfl ?_
  refine hw_loop (α := {x : Nat × St // 64 * x.1 ≤ lastM b j ∧ x.2 = blk (pad b) (j + x.1) St0}) (fun x => (fin [(2, .ptr 0 0), (3, .ptr 8 0), (4, .c (.rp (ws K256))), (6, .c (.rp (us (arrB b j 8)))), (7, .c (.int .i64 (lastM b j : Nat))), (9, .c (.int .i64 ((64 * x.1.1 : Nat) : Int)))], fob [(0, .box 49 (.c zd)), (8, .box 152 (.c (ws x.1.2.l)))])) 300 (fun x => lastM b j - 64 * x.1.1) ⟨(0, S), by omega, hS⟩ (fF) ?_
  clear hS
  rintro ⟨⟨q, S⟩, hq, hS⟩
  replace hq : 64 * q ≤ lastM b j := hq
  replace hS : S = blk (pad b) (j + q) St0 := hS
  refine hw_seq fun K hK => ?_
  refine R0 ?_
  refine hw_cond (b := decide (((64 * q : Nat) : Int) < (lastM b j : Int))) rfl (fun hb => ?_) (fun hb => ?_)
  ·
   have hlt2 : 64 * (q + 1) ≤ lastM b j := by simp at hb; omega
   have m1 : IntKind.i64.wrap (((64 * q : Nat) : Int) + 64) = ((64 * q + 64 : Nat) : Int) := by rw [IntWalk.i64_in _ (by omega)]; omega
   have z1 : ((64 * q : Nat) : Int) ≤ ((64 * q + 64 : Nat) : Int) := by omega
   have z2 : ((64 * q + 64 : Nat) : Int) ≤ 128 := by omega
   have hp : (((arrB b j 8).drop (64 * q)).take 64).length = 64 := by rw [List.length_take, List.length_drop, hlen]; omega
   refine hw_skip ?_
   refine T0 (hK _ _ _ ?_)
   clear hK K
   refine hw_seq fun K hK => ?_
   refine hw_block ?_
   refine hw_region (by kernel_rfl) ?_
   simp only [sR, simprocAttr]
   iterate 4 refine S0 ?_ (e := fun _ h_ => by simp only [sH, ↓sP, sA, tyS, simprocAttr, us, m1, z1, z2, hlen, cells_u8, Nat.add_sub_cancel_left, ← List.map_drop, ← List.map_take, denilL_u8, ws_denil, Int.natCast_nonneg]; exact AX h_)
   refine hlex_step (g := none) rfl rfl fun K' hK' => ?_
   simp only [sH, ↓sP, sA, tyS, simprocAttr, us, m1, z1, z2, hlen, cells_u8, Nat.add_sub_cancel_left, ← List.map_drop, ← List.map_take, denilL_u8, ws_denil, Int.natCast_nonneg]
   refine call_box0 (args := [_, _]) (absorb_ok S (((arrB b j 8).drop (64 * q)).take 64) hp) rfl (by simp) ⟨rfl, rfl, rfl, rfl⟩ ?_
   rintro v' rfl
   refine AX (hK' _ _ ?_)
   clear hK' K'
   refine T2 (hK _ _ _ ?_)
   clear hK K
   refine hw_region (by kernel_rfl) ?_
   simp only [↓sP, sA, tyS, simprocAttr, m1]
   refine ⟨⟨(q + 1, comp S (((arrB b j 8).drop (64 * q)).take 64)), hlt2, by rw [arrB_blk hj hlt hlt2, hS]; rfl⟩, fits_fin (by omega) (by simp [FinOk, fin_at, finA_at, upd_at, HV.men, HV.menL, HV.norm, HV.toC, HV.toCL]; omega) (by simp [FobOk, fob_at, upd_at, none0_at, gone, HO.men, HV.men, HV.menL, HV.norm, HV.toC, HV.toCL]), ?_⟩
   show lastM b j - 64 * (q + 1) < lastM b j - 64 * q
   omega
  refine hw_exit ?_
  simp only [↓sP, sA, tyS, simprocAttr]
  clear hK K
  refine AX (hK _ _ _ ?_)
  clear hK K
  refine R0 ?_
  refine hw_seq fun K hK => ?_
  refine R0 ?_
  refine hw_block ?_
  have heq : 64 * q = lastM b j := by simp at hb; omega
  clear hb
  refine hw_loop (α := {i : Nat // i ≤ 32}) (fun i => (fin [(2, .ptr 0 0), (3, .ptr 8 0), (10, .ptr 312 0), (59, .c (.int .i64 i.1))], fob [(0, .box 49 (.c zd)), (8, .box 152 (.c (ws S.l))), (312, .box 49 (.c (us (outL S i.1))))])) 400 (fun i => 32 - i.1) ⟨0, by omega⟩ (fits_fin (by omega) (by simp [FinOk, fin_at, finA_at, upd_at, HV.men, HV.menL, HV.norm, HV.toC, HV.toCL]) (by simp [FobOk, fob_at, upd_at, none0_at, gone, HO.men, HV.men, HV.menL, HV.norm, HV.toC, HV.toCL]; rfl)) ?_
  rintro ⟨i, hi⟩
  have hol := outL_len S i
  refine R0 ?_
  refine hw_seq fun K hK => ?_
  refine hw_cond (b := decide ((i : Int) < 32)) rfl (fun hb => ?_) (fun hb => ?_)
  ·
   have hi32 : i < 32 := by simp at hb; omega
   have m1 : IntKind.i64.wrap ((i : Int).tdiv 4) = ((i / 4 : Nat) : Int) := by
    rw [show (i : Int).tdiv 4 = ((i / 4 : Nat) : Int) from rfl]; exact IntWalk.i64_in _ (by omega)
   have m2 : (i : Int).tmod 4 = ((i % 4 : Nat) : Int) := rfl
   have m3 : IntKind.i64.wrap (8 * ((i % 4 : Nat) : Int)) = ((8 * (i % 4) : Nat) : Int) := by rw [IntWalk.i64_in _ (by omega)]; omega
   have m4 : IntKind.i64.wrap (24 - ((8 * (i % 4) : Nat) : Int)) = ((24 - 8 * (i % 4) : Nat) : Int) := by rw [IntWalk.i64_in _ (by omega)]; omega
   have q1 : i / 4 < 8 := by omega
   have z1 : ((i / 4 : Nat) : Int) < 8 := by omega
   have z2 : (i : Int) < 32 := by omega
   have q2 : 24 - 8 * (i % 4) ≤ 32 := by omega
   refine hw_skip ?_
   refine T0 (hK _ _ _ ?_)
   clear hK K
   refine hw_seq fun K hK => ?_
   refine hw_block ?_
   refine R0 ?_
   refine hw_region (by kernel_rfl) ?_
   simp only [sR, simprocAttr]
   iterate 13 refine S0 ?_ (e := fun _ h_ => by simp only [sH, ↓sP, sA, tyS, simprocAttr, m1, m2, m3, m4, q1, z1, z2, q2, hi32, hol, St_len, ws_gw, Int.natCast_nonneg, Nat.mul_one, w_shr, byte_w, us_setb, toCL_c]; exact AX h_)
   refine T2 (hK _ _ _ ?_)
   clear hK K
   refine hw_region (by kernel_rfl) ?_
   simp only [↓sP, sA, tyS, simprocAttr, i64s i]
   refine ⟨⟨i + 1, hi32⟩, fits_fin (by omega) (by simp [FinOk, fin_at, finA_at, upd_at, HV.men, HV.menL, HV.norm, HV.toC, HV.toCL]) (by simp [FobOk, fob_at, upd_at, none0_at, gone, HO.men, HV.men, HV.menL, HV.norm, HV.toC, HV.toCL]; rfl), ?_⟩
   show 32 - (i + 1) < 32 - i
   omega
  refine hw_exit ?_
  simp only [↓sP, sA, tyS, simprocAttr]
  clear hK K
  refine AX (hK _ _ _ ?_)
  clear hK K
  have hei : i = 32 := by simp at hb; omega
  subst hei
  clear hb
  refine R0 ?_ (e := fun _ h_ => by simp only [↓sP, sA, tyS, simprocAttr, us_all, hol]; exact AX h_)
  refine hw_ret ?_
  simp only [hpost, Tryz.results115, hresL, hres1, tupOf, ↓sP, sA, tyS, simprocAttr]
  simp only [us_all hol, Option.map_some]
  refine hret_pure [] (us (outL S 32)) (close_c (us_denil _)) ?_
  have e9 : j + q = (pad b).length / 64 := by rw [pad_blocks hj hlt]; omega
  rw [outL_all, hS, ← sha_out, e9]
 refine hw_seq fun K hK => Rg ?_
 iterate 3 refine S0 ?_ (e := fun _ h_ => by simp only [sH, ↓sP, sA, tyS, simprocAttr, hdl]; exact AX h_)
 refine T2 (hK _ _ _ ?_)
 clear hK K
 refine hw_cond (b := decide ((56 : Int) ≤ ((b.length - 64 * j : Nat) : Int))) rfl (fun hb => ?_) (fun hb => ?_)
 ·
  refine hw_region (by kernel_rfl) ?_
  simp only [↓sP, sA, tyS, simprocAttr]
  exact key 128 (by unfold lastM; rw [if_neg (by simp at hb; omega)]) _ _ _ (fF)
 refine hw_skip ?_
 simp only [↓sP, sA, tyS, simprocAttr]
 exact key 64 (by unfold lastM; rw [if_pos (by simp at hb; omega)]) _ _ _ (fF)

end Go.Proofs.YtenbfeemmpjdhaaGreatDoor

namespace Go.Proofs.YtenbfeemmpjdhaaGreatDoor
open Go Go.Hl Go.Pl
set_option maxRecDepth 10000
set_option maxHeartbeats 4000000
set_option linter.unusedSimpArgs false
set_option linter.unusedVariables false

theorem rsum_ok (b : List UInt8) (hb40 : b.length < 2 ^ 40) : HPure Tryz.prog 87 [.slc (b.map u8)] (fun v => v = dg (sha b)) := by
 have c0 : IntKind.u64.wrap (b.length : Int) = (b.length : Int) := IntWalk.u64_in _ (by omega)
 have c1 : IntKind.u64.wrap ((b.length : Int) * 8) = ((8 * b.length : Nat) : Int) := by rw [IntWalk.u64_in _ (by omega)]; omega
 refine hfn_walk Tryz.func87 rfl (by kernel_rfl) (locOk_nil _) (Nat.le_of_ble_eq_true rfl) ?_
 refine R0 ?_
 refine hw_seq fun K hK => Rg ?_
 iterate 6 refine S0 ?_ (e := fun _ h_ => by simp only [sH, ↓sP, sA, tyS, simprocAttr, cells_u8, List.length_append]; exact AX h_)
 refine T2 (hK _ _ _ ?_)
 clear hK K
 refine hw_seq fun K hK => ?_
 refine hw_block ?_
 refine hw_loop (α := {z : Nat // z ≤ zs b.length}) (fun z => (fin [(0, .c (.slc (b.map u8))), (2, .ptr 0 0), (3, .own 4 (b.length + 1 + z.1))], fob [(0, .box 49 (.c zd)), (4, .row 5 1 ((b ++ [0x80] ++ List.replicate z.1 0).map u8))])) 100 (fun z => zs b.length - z.1) ⟨0, by omega⟩ (fits_fin (by omega) (by simp [FinOk, fin_at, finA_at, upd_at, HV.men, HV.menL, HV.norm, HV.toC, HV.toCL]) (by simp [FobOk, fob_at, upd_at, none0_at, gone, HO.men, HV.men, HV.menL, HV.norm, HV.toC, HV.toCL]; rfl)) ?_
 rintro ⟨z, hz⟩
 have hzb : zs b.length < 64 := by unfold zs; omega
 have hzm : (b.length + 1 + zs b.length) % 64 = 56 := by unfold zs; omega
 have hrl : ((b ++ [0x80] ++ List.replicate z 0).map u8).length = b.length + 1 + z := by simp; omega
 have m1 : (((b.length + 1 + z : Nat) : Int)).tmod 64 = (((b.length + 1 + z) % 64 : Nat) : Int) := rfl
 refine hw_seq fun K hK => ?_
 refine hw_seq fun K hK => Rg ?_
 iterate 4 refine S0 ?_ (e := fun _ h_ => by simp only [sH, ↓sP, sA, tyS, simprocAttr, hrl, m1]; exact AX h_)
 refine T2 (hK _ _ _ ?_)
 clear hK K
 refine hw_cond (b := ((((b.length + 1 + z) % 64 : Nat) : Int) != 56)) rfl (fun hb => ?_) (fun hb => ?_)
 ·
  have hne : (b.length + 1 + z) % 64 ≠ 56 := by simp at hb; omega
  have hlt : z < zs b.length := by rcases Nat.lt_or_ge z (zs b.length) with h | h; exact h; exact absurd (by rw [show z = zs b.length by omega]; exact hzm) hne
  refine hw_skip ?_
  refine T0 (hK _ _ _ ?_)
  clear hK K
  refine hw_block ?_
  refine hw_region (by kernel_rfl) ?_
  simp only [sR, simprocAttr]
  iterate 4 refine S0 ?_ (e := fun _ h_ => by simp only [sH, ↓sP, sA, tyS, simprocAttr, hrl, cells_u8]; exact AX h_)
  simp only [sE, ↓reduceIte, simprocAttr]
  refine ⟨⟨z + 1, hlt⟩, fits_fin (by omega) (by simp [FinOk, fin_at, finA_at, upd_at, HV.men, HV.menL, HV.norm, HV.toC, HV.toCL]; omega) (by simp [FobOk, fob_at, upd_at, none0_at, gone, HO.men, HV.men, HV.menL, HV.norm, HV.toC, HV.toCL, List.replicate_succ']; rfl), ?_⟩
  show zs b.length - (z + 1) < zs b.length - z
  omega
 refine hw_exit ?_
 simp only [↓sP, sA, tyS, simprocAttr]
 clear hK K
 refine AX (hK _ _ _ ?_)
 clear hK K
 refine hw_seq fun K hK => Rg ?_
 iterate 5 refine S0 ?_ (e := fun _ h_ => by simp only [sH, ↓sP, sA, tyS, simprocAttr, c0, c1]; exact AX h_)
 refine T2 (hK _ _ _ ?_)
 clear hK K
 refine hw_seq fun K hK => ?_
 refine R0 ?_
 refine hw_block ?_
 have hez : z = zs b.length := by simp at hb; unfold zs at *; omega
 subst hez
 clear hb
 refine hw_loop (α := {i : Nat // i ≤ 8}) (fun i => (fin [(2, .ptr 0 0), (3, .own 4 (b.length + 1 + zs b.length + i.1)), (4, .c (.int .u64 ((8 * b.length : Nat) : Int))), (5, .c (.int .i64 (7 - (i.1 : Int))))], fob [(0, .box 49 (.c zd)), (4, .row 5 1 ((b ++ [0x80] ++ List.replicate (zs b.length) 0 ++ (len8 b.length).take i.1).map u8))])) 200 (fun i => 8 - i.1) ⟨0, by omega⟩ (fF) ?_
 rintro ⟨i, hi⟩
 have hrl : ((b ++ [0x80] ++ List.replicate (zs b.length) 0 ++ (len8 b.length).take i).map u8).length = b.length + 1 + zs b.length + i := by simp [len8_len]; omega
 refine hw_seq fun K hK => ?_
 refine R0 ?_
 refine hw_cond (b := decide (0 ≤ 7 - (i : Int))) rfl (fun hb => ?_) (fun hb => ?_)
 ·
  have hi8 : i < 8 := by simp at hb; omega
  have m1 : IntKind.i64.wrap (8 * (7 - (i : Int))) = ((8 * (7 - i) : Nat) : Int) := by rw [IntWalk.i64_in _ (by omega)]; omega
  have m2 : IntKind.u64.wrap ((8 * (7 - i) : Nat) : Int) = ((8 * (7 - i) : Nat) : Int) := IntWalk.u64_in _ (by omega)
  have m3 := byte_shr (8 * b.length) (7 - i) (by omega)
  have m4 : IntKind.i64.wrap (7 - (i : Int) - 1) = 7 - ((i + 1 : Nat) : Int) := by rw [IntWalk.i64_in _ (by omega)]; omega
  refine hw_skip ?_
  refine T0 (hK _ _ _ ?_)
  clear hK K
  refine hw_seq fun K hK => ?_
  refine hw_block ?_
  refine hw_region (by kernel_rfl) ?_
  simp only [sR, simprocAttr]
  iterate 10 refine S0 ?_ (e := fun _ h_ => by simp only [sH, ↓sP, sA, tyS, simprocAttr, hrl, m1, m2, m3, cells_u8, Int.natCast_nonneg]; exact AX h_)
  refine T2 (hK _ _ _ ?_)
  clear hK K
  refine hw_region (by kernel_rfl) ?_
  simp only [↓sP, sA, tyS, simprocAttr, m4]
  refine ⟨⟨i + 1, hi8⟩, fits_fin (by omega) (by simp [FinOk, fin_at, finA_at, upd_at, HV.men, HV.menL, HV.norm, HV.toC, HV.toCL, len8_len]; omega) (by simp [FobOk, fob_at, upd_at, none0_at, gone, HO.men, HV.men, HV.menL, HV.norm, HV.toC, HV.toCL, len8_take hi8]; rfl), ?_⟩
  show 8 - (i + 1) < 8 - i
  omega
 refine hw_exit ?_
 simp only [↓sP, sA, tyS, simprocAttr]
 clear hK K
 refine AX (hK _ _ _ ?_)
 clear hK K
 have hei : i = 8 := by simp at hb; omega
 subst hei
 clear hb
 rw [padded]
 have hpq : b.length + 1 + zs b.length + 8 = (pad b).length := (pad_len b).symm
 refine hw_close [4] (hw_fits (fr2 := fin [(2, .ptr 0 0), (3, .c (.slc ((pad b).map u8)))]) (ob2 := fob [(0, .box 49 (.c zd))]) (nx2 := 300) (fits_fin (by omega) (by simp [FinOk, clF_at, fin_at, upd_at, fob_at, HV.close, HV.norm, HV.toC, HV.men, denilL_u8, hpq]) (by simp [FobOk, clO_at, fob_at, upd_at, HO.close, HV.close, HO.men, HV.men, HV.norm, HV.toC, zd_denil])) ?_)
 refine hw_seq fun K hK => Rg ?_
 refine hlex_step (g := none) rfl rfl fun K' hK' => ?_
 simp only [sH, ↓sP, sA, tyS, simprocAttr, ws_setAll, wz_len, St_len]
 rw [hbuild_ws (n := 8) St0.l rfl rfl]
 refine AX (hK' _ _ ?_)
 clear hK' K'
 iterate 2 refine S0 ?_ (e := fun _ h_ => by simp only [sH, ↓sP, sA, tyS, simprocAttr, ws_setAll, wz_len, St_len]; exact AX h_)
 refine T2 (hK _ _ _ ?_)
 clear hK K
 refine hw_seq fun K hK => ?_
 refine R0 ?_
 refine hw_block ?_
 refine hw_loop (α := {x : Nat × St // 64 * x.1 ≤ (pad b).length ∧ x.2 = blk (pad b) x.1 St0}) (fun x => (fin [(2, .ptr 0 0), (3, .c (.slc ((pad b).map u8))), (6, .ptr 304 0), (7, .c (.int .i64 ((64 * x.1.1 : Nat) : Int)))], fob [(0, .box 49 (.c zd)), (304, .box 152 (.c (ws x.1.2.l)))])) 400 (fun x => (pad b).length - 64 * x.1.1) ⟨(0, St0), by omega, rfl⟩ (fF) ?_
 rintro ⟨⟨q, S⟩, hq, hS⟩
 replace hq : 64 * q ≤ (pad b).length := hq
 replace hS : S = blk (pad b) q St0 := hS
 have hpm := pad_mod b
 have hpl := pad_len b
 have hzb : zs b.length < 64 := by unfold zs; omega
 refine hw_seq fun K hK => ?_
 refine hw_seq fun K hK => Rg ?_
 iterate 4 refine S0 ?_
 refine T2 (hK _ _ _ ?_)
 clear hK K
 refine hw_cond (b := decide (((64 * q : Nat) : Int) < ((pad b).length : Int))) rfl (fun hb => ?_) (fun hb => ?_)
 ·
  have hlt : 64 * (q + 1) ≤ (pad b).length := by simp at hb; omega
  have m1 : IntKind.i64.wrap (((64 * q : Nat) : Int) + 64) = ((64 * q + 64 : Nat) : Int) := by rw [IntWalk.i64_in _ (by omega)]; omega
  have z1 : ((64 * q : Nat) : Int) ≤ ((64 * q + 64 : Nat) : Int) := by omega
  have z2 : ((64 * q + 64 : Nat) : Int) ≤ ((pad b).length : Int) := by omega
  have hp : (((pad b).drop (64 * q)).take 64).length = 64 := by rw [List.length_take, List.length_drop]; omega
  refine hw_skip ?_
  refine T0 (hK _ _ _ ?_)
  clear hK K
  refine hw_seq fun K hK => ?_
  refine hw_block ?_
  refine hw_draw2 mixed [(0, [], []), (1, [], []), (2, [], []), (3, [], []), (4, [], []), (5, [], []), (6, [], []), (7, [], [])] [0, 0, 0, 0, 8, 30, 63, 127] (by kernel_rfl) (by kernel_rfl) (by kernel_rfl) (by kernel_rfl) rfl (by kernel_rfl) ?_
  iterate 6 refine W0 ?_ (e := fun _ h_ => by simp only [sH, ↓sP, sA, tyS, simprocAttr, m1, z1, z2, cells_u8, Nat.add_sub_cancel_left, ← List.map_drop, ← List.map_take, denilL_u8, ws_denil, Int.natCast_nonneg, ws_all, St_len, ws_setAll]; exact AX h_)
  refine hwalk2_step (g := none) rfl rfl fun K' hK' => ?_
  simp only [sH, ↓sP, sA, tyS, simprocAttr, m1, z1, z2, cells_u8, Nat.add_sub_cancel_left, ← List.map_drop, ← List.map_take, denilL_u8, ws_denil, Int.natCast_nonneg, ws_all, St_len, ws_setAll]
  refine call_pure (args := [_, _]) (block_ok S (((pad b).drop (64 * q)).take 64) hp) ⟨rfl, rfl, rfl, rfl⟩ ?_
  rintro u rfl
  refine AX (hK' _ _ ?_)
  clear hK' K'
  refine W0 ?_ (e := fun _ h_ => by simp only [sH, ↓sP, sA, tyS, simprocAttr, m1, z1, z2, cells_u8, Nat.add_sub_cancel_left, ← List.map_drop, ← List.map_take, denilL_u8, ws_denil, Int.natCast_nonneg, ws_all, St_len, ws_setAll]; exact AX h_)
  refine T2 (hK _ _ _ ?_)
  clear hK K
  refine hw_region (by kernel_rfl) ?_
  simp only [↓sP, sA, tyS, simprocAttr, m1]
  refine ⟨⟨(q + 1, comp S (((pad b).drop (64 * q)).take 64)), hlt, by rw [hS]; rfl⟩, fits_fin (by omega) (by simp [FinOk, fin_at, finA_at, upd_at, HV.men, HV.menL, HV.norm, HV.toC, HV.toCL]; omega) (by simp [FobOk, fob_at, upd_at, none0_at, gone, HO.men, HV.men, HV.menL, HV.norm, HV.toC, HV.toCL]), ?_⟩
  show (pad b).length - 64 * (q + 1) < (pad b).length - 64 * q
  omega
 refine hw_exit ?_
 simp only [↓sP, sA, tyS, simprocAttr]
 clear hK K
 refine AX (hK _ _ _ ?_)
 clear hK K
 refine R0 ?_
 refine hw_seq fun K hK => ?_
 refine R0 ?_
 refine hw_block ?_
 have heq : 64 * q = (pad b).length := by simp at hb; omega
 clear hb
 refine hw_loop (α := {i : Nat // i ≤ 32}) (fun i => (fin [(2, .ptr 0 0), (6, .ptr 304 0), (8, .ptr 416 0), (9, .c (.int .i64 i.1))], fob [(0, .box 49 (.c zd)), (304, .box 152 (.c (ws S.l))), (416, .box 49 (.c (us (outL S i.1))))])) 500 (fun i => 32 - i.1) ⟨0, by omega⟩ (fits_fin (by omega) (by simp [FinOk, fin_at, finA_at, upd_at, HV.men, HV.menL, HV.norm, HV.toC, HV.toCL]) (by simp [FobOk, fob_at, upd_at, none0_at, gone, HO.men, HV.men, HV.menL, HV.norm, HV.toC, HV.toCL]; rfl)) ?_
 rintro ⟨i, hi⟩
 have hol := outL_len S i
 refine hw_seq fun K hK => ?_
 refine R0 ?_
 refine hw_cond (b := decide ((i : Int) < 32)) rfl (fun hb => ?_) (fun hb => ?_)
 ·
  have hi32 : i < 32 := by simp at hb; omega
  have m1 : IntKind.i64.wrap ((i : Int).tdiv 4) = ((i / 4 : Nat) : Int) := by
   rw [show (i : Int).tdiv 4 = ((i / 4 : Nat) : Int) from rfl]; exact IntWalk.i64_in _ (by omega)
  have m2 : (i : Int).tmod 4 = ((i % 4 : Nat) : Int) := rfl
  have m3 : IntKind.i64.wrap (8 * ((i % 4 : Nat) : Int)) = ((8 * (i % 4) : Nat) : Int) := by rw [IntWalk.i64_in _ (by omega)]; omega
  have m4 : IntKind.i64.wrap (24 - ((8 * (i % 4) : Nat) : Int)) = ((24 - 8 * (i % 4) : Nat) : Int) := by rw [IntWalk.i64_in _ (by omega)]; omega
  have m5 : IntKind.u64.wrap ((24 - 8 * (i % 4) : Nat) : Int) = ((24 - 8 * (i % 4) : Nat) : Int) := IntWalk.u64_in _ (by omega)
  have q1 : i / 4 < 8 := by omega
  have z1 : ((i / 4 : Nat) : Int) < 8 := by omega
  have z2 : (i : Int) < 32 := by omega
  have q2 : 24 - 8 * (i % 4) ≤ 32 := by omega
  refine hw_skip ?_
  refine T0 (hK _ _ _ ?_)
  clear hK K
  refine hw_seq fun K hK => ?_
  refine hw_block ?_
  refine hw_region (by kernel_rfl) ?_
  simp only [sR, simprocAttr]
  iterate 14 refine S0 ?_ (e := fun _ h_ => by simp only [sH, ↓sP, sA, tyS, simprocAttr, m1, m2, m3, m4, m5, q1, z1, z2, q2, hi32, hol, St_len, ws_gw, Int.natCast_nonneg, Nat.mul_one, w_shr, byte_w, us_setb, toCL_c]; exact AX h_)
  refine T2 (hK _ _ _ ?_)
  clear hK K
  refine hw_region (by kernel_rfl) ?_
  simp only [↓sP, sA, tyS, simprocAttr, i64s i]
  refine ⟨⟨i + 1, hi32⟩, fits_fin (by omega) (by simp [FinOk, fin_at, finA_at, upd_at, HV.men, HV.menL, HV.norm, HV.toC, HV.toCL]) (by simp [FobOk, fob_at, upd_at, none0_at, gone, HO.men, HV.men, HV.menL, HV.norm, HV.toC, HV.toCL]; rfl), ?_⟩
  show 32 - (i + 1) < 32 - i
  omega
 refine hw_exit ?_
 simp only [↓sP, sA, tyS, simprocAttr]
 clear hK K
 refine AX (hK _ _ _ ?_)
 clear hK K
 have hei : i = 32 := by simp at hb; omega
 subst hei
 clear hb
 refine R0 ?_ (e := fun _ h_ => by simp only [↓sP, sA, tyS, simprocAttr, us_all, hol]; exact AX h_)
 refine hw_ret ?_
 simp only [hpost, Tryz.results87, hresL, hres1, tupOf, ↓sP, sA, tyS, simprocAttr]
 simp only [us_all hol, Option.map_some]
 refine hret_pure [] (us (outL S 32)) (close_c (us_denil _)) ?_
 have e9 : q = (pad b).length / 64 := by omega
 rw [outL_all, hS, ← sha_out, ← e9]


theorem pid_ok (p : Pk) : HPure Tryz.prog 81 [p.cv] (fun v => v = dg (pid p)) := by
 refine hfn_walk Tryz.func81 rfl (by kernel_rfl) (locOk_nil _) (Nat.le_of_ble_eq_true rfl) ?_
 refine R0 ?_
 refine hw_freeze 1 0 rfl rfl ?_
 refine hw_seq fun K hK => hw_draw2 mixed [(0, [], []), (1, [], []), (2, [], []), (3, [], []), (4, [3], []), (5, [3], []), (6, [], []), (7, [], []), (8, [], [])] [0, 1, 3, 7, 0, 16, 63, 127, 255] (by kernel_rfl) (by kernel_rfl) (by kernel_rfl) (by kernel_rfl) rfl (by kernel_rfl) ?_
 iterate 7 refine W0 ?_ (e := fun _ h_ => by simp only [sH, ↓sP, sA, tyS, simprocAttr, gone_at, u8_ofInt, hf_us, p.r.2, hf_take, cells_u8, List.drop_zero, denilL_u8]; exact AX h_)
 refine hwalk2_step (g := none) rfl rfl fun K' hK' => ?_
 simp only [sH, ↓sP, sA, tyS, simprocAttr, gone_at, u8_ofInt, hf_us, p.r.2, hf_take, cells_u8, List.drop_zero, denilL_u8]
 refine call_close (e := 5) (sz := 1) (l := (keyIn (UInt8.ofNat (p.h.emod 256).toNat) p.r.1).map u8) [] [] (dsum_ok (keyIn (UInt8.ofNat (p.h.emod 256).toNat) p.r.1) (by simp [keyIn, p.r.2])) rfl (by simp [keyIn, p.r.2]) (by simp) ⟨rfl, rfl, rfl, rfl⟩ ?_
 rintro u rfl
 refine AX (hK' _ _ ?_)
 clear hK' K'
 refine W0 ?_ (e := fun _ h_ => by simp only [sH, ↓sP, sA, tyS, simprocAttr, gone_at, u8_ofInt, hf_us, p.r.2, hf_take, cells_u8, List.drop_zero, denilL_u8]; exact AX h_)
 refine T2 (hK _ _ _ ?_)
 clear hK K
 refine hw_ret ?_
 simp only [hpost, Tryz.results81, hresL, hres1, tupOf, ↓sP, sA, tyS, simprocAttr]
 exact hret_pure [] (dg (pid p)) rfl rfl


theorem rid_ok (p : Pk) : HPure Tryz.prog 42 [p.cv] (fun v => v = dg (pid p)) := by
 refine hfn_walk Tryz.func42 rfl (by kernel_rfl) (locOk_nil _) (Nat.le_of_ble_eq_true rfl) ?_
 refine R0 ?_
 refine hw_seq fun K hK => Rg ?_
 iterate 5 refine S0 ?_ (e := fun _ h_ => by simp only [sH, ↓sP, sA, tyS, simprocAttr, u8_ofInt]; exact AX h_)
 refine T2 (hK _ _ _ ?_)
 clear hK K
 refine hw_freeze 1 0 rfl rfl ?_
 refine hw_seq fun K hK => Rg ?_
 iterate 4 refine S0 ?_ (e := fun _ h_ => by simp only [sH, ↓sP, sA, tyS, simprocAttr, gone_at, hf_us, p.r.2, hf_take, cells_u8, List.drop_zero, denilL_u8]; exact AX h_)
 refine hlex_step (g := none) rfl rfl fun K' hK' => ?_
 simp only [sH, ↓sP, sA, tyS, simprocAttr, gone_at, hf_us, p.r.2, hf_take, cells_u8, List.drop_zero, denilL_u8]
 refine call_close (e := 5) (sz := 1) (l := (keyIn (UInt8.ofNat (p.h.emod 256).toNat) p.r.1).map u8) [] [] (rsum_ok (keyIn (UInt8.ofNat (p.h.emod 256).toNat) p.r.1) (by simp [keyIn, p.r.2])) rfl (by simp [keyIn, p.r.2]) (by simp) ⟨rfl, rfl, rfl, rfl⟩ ?_
 rintro u rfl
 refine AX (hK' _ _ ?_)
 clear hK' K'
 refine S0 ?_ (e := fun _ h_ => by simp only [sH, ↓sP, sA, tyS, simprocAttr, gone_at, hf_us, p.r.2, hf_take, cells_u8, List.drop_zero, denilL_u8]; exact AX h_)
 refine T2 (hK _ _ _ ?_)
 clear hK K
 refine hw_ret ?_
 simp only [hpost, Tryz.results42, hresL, hres1, tupOf, ↓sP, sA, tyS, simprocAttr]
 exact hret_pure [] (dg (pid p)) rfl rfl

end Go.Proofs.YtenbfeemmpjdhaaGreatDoor

namespace Go.Proofs.YtenbfeemmpjdhaaGreatDoor
open Go Go.Hl Go.Pl
set_option maxRecDepth 10000
set_option maxHeartbeats 4000000
set_option linter.unusedSimpArgs false
set_option linter.unusedVariables false

theorem compact_ok (l : List Word) (hl : l.length < 2 ^ 40) : HTake Tryz.prog 84 9 1 (l.map .str) (fun u => u = .slc ((dedup l).map .str)) := by
 show HFn _ _ [.own 0 (l.map CV.str).length] 1 _ _
 rw [List.length_map]
 refine hfn_walk (args := [.own 0 l.length]) Tryz.func84 rfl (by kernel_rfl) (locOk_take 9 1 l.length _) (Nat.le_of_ble_eq_true rfl) ?_
 refine R0 ?_
 refine hw_seq fun K hK => ?_
 refine R0 ?_
 refine hw_cond (b := decide ((l.length : Int) < 2)) rfl (fun hb => ?_) (fun hb => ?_)
 ·
  refine R0 ?_
  refine hw_ret ?_
  simp only [hpost, Tryz.results84, hresL, hres1, tupOf, ↓sP, sA, tyS, simprocAttr]
  exact hret_take [0] (.slc (l.map .str)) (by simp [HV.close, HV.norm, HV.toC, fob_at]) (by rw [dedup_short (by simp at hb; omega)])
 refine hw_skip ?_
 refine T0 (hK _ _ _ ?_)
 clear hK K
 refine hw_seq fun K hK => ?_
 refine R0 ?_
 refine hw_block ?_
 have h2 : 2 ≤ l.length := by simp at hb; omega
 refine hw_loop (α := {k : Nat // 1 ≤ k ∧ k ≤ l.length ∧ dedup (l.take k) = l.take k}) (fun k => (fin [(0, .own 0 l.length), (3, .c (.int .i64 k.1))], fob [(0, .row 9 1 (l.map .str))])) 100 (fun k => l.length - k.1) ⟨1, by omega, by omega, dedup_short (by simp; omega)⟩ (fF) ?_
 clear hb
 rintro ⟨k, hk1, hk, hd⟩
 refine hw_seq fun K hK => ?_
 refine hw_seq fun K hK => Rg ?_
 iterate 4 refine S0 ?_
 refine T2 (hK _ _ _ ?_)
 clear hK K
 refine hw_cond (b := decide ((k : Int) < l.length)) rfl (fun hb => ?_) (fun hb => ?_)
 ·
  have hlt : k < l.length := by simpa using hb
  have hlt1 : k - 1 < l.length := by omega
  have m1 : IntKind.i64.wrap ((k : Int) - 1) = ((k - 1 : Nat) : Int) := by rw [IntWalk.i64_in _ (by omega)]; omega
  refine hw_skip ?_
  refine T0 (hK _ _ _ ?_)
  clear hK K
  refine hw_seq fun K hK => ?_
  refine hw_block ?_
  refine hw_seq fun K hK => hw_quiet mixed (by kernel_rfl) (by kernel_rfl) (by kernel_rfl) ?_
  simp only [sR, simprocAttr]
  iterate 10 refine S0 ?_ (e := fun _ h_ => by simp only [sH, ↓sP, sA, tyS, simprocAttr, m1, Int.natCast_nonneg, Int.ofNat_lt, hlt, hlt1, nth_map hlt, nth_map hlt1]; exact AX h_)
  refine T2 (hK _ _ _ ?_)
  clear hK K
  refine hw_cond (b := l[k] == l[k - 1]) rfl (fun hb => ?_) (fun hb => ?_)
  ·
   refine hw_seq fun K hK => Rg ?_
   iterate 4 refine S0 ?_
   refine T2 (hK _ _ _ ?_)
   clear hK K
   refine hw_seq fun K hK => ?_
   refine R0 ?_
   refine hw_block ?_
   refine hw_loop (α := {x : Nat × Nat × List Word // x.2.2.length = l.length ∧ 1 ≤ x.1 ∧ x.1 < x.2.1 ∧ x.2.1 ≤ l.length ∧ k < x.2.1 ∧ x.2.2.take x.1 = dedup (l.take x.2.1) ∧ x.2.2.drop (x.2.1 - 1) = l.drop (x.2.1 - 1)}) (fun x => (fin [(0, .own 0 l.length), (3, .c (.int .i64 x.1.1)), (4, .osl 0 l.length k 1 l.length), (5, .c (.int .i64 ((x.1.2.1 - k : Nat) : Int)))], fob [(0, .row 9 1 (x.1.2.2.map .str))])) 300 (fun x => l.length - x.1.2.1) ⟨(k, k + 1, l), rfl, hk1, by simp, hlt, by simp, by rw [dedup_skip hk1 hlt hb, hd], rfl⟩ (fF) ?_
   rintro ⟨⟨i, j, r⟩, hr, hi1, hij, hj, hkj, g1, g2⟩
   simp only at hr hi1 hij hj hkj g1 g2 ⊢
   have hrl : (r.map CV.str).length = l.length := by rw [List.length_map, hr]
   have p0 : 0 < l.length := by omega
   have e9 : (List.take (l.length - k) (List.drop k (r.map CV.str))).length = l.length - k := by simp [hr]
   refine hw_seq fun K hK => ?_
   refine hw_seq fun K hK => Rg ?_
   iterate 4 refine S0 ?_ (e := fun _ h_ => by simp only [sH, ↓sP, sA, tyS, simprocAttr, hr, p0, hk, Nat.le_refl, e9]; exact AX h_)
   refine T2 (hK _ _ _ ?_)
   clear hK K
   refine hw_cond (b := decide (((j - k : Nat) : Int) < ((l.length - k : Nat) : Int))) rfl (fun hb => ?_) (fun hb => ?_)
   ·
    have hjl : j < l.length := by simp at hb; omega
    have hjr : j < r.length := by omega
    have hj1r : j - 1 < r.length := by omega
    have hir : i < r.length := by omega
    have hil : i < l.length := by omega
    have hj1l : j - 1 < l.length := by omega
    have z1 : ((j - k : Nat) : Int) < ((l.length - k : Nat) : Int) := by omega
    have z2 : ((j - k - 1 : Nat) : Int) < ((l.length - k : Nat) : Int) := by omega
    have e1 : k + (j - k) = j := by omega
    have e2 : k + (j - k - 1) = j - 1 := by omega
    have m2 : IntKind.i64.wrap (((j - k : Nat) : Int) - 1) = ((j - k - 1 : Nat) : Int) := by rw [IntWalk.i64_in _ (by omega)]; omega
    have m3 : IntKind.i64.wrap (((j - k : Nat) : Int) + 1) = ((j + 1 - k : Nat) : Int) := by rw [IntWalk.i64_in _ (by omega)]; omega
    have q0 : r[j - 1] = l[j - 1] ∧ r[j] = l[j] := by
     have a1 : (r.drop (j - 1))[0]? = (l.drop (j - 1))[0]? := by rw [g2]
     have a2 : (r.drop (j - 1))[1]? = (l.drop (j - 1))[1]? := by rw [g2]
     simp only [List.getElem?_drop, Nat.add_zero, show j - 1 + 1 = j by omega, List.getElem?_eq_getElem hjr, List.getElem?_eq_getElem hj1r, List.getElem?_eq_getElem hjl, List.getElem?_eq_getElem hj1l, Option.some.injEq] at a1 a2
     exact ⟨a1, a2⟩
    have q1 : nth (r.map CV.str) j = .str l[j] := by rw [nth_map hjr, q0.2]
    have q2 : nth (r.map CV.str) (j - 1) = .str l[j - 1] := by rw [nth_map hj1r, q0.1]
    have g3 : r.drop j = l.drop j := by
     have : (r.drop (j - 1)).drop 1 = (l.drop (j - 1)).drop 1 := by rw [g2]
     rwa [List.drop_drop, List.drop_drop, show j - 1 + 1 = j by omega] at this
    refine hw_skip ?_
    refine T0 (hK _ _ _ ?_)
    clear hK K
    refine hw_seq fun K hK => ?_
    have key : ∀ (i' : Nat) (r' : List Word) fr ob nx, r'.length = l.length → 1 ≤ i' → i' < j + 1 → r'.take i' = dedup (l.take (j + 1)) → r'.drop j = l.drop j → Fits 1 fr ob (fin [(0, .own 0 l.length), (3, .c (.int .i64 i')), (4, .osl 0 l.length k 1 l.length), (5, .c (.int .i64 ((j - k : Nat) : Int)))]) (fob [(0, .row 9 1 (r'.map .str))]) 500 → K fr ob nx := by
     rintro i' r' fr ob nx w1 w2 w3 w4 w5 hf
     refine hK _ _ _ (hw_fits hf ?_)
     clear hf hK K
     refine hw_region (by kernel_rfl) ?_
     simp only [↓sP, sA, tyS, simprocAttr, m3]
     refine ⟨⟨(i', j + 1, r'), w1, w2, w3, hjl, by simp only; omega, w4, w5⟩, fF, ?_⟩
     show l.length - (j + 1) < l.length - j
     omega
    refine hw_block ?_
    refine hw_seq fun K hK => hw_quiet mixed (by kernel_rfl) (by kernel_rfl) (by kernel_rfl) ?_
    simp only [sR, simprocAttr]
    iterate 10 refine S0 ?_ (e := fun _ h_ => by simp only [sH, ↓sP, sA, tyS, simprocAttr, hr, m2, e1, e2, z1, z2, q1, q2, hjl, hj1l, hjr, hj1r, Int.natCast_nonneg, Int.ofNat_lt]; exact AX h_)
    refine T2 (hK _ _ _ ?_)
    clear hK K
    refine hw_cond (b := !(l[j] == l[j - 1])) rfl (fun hb => ?_) (fun hb => ?_)
    ·
     refine hw_seq fun K hK => Rg ?_
     iterate 8 refine S0 ?_ (e := fun _ h_ => by simp only [sH, ↓sP, sA, tyS, simprocAttr, hr, e1, z1, q1, nth_map hir, hil, hir, hjl, hjr, Int.natCast_nonneg, Int.ofNat_lt, ← List.map_set]; exact AX h_)
     refine T2 (hK _ _ _ ?_)
     clear hK K
     refine hw_region (by kernel_rfl) ?_
     simp only [↓sP, sA, tyS, simprocAttr, i64s i]
     refine key (i + 1) (r.set i l[j]) _ _ _ (by simp [hr]) (by omega) (by omega) ?_ ?_ (fF)
     ·
      rw [dedup_put (by omega) hjl (by simpa using hb), ← g1, List.take_succ_eq_append_getElem (by simp; omega), List.take_set_of_le (by omega)]
      simp
     rw [List.drop_set_of_lt (by omega), g3]
    refine hw_skip ?_
    simp only [↓sP, sA, tyS, simprocAttr]
    exact key i r _ _ _ hr hi1 (by omega) (by rw [dedup_skip (by omega) hjl (by simpa using hb), g1]) g3 (fF)
   have hjl : j = l.length := by simp at hb; omega
   subst hjl
   rw [List.take_length] at g1
   refine hw_exit ?_
   simp only [↓sP, sA, tyS, simprocAttr]
   clear hK K
   refine AX (hK _ _ _ ?_)
   clear hK K
   refine hw_seq fun K hK => Rg ?_
   iterate 4 refine S0 ?_ (e := fun _ h_ => by simp only [sH, ↓sP, sA, tyS, simprocAttr, hr]; exact AX h_)
   refine T2 (hK _ _ _ ?_)
   clear hK K
   refine hw_seq fun K hK => Rg ?_
   iterate 4 refine S0 ?_ (e := fun _ h_ => by simp only [sH, ↓sP, sA, tyS, simprocAttr, hr]; exact AX h_)
   refine T2 (hK _ _ _ ?_)
   clear hK K
   refine hw_ret ?_
   simp only [hpost, Tryz.results84, hresL, hres1, tupOf, ↓sP, sA, tyS, simprocAttr]
   refine hret_take [0] (.slc ((r.take i).map .str)) ?_ (by rw [g1])
   simp [HV.close, HV.norm, fob_at]
   rw [if_pos ⟨by omega, by omega, by omega⟩]
   show HV.c (CV.slc _) = _
   rw [List.take_append_of_le_length (by simp; omega), List.take_take, Nat.min_self]
  refine hw_skip ?_
  refine T0 (hK _ _ _ ?_)
  clear hK K
  refine hw_region (by kernel_rfl) ?_
  simp only [↓sP, sA, tyS, simprocAttr, i64s k]
  refine ⟨⟨k + 1, by omega, hlt, dedup_keep hk1 hlt hb hd⟩, fF, ?_⟩
  show l.length - (k + 1) < l.length - k
  omega
 refine hw_exit ?_
 simp only [↓sP, sA, tyS, simprocAttr]
 clear hK K
 refine AX (hK _ _ _ ?_)
 clear hK K
 refine R0 ?_
 refine hw_ret ?_
 simp only [hpost, Tryz.results84, hresL, hres1, tupOf, ↓sP, sA, tyS, simprocAttr]
 have hkl : k = l.length := by simp at hb; omega
 subst hkl
 rw [List.take_length] at hd
 exact hret_take [0] (.slc (l.map .str)) (by simp [HV.close, HV.norm, HV.toC, fob_at]) (by rw [hd])

end Go.Proofs.YtenbfeemmpjdhaaGreatDoor
