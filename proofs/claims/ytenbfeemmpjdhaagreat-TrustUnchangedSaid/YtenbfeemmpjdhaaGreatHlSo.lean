/- HL: a row that a function sorts where it lies. By an AI agent. -/
import Derived.Test.YtenbfeemmpjdhaaGreatHxTa
import Derived.Test.YtenbfeemmpjdhaaGreatHxSb
import Derived.Test.YtenbfeemmpjdhaaGreatHlZb
import Derived.Sort.Grow
import Derived.Sort.EncStr
set_option linter.unusedSimpArgs false
set_option linter.unusedVariables false
set_option linter.defProp false
namespace Go.Pl
open Go Go.Hl

theorem blk_succ (p : List UInt8) (n : Nat) (s : St) : blk p (n + 1) s = comp (blk p n s) ((p.drop (64 * n)).take 64) := rfl
theorem len8_len (n : Nat) : (len8 n).length = 8 := by simp [len8]
theorem pad_len (b : List UInt8) : (pad b).length = b.length + 1 + zs b.length + 8 := by simp [pad, len8_len]; omega
theorem pad_mod (b : List UInt8) : (pad b).length % 64 = 0 := by
  rw [pad_len]; unfold zs; omega
theorem pad_blk {b : List UInt8} {j : Nat} (h : 64 * (j + 1) ≤ b.length) : ((pad b).drop (64 * j)).take 64 = (b.drop (64 * j)).take 64 := by
  unfold pad
  rw [List.append_assoc, List.append_assoc, List.drop_append_of_le_length (by omega), List.take_append_of_le_length (by rw [List.length_drop]; omega)]
def padP (b : List UInt8) (j : Nat) : List UInt8 := b.drop (64 * j) ++ [0x80] ++ List.replicate (zs b.length) 0
theorem pad_tail {b : List UInt8} {j : Nat} (h : 64 * j ≤ b.length) : (pad b).drop (64 * j) = padP b j ++ len8 b.length := by
  unfold pad padP
  rw [List.append_assoc, List.append_assoc, List.drop_append_of_le_length h]
  simp
def lastM (b : List UInt8) (j : Nat) : Nat := if b.length - 64 * j < 56 then 64 else 128
section
variable {b : List UInt8} {j : Nat} (h0 : 64 * j ≤ b.length) (h1 : b.length < 64 * j + 64)
include h0 h1
theorem padP_len : (padP b j).length + 8 = lastM b j := by
  simp only [padP, lastM, List.length_append, List.length_drop, List.length_singleton, List.length_replicate]
  unfold zs
  split <;> omega
theorem pad_blocks : (pad b).length = 64 * j + lastM b j := by
  have e := congrArg List.length (pad_tail h0)
  rw [List.length_drop, List.length_append, len8_len, padP_len h0 h1] at e
  have : 64 * j ≤ (pad b).length := by rw [pad_len]; omega
  omega
theorem arr0 : ((b.drop (64 * j) ++ (uz 128).drop (b.length - 64 * j)).set (b.length - 64 * j) 0x80) = padP b j ++ (List.replicate 8 0 ++ List.replicate (128 - lastM b j) 0) := by
  have hl : (b.drop (64 * j)).length = b.length - 64 * j := List.length_drop
  have e : (uz 128).drop (b.length - 64 * j) = 0 :: List.replicate (127 - (b.length - 64 * j)) 0 := by
    unfold uz
    rw [List.drop_replicate, ← List.replicate_succ]
    congr 1; omega
  rw [List.set_append_right _ _ (by omega), hl, Nat.sub_self, e, List.set_cons_zero, List.replicate_append_replicate]
  have e2 : 127 - (b.length - 64 * j) = zs b.length + (8 + (128 - lastM b j)) := by
    unfold zs lastM; split <;> omega
  rw [e2, ← List.replicate_append_replicate, ← List.replicate_append_replicate]
  simp only [padP, List.append_assoc, List.singleton_append, List.cons_append, List.nil_append, List.replicate_append_replicate]
end
def midB (n i : Nat) : List UInt8 := (List.range 8).map fun q => if 7 - q < i then UInt8.ofNat (8 * n / 2 ^ (8 * (7 - q))) else 0
theorem midB_zero (n : Nat) : List.replicate 8 0 = midB n 0 := rfl
theorem midB_step (n : Nat) : ∀ i, i < 8 → (midB n i).set (7 - i) (UInt8.ofNat (8 * n / 2 ^ (8 * i))) = midB n (i + 1)
  | 0, _ => rfl | 1, _ => rfl | 2, _ => rfl | 3, _ => rfl | 4, _ => rfl | 5, _ => rfl | 6, _ => rfl | 7, _ => rfl
  | j + 8, h => by omega
theorem midB_all (n : Nat) : midB n 8 = len8 n := rfl
theorem midB_len (n i : Nat) : (midB n i).length = 8 := by simp [midB]
def arrB (b : List UInt8) (j i : Nat) : List UInt8 := padP b j ++ (midB b.length i ++ List.replicate (128 - lastM b j) 0)
section
variable {b : List UInt8} {j : Nat} (h0 : 64 * j ≤ b.length) (h1 : b.length < 64 * j + 64)
include h0 h1
theorem arrB_zero : ((b.drop (64 * j) ++ (uz 128).drop (b.length - 64 * j)).set (b.length - 64 * j) 0x80) = arrB b j 0 := by rw [arr0 h0 h1, midB_zero b.length]; rfl
theorem arrB_len (i : Nat) : (arrB b j i).length = 128 := by
  have := padP_len h0 h1
  simp only [arrB, List.length_append, midB_len, List.length_replicate]
  have : lastM b j ≤ 128 := by unfold lastM; split <;> omega
  omega
theorem arrB_step {i : Nat} (hi : i < 8) : (arrB b j i).set (lastM b j - 1 - i) (UInt8.ofNat (8 * b.length / 2 ^ (8 * i))) = arrB b j (i + 1) := by
  have hp := padP_len h0 h1
  unfold arrB
  rw [List.set_append_right _ _ (by omega), List.set_append_left _ _ (by rw [midB_len]; omega)]
  have : lastM b j - 1 - i - (padP b j).length = 7 - i := by omega
  rw [this, midB_step _ _ hi]
theorem arrB_blk {q : Nat} (hq : 64 * (q + 1) ≤ lastM b j) : ((arrB b j 8).drop (64 * q)).take 64 = ((pad b).drop (64 * (j + q))).take 64 := by
  have hp := padP_len h0 h1
  have e : (arrB b j 8) = (pad b).drop (64 * j) ++ List.replicate (128 - lastM b j) 0 := by rw [pad_tail h0]; unfold arrB; rw [midB_all]; simp
  have hl : ((pad b).drop (64 * j)).length = lastM b j := by rw [List.length_drop, pad_blocks h0 h1]; omega
  rw [e, List.drop_append_of_le_length (by omega), List.take_append_of_le_length (by rw [List.length_drop]; omega), List.drop_drop]
  congr 2; omega
end
theorem over_u8 {r : List UInt8} {n : Nat} (h : r.length ≤ n) : over ((uz n).map u8) ((r.map u8).take n) 0 = (r ++ (uz n).drop r.length).map u8 := by
  have e : (r.map u8).take n = r.map u8 := List.take_of_length_le (by rw [List.length_map]; exact h)
  simp [over, e]
@[simp] theorem us_fold (l : List UInt8) : CV.agg (l.map u8) = us l := rfl
theorem byte_shr (v i : Nat) (h : 8 * i ≤ 64) : IntKind.u8.wrap (Int.fdiv (v : Int) (2 ^ (min (8 * i) IntKind.u64.bits))) = ((UInt8.ofNat (v / 2 ^ (8 * i))).toNat : Int) := by
  have : min (8 * i) IntKind.u64.bits = 8 * i := Nat.min_eq_left h
  rw [this, Int.fdiv_eq_ediv_of_nonneg _ (Int.pow_nonneg (by omega))]
  have e : (v : Int) / 2 ^ (8 * i) = ((v / 2 ^ (8 * i) : Nat) : Int) := by norm_cast
  rw [e, IntKind.wrap_u8, UInt8.toNat_ofNat']
  omega
def ob8 (s : St) (i : Nat) : UInt8 := UInt8.ofNat ((gw s.l (i / 4)) >>> (24 - 8 * (i % 4))).toNat
def outL (s : St) (n : Nat) : List UInt8 := itN (fun i l => l.set i (ob8 s i)) n (uz 32)
@[simp] theorem outL_zero (s : St) : outL s 0 = uz 32 := rfl
theorem outL_len (s : St) (n : Nat) : (outL s n).length = 32 := by unfold outL; rw [itN_len (fun i l => by simp)]; simp [uz]
theorem outL_all (s : St) : outL s 32 = outB s := by
  unfold outL
  rw [itN_set _ _ _ (by simp [uz])]
  simp [uz, outB, ob8]
theorem len8_take {n i : Nat} (h : i < 8) : (len8 n).take (i + 1) = (len8 n).take i ++ [UInt8.ofNat (8 * n / 2 ^ (8 * (7 - i)))] := by
  rw [List.take_succ_eq_append_getElem (by rw [len8_len]; exact h)]
  simp [len8]
theorem padded {b : List UInt8} : b ++ [0x80] ++ List.replicate (zs b.length) 0 ++ (len8 b.length).take 8 = pad b := by
  rw [List.take_of_length_le (by rw [len8_len]; exact Nat.le_refl _)]; rfl
theorem hf_take (h : Half) : (h.1.map u8).take 16 = h.1.map u8 := List.take_of_length_le (by rw [List.length_map, h.2]; exact Nat.le_refl _)
theorem sha_out (b : List UInt8) : us (outB (blk (pad b) ((pad b).length / 64) St0)) = dg (sha b) := rfl
end Go.Pl

namespace Go.Proofs.YtenbfeemmpjdhaaGreat
open Go Go.Hl Go.Pl
set_option maxRecDepth 10000
set_option maxHeartbeats 4000000
set_option linter.unusedSimpArgs false
set_option linter.unusedVariables false

theorem dsum_ok (b : List UInt8) (hb40 : b.length < 2 ^ 40) : HPure Tryz.prog 59 [.slc (b.map u8)] (fun v => v = dg (sha b)) := by
 have c0 : IntKind.u64.wrap (b.length : Int) = (b.length : Int) := IntWalk.u64_in _ (by omega)
 have c1 : IntKind.u64.wrap ((b.length : Int) * 8) = ((8 * b.length : Nat) : Int) := by rw [IntWalk.u64_in _ (by omega)]; omega
 refine hfn_walk Tryz.func59 rfl (by kernel_rfl) (locOk_nil _) (Nat.le_of_ble_eq_true rfl) ?_
 refine hw_seq fun K hK => hw_region (by kernel_rfl) ?_
 simp (maxSteps := 4000000) only [↓sP, sA, tyS, simprocAttr]
 repeat refine AI ?_
 refine hK _ _ _ ?_
 clear hK K
 refine hw_seq fun K hK => hw_region (by kernel_rfl) ?_
 simp only [sR, simprocAttr]
 refine hlex_step (g := none) rfl rfl fun K' hK' => ?_
 simp (maxSteps := 4000000) only [sH, ↓sP, sA, tyS, simprocAttr, ws_setAll, wz_len, St_len]
 rw [hbuild_ws (n := 8) St0.l rfl rfl]
 repeat refine AI ?_
 refine hK' _ _ ?_
 clear hK' K'
 iterate 2
  (refine hlex_step (g := none) rfl rfl fun K' hK' => ?_; simp only [sH, ↓sP, sA, tyS, simprocAttr, ws_setAll, wz_len, St_len]; (repeat refine AI ?_); refine hK' _ _ ?_; clear hK' K')
 simp only [sE, ↓reduceIte, simprocAttr]
 repeat refine AI ?_
 refine hK _ _ _ ?_
 clear hK K
 refine hw_seq fun K hK => hw_region (by kernel_rfl) ?_
 simp only [sR, simprocAttr]
 refine hlex_step (g := none) rfl rfl fun K' hK' => ?_
 simp (maxSteps := 4000000) only [sH, ↓sP, sA, tyS, simprocAttr, ws_setAll, wz_len, K_len]
 refine call_pure (args := []) rounds_ok ⟨rfl, rfl, rfl, rfl⟩ ?_
 rintro u rfl
 repeat refine AI ?_
 refine hK' _ _ ?_
 clear hK' K'
 iterate 2
  (refine hlex_step (g := none) rfl rfl fun K' hK' => ?_; simp only [sH, ↓sP, sA, tyS, simprocAttr, ws_setAll, wz_len, K_len]; (repeat refine AI ?_); refine hK' _ _ ?_; clear hK' K')
 simp only [sE, ↓reduceIte, simprocAttr]
 repeat refine AI ?_
 refine hK _ _ _ ?_
 clear hK K
 refine hw_freeze 4 20 rfl rfl ?_
 refine hw_seq fun K hK => hw_region (by kernel_rfl) ?_
 simp only [sR, simprocAttr]
 iterate 5
  (refine hlex_step (g := none) rfl rfl fun K' hK' => ?_; simp only [sH, ↓sP, sA, tyS, simprocAttr, c0, c1]; (repeat refine AI ?_); refine hK' _ _ ?_; clear hK' K')
 simp only [sE, ↓reduceIte, simprocAttr]
 repeat refine AI ?_
 refine hK _ _ _ ?_
 clear hK K
 refine hw_seq fun K hK => ?_
 refine hw_block ?_
 refine hw_loop (α := {x : Nat × St // 64 * x.1 ≤ b.length ∧ x.2 = blk (pad b) x.1 St0}) (fun x => (fin [(0, .c (.slc ((b.drop (64 * x.1.1)).map u8))), (2, .ptr 0 0), (3, .ptr 8 0), (4, .c (.rp (ws K256))), (5, .c (.int .u64 ((8 * b.length : Nat) : Int)))], fob [(0, .box 44 (.c zd)), (8, .box 116 (.c (ws x.1.2.l)))])) 100 (fun x => b.length - 64 * x.1.1) ⟨(0, St0), by omega, rfl⟩ (fits_fin (by omega) (by simp [FinOk, fin_at, finA_at, upd_at, HV.men, HV.menL, HV.norm, HV.toC, HV.toCL]) (by simp [FobOk, fob_at, upd_at, none0_at, gone, HO.men, HV.men, HV.menL, HV.norm, HV.toC, HV.toCL])) ?_
 rintro ⟨⟨j, S⟩, hj, hS⟩
 replace hj : 64 * j ≤ b.length := hj
 replace hS : S = blk (pad b) j St0 := hS
 have hdl : (b.drop (64 * j)).length = b.length - 64 * j := List.length_drop
 refine hw_seq fun K hK => ?_
 refine hw_seq fun K hK => hw_region (by kernel_rfl) ?_
 simp only [sR, simprocAttr]
 iterate 3
  (refine hlex_step (g := none) rfl rfl fun K' hK' => ?_; simp only [sH, ↓sP, sA, tyS, simprocAttr, hdl]; (repeat refine AI ?_); refine hK' _ _ ?_; clear hK' K')
 simp only [sE, ↓reduceIte, simprocAttr]
 repeat refine AI ?_
 refine hK _ _ _ ?_
 clear hK K
 refine hw_cond (b := decide ((64 : Int) ≤ ((b.length - 64 * j : Nat) : Int))) rfl (fun hb => ?_) (fun hb => ?_)
 ·
  have hge : 64 ≤ b.length - 64 * j := by simp at hb; omega
  have hge' : (64 : Int) ≤ ((b.length - 64 * j : Nat) : Int) := by omega
  have hp : ((b.drop (64 * j)).take 64).length = 64 := by rw [List.length_take, hdl]; omega
  refine hw_skip ?_
  simp (maxSteps := 4000000) only [↓sP, sA, tyS, simprocAttr]
  repeat refine AI ?_
  refine hK _ _ _ ?_
  clear hK K
  refine hw_block ?_
  refine hw_seq fun K hK => hw_region (by kernel_rfl) ?_
  simp only [sR, simprocAttr]
  iterate 2
   (refine hlex_step (g := none) rfl rfl fun K' hK' => ?_; simp only [sH, ↓sP, sA, tyS, simprocAttr, cells_u8, hdl, hge', List.drop_zero, ← List.map_take, denilL_u8, ws_denil]; (repeat refine AI ?_); refine hK' _ _ ?_; clear hK' K')
  refine hlex_step (g := none) rfl rfl fun K' hK' => ?_
  simp (maxSteps := 4000000) only [sH, ↓sP, sA, tyS, simprocAttr, cells_u8, hdl, hge', List.drop_zero, ← List.map_take, denilL_u8, ws_denil]
  refine call_box0 (args := [_, _]) (absorb_ok S ((b.drop (64 * j)).take 64) hp) rfl (by simp) ⟨rfl, rfl, rfl, rfl⟩ ?_
  rintro v' rfl
  repeat refine AI ?_
  refine hK' _ _ ?_
  clear hK' K'
  simp only [sE, ↓reduceIte, simprocAttr]
  repeat refine AI ?_
  refine hK _ _ _ ?_
  clear hK K
  refine hw_region (by kernel_rfl) ?_
  simp only [sR, simprocAttr]
  iterate 3
   (refine hlex_step (g := none) rfl rfl fun K' hK' => ?_; simp only [sH, ↓sP, sA, tyS, simprocAttr, cells_u8, hdl, hge', ← List.map_drop, ← List.map_take]; (repeat refine AI ?_); refine hK' _ _ ?_; clear hK' K')
  simp only [sE, ↓reduceIte, simprocAttr]
  have e1 : List.take (b.length - 64 * j - 64) (List.drop (64 * j + 64) (List.map u8 b)) = List.drop (64 * (j + 1)) (List.map u8 b) := by
   rw [List.take_of_length_le (by rw [List.length_drop, List.length_map]; omega), show 64 * (j + 1) = 64 * j + 64 from by omega]
  refine ⟨⟨(j + 1, comp S ((b.drop (64 * j)).take 64)), by show 64 * (j + 1) ≤ b.length; omega, by rw [blk_succ, ← hS, pad_blk (by omega)]⟩, fits_fin (by omega) (by simp [FinOk, fin_at, finA_at, upd_at, HV.men, HV.menL, HV.norm, HV.toC, HV.toCL]; exact e1) (by simp [FobOk, fob_at, upd_at, none0_at, gone, HO.men, HV.men, HV.menL, HV.norm, HV.toC, HV.toCL]), ?_⟩
  show b.length - 64 * (j + 1) < b.length - 64 * j
  omega
 refine hw_exit ?_
 simp (maxSteps := 4000000) only [↓sP, sA, tyS, simprocAttr]
 clear hK K
 repeat refine AI ?_
 refine hK _ _ _ ?_
 clear hK K
 have hlt : b.length < 64 * j + 64 := by simp at hb; omega
 clear hb
 have hov : over ((uz 128).map u8) (((b.drop (64 * j)).map u8).take 128) 0 = ((b.drop (64 * j)) ++ (uz 128).drop (b.length - 64 * j)).map u8 := by rw [over_u8 (by omega), hdl]
 have h80 : CV.setAt (b.length - 64 * j) 1 (.c (.int .u8 128)) (.agg ((b.drop (64 * j) ++ (uz 128).drop (b.length - 64 * j)).map u8)) = some (.agg (((arrB b j 0).map u8).map .c)) := by rw [← arrB_zero hj hlt]; exact us_setb 128 (by simp [uz_len]; omega) (by simp [uz_len]; omega)
 have z80 : ((b.length - 64 * j : Nat) : Int) < 128 := by omega
 refine hw_seq fun K hK => hw_region (by kernel_rfl) ?_
 simp (maxSteps := 4000000) only [↓sP, sA, tyS, simprocAttr]
 repeat refine AI ?_
 refine hK _ _ _ ?_
 clear hK K
 refine hw_seq fun K hK => hw_region (by kernel_rfl) ?_
 simp only [sR, simprocAttr]
 iterate 3
  (refine hlex_step (g := none) rfl rfl fun K' hK' => ?_; simp only [sH, ↓sP, sA, tyS, simprocAttr, us, hdl, uz_len, cells_u8, hov]; (repeat refine AI ?_); refine hK' _ _ ?_; clear hK' K')
 simp only [sE, ↓reduceIte, simprocAttr]
 repeat refine AI ?_
 refine hK _ _ _ ?_
 clear hK K
 refine hw_seq fun K hK => hw_region (by kernel_rfl) ?_
 simp only [sR, simprocAttr]
 iterate 4
  (refine hlex_step (g := none) rfl rfl fun K' hK' => ?_; simp only [sH, ↓sP, sA, tyS, simprocAttr, hdl, z80, h80, toCL_c, Nat.mul_one, Int.natCast_nonneg]; (repeat refine AI ?_); refine hK' _ _ ?_; clear hK' K')
 simp only [sE, ↓reduceIte, simprocAttr]
 repeat refine AI ?_
 refine hK _ _ _ ?_
 clear hK K
 refine hw_seq fun K hK => hw_region (by kernel_rfl) ?_
 simp (maxSteps := 4000000) only [↓sP, sA, tyS, simprocAttr]
 repeat refine AI ?_
 refine hK _ _ _ ?_
 clear hK K
 refine hw_seq fun K hK => ?_
 have key : ∀ m : Nat, m = lastM b j → ∀ fr ob nx, Fits 0 fr ob (fin [(2, .ptr 0 0), (3, .ptr 8 0), (4, .c (.rp (ws K256))), (5, .c (.int .u64 ((8 * b.length : Nat) : Int))), (6, .ptr 112 0), (7, .c (.int .i64 m))]) (fob [(0, .box 44 (.c zd)), (8, .box 116 (.c (ws S.l))), (112, .box 123 (.c (us (arrB b j 0))))]) 200 → K fr ob nx := by
  rintro m rfl fr ob nx hf
  refine hK _ _ _ (hw_fits hf ?_)
  clear hf hK K
  refine hw_seq fun K hK => ?_
  refine hw_seq fun K hK => hw_region (by kernel_rfl) ?_
  simp (maxSteps := 4000000) only [↓sP, sA, tyS, simprocAttr]
  repeat refine AI ?_
  refine hK _ _ _ ?_
  clear hK K
  refine hw_block ?_
  refine hw_loop (α := {i : Nat // i ≤ 8}) (fun i => (fin [(2, .ptr 0 0), (3, .ptr 8 0), (4, .c (.rp (ws K256))), (5, .c (.int .u64 ((8 * b.length : Nat) : Int))), (6, .ptr 112 0), (7, .c (.int .i64 (lastM b j : Nat))), (35, .c (.int .i64 i.1))], fob [(0, .box 44 (.c zd)), (8, .box 116 (.c (ws S.l))), (112, .box 123 (.c (us (arrB b j i.1))))])) 200 (fun i => 8 - i.1) ⟨0, by omega⟩ (fits_fin (by omega) (by simp [FinOk, fin_at, finA_at, upd_at, HV.men, HV.menL, HV.norm, HV.toC, HV.toCL]) (by simp [FobOk, fob_at, upd_at, none0_at, gone, HO.men, HV.men, HV.menL, HV.norm, HV.toC, HV.toCL])) ?_
  rintro ⟨i, hi⟩
  have hlen := arrB_len hj hlt i
  have hm0 : lastM b j = 64 ∨ lastM b j = 128 := by unfold lastM; split <;> simp
  refine hw_seq fun K hK => hw_region (by kernel_rfl) ?_
  simp (maxSteps := 4000000) only [↓sP, sA, tyS, simprocAttr]
  repeat refine AI ?_
  refine hK _ _ _ ?_
  clear hK K
  refine hw_seq fun K hK => ?_
  refine hw_cond (b := decide ((i : Int) < 8)) rfl (fun hb => ?_) (fun hb => ?_)
  ·
   have hi8 : i < 8 := by simp at hb; omega
   have z : ((lastM b j - 1 - i : Nat) : Int) < 128 := by omega
   have q : lastM b j - 1 - i < 128 := by omega
   have m1 : IntKind.i64.wrap ((lastM b j : Int) - 1) = ((lastM b j - 1 : Nat) : Int) := by rw [IntWalk.i64_in _ (by omega)]; omega
   have m2 : IntKind.i64.wrap (((lastM b j - 1 : Nat) : Int) - (i : Int)) = ((lastM b j - 1 - i : Nat) : Int) := by rw [IntWalk.i64_in _ (by omega)]; omega
   have m3 : IntKind.i64.wrap (8 * (i : Int)) = ((8 * i : Nat) : Int) := by rw [IntWalk.i64_in _ (by omega)]; omega
   have m4 := byte_shr (8 * b.length) i (by omega)
   refine hw_skip ?_
   simp (maxSteps := 4000000) only [↓sP, sA, tyS, simprocAttr]
   repeat refine AI ?_
   refine hK _ _ _ ?_
   clear hK K
   refine hw_seq fun K hK => ?_
   refine hw_block ?_
   refine hw_seq fun K hK => hw_region (by kernel_rfl) ?_
   simp (maxSteps := 4000000) only [↓sP, sA, tyS, simprocAttr]
   repeat refine AI ?_
   refine hK _ _ _ ?_
   clear hK K
   refine hw_region (by kernel_rfl) ?_
   simp only [sR, simprocAttr]
   iterate 11
    (refine hlex_step (g := none) rfl rfl fun K' hK' => ?_; simp only [sH, ↓sP, sA, tyS, simprocAttr, m1, m2, m3, m4, z, q, hlen, Int.natCast_nonneg, Nat.mul_one, us_setb, toCL_c]; (repeat refine AI ?_); refine hK' _ _ ?_; clear hK' K')
   simp only [sE, ↓reduceIte, simprocAttr]
   repeat refine AI ?_
   refine hK _ _ _ ?_
   clear hK K
   refine hw_region (by kernel_rfl) ?_
   simp (maxSteps := 4000000) only [↓sP, sA, tyS, simprocAttr, IntWalk.i64_in _ (show -9223372036854775808 ≤ (i : Int) + 1 ∧ (i : Int) + 1 ≤ 9223372036854775807 by omega)]
   refine ⟨⟨i + 1, hi8⟩, fits_fin (by omega) (by simp [FinOk, fin_at, finA_at, upd_at, HV.men, HV.menL, HV.norm, HV.toC, HV.toCL]) (by simp [FobOk, fob_at, upd_at, none0_at, HO.men, HV.men, HV.menL, HV.norm, HV.toC, HV.toCL]; rw [arrB_step hj hlt hi8]), ?_⟩
   show 8 - (i + 1) < 8 - i
   omega
  refine hw_exit ?_
  simp (maxSteps := 4000000) only [↓sP, sA, tyS, simprocAttr]
  clear hK K
  repeat refine AI ?_
  refine hK _ _ _ ?_
  clear hK K
  refine hw_seq fun K hK => ?_
  refine hw_seq fun K hK => hw_region (by kernel_rfl) ?_
  simp (maxSteps := 4000000) only [↓sP, sA, tyS, simprocAttr]
  repeat refine AI ?_
  refine hK _ _ _ ?_
  clear hK K
  refine hw_block ?_
  have hei : i = 8 := by simp at hb; omega
  subst hei
  clear hb
  refine hw_freeze 6 112 rfl rfl ?_
  refine hw_loop (α := {x : Nat × St // 64 * x.1 ≤ lastM b j ∧ x.2 = blk (pad b) (j + x.1) St0}) (fun x => (fin [(2, .ptr 0 0), (3, .ptr 8 0), (4, .c (.rp (ws K256))), (6, .c (.rp (us (arrB b j 8)))), (7, .c (.int .i64 (lastM b j : Nat))), (9, .c (.int .i64 ((64 * x.1.1 : Nat) : Int)))], fob [(0, .box 44 (.c zd)), (8, .box 116 (.c (ws x.1.2.l)))])) 300 (fun x => lastM b j - 64 * x.1.1) ⟨(0, S), by omega, hS⟩ (fits_fin (by omega) (by simp [FinOk, fin_at, finA_at, upd_at, HV.men, HV.menL, HV.norm, HV.toC, HV.toCL]) (by simp [FobOk, fob_at, upd_at, none0_at, gone, HO.men, HV.men, HV.menL, HV.norm, HV.toC, HV.toCL])) ?_
  clear hS
  rintro ⟨⟨q, S⟩, hq, hS⟩
  replace hq : 64 * q ≤ lastM b j := hq
  replace hS : S = blk (pad b) (j + q) St0 := hS
  refine hw_seq fun K hK => ?_
  refine hw_seq fun K hK => hw_region (by kernel_rfl) ?_
  simp (maxSteps := 4000000) only [↓sP, sA, tyS, simprocAttr]
  repeat refine AI ?_
  refine hK _ _ _ ?_
  clear hK K
  refine hw_cond (b := decide (((64 * q : Nat) : Int) < (lastM b j : Int))) rfl (fun hb => ?_) (fun hb => ?_)
  ·
   have hlt2 : 64 * (q + 1) ≤ lastM b j := by simp at hb; omega
   have m1 : IntKind.i64.wrap (((64 * q : Nat) : Int) + 64) = ((64 * q + 64 : Nat) : Int) := by rw [IntWalk.i64_in _ (by omega)]; omega
   have z1 : ((64 * q : Nat) : Int) ≤ ((64 * q + 64 : Nat) : Int) := by omega
   have z2 : ((64 * q + 64 : Nat) : Int) ≤ 128 := by omega
   have hp : (((arrB b j 8).drop (64 * q)).take 64).length = 64 := by rw [List.length_take, List.length_drop, hlen]; omega
   refine hw_skip ?_
   simp (maxSteps := 4000000) only [↓sP, sA, tyS, simprocAttr]
   repeat refine AI ?_
   refine hK _ _ _ ?_
   clear hK K
   refine hw_seq fun K hK => ?_
   refine hw_block ?_
   refine hw_region (by kernel_rfl) ?_
   simp only [sR, simprocAttr]
   iterate 4
    (refine hlex_step (g := none) rfl rfl fun K' hK' => ?_; simp only [sH, ↓sP, sA, tyS, simprocAttr, us, m1, z1, z2, hlen, cells_u8, Nat.add_sub_cancel_left, ← List.map_drop, ← List.map_take, denilL_u8, ws_denil, Int.natCast_nonneg]; (repeat refine AI ?_); refine hK' _ _ ?_; clear hK' K')
   refine hlex_step (g := none) rfl rfl fun K' hK' => ?_
   simp (maxSteps := 4000000) only [sH, ↓sP, sA, tyS, simprocAttr, us, m1, z1, z2, hlen, cells_u8, Nat.add_sub_cancel_left, ← List.map_drop, ← List.map_take, denilL_u8, ws_denil, Int.natCast_nonneg]
   refine call_box0 (args := [_, _]) (absorb_ok S (((arrB b j 8).drop (64 * q)).take 64) hp) rfl (by simp) ⟨rfl, rfl, rfl, rfl⟩ ?_
   rintro v' rfl
   repeat refine AI ?_
   refine hK' _ _ ?_
   clear hK' K'
   simp only [sE, ↓reduceIte, simprocAttr]
   repeat refine AI ?_
   refine hK _ _ _ ?_
   clear hK K
   refine hw_region (by kernel_rfl) ?_
   simp (maxSteps := 4000000) only [↓sP, sA, tyS, simprocAttr, m1]
   refine ⟨⟨(q + 1, comp S (((arrB b j 8).drop (64 * q)).take 64)), hlt2, by rw [arrB_blk hj hlt hlt2, hS]; rfl⟩, fits_fin (by omega) (by simp [FinOk, fin_at, finA_at, upd_at, HV.men, HV.menL, HV.norm, HV.toC, HV.toCL]; omega) (by simp [FobOk, fob_at, upd_at, none0_at, gone, HO.men, HV.men, HV.menL, HV.norm, HV.toC, HV.toCL]), ?_⟩
   show lastM b j - 64 * (q + 1) < lastM b j - 64 * q
   omega
  refine hw_exit ?_
  simp (maxSteps := 4000000) only [↓sP, sA, tyS, simprocAttr]
  clear hK K
  repeat refine AI ?_
  refine hK _ _ _ ?_
  clear hK K
  refine hw_seq fun K hK => hw_region (by kernel_rfl) ?_
  simp (maxSteps := 4000000) only [↓sP, sA, tyS, simprocAttr]
  repeat refine AI ?_
  refine hK _ _ _ ?_
  clear hK K
  refine hw_seq fun K hK => ?_
  refine hw_seq fun K hK => hw_region (by kernel_rfl) ?_
  simp (maxSteps := 4000000) only [↓sP, sA, tyS, simprocAttr]
  repeat refine AI ?_
  refine hK _ _ _ ?_
  clear hK K
  refine hw_block ?_
  have heq : 64 * q = lastM b j := by simp at hb; omega
  clear hb
  refine hw_loop (α := {i : Nat // i ≤ 32}) (fun i => (fin [(2, .ptr 0 0), (3, .ptr 8 0), (10, .ptr 312 0), (59, .c (.int .i64 i.1))], fob [(0, .box 44 (.c zd)), (8, .box 116 (.c (ws S.l))), (312, .box 44 (.c (us (outL S i.1))))])) 400 (fun i => 32 - i.1) ⟨0, by omega⟩ (fits_fin (by omega) (by simp [FinOk, fin_at, finA_at, upd_at, HV.men, HV.menL, HV.norm, HV.toC, HV.toCL]) (by simp [FobOk, fob_at, upd_at, none0_at, gone, HO.men, HV.men, HV.menL, HV.norm, HV.toC, HV.toCL]; rfl)) ?_
  rintro ⟨i, hi⟩
  have hol := outL_len S i
  refine hw_seq fun K hK => hw_region (by kernel_rfl) ?_
  simp (maxSteps := 4000000) only [↓sP, sA, tyS, simprocAttr]
  repeat refine AI ?_
  refine hK _ _ _ ?_
  clear hK K
  refine hw_seq fun K hK => ?_
  refine hw_cond (b := decide ((i : Int) < 32)) rfl (fun hb => ?_) (fun hb => ?_)
  ·
   have hi32 : i < 32 := by simp at hb; omega
   have m1 : IntKind.i64.wrap ((i : Int).tdiv 4) = ((i / 4 : Nat) : Int) := by
    rw [show (i : Int).tdiv 4 = ((i / 4 : Nat) : Int) from rfl]; exact IntWalk.i64_in _ (by omega)
   have m2 : (i : Int).tmod 4 = ((i % 4 : Nat) : Int) := rfl
   have m3 : IntKind.i64.wrap (8 * ((i % 4 : Nat) : Int)) = ((8 * (i % 4) : Nat) : Int) := by rw [IntWalk.i64_in _ (by omega)]; omega
   have m4 : IntKind.i64.wrap (24 - ((8 * (i % 4) : Nat) : Int)) = ((24 - 8 * (i % 4) : Nat) : Int) := by rw [IntWalk.i64_in _ (by omega)]; omega
   have q1 : i / 4 < 8 := by omega
   have z1 : ((i / 4 : Nat) : Int) < 8 := by omega
   have z2 : (i : Int) < 32 := by omega
   have q2 : 24 - 8 * (i % 4) ≤ 32 := by omega
   refine hw_skip ?_
   simp (maxSteps := 4000000) only [↓sP, sA, tyS, simprocAttr]
   repeat refine AI ?_
   refine hK _ _ _ ?_
   clear hK K
   refine hw_seq fun K hK => ?_
   refine hw_block ?_
   refine hw_seq fun K hK => hw_region (by kernel_rfl) ?_
   simp (maxSteps := 4000000) only [↓sP, sA, tyS, simprocAttr]
   repeat refine AI ?_
   refine hK _ _ _ ?_
   clear hK K
   refine hw_region (by kernel_rfl) ?_
   simp only [sR, simprocAttr]
   iterate 13
    (refine hlex_step (g := none) rfl rfl fun K' hK' => ?_; simp only [sH, ↓sP, sA, tyS, simprocAttr, m1, m2, m3, m4, q1, z1, z2, q2, hi32, hol, St_len, ws_gw, Int.natCast_nonneg, Nat.mul_one, w_shr, byte_w, us_setb, toCL_c]; (repeat refine AI ?_); refine hK' _ _ ?_; clear hK' K')
   simp only [sE, ↓reduceIte, simprocAttr]
   repeat refine AI ?_
   refine hK _ _ _ ?_
   clear hK K
   refine hw_region (by kernel_rfl) ?_
   simp (maxSteps := 4000000) only [↓sP, sA, tyS, simprocAttr, IntWalk.i64_in _ (show -9223372036854775808 ≤ (i : Int) + 1 ∧ (i : Int) + 1 ≤ 9223372036854775807 by omega)]
   refine ⟨⟨i + 1, hi32⟩, fits_fin (by omega) (by simp [FinOk, fin_at, finA_at, upd_at, HV.men, HV.menL, HV.norm, HV.toC, HV.toCL]) (by simp [FobOk, fob_at, upd_at, none0_at, gone, HO.men, HV.men, HV.menL, HV.norm, HV.toC, HV.toCL]; rfl), ?_⟩
   show 32 - (i + 1) < 32 - i
   omega
  refine hw_exit ?_
  simp (maxSteps := 4000000) only [↓sP, sA, tyS, simprocAttr]
  clear hK K
  repeat refine AI ?_
  refine hK _ _ _ ?_
  clear hK K
  have hei : i = 32 := by simp at hb; omega
  subst hei
  clear hb
  refine hw_seq fun K hK => hw_region (by kernel_rfl) ?_
  simp (maxSteps := 4000000) only [↓sP, sA, tyS, simprocAttr, us_all, hol]
  repeat refine AI ?_
  refine hK _ _ _ ?_
  clear hK K
  refine hw_ret ?_
  simp (maxSteps := 4000000) only [hpost, Tryz.results59, hresL, hres1, tupOf, ↓sP, sA, tyS, simprocAttr]
  simp only [us_all hol, Option.map_some]
  refine hret_pure [] (us (outL S 32)) (close_c (us_denil _)) ?_
  have e9 : j + q = (pad b).length / 64 := by rw [pad_blocks hj hlt]; omega
  rw [outL_all, hS, ← sha_out, e9]
 refine hw_seq fun K hK => hw_region (by kernel_rfl) ?_
 simp only [sR, simprocAttr]
 iterate 3
  (refine hlex_step (g := none) rfl rfl fun K' hK' => ?_; simp only [sH, ↓sP, sA, tyS, simprocAttr, hdl]; (repeat refine AI ?_); refine hK' _ _ ?_; clear hK' K')
 simp only [sE, ↓reduceIte, simprocAttr]
 repeat refine AI ?_
 refine hK _ _ _ ?_
 clear hK K
 refine hw_cond (b := decide ((56 : Int) ≤ ((b.length - 64 * j : Nat) : Int))) rfl (fun hb => ?_) (fun hb => ?_)
 ·
  refine hw_region (by kernel_rfl) ?_
  simp (maxSteps := 4000000) only [↓sP, sA, tyS, simprocAttr]
  exact key 128 (by unfold lastM; rw [if_neg (by simp at hb; omega)]) _ _ _ (fits_fin (by omega) (by simp [FinOk, fin_at, finA_at, upd_at, HV.men, HV.menL, HV.norm, HV.toC, HV.toCL]) (by simp [FobOk, fob_at, upd_at, none0_at, gone, HO.men, HV.men, HV.menL, HV.norm, HV.toC, HV.toCL]))
 refine hw_skip ?_
 simp (maxSteps := 4000000) only [↓sP, sA, tyS, simprocAttr]
 exact key 64 (by unfold lastM; rw [if_pos (by simp at hb; omega)]) _ _ _ (fits_fin (by omega) (by simp [FinOk, fin_at, finA_at, upd_at, HV.men, HV.menL, HV.norm, HV.toC, HV.toCL]) (by simp [FobOk, fob_at, upd_at, none0_at, gone, HO.men, HV.men, HV.menL, HV.norm, HV.toC, HV.toCL]))

end Go.Proofs.YtenbfeemmpjdhaaGreat

namespace Go.Proofs.YtenbfeemmpjdhaaGreat
open Go Go.Hl Go.Pl
set_option maxRecDepth 10000
set_option maxHeartbeats 4000000
set_option linter.unusedSimpArgs false
set_option linter.unusedVariables false

theorem rsum_ok (b : List UInt8) (hb40 : b.length < 2 ^ 40) : HPure Tryz.prog 72 [.slc (b.map u8)] (fun v => v = dg (sha b)) := by
 have c0 : IntKind.u64.wrap (b.length : Int) = (b.length : Int) := IntWalk.u64_in _ (by omega)
 have c1 : IntKind.u64.wrap ((b.length : Int) * 8) = ((8 * b.length : Nat) : Int) := by rw [IntWalk.u64_in _ (by omega)]; omega
 refine hfn_walk Tryz.func72 rfl (by kernel_rfl) (locOk_nil _) (Nat.le_of_ble_eq_true rfl) ?_
 refine hw_seq fun K hK => hw_region (by kernel_rfl) ?_
 simp (maxSteps := 4000000) only [↓sP, sA, tyS, simprocAttr]
 repeat refine AI ?_
 refine hK _ _ _ ?_
 clear hK K
 refine hw_seq fun K hK => hw_region (by kernel_rfl) ?_
 simp only [sR, simprocAttr]
 iterate 6
  (refine hlex_step (g := none) rfl rfl fun K' hK' => ?_; simp only [sH, ↓sP, sA, tyS, simprocAttr, cells_u8, List.length_append]; (repeat refine AI ?_); refine hK' _ _ ?_; clear hK' K')
 simp only [sE, ↓reduceIte, simprocAttr]
 repeat refine AI ?_
 refine hK _ _ _ ?_
 clear hK K
 refine hw_seq fun K hK => ?_
 refine hw_block ?_
 refine hw_loop (α := {z : Nat // z ≤ zs b.length}) (fun z => (fin [(0, .c (.slc (b.map u8))), (2, .ptr 0 0), (3, .own 4 (b.length + 1 + z.1))], fob [(0, .box 44 (.c zd)), (4, .row 5 1 ((b ++ [0x80] ++ List.replicate z.1 0).map u8))])) 100 (fun z => zs b.length - z.1) ⟨0, by omega⟩ (fits_fin (by omega) (by simp [FinOk, fin_at, finA_at, upd_at, HV.men, HV.menL, HV.norm, HV.toC, HV.toCL]) (by simp [FobOk, fob_at, upd_at, none0_at, gone, HO.men, HV.men, HV.menL, HV.norm, HV.toC, HV.toCL]; rfl)) ?_
 rintro ⟨z, hz⟩
 have hzb : zs b.length < 64 := by unfold zs; omega
 have hzm : (b.length + 1 + zs b.length) % 64 = 56 := by unfold zs; omega
 have hrl : ((b ++ [0x80] ++ List.replicate z 0).map u8).length = b.length + 1 + z := by simp; omega
 have m1 : (((b.length + 1 + z : Nat) : Int)).tmod 64 = (((b.length + 1 + z) % 64 : Nat) : Int) := rfl
 refine hw_seq fun K hK => ?_
 refine hw_seq fun K hK => hw_region (by kernel_rfl) ?_
 simp only [sR, simprocAttr]
 iterate 4
  (refine hlex_step (g := none) rfl rfl fun K' hK' => ?_; simp only [sH, ↓sP, sA, tyS, simprocAttr, hrl, m1]; (repeat refine AI ?_); refine hK' _ _ ?_; clear hK' K')
 simp only [sE, ↓reduceIte, simprocAttr]
 repeat refine AI ?_
 refine hK _ _ _ ?_
 clear hK K
 refine hw_cond (b := ((((b.length + 1 + z) % 64 : Nat) : Int) != 56)) rfl (fun hb => ?_) (fun hb => ?_)
 ·
  have hne : (b.length + 1 + z) % 64 ≠ 56 := by simp at hb; omega
  have hlt : z < zs b.length := by rcases Nat.lt_or_ge z (zs b.length) with h | h; exact h; exact absurd (by rw [show z = zs b.length by omega]; exact hzm) hne
  refine hw_skip ?_
  simp (maxSteps := 4000000) only [↓sP, sA, tyS, simprocAttr]
  repeat refine AI ?_
  refine hK _ _ _ ?_
  clear hK K
  refine hw_block ?_
  refine hw_region (by kernel_rfl) ?_
  simp only [sR, simprocAttr]
  iterate 4
   (refine hlex_step (g := none) rfl rfl fun K' hK' => ?_; simp only [sH, ↓sP, sA, tyS, simprocAttr, hrl, cells_u8]; (repeat refine AI ?_); refine hK' _ _ ?_; clear hK' K')
  simp only [sE, ↓reduceIte, simprocAttr]
  refine ⟨⟨z + 1, hlt⟩, fits_fin (by omega) (by simp [FinOk, fin_at, finA_at, upd_at, HV.men, HV.menL, HV.norm, HV.toC, HV.toCL]; omega) (by simp [FobOk, fob_at, upd_at, none0_at, gone, HO.men, HV.men, HV.menL, HV.norm, HV.toC, HV.toCL, List.replicate_succ']; rfl), ?_⟩
  show zs b.length - (z + 1) < zs b.length - z
  omega
 refine hw_exit ?_
 simp (maxSteps := 4000000) only [↓sP, sA, tyS, simprocAttr]
 clear hK K
 repeat refine AI ?_
 refine hK _ _ _ ?_
 clear hK K
 refine hw_seq fun K hK => hw_region (by kernel_rfl) ?_
 simp only [sR, simprocAttr]
 iterate 5
  (refine hlex_step (g := none) rfl rfl fun K' hK' => ?_; simp only [sH, ↓sP, sA, tyS, simprocAttr, c0, c1]; (repeat refine AI ?_); refine hK' _ _ ?_; clear hK' K')
 simp only [sE, ↓reduceIte, simprocAttr]
 repeat refine AI ?_
 refine hK _ _ _ ?_
 clear hK K
 refine hw_seq fun K hK => ?_
 refine hw_seq fun K hK => hw_region (by kernel_rfl) ?_
 simp (maxSteps := 4000000) only [↓sP, sA, tyS, simprocAttr]
 repeat refine AI ?_
 refine hK _ _ _ ?_
 clear hK K
 refine hw_block ?_
 have hez : z = zs b.length := by simp at hb; unfold zs at *; omega
 subst hez
 clear hb
 refine hw_loop (α := {i : Nat // i ≤ 8}) (fun i => (fin [(2, .ptr 0 0), (3, .own 4 (b.length + 1 + zs b.length + i.1)), (4, .c (.int .u64 ((8 * b.length : Nat) : Int))), (5, .c (.int .i64 (7 - (i.1 : Int))))], fob [(0, .box 44 (.c zd)), (4, .row 5 1 ((b ++ [0x80] ++ List.replicate (zs b.length) 0 ++ (len8 b.length).take i.1).map u8))])) 200 (fun i => 8 - i.1) ⟨0, by omega⟩ (fits_fin (by omega) (by simp [FinOk, fin_at, finA_at, upd_at, HV.men, HV.menL, HV.norm, HV.toC, HV.toCL]) (by simp [FobOk, fob_at, upd_at, none0_at, gone, HO.men, HV.men, HV.menL, HV.norm, HV.toC, HV.toCL])) ?_
 rintro ⟨i, hi⟩
 have hrl : ((b ++ [0x80] ++ List.replicate (zs b.length) 0 ++ (len8 b.length).take i).map u8).length = b.length + 1 + zs b.length + i := by simp [len8_len]; omega
 refine hw_seq fun K hK => ?_
 refine hw_seq fun K hK => hw_region (by kernel_rfl) ?_
 simp (maxSteps := 4000000) only [↓sP, sA, tyS, simprocAttr]
 repeat refine AI ?_
 refine hK _ _ _ ?_
 clear hK K
 refine hw_cond (b := decide (0 ≤ 7 - (i : Int))) rfl (fun hb => ?_) (fun hb => ?_)
 ·
  have hi8 : i < 8 := by simp at hb; omega
  have m1 : IntKind.i64.wrap (8 * (7 - (i : Int))) = ((8 * (7 - i) : Nat) : Int) := by rw [IntWalk.i64_in _ (by omega)]; omega
  have m2 : IntKind.u64.wrap ((8 * (7 - i) : Nat) : Int) = ((8 * (7 - i) : Nat) : Int) := IntWalk.u64_in _ (by omega)
  have m3 := byte_shr (8 * b.length) (7 - i) (by omega)
  have m4 : IntKind.i64.wrap (7 - (i : Int) - 1) = 7 - ((i + 1 : Nat) : Int) := by rw [IntWalk.i64_in _ (by omega)]; omega
  refine hw_skip ?_
  simp (maxSteps := 4000000) only [↓sP, sA, tyS, simprocAttr]
  repeat refine AI ?_
  refine hK _ _ _ ?_
  clear hK K
  refine hw_seq fun K hK => ?_
  refine hw_block ?_
  refine hw_region (by kernel_rfl) ?_
  simp only [sR, simprocAttr]
  iterate 10
   (refine hlex_step (g := none) rfl rfl fun K' hK' => ?_; simp only [sH, ↓sP, sA, tyS, simprocAttr, hrl, m1, m2, m3, cells_u8, Int.natCast_nonneg]; (repeat refine AI ?_); refine hK' _ _ ?_; clear hK' K')
  simp only [sE, ↓reduceIte, simprocAttr]
  repeat refine AI ?_
  refine hK _ _ _ ?_
  clear hK K
  refine hw_region (by kernel_rfl) ?_
  simp (maxSteps := 4000000) only [↓sP, sA, tyS, simprocAttr, m4]
  refine ⟨⟨i + 1, hi8⟩, fits_fin (by omega) (by simp [FinOk, fin_at, finA_at, upd_at, HV.men, HV.menL, HV.norm, HV.toC, HV.toCL, len8_len]; omega) (by simp [FobOk, fob_at, upd_at, none0_at, gone, HO.men, HV.men, HV.menL, HV.norm, HV.toC, HV.toCL, len8_take hi8]; rfl), ?_⟩
  show 8 - (i + 1) < 8 - i
  omega
 refine hw_exit ?_
 simp (maxSteps := 4000000) only [↓sP, sA, tyS, simprocAttr]
 clear hK K
 repeat refine AI ?_
 refine hK _ _ _ ?_
 clear hK K
 have hei : i = 8 := by simp at hb; omega
 subst hei
 clear hb
 rw [padded]
 have hpq : b.length + 1 + zs b.length + 8 = (pad b).length := (pad_len b).symm
 refine hw_close [4] (hw_fits (fr2 := fin [(2, .ptr 0 0), (3, .c (.slc ((pad b).map u8)))]) (ob2 := fob [(0, .box 44 (.c zd))]) (nx2 := 300) (fits_fin (by omega) (by simp [FinOk, clF_at, fin_at, upd_at, fob_at, HV.close, HV.norm, HV.toC, HV.men, denilL_u8, hpq]) (by simp [FobOk, clO_at, fob_at, upd_at, HO.close, HV.close, HO.men, HV.men, HV.norm, HV.toC, zd_denil])) ?_)
 refine hw_seq fun K hK => hw_region (by kernel_rfl) ?_
 simp only [sR, simprocAttr]
 refine hlex_step (g := none) rfl rfl fun K' hK' => ?_
 simp (maxSteps := 4000000) only [sH, ↓sP, sA, tyS, simprocAttr, ws_setAll, wz_len, St_len]
 rw [hbuild_ws (n := 8) St0.l rfl rfl]
 repeat refine AI ?_
 refine hK' _ _ ?_
 clear hK' K'
 iterate 2
  (refine hlex_step (g := none) rfl rfl fun K' hK' => ?_; simp only [sH, ↓sP, sA, tyS, simprocAttr, ws_setAll, wz_len, St_len]; (repeat refine AI ?_); refine hK' _ _ ?_; clear hK' K')
 simp only [sE, ↓reduceIte, simprocAttr]
 repeat refine AI ?_
 refine hK _ _ _ ?_
 clear hK K
 refine hw_seq fun K hK => ?_
 refine hw_seq fun K hK => hw_region (by kernel_rfl) ?_
 simp (maxSteps := 4000000) only [↓sP, sA, tyS, simprocAttr]
 repeat refine AI ?_
 refine hK _ _ _ ?_
 clear hK K
 refine hw_block ?_
 refine hw_loop (α := {x : Nat × St // 64 * x.1 ≤ (pad b).length ∧ x.2 = blk (pad b) x.1 St0}) (fun x => (fin [(2, .ptr 0 0), (3, .c (.slc ((pad b).map u8))), (6, .ptr 304 0), (7, .c (.int .i64 ((64 * x.1.1 : Nat) : Int)))], fob [(0, .box 44 (.c zd)), (304, .box 116 (.c (ws x.1.2.l)))])) 400 (fun x => (pad b).length - 64 * x.1.1) ⟨(0, St0), by omega, rfl⟩ (fits_fin (by omega) (by simp [FinOk, fin_at, finA_at, upd_at, HV.men, HV.menL, HV.norm, HV.toC, HV.toCL]) (by simp [FobOk, fob_at, upd_at, none0_at, gone, HO.men, HV.men, HV.menL, HV.norm, HV.toC, HV.toCL])) ?_
 rintro ⟨⟨q, S⟩, hq, hS⟩
 replace hq : 64 * q ≤ (pad b).length := hq
 replace hS : S = blk (pad b) q St0 := hS
 have hpm := pad_mod b
 have hpl := pad_len b
 have hzb : zs b.length < 64 := by unfold zs; omega
 refine hw_seq fun K hK => ?_
 refine hw_seq fun K hK => hw_region (by kernel_rfl) ?_
 simp only [sR, simprocAttr]
 iterate 4
  (refine hlex_step (g := none) rfl rfl fun K' hK' => ?_; simp only [sH, ↓sP, sA, tyS, simprocAttr]; (repeat refine AI ?_); refine hK' _ _ ?_; clear hK' K')
 simp only [sE, ↓reduceIte, simprocAttr]
 repeat refine AI ?_
 refine hK _ _ _ ?_
 clear hK K
 refine hw_cond (b := decide (((64 * q : Nat) : Int) < ((pad b).length : Int))) rfl (fun hb => ?_) (fun hb => ?_)
 ·
  have hlt : 64 * (q + 1) ≤ (pad b).length := by simp at hb; omega
  have m1 : IntKind.i64.wrap (((64 * q : Nat) : Int) + 64) = ((64 * q + 64 : Nat) : Int) := by rw [IntWalk.i64_in _ (by omega)]; omega
  have z1 : ((64 * q : Nat) : Int) ≤ ((64 * q + 64 : Nat) : Int) := by omega
  have z2 : ((64 * q + 64 : Nat) : Int) ≤ ((pad b).length : Int) := by omega
  have hp : (((pad b).drop (64 * q)).take 64).length = 64 := by rw [List.length_take, List.length_drop]; omega
  refine hw_skip ?_
  simp (maxSteps := 4000000) only [↓sP, sA, tyS, simprocAttr]
  repeat refine AI ?_
  refine hK _ _ _ ?_
  clear hK K
  refine hw_seq fun K hK => ?_
  refine hw_block ?_
  refine hw_draw2 mixed [(0, [], []), (1, [], []), (2, [], []), (3, [], []), (4, [], []), (5, [], []), (6, [], []), (7, [], [])] [0, 0, 0, 0, 8, 30, 63, 127] (by kernel_rfl) (by kernel_rfl) (by kernel_rfl) (by kernel_rfl) rfl (by kernel_rfl) ?_
  iterate 6
   (refine hwalk2_step (g := none) rfl rfl fun K' hK' => ?_; simp only [sH, ↓sP, sA, tyS, simprocAttr, m1, z1, z2, cells_u8, Nat.add_sub_cancel_left, ← List.map_drop, ← List.map_take, denilL_u8, ws_denil, Int.natCast_nonneg, ws_all, St_len, ws_setAll]; (repeat refine AI ?_); refine hK' _ _ ?_; clear hK' K')
  refine hwalk2_step (g := none) rfl rfl fun K' hK' => ?_
  simp (maxSteps := 4000000) only [sH, ↓sP, sA, tyS, simprocAttr, m1, z1, z2, cells_u8, Nat.add_sub_cancel_left, ← List.map_drop, ← List.map_take, denilL_u8, ws_denil, Int.natCast_nonneg, ws_all, St_len, ws_setAll]
  refine call_pure (args := [_, _]) (block_ok S (((pad b).drop (64 * q)).take 64) hp) ⟨rfl, rfl, rfl, rfl⟩ ?_
  rintro u rfl
  repeat refine AI ?_
  refine hK' _ _ ?_
  clear hK' K'
  refine hwalk2_step (g := none) rfl rfl fun K' hK' => ?_
  simp (maxSteps := 4000000) only [sH, ↓sP, sA, tyS, simprocAttr, m1, z1, z2, cells_u8, Nat.add_sub_cancel_left, ← List.map_drop, ← List.map_take, denilL_u8, ws_denil, Int.natCast_nonneg, ws_all, St_len, ws_setAll]
  repeat refine AI ?_
  refine hK' _ _ ?_
  clear hK' K'
  simp only [sE, ↓reduceIte, simprocAttr]
  repeat refine AI ?_
  refine hK _ _ _ ?_
  clear hK K
  refine hw_region (by kernel_rfl) ?_
  simp (maxSteps := 4000000) only [↓sP, sA, tyS, simprocAttr, m1]
  refine ⟨⟨(q + 1, comp S (((pad b).drop (64 * q)).take 64)), hlt, by rw [hS]; rfl⟩, fits_fin (by omega) (by simp [FinOk, fin_at, finA_at, upd_at, HV.men, HV.menL, HV.norm, HV.toC, HV.toCL]; omega) (by simp [FobOk, fob_at, upd_at, none0_at, gone, HO.men, HV.men, HV.menL, HV.norm, HV.toC, HV.toCL]), ?_⟩
  show (pad b).length - 64 * (q + 1) < (pad b).length - 64 * q
  omega
 refine hw_exit ?_
 simp (maxSteps := 4000000) only [↓sP, sA, tyS, simprocAttr]
 clear hK K
 repeat refine AI ?_
 refine hK _ _ _ ?_
 clear hK K
 refine hw_seq fun K hK => hw_region (by kernel_rfl) ?_
 simp (maxSteps := 4000000) only [↓sP, sA, tyS, simprocAttr]
 repeat refine AI ?_
 refine hK _ _ _ ?_
 clear hK K
 refine hw_seq fun K hK => ?_
 refine hw_seq fun K hK => hw_region (by kernel_rfl) ?_
 simp (maxSteps := 4000000) only [↓sP, sA, tyS, simprocAttr]
 repeat refine AI ?_
 refine hK _ _ _ ?_
 clear hK K
 refine hw_block ?_
 have heq : 64 * q = (pad b).length := by simp at hb; omega
 clear hb
 refine hw_loop (α := {i : Nat // i ≤ 32}) (fun i => (fin [(2, .ptr 0 0), (6, .ptr 304 0), (8, .ptr 416 0), (9, .c (.int .i64 i.1))], fob [(0, .box 44 (.c zd)), (304, .box 116 (.c (ws S.l))), (416, .box 44 (.c (us (outL S i.1))))])) 500 (fun i => 32 - i.1) ⟨0, by omega⟩ (fits_fin (by omega) (by simp [FinOk, fin_at, finA_at, upd_at, HV.men, HV.menL, HV.norm, HV.toC, HV.toCL]) (by simp [FobOk, fob_at, upd_at, none0_at, gone, HO.men, HV.men, HV.menL, HV.norm, HV.toC, HV.toCL]; rfl)) ?_
 rintro ⟨i, hi⟩
 have hol := outL_len S i
 refine hw_seq fun K hK => ?_
 refine hw_seq fun K hK => hw_region (by kernel_rfl) ?_
 simp (maxSteps := 4000000) only [↓sP, sA, tyS, simprocAttr]
 repeat refine AI ?_
 refine hK _ _ _ ?_
 clear hK K
 refine hw_cond (b := decide ((i : Int) < 32)) rfl (fun hb => ?_) (fun hb => ?_)
 ·
  have hi32 : i < 32 := by simp at hb; omega
  have m1 : IntKind.i64.wrap ((i : Int).tdiv 4) = ((i / 4 : Nat) : Int) := by
   rw [show (i : Int).tdiv 4 = ((i / 4 : Nat) : Int) from rfl]; exact IntWalk.i64_in _ (by omega)
  have m2 : (i : Int).tmod 4 = ((i % 4 : Nat) : Int) := rfl
  have m3 : IntKind.i64.wrap (8 * ((i % 4 : Nat) : Int)) = ((8 * (i % 4) : Nat) : Int) := by rw [IntWalk.i64_in _ (by omega)]; omega
  have m4 : IntKind.i64.wrap (24 - ((8 * (i % 4) : Nat) : Int)) = ((24 - 8 * (i % 4) : Nat) : Int) := by rw [IntWalk.i64_in _ (by omega)]; omega
  have m5 : IntKind.u64.wrap ((24 - 8 * (i % 4) : Nat) : Int) = ((24 - 8 * (i % 4) : Nat) : Int) := IntWalk.u64_in _ (by omega)
  have q1 : i / 4 < 8 := by omega
  have z1 : ((i / 4 : Nat) : Int) < 8 := by omega
  have z2 : (i : Int) < 32 := by omega
  have q2 : 24 - 8 * (i % 4) ≤ 32 := by omega
  refine hw_skip ?_
  simp (maxSteps := 4000000) only [↓sP, sA, tyS, simprocAttr]
  repeat refine AI ?_
  refine hK _ _ _ ?_
  clear hK K
  refine hw_seq fun K hK => ?_
  refine hw_block ?_
  refine hw_region (by kernel_rfl) ?_
  simp only [sR, simprocAttr]
  iterate 14
   (refine hlex_step (g := none) rfl rfl fun K' hK' => ?_; simp only [sH, ↓sP, sA, tyS, simprocAttr, m1, m2, m3, m4, m5, q1, z1, z2, q2, hi32, hol, St_len, ws_gw, Int.natCast_nonneg, Nat.mul_one, w_shr, byte_w, us_setb, toCL_c]; (repeat refine AI ?_); refine hK' _ _ ?_; clear hK' K')
  simp only [sE, ↓reduceIte, simprocAttr]
  repeat refine AI ?_
  refine hK _ _ _ ?_
  clear hK K
  refine hw_region (by kernel_rfl) ?_
  simp (maxSteps := 4000000) only [↓sP, sA, tyS, simprocAttr, IntWalk.i64_in _ (show -9223372036854775808 ≤ (i : Int) + 1 ∧ (i : Int) + 1 ≤ 9223372036854775807 by omega)]
  refine ⟨⟨i + 1, hi32⟩, fits_fin (by omega) (by simp [FinOk, fin_at, finA_at, upd_at, HV.men, HV.menL, HV.norm, HV.toC, HV.toCL]) (by simp [FobOk, fob_at, upd_at, none0_at, gone, HO.men, HV.men, HV.menL, HV.norm, HV.toC, HV.toCL]; rfl), ?_⟩
  show 32 - (i + 1) < 32 - i
  omega
 refine hw_exit ?_
 simp (maxSteps := 4000000) only [↓sP, sA, tyS, simprocAttr]
 clear hK K
 repeat refine AI ?_
 refine hK _ _ _ ?_
 clear hK K
 have hei : i = 32 := by simp at hb; omega
 subst hei
 clear hb
 refine hw_seq fun K hK => hw_region (by kernel_rfl) ?_
 simp (maxSteps := 4000000) only [↓sP, sA, tyS, simprocAttr, us_all, hol]
 repeat refine AI ?_
 refine hK _ _ _ ?_
 clear hK K
 refine hw_ret ?_
 simp (maxSteps := 4000000) only [hpost, Tryz.results72, hresL, hres1, tupOf, ↓sP, sA, tyS, simprocAttr]
 simp only [us_all hol, Option.map_some]
 refine hret_pure [] (us (outL S 32)) (close_c (us_denil _)) ?_
 have e9 : q = (pad b).length / 64 := by omega
 rw [outL_all, hS, ← sha_out, ← e9]


theorem pid_ok (p : Pk) : HPure Tryz.prog 28 [p.cv] (fun v => v = dg (pid p)) := by
 refine hfn_walk Tryz.func28 rfl (by kernel_rfl) (locOk_nil _) (Nat.le_of_ble_eq_true rfl) ?_
 refine hw_seq fun K hK => hw_region (by kernel_rfl) ?_
 simp (maxSteps := 4000000) only [↓sP, sA, tyS, simprocAttr]
 repeat refine AI ?_
 refine hK _ _ _ ?_
 clear hK K
 refine hw_freeze 1 0 rfl rfl ?_
 refine hw_seq fun K hK => hw_draw2 mixed [(0, [], []), (1, [], []), (2, [], []), (3, [], []), (4, [3], []), (5, [3], []), (6, [], []), (7, [], []), (8, [], [])] [0, 1, 3, 7, 0, 16, 63, 127, 255] (by kernel_rfl) (by kernel_rfl) (by kernel_rfl) (by kernel_rfl) rfl (by kernel_rfl) ?_
 iterate 7
  (refine hwalk2_step (g := none) rfl rfl fun K' hK' => ?_; simp only [sH, ↓sP, sA, tyS, simprocAttr, gone_at, u8_ofInt, hf_us, p.r.2, hf_take, cells_u8, List.drop_zero, denilL_u8]; (repeat refine AI ?_); refine hK' _ _ ?_; clear hK' K')
 refine hwalk2_step (g := none) rfl rfl fun K' hK' => ?_
 simp (maxSteps := 4000000) only [sH, ↓sP, sA, tyS, simprocAttr, gone_at, u8_ofInt, hf_us, p.r.2, hf_take, cells_u8, List.drop_zero, denilL_u8]
 refine call_close (e := 5) (sz := 1) (l := (keyIn (UInt8.ofNat (p.h.emod 256).toNat) p.r.1).map u8) [] [] (dsum_ok (keyIn (UInt8.ofNat (p.h.emod 256).toNat) p.r.1) (by simp [keyIn, p.r.2])) rfl (by simp [keyIn, p.r.2]) (by simp) ⟨rfl, rfl, rfl, rfl⟩ ?_
 rintro u rfl
 repeat refine AI ?_
 refine hK' _ _ ?_
 clear hK' K'
 refine hwalk2_step (g := none) rfl rfl fun K' hK' => ?_
 simp (maxSteps := 4000000) only [sH, ↓sP, sA, tyS, simprocAttr, gone_at, u8_ofInt, hf_us, p.r.2, hf_take, cells_u8, List.drop_zero, denilL_u8]
 repeat refine AI ?_
 refine hK' _ _ ?_
 clear hK' K'
 simp only [sE, ↓reduceIte, simprocAttr]
 repeat refine AI ?_
 refine hK _ _ _ ?_
 clear hK K
 refine hw_ret ?_
 simp (maxSteps := 4000000) only [hpost, Tryz.results28, hresL, hres1, tupOf, ↓sP, sA, tyS, simprocAttr]
 exact hret_pure [] (dg (pid p)) rfl rfl


theorem rid_ok (p : Pk) : HPure Tryz.prog 47 [p.cv] (fun v => v = dg (pid p)) := by
 refine hfn_walk Tryz.func47 rfl (by kernel_rfl) (locOk_nil _) (Nat.le_of_ble_eq_true rfl) ?_
 refine hw_seq fun K hK => hw_region (by kernel_rfl) ?_
 simp (maxSteps := 4000000) only [↓sP, sA, tyS, simprocAttr]
 repeat refine AI ?_
 refine hK _ _ _ ?_
 clear hK K
 refine hw_seq fun K hK => hw_region (by kernel_rfl) ?_
 simp only [sR, simprocAttr]
 iterate 5
  (refine hlex_step (g := none) rfl rfl fun K' hK' => ?_; simp only [sH, ↓sP, sA, tyS, simprocAttr, u8_ofInt]; (repeat refine AI ?_); refine hK' _ _ ?_; clear hK' K')
 simp only [sE, ↓reduceIte, simprocAttr]
 repeat refine AI ?_
 refine hK _ _ _ ?_
 clear hK K
 refine hw_freeze 1 0 rfl rfl ?_
 refine hw_seq fun K hK => hw_region (by kernel_rfl) ?_
 simp only [sR, simprocAttr]
 iterate 4
  (refine hlex_step (g := none) rfl rfl fun K' hK' => ?_; simp only [sH, ↓sP, sA, tyS, simprocAttr, gone_at, hf_us, p.r.2, hf_take, cells_u8, List.drop_zero, denilL_u8]; (repeat refine AI ?_); refine hK' _ _ ?_; clear hK' K')
 refine hlex_step (g := none) rfl rfl fun K' hK' => ?_
 simp (maxSteps := 4000000) only [sH, ↓sP, sA, tyS, simprocAttr, gone_at, hf_us, p.r.2, hf_take, cells_u8, List.drop_zero, denilL_u8]
 refine call_close (e := 5) (sz := 1) (l := (keyIn (UInt8.ofNat (p.h.emod 256).toNat) p.r.1).map u8) [] [] (rsum_ok (keyIn (UInt8.ofNat (p.h.emod 256).toNat) p.r.1) (by simp [keyIn, p.r.2])) rfl (by simp [keyIn, p.r.2]) (by simp) ⟨rfl, rfl, rfl, rfl⟩ ?_
 rintro u rfl
 repeat refine AI ?_
 refine hK' _ _ ?_
 clear hK' K'
 refine hlex_step (g := none) rfl rfl fun K' hK' => ?_
 simp (maxSteps := 4000000) only [sH, ↓sP, sA, tyS, simprocAttr, gone_at, hf_us, p.r.2, hf_take, cells_u8, List.drop_zero, denilL_u8]
 repeat refine AI ?_
 refine hK' _ _ ?_
 clear hK' K'
 simp only [sE, ↓reduceIte, simprocAttr]
 repeat refine AI ?_
 refine hK _ _ _ ?_
 clear hK K
 refine hw_ret ?_
 simp (maxSteps := 4000000) only [hpost, Tryz.results47, hresL, hres1, tupOf, ↓sP, sA, tyS, simprocAttr]
 exact hret_pure [] (dg (pid p)) rfl rfl

end Go.Proofs.YtenbfeemmpjdhaaGreat

namespace Go.Hl
open Go Go.RowKit Go.Sort Go.Proofs

def HSort (P : Program) (f : FuncId) (e : TypeId) (ss : List (List UInt8)) : Prop :=
  HFn P f [.own 0 ss.length] 1 (fob [(0, .row e 1 (ss.map .str))]) (fun r ob' => r = .tup [] ∧ ob' = fob [(0, .row e 1 ((ss.mergeSort leW).map .str))])

theorem repL_strs_inv {w : World} {O : Nat → Prop} : ∀ {ss : List (List UInt8)} {xs : List Value}, RepL w O (ss.map CV.str) xs → xs = ss.map skey
  | [], xs, h => by simpa [RepL] using h
  | s :: ss, xs, h => by
    simp only [List.map_cons, RepL, RepC] at h
    obtain ⟨c1, c2, rfl, rfl, h2⟩ := h
    rw [repL_strs_inv h2]
    rfl
theorem putCells_take (S : List (List UInt8)) (cur : Array Value) (h : S.length ≤ cur.size) : (putCells encStr 0 S.toArray cur).toList.take S.length = S.map skey := by
  apply List.ext_getElem?
  intro i
  by_cases hi : i < S.length
  · rw [List.getElem?_take, if_pos hi, List.getElem?_map]
    have hc : i < cur.size := by omega
    simp only [putCells, Array.getElem?_toList, Array.getElem?_mapIdx, Array.getElem?_eq_getElem hc, Option.map_some, List.getElem?_eq_getElem hi]
    rw [if_pos ⟨by omega, by simpa using hi⟩]
    simp [hi]
    rfl
  · rw [List.getElem?_take, if_neg hi, List.getElem?_eq_none (by simpa using hi)]

theorem hfn_sort {P : Program} {f : FuncId} {e : TypeId} {ss : List (List UInt8)} (hok : callOk P f = true)
    (hc : ∀ (blk cap : Nat) (w : World), Holds encStr w blk 0 ss.toArray → blk < w.heap.size → Calls P f #[.slice (some ⟨blk, 0, none⟩) ss.length cap] w fun x w' => x = .returned (.tuple #[]) ∧ ∃ n os, w' = grow (putRow encStr (Sort.ahead w n) blk 0 (ss.mergeSort leW).toArray) os)
    (hc0 : ∀ (cap : Nat) (w : World), Calls P f #[.slice none 0 cap] w fun x w' => x = .returned (.tuple #[]) ∧ w' = w) : HSort P f e ss := by
  refine ⟨fnOk_of hok, fun w ρ X xs hS hA hX => Does.of hok ?_⟩
  obtain ⟨h, ys, hρ, hL, hcs, how⟩ := hS.objs 0 (.row e 1 (ss.map .str)) rfl
  have hys := repL_strs_inv hL
  subst hys
  have hlen : hlen h = ss.length := by have := ownsRow_size how; simpa using this
  have hargs : xs = [h] := by
    rw [repHV_cons] at hA
    obtain ⟨y, zs, rfl, hy, hz⟩ := hA
    simp only [RepHV] at hz
    subst hz
    obtain ⟨hy1, hy2⟩ := hy
    have hag : Value.isAgg' y = false := by rw [← hy2]; rfl
    rw [cells_single hag] at hy1
    simp only [RepH, List.cons.injEq, and_true] at hy1
    obtain ⟨x, rfl, _, hx⟩ := hy1
    rw [(hx h hρ).2 hlen]
  subst hargs
  have hrt : ∀ w' : World, RepV w' ρ (Owned ρ X) (.tup []) (.tuple #[]) := fun w' => by
    refine ⟨?_, rfl⟩
    simp only [RepH]
    exact ⟨[], rfl, by simp [RepHV]⟩
  rcases how.2 with ⟨rfl, hz⟩ | ⟨g, cap, cur, rfl, hg0, hg, hcap, hmax, hcsz, htake⟩
  · have : ss = [] := List.eq_nil_of_length_eq_zero (by simpa using hz)
    subst this
    refine (hc0 0 w).mono ?_
    rintro ex w' ⟨rfl, rfl⟩
    refine ⟨.tup [], _, ρ, .tuple #[], rfl, ⟨rfl, rfl⟩, ⟨hrt _, by simpa using hS, by simp [HV.men, HV.menL], fun i o ho => ?_, Stay2.refl _ _, Moves.refl _ _⟩⟩
    simp only [fob_at, fob_nil] at ho
    split at ho
    · rename_i e0; subst e0; cases ho; exact ⟨by omega, trivial⟩
    · cases ho
  · simp only [List.length_map, Nat.mul_one] at hcap hcsz htake
    have hgs : g < w.heap.size := (Array.getElem?_eq_some_iff.1 hg).1
    have hH : Holds encStr w g 0 ss.toArray := fun j hj => by
      have hj' : j < ss.length := by simpa using hj
      refine ⟨?_, by simp [World.frozen?, hg]⟩
      have e1 : cur.toList[j]? = some (skey ss[j]) := by
        have : (cur.toList.take ss.length)[j]? = (ss.map skey)[j]? := by rw [htake]
        rw [List.getElem?_take, if_pos hj', List.getElem?_map, List.getElem?_eq_getElem hj'] at this
        simpa using this
      rw [Array.getElem?_toList] at e1
      simp only [World.cell?, hg, Nat.zero_add, e1]
      simp [hj']
      rfl
    simp only [List.length_map]
    refine (hc g cap w hH hgs).mono ?_
    rintro ex w' ⟨rfl, n, os, rfl⟩
    obtain ⟨S, hSd⟩ : ∃ S, S = ss.mergeSort leW := ⟨_, rfl⟩
    rw [← hSd]
    have hSl : S.length = ss.length := by rw [hSd]; exact (List.mergeSort_perm ss _).length_eq
    have hother : ∀ b, b < w.heap.size → b ≠ g → (grow (putRow encStr (Sort.ahead w n) g 0 S.toArray) os).heap[b]? = w.heap[b]? := fun b hb hne => by
      simp only [grow, putRow, mapBlock, Sort.ahead]
      rw [Array.getElem?_append_left (by simpa using hb), Array.getElem?_modify, if_neg (fun h => hne h.symm)]
    have hthis : (grow (putRow encStr (Sort.ahead w n) g 0 S.toArray) os).heap[g]? = some (.cells (putCells encStr 0 S.toArray cur) e (0, 0)) := by
      simp only [grow, putRow, mapBlock, Sort.ahead]
      rw [Array.getElem?_append_left (by simpa using hgs), Array.getElem?_modify, if_pos rfl, hg]
      rfl
    have hs2 : Stay2 w (Own ρ) (grow (putRow encStr (Sort.ahead w n) g 0 S.toArray) os) (Own ρ) := ⟨fun b hb hno => hother b hb (fun e' => hno ⟨0, _, hρ, by rw [e']; rfl⟩), fun _ h => .inl h, by simp [grow, putRow, mapBlock, Sort.ahead], rfl, rfl, rfl⟩
    refine ⟨.tup [], _, ρ, .tuple #[], rfl, ⟨rfl, rfl⟩, ⟨hrt _, ⟨fun i o ho => ?_, fun i hi => hS.none i ?_, hS.apart, hS.xb⟩, by simp [HV.men, HV.menL], fun i o ho => ?_, hs2, Moves.refl _ _⟩⟩
    · simp only [fob_at, fob_nil] at ho
      split at ho
      · rename_i e0; subst e0; cases ho
        refine ⟨_, S.map skey, hρ, repL_strs S, fun v hv => ?_, by simp, .inr ⟨g, cap, putCells encStr 0 S.toArray cur, by simp [hSl], Nat.zero_le _, hthis, by simp [hSl]; exact hcap, hmax, ?_, ?_⟩⟩
        · obtain ⟨s, _, rfl⟩ := List.mem_map.1 hv; rfl
        · rw [← hcsz]; simp [putCells]
        · simp only [List.length_map, Nat.mul_one]
          exact putCells_take S cur (by omega)
      · cases ho
    · simp only [fob_at, fob_nil] at hi ⊢
      split at hi
      · cases hi
      · rename_i hne; rw [if_neg hne]
    · simp only [fob_at, fob_nil] at ho
      split at ho
      · rename_i e0; subst e0; cases ho; exact ⟨by omega, trivial⟩
      · cases ho

theorem call_sort {P : Program} {av : List Nat} {f : FuncId} {ob : Ob} {nid id n : Nat} {K : HV → Ob → Prop} {e : TypeId} {ss : List (List UInt8)} (h : HSort P f e ss) (hid : ob id = some (.row e 1 (ss.map .str))) (hn : n = ss.length) (hav : id ∉ av)
    (hfree : Free4 ob nid) (hK : K (.tup []) (upd ob id (some (.row e 1 ((ss.mergeSort leW).map .str))))) : HCall P av f [.own id n] ob nid K := by
  have h0 : sub [id] nid 0 = id := rfl
  subst hn
  refine ⟨[id], _, _, _, h, by simpa using locOk_take e 1 ss.length (ss.map .str), ⟨by simp, by simpa using hav⟩, by simp only [HV.renL, HV.ren, h0], fun j o hj => ?_, fun r lob' hR _ => ?_⟩
  · simp only [fob_at, fob_nil] at hj
    split at hj
    · rename_i e0; subst e0; cases hj; simpa [HO.ren] using hid
    · cases hj
  · obtain ⟨rfl, rfl⟩ := hR
    have e : obAfter ob [id] nid (fob [(0, .row e 1 ((ss.mergeSort leW).map .str))]) = upd ob id (some (.row e 1 ((ss.mergeSort leW).map .str))) := by
      funext i
      by_cases e : i = id
      · subst e
        simp only [obAfter, upd_same, List.findIdx?_cons, beq_self_eq_true, if_true, fob_at, Option.map_some]
        rfl
      · have e' : (id == i) = false := by simp; exact fun h => e h.symm
        simp only [obAfter, List.findIdx?_cons, e', List.findIdx?_nil, Option.map_none, upd_ne _ _ e]
        simp only [Bool.false_eq_true, if_false]
        split
        · rename_i hr
          have h1 : [id].length + (i - nid) ≠ 0 := by simp
          rw [fob_at, if_neg h1, fob_nil]
          have : i = nid ∨ i = nid + 1 ∨ i = nid + 2 ∨ i = nid + 3 := by omega
          rcases this with rfl | rfl | rfl | rfl
          · exact hfree.1.symm
          · exact hfree.2.1.symm
          · exact hfree.2.2.1.symm
          · exact hfree.2.2.2.symm
        · rfl
    rw [e]
    exact hK
end Go.Hl
