/- Part of a proof: walks of functions of the program, by contracts, and the rules they use. By an AI agent. -/
import Derived.Test.YtenbfeemmpjdhaaGreatDoorHyT3
import Derived.Test.YtenbfeemmpjdhaaGreatDoorHyU1
import Derived.Test.YtenbfeemmpjdhaaGreatDoorHlZb
import Derived.Test.YtenbfeemmpjdhaaGreatDoorPl11u
import Derived.Test.YtenbfeemmpjdhaaGreatDoorPlShb
set_option linter.unusedSimpArgs false
set_option linter.unusedVariables false
set_option linter.defProp false
namespace Go.Proofs.YtenbfeemmpjdhaaGreatDoor
open Go Go.Hl Go.Pl
set_option maxRecDepth 10000
set_option maxHeartbeats 2000000
set_option linter.unusedSimpArgs false
set_option linter.unusedVariables false

theorem check_ok (l : List Word) (hl : l.length < 2 ^ 40) : HPure Tryz.prog 71 [.slc (l.map .str)] (fun v => v = .int .i64 (chkL l)) := by
 refine hfn_walk Tryz.func71 rfl (by kernel_rfl) (locOk_nil _) (Nat.le_of_ble_eq_true rfl) ?_
 refine R0 ?_
 refine hw_seq fun K hK => ?_
 refine hw_block ?_
 refine hw_seq fun K hK => hw_region (by kernel_rfl) ?_
 simp only [sR, simprocAttr]
 iterate 4 refine S0 ?_
 refine T2 (hK _ _ _ ?_)
 clear hK K
 refine hw_cond (b := (l.length : Int) == 0) rfl (fun hb => ?_) (fun hb => ?_)
 ·
  refine R0 ?_
  refine hw_ret ?_
  simp only [hpost, Tryz.results71, hresL, hres1, tupOf, ↓sP, sA, tyS, simprocAttr]
  exact hret_pure [] (.int .i64 1) rfl (by rw [chkL, if_pos (by simp at hb; simp [hb])])
 have hn0 : l.length ≠ 0 := by simp at hb; simp [hb]
 clear hb
 refine hw_seq fun K hK => hw_region (by kernel_rfl) ?_
 simp only [sR, simprocAttr]
 iterate 4 refine S0 ?_
 refine T2 (hK _ _ _ ?_)
 clear hK K
 refine hw_cond (b := decide ((120 : Int) < l.length)) rfl (fun hb => ?_) (fun hb => ?_)
 ·
  refine R0 ?_
  refine hw_ret ?_
  simp only [hpost, Tryz.results71, hresL, hres1, tupOf, ↓sP, sA, tyS, simprocAttr]
  exact hret_pure [] (.int .i64 3) rfl (by rw [chkL, if_neg hn0, if_pos (by simp at hb; omega)])
 refine hw_skip ?_
 refine T0 (hK _ _ _ ?_)
 clear hK K
 refine hw_seq fun K hK => ?_
 have hn1 : l.length ≤ 120 := by simp at hb; omega
 clear hb
 refine R0 ?_
 refine hw_block ?_
 refine hw_loop (α := {i : Nat // i ≤ l.length ∧ ∀ x ∈ l.take i, decide (32768 < x.length) = false}) (fun i => (fin [(13, .c (.slc (l.map .str))), (14, .c (.int .i64 l.length)), (15, .c (.int .i64 i.1))], fob [])) 100 (fun i => l.length - i.1) ⟨0, by omega, by simp⟩ (fF) ?_
 rintro ⟨i, hi, h0⟩
 refine R0 ?_
 refine hw_seq fun K hK => ?_
 refine hw_cond (b := decide ((i : Int) < l.length)) rfl (fun hb => ?_) (fun hb => ?_)
 ·
  have hlt : i < l.length := by simpa using hb
  clear hb
  refine hw_skip ?_
  refine T0 (hK _ _ _ ?_)
  clear hK K
  refine hw_seq fun K hK => ?_
  refine hw_block ?_
  refine R0 ?_ (e := fun K_ h_ => by simp only [↓sP, sA, tyS, simprocAttr, Int.natCast_nonneg, Int.ofNat_lt, hlt, nth_map hlt]; exact AX h_)
  refine R0 ?_
  refine hw_cond (b := decide ((32768 : Int) < l[i].length)) rfl (fun hb => ?_) (fun hb => ?_)
  ·
   refine R0 ?_
   refine hw_ret ?_
   simp only [hpost, Tryz.results71, hresL, hres1, tupOf, ↓sP, sA, tyS, simprocAttr]
   exact hret_pure [] (.int .i64 3) rfl (by rw [chkL, if_neg hn0, if_neg (by omega), if_pos]; simp only [List.any_eq_true, decide_eq_true_eq]; exact ⟨_, List.getElem_mem hlt, by simp at hb; omega⟩)
  refine hw_skip ?_
  refine T0 (hK _ _ _ ?_)
  clear hK K
  refine hw_region (by kernel_rfl) ?_
  simp only [↓sP, sA, tyS, simprocAttr, i64s i]
  have hb2 : decide (32768 < l[i].length) = false := by simp at hb ⊢; omega
  refine ⟨⟨i + 1, hlt, take_miss (p := fun x => decide (32768 < x.length)) hlt hb2 h0⟩, fF, ?_⟩
  show l.length - (i + 1) < l.length - i
  omega
 refine hw_exit ?_
 simp only [↓sP, sA, tyS, simprocAttr]
 clear hK K
 refine AX (hK _ _ _ ?_)
 clear hK K
 refine R0 ?_
 refine hw_ret ?_
 simp only [hpost, Tryz.results71, hresL, hres1, tupOf, ↓sP, sA, tyS, simprocAttr]
 have hei : i = l.length := by simp at hb; omega
 subst hei
 rw [List.take_length] at h0
 exact hret_pure [] (.int .i64 0) rfl (by rw [chkL, if_neg hn0, if_neg (by omega), if_neg]; simp only [List.any_eq_true, not_exists, not_and]; intro x hx; simp [h0 x hx])


theorem enc_ok (ls : List (List Word)) (h0 : ls.length < 2 ^ 40) (h1 : ∀ l ∈ ls, l.length < 2 ^ 40) : HPure2 Tryz.prog 26 [.slc (ls.map fun l => .slc (l.map .str))] (fun u v => u = .slc ((encO ls).map byteC) ∧ v = .int .i64 (encE ls)) := by
 refine hfn_walk Tryz.func26 rfl (by kernel_rfl) (locOk_nil _) (Nat.le_of_ble_eq_true rfl) ?_
 refine R0 ?_
 refine hw_seq fun K hK => ?_
 refine R0 ?_
 refine hw_cond (b := decide ((1000 : Int) < ls.length)) rfl (fun hb => ?_) (fun hb => ?_)
 ·
  refine R0 ?_
  refine hw_ret ?_
  simp only [hpost, Tryz.results26, hresL, hres1, tupOf, ↓sP, sA, tyS, simprocAttr]
  have hE := encE_long (ls := ls) (by simp at hb; omega)
  refine hret_pure2 [] (.slc []) (.int .i64 3) ?_ ⟨by rw [encO_nil (by rw [hE]; decide)]; rfl, by rw [hE]⟩
  simp [HV.close, HV.closeL, CV.denil, CV.denilL, HV.norm, HV.toC, HV.toCL]
 refine hw_skip ?_
 refine T0 (hK _ _ _ ?_)
 clear hK K
 refine hw_seq fun K hK => ?_
 have hn : ls.length ≤ 1000 := by simp at hb; omega
 clear hb
 refine R0 ?_
 refine hw_block ?_
 refine hw_loop (α := {i : Nat // i ≤ ls.length ∧ ∀ x ∈ ls.take i, okL x = true}) (fun i => (fin [(0, .c (.slc (ls.map fun l => .slc (l.map .str)))), (20, .c (.slc (ls.map fun l => .slc (l.map .str)))), (21, .c (.int .i64 ls.length)), (22, .c (.int .i64 i.1))], fob [])) 100 (fun i => ls.length - i.1) ⟨0, by omega, by simp⟩ (fF) ?_
 rintro ⟨i, hi, hk⟩
 refine R0 ?_
 refine hw_seq fun K hK => ?_
 refine hw_cond (b := decide ((i : Int) < ls.length)) rfl (fun hb => ?_) (fun hb => ?_)
 ·
  have hlt : i < ls.length := by simpa using hb
  clear hb
  have hl1 := h1 ls[i] (List.getElem_mem hlt)
  refine hw_skip ?_
  refine T0 (hK _ _ _ ?_)
  clear hK K
  refine hw_seq fun K hK => ?_
  refine hw_block ?_
  refine R0 ?_ (e := fun K_ h_ => by simp only [↓sP, sA, tyS, simprocAttr, Int.natCast_nonneg, Int.ofNat_lt, hlt, nth_map hlt]; exact AX h_)
  refine hw_seq fun K hK => hw_region (by kernel_rfl) ?_
  simp only [sR, simprocAttr]
  refine S0 ?_
  refine hlex_step (g := none) rfl rfl fun K' hK' => ?_
  simp only [sH, ↓sP, sA, tyS, simprocAttr]
  refine call_pure (args := [_]) (check_ok ls[i] hl1) ⟨rfl, rfl, rfl, rfl⟩ ?_
  rintro u rfl
  refine AX (hK' _ _ ?_)
  clear hK' K'
  refine S0 ?_
  refine T2 (hK _ _ _ ?_)
  clear hK K
  refine R0 ?_
  refine hw_cond (b := chkL ls[i] != 0) rfl (fun hb => ?_) (fun hb => ?_)
  ·
   refine R0 ?_
   refine hw_ret ?_
   simp only [hpost, Tryz.results26, hresL, hres1, tupOf, ↓sP, sA, tyS, simprocAttr]
   have hE := encE_bad hn hlt hk (by simpa [okL] using hb)
   refine hret_pure2 [] (.slc []) (.int .i64 (chkL ls[i])) ?_ ⟨by rw [encO_nil (by rw [hE]; simpa using hb)]; rfl, by rw [hE]⟩
   simp [HV.close, HV.closeL, CV.denil, CV.denilL, HV.norm, HV.toC, HV.toCL]
  refine hw_skip ?_
  refine T0 (hK _ _ _ ?_)
  clear hK K
  refine hw_region (by kernel_rfl) ?_
  simp only [↓sP, sA, tyS, simprocAttr, i64s i]
  refine ⟨⟨i + 1, hlt, ?_⟩, fF, ?_⟩
  ·
   intro x hx
   rw [List.take_succ_eq_append_getElem hlt, List.mem_append, List.mem_singleton] at hx
   rcases hx with hx | rfl
   ·
    exact hk x hx
   simpa [okL] using hb
  show ls.length - (i + 1) < ls.length - i
  omega
 have hei : i = ls.length := by simp at hb; omega
 subst hei
 clear hb
 rw [List.take_length] at hk
 have hne : ∀ l ∈ ls, l ≠ [] := fun l hl => ((okL_iff l).1 (hk l hl)).1
 have hsd := sumD_le hk
 have hdl := docB_len hne
 have hE := encE_ok hn hk
 have hst : ∀ j, sumD (ls.take j) ≤ sumD ls := fun j => sumD_take_le ls j
 have hdt : ∀ j, (docB (ls.take j)).length ≤ sumD ls := fun j => by rw [docB_len fun l hl => hne l (List.mem_of_mem_take hl)]; exact hst j
 refine hw_exit ?_
 simp only [↓sP, sA, tyS, simprocAttr]
 clear hK K
 refine AX (hK _ _ _ ?_)
 clear hK K
 refine R0 ?_
 refine hw_seq fun K hK => ?_
 refine R0 ?_
 refine hw_block ?_
 refine hw_loop (α := {i : Nat // i ≤ ls.length}) (fun i => (fin [(0, .c (.slc (ls.map fun l => .slc (l.map .str)))), (7, .c (.int .i64 (sumD (ls.take i.1) : Nat))), (32, .c (.slc (ls.map fun l => .slc (l.map .str)))), (33, .c (.int .i64 ls.length)), (34, .c (.int .i64 i.1))], fob [])) 200 (fun i => ls.length - i.1) ⟨0, by omega⟩ (fF) ?_
 rintro ⟨i, hi⟩
 refine R0 ?_
 refine hw_seq fun K hK => ?_
 refine hw_cond (b := decide ((i : Int) < ls.length)) rfl (fun hb => ?_) (fun hb => ?_)
 ·
  have hlt : i < ls.length := by simpa using hb
  clear hb
  have hst1 := sumD_take hlt
  have hst2 := hst (i + 1)
  obtain ⟨l, hl⟩ : ∃ l, l = ls[i] := ⟨_, rfl⟩
  obtain ⟨hl0, hl1, hl2⟩ := (okL_iff l).1 (hk l (by rw [hl]; exact List.getElem_mem hlt))
  have hln : nth (ls.map fun l => CV.slc (l.map .str)) i = .slc (l.map .str) := by rw [nth_map hlt, hl]
  rw [← hl] at hst1
  refine hw_skip ?_
  refine T0 (hK _ _ _ ?_)
  clear hK K
  refine hw_seq fun K hK => ?_
  refine hw_block ?_
  refine R0 ?_ (e := fun K_ h_ => by simp only [↓sP, sA, tyS, simprocAttr, Int.natCast_nonneg, Int.ofNat_lt, hlt, hln]; exact AX h_)
  refine R0 ?_
  refine hw_block ?_
  refine hw_loop (α := {i : Nat // i ≤ l.length}) (fun k => (fin [(0, .c (.slc (ls.map fun l => .slc (l.map .str)))), (7, .c (.int .i64 (sumD (ls.take i) + sumL (l.take k.1) : Nat))), (32, .c (.slc (ls.map fun l => .slc (l.map .str)))), (33, .c (.int .i64 ls.length)), (34, .c (.int .i64 i)), (38, .c (.slc (l.map .str))), (39, .c (.int .i64 l.length)), (40, .c (.int .i64 k.1))], fob [])) 300 (fun k => l.length - k.1) ⟨0, by omega⟩ (fF) ?_
  rintro ⟨k, hk'⟩
  refine R0 ?_
  refine hw_seq fun K hK => ?_
  refine hw_cond (b := decide ((k : Int) < l.length)) rfl (fun hb => ?_) (fun hb => ?_)
  ·
   have hlk : k < l.length := by simpa using hb
   clear hb
   have hlt1 := sumL_take hlk
   have hlt2 := sumL_take_le l (k + 1)
   have hw2 := hl2 l[k] (List.getElem_mem hlk)
   refine hw_skip ?_
   refine T0 (hK _ _ _ ?_)
   clear hK K
   refine hw_seq fun K hK => ?_
   refine hw_block ?_
   refine R0 ?_ (e := fun K_ h_ => by simp only [↓sP, sA, tyS, simprocAttr, Int.natCast_nonneg, Int.ofNat_lt, hlk, nth_map hlk]; exact AX h_)
   refine hw_region (by kernel_rfl) ?_
   simp only [sR, simprocAttr]
   iterate 2 refine S0 ?_ (e := fun K_ h_ => by simp only [sH, ↓sP, sA, tyS, simprocAttr, IntWalk.i64_in _ (show -9223372036854775808 ≤ ((sizeW l[k] : Nat) : Int) + 1 ∧ ((sizeW l[k] : Nat) : Int) + 1 ≤ 9223372036854775807 by omega), IntWalk.i64_in _ (show -9223372036854775808 ≤ ((sumD (ls.take i) + sumL (l.take k) : Nat) : Int) + (((sizeW l[k] : Nat) : Int) + 1) ∧ ((sumD (ls.take i) + sumL (l.take k) : Nat) : Int) + (((sizeW l[k] : Nat) : Int) + 1) ≤ 9223372036854775807 by omega)]; exact AX h_)
   refine hlex_step (g := none) rfl rfl fun K' hK' => ?_
   simp only [sH, ↓sP, sA, tyS, simprocAttr, IntWalk.i64_in _ (show -9223372036854775808 ≤ ((sizeW l[k] : Nat) : Int) + 1 ∧ ((sizeW l[k] : Nat) : Int) + 1 ≤ 9223372036854775807 by omega), IntWalk.i64_in _ (show -9223372036854775808 ≤ ((sumD (ls.take i) + sumL (l.take k) : Nat) : Int) + (((sizeW l[k] : Nat) : Int) + 1) ∧ ((sumD (ls.take i) + sumL (l.take k) : Nat) : Int) + (((sizeW l[k] : Nat) : Int) + 1) ≤ 9223372036854775807 by omega)]
   refine call_pure (args := [_]) (size_ok l[k] (by omega)) ⟨rfl, rfl, rfl, rfl⟩ ?_
   rintro u rfl
   refine AX (hK' _ _ ?_)
   clear hK' K'
   iterate 3 refine S0 ?_ (e := fun K_ h_ => by simp only [sH, ↓sP, sA, tyS, simprocAttr, IntWalk.i64_in _ (show -9223372036854775808 ≤ ((sizeW l[k] : Nat) : Int) + 1 ∧ ((sizeW l[k] : Nat) : Int) + 1 ≤ 9223372036854775807 by omega), IntWalk.i64_in _ (show -9223372036854775808 ≤ ((sumD (ls.take i) + sumL (l.take k) : Nat) : Int) + (((sizeW l[k] : Nat) : Int) + 1) ∧ ((sumD (ls.take i) + sumL (l.take k) : Nat) : Int) + (((sizeW l[k] : Nat) : Int) + 1) ≤ 9223372036854775807 by omega)]; exact AX h_)
   refine T2 (hK _ _ _ ?_)
   clear hK K
   refine hw_region (by kernel_rfl) ?_
   simp only [↓sP, sA, tyS, simprocAttr, i64s k]
   have he : ((sumD (ls.take i) + sumL (l.take k) : Nat) : Int) + (((sizeW l[k] : Nat) : Int) + 1) = ((sumD (ls.take i) + sumL (l.take (k + 1)) : Nat) : Int) := by omega
   simp only [he]
   refine ⟨⟨k + 1, hlk⟩, fF, ?_⟩
   show l.length - (k + 1) < l.length - k
   omega
  have hek : k = l.length := by simp at hb; omega
  subst hek
  clear hb
  refine hw_exit ?_
  simp only [↓sP, sA, tyS, simprocAttr]
  clear hK K
  refine AX (hK _ _ _ ?_)
  clear hK K
  refine hw_region (by kernel_rfl) ?_
  simp only [↓sP, sA, tyS, simprocAttr, i64s i]
  have he : ((sumD (ls.take i) + sumL (l.take l.length) : Nat) : Int) = ((sumD (ls.take (i + 1)) : Nat) : Int) := by rw [List.take_length]; omega
  simp only [he]
  refine ⟨⟨i + 1, hlt⟩, fF, ?_⟩
  show ls.length - (i + 1) < ls.length - i
  omega
 have hei : i = ls.length := by simp at hb; omega
 subst hei
 clear hb
 refine hw_exit ?_
 simp only [↓sP, sA, tyS, simprocAttr]
 clear hK K
 refine AX (hK _ _ _ ?_)
 clear hK K
 refine hw_seq fun K hK => ?_
 refine R0 ?_ (e := fun K_ h_ => by simp only [↓sP, sA, tyS, simprocAttr, List.take_length]; exact AX h_)
 refine hw_cond (b := decide ((262144 : Int) < (sumD ls : Nat))) rfl (fun hb => ?_) (fun hb => ?_)
 ·
  refine R0 ?_
  refine hw_ret ?_
  simp only [hpost, Tryz.results26, hresL, hres1, tupOf, ↓sP, sA, tyS, simprocAttr]
  rw [if_pos (by rw [hdl]; simp at hb; omega)] at hE
  refine hret_pure2 [] (.slc []) (.int .i64 3) ?_ ⟨by rw [encO_nil (by rw [hE]; decide)]; rfl, by rw [hE]⟩
  simp [HV.close, HV.closeL, CV.denil, CV.denilL, HV.norm, HV.toC, HV.toCL]
 refine hw_skip ?_
 refine T0 (hK _ _ _ ?_)
 clear hK K
 have hle : sumD ls ≤ 262144 := by simp at hb; omega
 have hz : ((sumD ls : Nat) : Int) ≤ 140737488355328 := by omega
 clear hb
 rw [if_neg (by rw [hdl]; omega)] at hE
 have hO := encO_ok hE
 refine R0 ?_ (e := fun K_ h_ => by simp only [↓sP, sA, tyS, simprocAttr, Int.natCast_nonneg, hz, Int.mul_one, List.take_length]; exact AX h_)
 refine hw_seq fun K hK => ?_
 refine R0 ?_
 refine hw_block ?_
 refine hw_loop (α := {i : Nat // i ≤ ls.length}) (fun i => (fin [(12, .own 216 (docB (ls.take i.1)).length), (55, .c (.slc (ls.map fun l => .slc (l.map .str)))), (56, .c (.int .i64 ls.length)), (57, .c (.int .i64 i.1))], fob [(216, .row 5 1 ((docB (ls.take i.1)).map byteC))])) 400 (fun i => ls.length - i.1) ⟨0, by omega⟩ (fF) ?_
 rintro ⟨i, hi⟩
 refine R0 ?_
 refine hw_seq fun K hK => ?_
 refine hw_cond (b := decide ((i : Int) < ls.length)) rfl (fun hb => ?_) (fun hb => ?_)
 ·
  have hlt : i < ls.length := by simpa using hb
  clear hb
  have hdt1 := docB_take hlt
  have hdt0 := hdt i
  obtain ⟨l, hl⟩ : ∃ l, l = ls[i] := ⟨_, rfl⟩
  have hok := hk l (by rw [hl]; exact List.getElem_mem hlt)
  have hsl := sumL_le hok
  obtain ⟨hl0, hl1, hl2⟩ := (okL_iff l).1 hok
  have hln : nth (ls.map fun l => CV.slc (l.map .str)) i = .slc (l.map .str) := by rw [nth_map hlt, hl]
  rw [← hl] at hdt1
  refine hw_skip ?_
  refine T0 (hK _ _ _ ?_)
  clear hK K
  refine hw_seq fun K hK => ?_
  refine hw_block ?_
  refine R0 ?_ (e := fun K_ h_ => by simp only [↓sP, sA, tyS, simprocAttr, Int.natCast_nonneg, Int.ofNat_lt, hlt, hln]; exact AX h_)
  refine hw_seq fun K hK => ?_
  refine R0 ?_
  refine hw_block ?_
  refine hw_loop (α := {i : Nat // i ≤ l.length}) (fun k => (fin [(12, .own 216 (docB (ls.take i) ++ sepW (l.take k.1)).length), (55, .c (.slc (ls.map fun l => .slc (l.map .str)))), (56, .c (.int .i64 ls.length)), (57, .c (.int .i64 i)), (61, .c (.slc (l.map .str))), (62, .c (.int .i64 l.length)), (63, .c (.int .i64 k.1))], fob [(216, .row 5 1 ((docB (ls.take i) ++ sepW (l.take k.1)).map byteC))])) 500 (fun k => l.length - k.1) ⟨0, by omega⟩ (fF) ?_
  rintro ⟨k, hk'⟩
  have hsw := sepW_le (l.take k)
  have hst2 := sumL_take_le l k
  refine R0 ?_
  refine hw_seq fun K hK => ?_
  refine hw_cond (b := decide ((k : Int) < l.length)) rfl (fun hb => ?_) (fun hb => ?_)
  ·
   have hlk : k < l.length := by simpa using hb
   clear hb
   have hw2 := hl2 l[k] (List.getElem_mem hlk)
   have hel := encW_len l[k]
   have hsz := sizeW_le l[k]
   have hsp := sizeW_pos l[k]
   have hpe : 0 < (encW l[k]).length := by omega
   have htk := sepW_take hlk
   have hbe : (docB (ls.take i)).length + (sepW (l.take k)).length + (encW l[k]).length ≤ 140737488355328 := by omega
   have hbe1 : (docB (ls.take i)).length + (sepW (l.take k)).length + 1 + (encW l[k]).length ≤ 140737488355328 := by omega
   refine hw_skip ?_
   refine T0 (hK _ _ _ ?_)
   clear hK K
   refine hw_seq fun K hK => ?_
   refine hw_block ?_
   refine hw_seq fun K hK => hw_region (by kernel_rfl) ?_
   simp only [sR, simprocAttr]
   iterate 5 refine S0 ?_ (e := fun K_ h_ => by simp only [sH, ↓sP, sA, tyS, simprocAttr, Int.natCast_nonneg, Int.ofNat_lt, hlk, nth_map hlk]; exact AX h_)
   refine T2 (hK _ _ _ ?_)
   clear hK K
   refine hw_seq fun K hK => ?_
   refine R0 ?_
   refine hw_cond (b := decide ((0 : Int) < k)) rfl (fun hb => ?_) (fun hb => ?_)
   ·
    refine hw_region (by kernel_rfl) ?_
    simp only [sR, simprocAttr]
    iterate 4 refine S0 ?_ (e := fun K_ h_ => by simp only [sH, ↓sP, sA, tyS, simprocAttr, List.length_append, List.length_map]; exact AX h_)
    refine T2 (hK _ _ _ ?_)
    clear hK K
    refine hw_region (by kernel_rfl) ?_
    simp only [sR, simprocAttr]
    iterate 2 refine S0 ?_ (e := fun K_ h_ => by simp only [sH, ↓sP, sA, tyS, simprocAttr, List.length_append, List.length_map, hpe, hbe, hbe1]; exact AX h_)
    refine hlex_step (g := none) rfl rfl fun K' hK' => ?_
    simp only [sH, ↓sP, sA, tyS, simprocAttr, List.length_append, List.length_map, hpe, hbe, hbe1]
    refine call_pure (args := [_]) (word_ok l[k] (by omega)) ⟨rfl, rfl, rfl, rfl⟩ ?_
    rintro u rfl
    refine AX (hK' _ _ ?_)
    clear hK' K'
    iterate 2 refine S0 ?_ (e := fun K_ h_ => by simp only [sH, ↓sP, sA, tyS, simprocAttr, List.length_append, List.length_map, hpe, hbe, hbe1]; exact AX h_)
    refine T2 (hK _ _ _ ?_)
    clear hK K
    refine hw_region (by kernel_rfl) ?_
    simp only [↓sP, sA, tyS, simprocAttr, i64s k]
    have hk0 : k ≠ 0 := by simp at hb; omega
    refine ⟨⟨k + 1, hlk⟩, fits_fin (by omega) ?_ ?_, ?_⟩
    ·
     rw [htk, if_neg hk0]
     simp [FinOk, upd_at, fin_at, HV.men]
     omega
    ·
     rw [htk, if_neg hk0]
     simp only [List.map_append, ← List.append_assoc]
     exact ⟨rfl, by omega, trivial, trivial⟩
    show l.length - (k + 1) < l.length - k
    omega
   refine hw_skip ?_
   refine T0 (hK _ _ _ ?_)
   clear hK K
   refine hw_region (by kernel_rfl) ?_
   simp only [sR, simprocAttr]
   iterate 2 refine S0 ?_ (e := fun K_ h_ => by simp only [sH, ↓sP, sA, tyS, simprocAttr, List.length_append, List.length_map, hpe, hbe, hbe1]; exact AX h_)
   refine hlex_step (g := none) rfl rfl fun K' hK' => ?_
   simp only [sH, ↓sP, sA, tyS, simprocAttr, List.length_append, List.length_map, hpe, hbe, hbe1]
   refine call_pure (args := [_]) (word_ok l[k] (by omega)) ⟨rfl, rfl, rfl, rfl⟩ ?_
   rintro u rfl
   refine AX (hK' _ _ ?_)
   clear hK' K'
   iterate 2 refine S0 ?_ (e := fun K_ h_ => by simp only [sH, ↓sP, sA, tyS, simprocAttr, List.length_append, List.length_map, hpe, hbe, hbe1]; exact AX h_)
   refine T2 (hK _ _ _ ?_)
   clear hK K
   refine hw_region (by kernel_rfl) ?_
   simp only [↓sP, sA, tyS, simprocAttr, i64s k]
   have hk0 : k = 0 := by simp at hb; omega
   refine ⟨⟨k + 1, hlk⟩, fits_fin (by omega) ?_ ?_, ?_⟩
   ·
    rw [htk, if_pos hk0]
    simp [FinOk, upd_at, fin_at, HV.men]
    omega
   ·
    rw [htk, if_pos hk0, List.nil_append]
    simp only [List.map_append, ← List.append_assoc]
    exact ⟨rfl, by omega, trivial, trivial⟩
   show l.length - (k + 1) < l.length - k
   omega
  have hek : k = l.length := by simp at hb; omega
  subst hek
  clear hb
  rw [List.take_length] at *
  refine hw_exit ?_
  simp only [↓sP, sA, tyS, simprocAttr]
  clear hK K
  refine AX (hK _ _ _ ?_)
  clear hK K
  refine hw_region (by kernel_rfl) ?_
  simp only [sR, simprocAttr]
  iterate 4 refine S0 ?_ (e := fun K_ h_ => by simp only [sH, ↓sP, sA, tyS, simprocAttr, List.length_append, List.length_map]; exact AX h_)
  refine T2 (hK _ _ _ ?_)
  clear hK K
  refine hw_region (by kernel_rfl) ?_
  simp only [↓sP, sA, tyS, simprocAttr, i64s i]
  refine ⟨⟨i + 1, hlt⟩, fits_fin (by omega) ?_ ?_, ?_⟩
  ·
   rw [hdt1, encL]
   simp [FinOk, upd_at, fin_at, HV.men]
   omega
  ·
   rw [hdt1, encL]
   simp only [List.map_append, ← List.append_assoc]
   exact ⟨rfl, by omega, trivial, trivial⟩
  show ls.length - (i + 1) < ls.length - i
  omega
 refine hw_exit ?_
 simp only [↓sP, sA, tyS, simprocAttr]
 clear hK K
 refine AX (hK _ _ _ ?_)
 clear hK K
 refine R0 ?_
 refine hw_ret ?_
 simp only [hpost, Tryz.results26, hresL, hres1, tupOf, ↓sP, sA, tyS, simprocAttr]
 have hei : i = ls.length := by simp at hb; omega
 subst hei
 refine hret_pure2 [216] (.slc ((docB ls).map byteC)) (.int .i64 0) ?_ ⟨by rw [hO], by rw [hE]⟩
 rw [List.take_length]
 simp [HV.close, fob_at, upd_at, HV.norm, HV.toC, HV.closeL, HV.toCL, List.take_of_length_le, CV.denil, denilL_byte]

end Go.Proofs.YtenbfeemmpjdhaaGreatDoor

namespace Go.Pl
open Go Go.Hl

theorem Ky.get_ph (x : Ky) : CV.getAt 0 1 false x.cv = some (.int .i64 x.p.h) := by simp [Ky.cv, Pk.cv, CV.getAt, CV.getAtL, CV.cells, CV.cellsL, dg_cells, hf_cells, Pk.cells]
theorem Ky.get_pr (x : Ky) : CV.getAt 1 16 true x.cv = some (hf x.p.r) := by simp [Ky.cv, Pk.cv, CV.getAt, CV.getAtL, CV.cells, CV.cellsL, dg_cells, hf_cells, Pk.cells, hf_getAt]
def wQuota : Word := [113, 117, 111, 116, 97]
def wKey : Word := [107, 101, 121]
def wRevoked : Word := [114, 101, 118, 111, 107, 101, 100]
def lnC (l : List Word) : CV := .slc (l.map .str)
theorem lnC_denil (l : List Word) : (lnC l).denil = lnC l := by simp only [lnC, CV.denil, denilL_str]
theorem denilL_ln (l : List (List Word)) : CV.denilL (l.map lnC) = l.map lnC := denilL_map lnC_denil l
def linH (r : Rt) : List Word := [wRoot, numW r.v, numW r.e]
def linQ (q : Qt) : List Word := [wQuota, q.r, numW q.n]
def linK (k : Ky) : List Word := [wKey, numW k.p.h, fmtH k.p.r, k.o, numW k.fr, numW k.un] ++ k.rs
def linX (x : Rv) : List Word := [wRevoked, fmtD x.k, numW x.t]
def linR (r : Rt) : List (List Word) := [linH r] ++ r.q.map linQ ++ r.k.map linK ++ r.x.map linX
def encR (r : Rt) : Word := if validR r then encO (linR r) else []
def errR (r : Rt) : Int := if validR r then encE (linR r) else 1
def rNum (r : Rt) : Prop := (0 ≤ r.v ∧ r.v ≤ maxN) ∧ (0 ≤ r.e ∧ r.e ≤ maxN) ∧ (∀ q ∈ r.q, 0 ≤ q.n ∧ q.n ≤ 32) ∧ (∀ k ∈ r.k, (0 ≤ k.p.h ∧ k.p.h ≤ 6) ∧ (0 ≤ k.fr ∧ k.fr ≤ maxN) ∧ (0 ≤ k.un ∧ k.un ≤ maxN)) ∧ ∀ x ∈ r.x, 0 ≤ x.t ∧ x.t ≤ maxN
theorem inN_iff {n : Int} (h : inN n = true) : 0 ≤ n ∧ n ≤ maxN := by unfold inN at h; simpa using h
theorem rNum_of_valid {r : Rt} (h : validR r = true) : rNum r := by
  unfold validR quotasB keysB revsB at h
  simp only [Bool.and_eq_true, decide_eq_true_eq, List.all_eq_true] at h
  obtain ⟨⟨v1, v2⟩, he, ⟨hq1, -, hq2⟩, ⟨hk1, -, hk2⟩, ⟨hx1, -, hx⟩, hn1, hn2⟩ := h
  refine ⟨⟨by omega, v2⟩, inN_iff he, fun q hq => ?_, fun k hk => ?_, fun x hx => inN_iff (hx1 x hx)⟩
  · have := hq1 q hq
    unfold quotaB at this
    simp only [Bool.and_eq_true, decide_eq_true_eq] at this
    omega
  · have := hk1 k hk
    unfold keyB at this
    simp only [Bool.and_eq_true, decide_eq_true_eq] at this
    obtain ⟨h1, h2, h3, h4, h5, h6, h7⟩ := this
    exact ⟨h1, inN_iff h5, inN_iff h6⟩
theorem maxN_val : maxN = 1099511627776 := rfl
theorem linR_ok {r : Rt} (h : validR r = true) : (linR r).length < 2 ^ 40 ∧ ∀ l ∈ linR r, l.length < 2 ^ 40 := by
  obtain ⟨⟨⟨q1, q2⟩, ⟨k1, k2⟩, x1⟩, -, -, x2⟩ := rMid_of_valid h
  constructor
  · simp only [linR, List.length_append, List.length_map, List.length_cons, List.length_nil]; omega
  · intro l hl
    simp only [linR, List.mem_append, List.mem_map, List.mem_singleton] at hl
    rcases hl with ((rfl | ⟨q, hq, rfl⟩) | ⟨k, hk, rfl⟩) | ⟨x, hx, rfl⟩
    · simp [linH]
    · simp [linQ]
    · have := (k2 k hk).2.1
      simp [linK]; omega
    · simp [linX]
end Go.Pl

namespace Go.Proofs.YtenbfeemmpjdhaaGreatDoor
open Go Go.Hl Go.Pl
set_option maxRecDepth 10000
set_option maxHeartbeats 2000000
set_option linter.unusedSimpArgs false
set_option linter.unusedVariables false
def tp (L : List Int) (a : Nat) : CV := .agg [.slc (L.map (.int .i64)), .int .i64 a]
attribute [local simp] tp

theorem next_ok (L : List Int) (a : Nat) (n : Int) (ha : a < 2 ^ 40) (hn : n < 2 ^ 40) : HBox Tryz.prog 16 39 (tp L a) [.int .i64 n] (fun u v' => ∃ (x : Int) (a' : Nat), u = .int .i64 x ∧ v' = tp L a' ∧ a' ≤ a + 1 ∧ 0 ≤ x ∧ (n < 1 → x = 0) ∧ (1 ≤ n → x < n)) := by
 refine hfn_walk Tryz.func16 rfl (by kernel_rfl) (locOk_box _ _ _) (Nat.le_of_ble_eq_true rfl) ?_
 refine R0 ?_
 refine hw_seq fun K hK => ?_
 refine R0 ?_
 refine hw_cond (b := decide (n < 1)) rfl (fun hb => ?_) (fun hb => ?_)
 ·
  refine R0 ?_
  refine hw_ret ?_
  simp only [hpost, Tryz.results16, hresL, hres1, tupOf, ↓sP, sA, tyS, simprocAttr]
  refine hret_box [] (.int .i64 0) (tp L a) rfl rfl ?_ (by simp) ⟨0, a, rfl, rfl, by omega, by omega, fun _ => rfl, fun h => by omega⟩
  simp [HV.close, tp, CV.denil, CV.denilL, denilL_int, HV.norm, HV.toC]
 refine hw_skip ?_
 refine T0 (hK _ _ _ ?_)
 clear hK K
 refine hw_seq fun K hK => hw_region (by kernel_rfl) ?_
 simp only [sR, simprocAttr]
 iterate 7 refine S0 ?_ (e := fun K_ h_ => by simp only [sH, ↓sP, sA, tyS, simprocAttr, tp]; exact AX h_)
 refine T2 (hK _ _ _ ?_)
 clear hK K
 refine hw_seq fun K hK => ?_
 have key : ∀ (v : Int) fr ob nx, Fits 1 fr ob (fin [(0, .ptr 0 0), (1, .c (.int .i64 n)), (5, .c (.int .i64 v))]) (fob [(0, .box 39 (.c (tp L a)))]) 300 → K fr ob nx := by
  intro v fr ob nx hf
  refine hK _ _ _ (hw_fits hf ?_)
  clear hf hK K
  have hn1 : 1 ≤ n := by simp at hb; omega
  have e0 := Int.tmod_lt_of_pos v (b := n) (by omega)
  have e1 : -n < v.tmod n := Int.lt_tmod_of_pos v (by omega)
  refine hw_seq fun K hK => hw_region (by kernel_rfl) ?_
  simp only [sR, simprocAttr]
  iterate 8 refine S0 ?_ (e := fun K_ h_ => by simp only [sH, ↓sP, sA, tyS, simprocAttr, tp]; exact AX h_)
  refine T2 (hK _ _ _ ?_)
  clear hK K
  refine hw_seq fun K hK => hw_region (by kernel_rfl) ?_
  simp only [sR, simprocAttr]
  iterate 8 refine S0 ?_ (e := fun K_ h_ => by simp only [sH, ↓sP, sA, tyS, simprocAttr, tp]; exact AX h_)
  refine T2 (hK _ _ _ ?_)
  clear hK K
  refine hw_ret ?_
  simp only [hpost, Tryz.results16, hresL, hres1, tupOf, ↓sP, sA, tyS, simprocAttr]
  have e2 : IntKind.i64.wrap (v.tmod n + n) = v.tmod n + n := IntWalk.i64_in _ (by omega)
  have e3 : IntKind.i64.wrap ((a : Int) + 1) = ((a + 1 : Nat) : Int) := IntWalk.i64_in _ (by omega)
  refine hret_box [] (.int .i64 ((v.tmod n + n).tmod n)) (tp L (a + 1)) (by rw [e2]; rfl) rfl ?_ (by simp) ⟨_, a + 1, rfl, rfl, by omega, Int.tmod_nonneg _ (by omega), fun h => by omega, fun _ => Int.tmod_lt_of_pos _ (by omega)⟩
  simp [HV.close, HV.closeL, tp, CV.denil, CV.denilL, denilL_int, HV.norm, HV.toC, HV.toCL, e3]
 refine hw_seq fun K hK => hw_quiet mixed (by kernel_rfl) (by kernel_rfl) (by kernel_rfl) ?_
 simp only [sR, simprocAttr]
 iterate 10 refine S0 ?_ (e := fun K_ h_ => by simp only [sH, ↓sP, sA, tyS, simprocAttr, tp]; exact AX h_)
 refine T2 (hK _ _ _ ?_)
 clear hK K
 refine hw_cond (b := decide ((a : Int) < L.length)) rfl (fun hb => ?_) (fun hb => ?_)
 ·
  refine hw_quiet mixed (by kernel_rfl) (by kernel_rfl) (by kernel_rfl) ?_
  simp only [sR, simprocAttr]
  iterate 11 refine S0 ?_ (e := fun K_ h_ => by simp only [sH, ↓sP, sA, tyS, simprocAttr, tp, Int.natCast_nonneg, (by simpa using hb : (a : Int) < L.length), nth_map (show a < L.length by simpa using hb)]; exact AX h_)
  simp only [sE, ↓reduceIte, simprocAttr]
  exact key (L[a]'(by simpa using hb)) _ _ _ (fF)
 refine hw_skip ?_
 simp only [↓sP, sA, tyS, simprocAttr]
 exact key (IntKind.i64.wrap (IntKind.i64.wrap (↑a * 7) + 3)) _ _ _ (fF)



theorem bcmp0_ok (a b : List UInt8) : HPure Tryz.prog 135 [.slc (a.map u8), .slc (b.map u8)] (fun v => v = .int .i64 (cmpB a b)) :=
 compare_ok (f := 135) (fn := Tryz.f135) Tryz.func135 (by kernel_rfl) (by kernel_rfl) (by kernel_rfl) (by kernel_rfl) a b

theorem bcmp_ok (a b : List UInt8) : HPure Tryz.prog 114 [.slc (a.map u8), .slc (b.map u8)] (fun v => v = .int .i64 (cmpB a b)) := by
 refine hfn_walk Tryz.func114 rfl (by kernel_rfl) (locOk_nil _) (Nat.le_of_ble_eq_true rfl) ?_
 refine R0 ?_
 refine hw_seq fun K hK => hw_region (by kernel_rfl) ?_
 simp only [sR, simprocAttr]
 iterate 2 refine S0 ?_ (e := fun K_ h_ => by simp only [sH, ↓sP, sA, tyS, simprocAttr, denilL_u8]; exact AX h_)
 refine hlex_step (g := none) rfl rfl fun K' hK' => ?_
 simp only [sH, ↓sP, sA, tyS, simprocAttr, denilL_u8]
 refine call_pure (args := [_, _]) (bcmp0_ok a b) ⟨rfl, rfl, rfl, rfl⟩ ?_
 rintro u rfl
 refine AX (hK' _ _ ?_)
 clear hK' K'
 refine S0 ?_ (e := fun K_ h_ => by simp only [sH, ↓sP, sA, tyS, simprocAttr, denilL_u8]; exact AX h_)
 refine T2 (hK _ _ _ ?_)
 clear hK K
 refine hw_ret ?_
 simp only [hpost, Tryz.results114, hresL, hres1, tupOf, ↓sP, sA, tyS, simprocAttr]
 exact hret_pure [] (.int .i64 _) rfl rfl


theorem order_ok (a b : Dig) : HPure Tryz.prog 80 [dg a, dg b] (fun v => v = .int .i64 (cmpB a.1 b.1)) := by
 refine hfn_walk Tryz.func80 rfl (by kernel_rfl) (locOk_nil _) (Nat.le_of_ble_eq_true rfl) ?_
 refine R0 ?_
 refine hw_freeze 2 0 rfl rfl ?_
 refine hw_freeze 3 4 rfl rfl ?_
 refine hw_seq fun K hK => hw_draw2 mixed [(0, [], []), (1, [], []), (2, [], []), (3, [], [])] [0, 0, 3, 7] (by kernel_rfl) (by kernel_rfl) (by kernel_rfl) (by kernel_rfl) rfl (by kernel_rfl) ?_
 iterate 2 refine W0 ?_ (e := fun K_ h_ => by simp only [sH, ↓sP, sA, tyS, simprocAttr, dg_us, cells_u8, a.2, b.2, denilL_u8, List.drop_zero, dg_take]; exact AX h_)
 refine hwalk2_step (g := none) rfl rfl fun K' hK' => ?_
 simp only [sH, ↓sP, sA, tyS, simprocAttr, dg_us, cells_u8, a.2, b.2, denilL_u8, List.drop_zero, dg_take]
 refine call_pure (args := [_, _]) (bcmp_ok a.1 b.1) ⟨rfl, rfl, rfl, rfl⟩ ?_
 rintro u rfl
 refine AX (hK' _ _ ?_)
 clear hK' K'
 refine W0 ?_ (e := fun K_ h_ => by simp only [sH, ↓sP, sA, tyS, simprocAttr, dg_us, cells_u8, a.2, b.2, denilL_u8, List.drop_zero, dg_take]; exact AX h_)
 refine T2 (hK _ _ _ ?_)
 clear hK K
 refine hw_ret ?_
 simp only [hpost, Tryz.results80, hresL, hres1, tupOf, ↓sP, sA, tyS, simprocAttr]
 exact hret_pure [] (.int .i64 _) rfl rfl


theorem rname_ok (s : Word) (hl : s.length < 2 ^ 63) : HPure Tryz.prog 39 [.str s] (fun v => v = .bool (nameB s)) := by
 refine hfn_walk Tryz.func39 rfl (by kernel_rfl) (locOk_nil _) (Nat.le_of_ble_eq_true rfl) ?_
 refine R0 ?_
 refine hw_seq fun K hK => ?_
 refine hw_seq fun K hK => ?_
 have key : ∀ (b : Bool) fr ob nx, b = badHead s → Fits 0 fr ob (fin [(0, .c (.str s)), (26, .c (.bool b))]) (fob []) 600 → K fr ob nx := by
  rintro b fr ob nx rfl hf
  refine hK _ _ _ (hw_fits hf ?_)
  clear hf hK K
  refine hw_cond (b := badHead s) rfl (fun hb => ?_) (fun hb => ?_)
  ·
   refine R0 ?_
   refine hw_ret ?_
   simp only [hpost, Tryz.results39, hresL, hres1, tupOf, ↓sP, sA, tyS, simprocAttr]
   exact hret_pure [] (.bool false) rfl (by rw [nameB_head hb])
  refine hw_skip ?_
  refine T0 (hK _ _ _ ?_)
  clear hK K
  refine hw_seq fun K hK => ?_
  refine R0 ?_
  refine hw_block ?_
  have hbad := hb
  refine hw_loop (α := {i : Nat // i ≤ s.length ∧ ∀ j (_ : j < i) (h : j < s.length), (alZ s[j] || puZ s[j]) = true}) (fun i => (fin [(0, .c (.str s)), (3, .c (.int .i64 i.1))], fob [])) 100 (fun i => s.length - i.1) ⟨0, by omega, fun j h => by omega⟩ (fF) ?_
  clear hb
  rintro ⟨i, hi, h0⟩
  refine hw_seq fun K hK => ?_
  refine hw_seq fun K hK => hw_region (by kernel_rfl) ?_
  simp only [sR, simprocAttr]
  iterate 4 refine S0 ?_
  refine T2 (hK _ _ _ ?_)
  clear hK K
  refine hw_cond (b := decide ((i : Int) < s.length)) rfl (fun hb => ?_) (fun hb => ?_)
  ·
   have hlt : i < s.length := by simpa using hb
   have hgd : s.getD i 0 = s[i] := by simp [hlt]
   refine hw_skip ?_
   refine T0 (hK _ _ _ ?_)
   clear hK K
   refine hw_seq fun K hK => ?_
   refine hw_block ?_
   refine hw_seq fun K hK => hw_region (by kernel_rfl) ?_
   simp only [sR, simprocAttr]
   iterate 4 refine S0 ?_ (e := fun K_ h_ => by simp only [sH, ↓sP, sA, tyS, simprocAttr, Int.natCast_nonneg, Int.ofNat_lt, hlt, hgd]; exact AX h_)
   refine T2 (hK _ _ _ ?_)
   clear hK K
   refine hw_seq fun K hK => ?_
   have key : ∀ (b : Bool) fr ob nx, b = (!(alZ s[i] || puZ s[i])) → Fits 0 fr ob (fin [(0, .c (.str s)), (3, .c (.int .i64 i)), (62, .c (.bool b))]) (fob []) 600 → K fr ob nx := by
    rintro b fr ob nx rfl hf
    refine hK _ _ _ (hw_fits hf ?_)
    clear hf hK K
    refine hw_cond (b := !(alZ s[i] || puZ s[i])) rfl (fun hb => ?_) (fun hb => ?_)
    ·
     refine R0 ?_
     refine hw_ret ?_
     simp only [hpost, Tryz.results39, hresL, hres1, tupOf, ↓sP, sA, tyS, simprocAttr]
     exact hret_pure [] (.bool false) rfl (by rw [nameB_char hlt (by simpa using hb)])
    refine hw_skip ?_
    refine T0 (hK _ _ _ ?_)
    clear hK K
    refine hw_region (by kernel_rfl) ?_
    simp only [↓sP, sA, tyS, simprocAttr, i64s i]
    refine ⟨⟨i + 1, hlt, fun j hj h' => ?_⟩, fF, ?_⟩
    ·
     rcases Nat.lt_or_ge j i with h1 | h1
     ·
      exact h0 j h1 h'
     have : j = i := by omega
     subst this
     rw [Bool.not_eq_false'] at hb
     exact hb
    show s.length - (i + 1) < s.length - i
    omega
   refine hw_region (by kernel_rfl) ?_
   simp only [sR, simprocAttr]
   iterate 3 refine S0 ?_
   refine hlex_cases 37 rfl (fun h7_37 => ?_) (fun h7_37 => ?_)
   ·
    iterate 2 refine S0 ?_ (e := fun K_ h_ => by simp only [sH, ↓sP, sA, tyS, simprocAttr, h7_37]; exact AX h_)
    iterate 2 refine S0 ?_ (e := fun K_ h_ => by simp only [sH, ↓sP, sA, tyS, simprocAttr, h7_37]; exact AX h_)
    refine hlex_cases 40 rfl (fun h7_40 => ?_) (fun h7_40 => ?_)
    ·
     iterate 3 refine S0 ?_ (e := fun K_ h_ => by simp only [sH, ↓sP, sA, tyS, simprocAttr, h7_37, h7_40]; exact AX h_)
     iterate 2 refine S0 ?_ (e := fun K_ h_ => by simp only [sH, ↓sP, sA, tyS, simprocAttr, h7_37, h7_40]; exact AX h_)
     refine S0 ?_ (e := fun K_ h_ => by simp only [sH, ↓sP, sA, tyS, simprocAttr, h7_37, h7_40]; exact AX h_)
     iterate 2 refine S0 ?_ (e := fun K_ h_ => by simp only [sH, ↓sP, sA, tyS, simprocAttr, h7_37, h7_40]; exact AX h_)
     iterate 2 refine S0 ?_ (e := fun K_ h_ => by simp only [sH, ↓sP, sA, tyS, simprocAttr, h7_37, h7_40]; exact AX h_)
     iterate 2 refine S0 ?_ (e := fun K_ h_ => by simp only [sH, ↓sP, sA, tyS, simprocAttr, h7_37, h7_40]; exact AX h_)
     iterate 2 refine S0 ?_ (e := fun K_ h_ => by simp only [sH, ↓sP, sA, tyS, simprocAttr, h7_37, h7_40]; exact AX h_)
     iterate 2 refine S0 ?_ (e := fun K_ h_ => by simp only [sH, ↓sP, sA, tyS, simprocAttr, h7_37, h7_40]; exact AX h_)
     iterate 2 refine S0 ?_ (e := fun K_ h_ => by simp only [sH, ↓sP, sA, tyS, simprocAttr, h7_37, h7_40]; exact AX h_)
     iterate 2 refine S0 ?_ (e := fun K_ h_ => by simp only [sH, ↓sP, sA, tyS, simprocAttr, h7_37, h7_40]; exact AX h_)
     simp only [sE, ↓reduceIte, simprocAttr]
     exact key false _ _ _ (by simp only [alZ, puZ, h7_37, h7_40, Bool.and_true, Bool.and_false, Bool.true_and, Bool.false_and, Bool.or_true, Bool.true_or, Bool.false_or, Bool.or_false, Bool.and_self, Bool.or_self, Bool.not_true, Bool.not_false]) (fF)
    iterate 3 refine S0 ?_ (e := fun K_ h_ => by simp only [sH, ↓sP, sA, tyS, simprocAttr, h7_37, h7_40]; exact AX h_)
    refine hlex_cases 44 rfl (fun h7_44 => ?_) (fun h7_44 => ?_)
    ·
     iterate 2 refine S0 ?_ (e := fun K_ h_ => by simp only [sH, ↓sP, sA, tyS, simprocAttr, h7_37, h7_40, h7_44]; exact AX h_)
     refine S0 ?_ (e := fun K_ h_ => by simp only [sH, ↓sP, sA, tyS, simprocAttr, h7_37, h7_40, h7_44]; exact AX h_)
     iterate 2 refine S0 ?_ (e := fun K_ h_ => by simp only [sH, ↓sP, sA, tyS, simprocAttr, h7_37, h7_40, h7_44]; exact AX h_)
     refine hlex_cases 47 rfl (fun h7_47 => ?_) (fun h7_47 => ?_)
     ·
      iterate 2 refine S0 ?_ (e := fun K_ h_ => by simp only [sH, ↓sP, sA, tyS, simprocAttr, h7_37, h7_40, h7_44, h7_47]; exact AX h_)
      iterate 2 refine S0 ?_ (e := fun K_ h_ => by simp only [sH, ↓sP, sA, tyS, simprocAttr, h7_37, h7_40, h7_44, h7_47]; exact AX h_)
      iterate 2 refine S0 ?_ (e := fun K_ h_ => by simp only [sH, ↓sP, sA, tyS, simprocAttr, h7_37, h7_40, h7_44, h7_47]; exact AX h_)
      iterate 2 refine S0 ?_ (e := fun K_ h_ => by simp only [sH, ↓sP, sA, tyS, simprocAttr, h7_37, h7_40, h7_44, h7_47]; exact AX h_)
      iterate 2 refine S0 ?_ (e := fun K_ h_ => by simp only [sH, ↓sP, sA, tyS, simprocAttr, h7_37, h7_40, h7_44, h7_47]; exact AX h_)
      iterate 2 refine S0 ?_ (e := fun K_ h_ => by simp only [sH, ↓sP, sA, tyS, simprocAttr, h7_37, h7_40, h7_44, h7_47]; exact AX h_)
      simp only [sE, ↓reduceIte, simprocAttr]
      exact key false _ _ _ (by simp only [alZ, puZ, h7_37, h7_40, h7_44, h7_47, Bool.and_true, Bool.and_false, Bool.true_and, Bool.false_and, Bool.or_true, Bool.true_or, Bool.false_or, Bool.or_false, Bool.and_self, Bool.or_self, Bool.not_true, Bool.not_false]) (fF)
     iterate 2 refine S0 ?_ (e := fun K_ h_ => by simp only [sH, ↓sP, sA, tyS, simprocAttr, h7_37, h7_40, h7_44, h7_47]; exact AX h_)
     iterate 2 refine S0 ?_ (e := fun K_ h_ => by simp only [sH, ↓sP, sA, tyS, simprocAttr, h7_37, h7_40, h7_44, h7_47]; exact AX h_)
     refine hlex_cases 52 rfl (fun h7_52 => ?_) (fun h7_52 => ?_)
     ·
      iterate 2 refine S0 ?_ (e := fun K_ h_ => by simp only [sH, ↓sP, sA, tyS, simprocAttr, h7_37, h7_40, h7_44, h7_47, h7_52]; exact AX h_)
      iterate 2 refine S0 ?_ (e := fun K_ h_ => by simp only [sH, ↓sP, sA, tyS, simprocAttr, h7_37, h7_40, h7_44, h7_47, h7_52]; exact AX h_)
      iterate 2 refine S0 ?_ (e := fun K_ h_ => by simp only [sH, ↓sP, sA, tyS, simprocAttr, h7_37, h7_40, h7_44, h7_47, h7_52]; exact AX h_)
      iterate 2 refine S0 ?_ (e := fun K_ h_ => by simp only [sH, ↓sP, sA, tyS, simprocAttr, h7_37, h7_40, h7_44, h7_47, h7_52]; exact AX h_)
      simp only [sE, ↓reduceIte, simprocAttr]
      exact key false _ _ _ (by simp only [alZ, puZ, h7_37, h7_40, h7_44, h7_47, h7_52, Bool.and_true, Bool.and_false, Bool.true_and, Bool.false_and, Bool.or_true, Bool.true_or, Bool.false_or, Bool.or_false, Bool.and_self, Bool.or_self, Bool.not_true, Bool.not_false]) (fF)
     iterate 2 refine S0 ?_ (e := fun K_ h_ => by simp only [sH, ↓sP, sA, tyS, simprocAttr, h7_37, h7_40, h7_44, h7_47, h7_52]; exact AX h_)
     iterate 2 refine S0 ?_ (e := fun K_ h_ => by simp only [sH, ↓sP, sA, tyS, simprocAttr, h7_37, h7_40, h7_44, h7_47, h7_52]; exact AX h_)
     refine hlex_cases 56 rfl (fun h7_56 => ?_) (fun h7_56 => ?_)
     ·
      iterate 2 refine S0 ?_ (e := fun K_ h_ => by simp only [sH, ↓sP, sA, tyS, simprocAttr, h7_37, h7_40, h7_44, h7_47, h7_52, h7_56]; exact AX h_)
      iterate 2 refine S0 ?_ (e := fun K_ h_ => by simp only [sH, ↓sP, sA, tyS, simprocAttr, h7_37, h7_40, h7_44, h7_47, h7_52, h7_56]; exact AX h_)
      simp only [sE, ↓reduceIte, simprocAttr]
      exact key false _ _ _ (by simp only [alZ, puZ, h7_37, h7_40, h7_44, h7_47, h7_52, h7_56, Bool.and_true, Bool.and_false, Bool.true_and, Bool.false_and, Bool.or_true, Bool.true_or, Bool.false_or, Bool.or_false, Bool.and_self, Bool.or_self, Bool.not_true, Bool.not_false]) (fF)
     iterate 2 refine S0 ?_ (e := fun K_ h_ => by simp only [sH, ↓sP, sA, tyS, simprocAttr, h7_37, h7_40, h7_44, h7_47, h7_52, h7_56]; exact AX h_)
     iterate 2 refine S0 ?_ (e := fun K_ h_ => by simp only [sH, ↓sP, sA, tyS, simprocAttr, h7_37, h7_40, h7_44, h7_47, h7_52, h7_56]; exact AX h_)
     refine hlex_cases 60 rfl (fun h7_60 => ?_) (fun h7_60 => ?_)
     ·
      simp only [h7_60]
      simp only [sE, ↓reduceIte, simprocAttr]
      exact key false _ _ _ (by simp only [alZ, puZ, h7_37, h7_40, h7_44, h7_47, h7_52, h7_56, h7_60, Bool.and_true, Bool.and_false, Bool.true_and, Bool.false_and, Bool.or_true, Bool.true_or, Bool.false_or, Bool.or_false, Bool.and_self, Bool.or_self, Bool.not_true, Bool.not_false]) (fF)
     simp only [h7_60]
     simp only [sE, ↓reduceIte, simprocAttr]
     exact key true _ _ _ (by simp only [alZ, puZ, h7_37, h7_40, h7_44, h7_47, h7_52, h7_56, h7_60, Bool.and_true, Bool.and_false, Bool.true_and, Bool.false_and, Bool.or_true, Bool.true_or, Bool.false_or, Bool.or_false, Bool.and_self, Bool.or_self, Bool.not_true, Bool.not_false]) (fF)
    iterate 2 refine S0 ?_ (e := fun K_ h_ => by simp only [sH, ↓sP, sA, tyS, simprocAttr, h7_37, h7_40, h7_44]; exact AX h_)
    refine S0 ?_ (e := fun K_ h_ => by simp only [sH, ↓sP, sA, tyS, simprocAttr, h7_37, h7_40, h7_44]; exact AX h_)
    iterate 2 refine S0 ?_ (e := fun K_ h_ => by simp only [sH, ↓sP, sA, tyS, simprocAttr, h7_37, h7_40, h7_44]; exact AX h_)
    iterate 2 refine S0 ?_ (e := fun K_ h_ => by simp only [sH, ↓sP, sA, tyS, simprocAttr, h7_37, h7_40, h7_44]; exact AX h_)
    iterate 2 refine S0 ?_ (e := fun K_ h_ => by simp only [sH, ↓sP, sA, tyS, simprocAttr, h7_37, h7_40, h7_44]; exact AX h_)
    refine hlex_cases 52 rfl (fun h7_52 => ?_) (fun h7_52 => ?_)
    ·
     iterate 2 refine S0 ?_ (e := fun K_ h_ => by simp only [sH, ↓sP, sA, tyS, simprocAttr, h7_37, h7_40, h7_44, h7_52]; exact AX h_)
     iterate 2 refine S0 ?_ (e := fun K_ h_ => by simp only [sH, ↓sP, sA, tyS, simprocAttr, h7_37, h7_40, h7_44, h7_52]; exact AX h_)
     iterate 2 refine S0 ?_ (e := fun K_ h_ => by simp only [sH, ↓sP, sA, tyS, simprocAttr, h7_37, h7_40, h7_44, h7_52]; exact AX h_)
     iterate 2 refine S0 ?_ (e := fun K_ h_ => by simp only [sH, ↓sP, sA, tyS, simprocAttr, h7_37, h7_40, h7_44, h7_52]; exact AX h_)
     simp only [sE, ↓reduceIte, simprocAttr]
     exact key false _ _ _ (by simp only [alZ, puZ, h7_37, h7_40, h7_44, h7_52, Bool.and_true, Bool.and_false, Bool.true_and, Bool.false_and, Bool.or_true, Bool.true_or, Bool.false_or, Bool.or_false, Bool.and_self, Bool.or_self, Bool.not_true, Bool.not_false]) (fF)
    iterate 2 refine S0 ?_ (e := fun K_ h_ => by simp only [sH, ↓sP, sA, tyS, simprocAttr, h7_37, h7_40, h7_44, h7_52]; exact AX h_)
    iterate 2 refine S0 ?_ (e := fun K_ h_ => by simp only [sH, ↓sP, sA, tyS, simprocAttr, h7_37, h7_40, h7_44, h7_52]; exact AX h_)
    refine hlex_cases 56 rfl (fun h7_56 => ?_) (fun h7_56 => ?_)
    ·
     iterate 2 refine S0 ?_ (e := fun K_ h_ => by simp only [sH, ↓sP, sA, tyS, simprocAttr, h7_37, h7_40, h7_44, h7_52, h7_56]; exact AX h_)
     iterate 2 refine S0 ?_ (e := fun K_ h_ => by simp only [sH, ↓sP, sA, tyS, simprocAttr, h7_37, h7_40, h7_44, h7_52, h7_56]; exact AX h_)
     simp only [sE, ↓reduceIte, simprocAttr]
     exact key false _ _ _ (by simp only [alZ, puZ, h7_37, h7_40, h7_44, h7_52, h7_56, Bool.and_true, Bool.and_false, Bool.true_and, Bool.false_and, Bool.or_true, Bool.true_or, Bool.false_or, Bool.or_false, Bool.and_self, Bool.or_self, Bool.not_true, Bool.not_false]) (fF)
    iterate 2 refine S0 ?_ (e := fun K_ h_ => by simp only [sH, ↓sP, sA, tyS, simprocAttr, h7_37, h7_40, h7_44, h7_52, h7_56]; exact AX h_)
    iterate 2 refine S0 ?_ (e := fun K_ h_ => by simp only [sH, ↓sP, sA, tyS, simprocAttr, h7_37, h7_40, h7_44, h7_52, h7_56]; exact AX h_)
    refine hlex_cases 60 rfl (fun h7_60 => ?_) (fun h7_60 => ?_)
    ·
     simp only [h7_60]
     simp only [sE, ↓reduceIte, simprocAttr]
     exact key false _ _ _ (by simp only [alZ, puZ, h7_37, h7_40, h7_44, h7_52, h7_56, h7_60, Bool.and_true, Bool.and_false, Bool.true_and, Bool.false_and, Bool.or_true, Bool.true_or, Bool.false_or, Bool.or_false, Bool.and_self, Bool.or_self, Bool.not_true, Bool.not_false]) (fF)
    simp only [h7_60]
    simp only [sE, ↓reduceIte, simprocAttr]
    exact key true _ _ _ (by simp only [alZ, puZ, h7_37, h7_40, h7_44, h7_52, h7_56, h7_60, Bool.and_true, Bool.and_false, Bool.true_and, Bool.false_and, Bool.or_true, Bool.true_or, Bool.false_or, Bool.or_false, Bool.and_self, Bool.or_self, Bool.not_true, Bool.not_false]) (fF)
   iterate 2 refine S0 ?_ (e := fun K_ h_ => by simp only [sH, ↓sP, sA, tyS, simprocAttr, h7_37]; exact AX h_)
   iterate 2 refine S0 ?_ (e := fun K_ h_ => by simp only [sH, ↓sP, sA, tyS, simprocAttr, h7_37]; exact AX h_)
   iterate 3 refine S0 ?_ (e := fun K_ h_ => by simp only [sH, ↓sP, sA, tyS, simprocAttr, h7_37]; exact AX h_)
   refine hlex_cases 44 rfl (fun h7_44 => ?_) (fun h7_44 => ?_)
   ·
    iterate 2 refine S0 ?_ (e := fun K_ h_ => by simp only [sH, ↓sP, sA, tyS, simprocAttr, h7_37, h7_44]; exact AX h_)
    refine S0 ?_ (e := fun K_ h_ => by simp only [sH, ↓sP, sA, tyS, simprocAttr, h7_37, h7_44]; exact AX h_)
    iterate 2 refine S0 ?_ (e := fun K_ h_ => by simp only [sH, ↓sP, sA, tyS, simprocAttr, h7_37, h7_44]; exact AX h_)
    refine hlex_cases 47 rfl (fun h7_47 => ?_) (fun h7_47 => ?_)
    ·
     iterate 2 refine S0 ?_ (e := fun K_ h_ => by simp only [sH, ↓sP, sA, tyS, simprocAttr, h7_37, h7_44, h7_47]; exact AX h_)
     iterate 2 refine S0 ?_ (e := fun K_ h_ => by simp only [sH, ↓sP, sA, tyS, simprocAttr, h7_37, h7_44, h7_47]; exact AX h_)
     iterate 2 refine S0 ?_ (e := fun K_ h_ => by simp only [sH, ↓sP, sA, tyS, simprocAttr, h7_37, h7_44, h7_47]; exact AX h_)
     iterate 2 refine S0 ?_ (e := fun K_ h_ => by simp only [sH, ↓sP, sA, tyS, simprocAttr, h7_37, h7_44, h7_47]; exact AX h_)
     iterate 2 refine S0 ?_ (e := fun K_ h_ => by simp only [sH, ↓sP, sA, tyS, simprocAttr, h7_37, h7_44, h7_47]; exact AX h_)
     iterate 2 refine S0 ?_ (e := fun K_ h_ => by simp only [sH, ↓sP, sA, tyS, simprocAttr, h7_37, h7_44, h7_47]; exact AX h_)
     simp only [sE, ↓reduceIte, simprocAttr]
     exact key false _ _ _ (by simp only [alZ, puZ, h7_37, h7_44, h7_47, Bool.and_true, Bool.and_false, Bool.true_and, Bool.false_and, Bool.or_true, Bool.true_or, Bool.false_or, Bool.or_false, Bool.and_self, Bool.or_self, Bool.not_true, Bool.not_false]) (fF)
    iterate 2 refine S0 ?_ (e := fun K_ h_ => by simp only [sH, ↓sP, sA, tyS, simprocAttr, h7_37, h7_44, h7_47]; exact AX h_)
    iterate 2 refine S0 ?_ (e := fun K_ h_ => by simp only [sH, ↓sP, sA, tyS, simprocAttr, h7_37, h7_44, h7_47]; exact AX h_)
    refine hlex_cases 52 rfl (fun h7_52 => ?_) (fun h7_52 => ?_)
    ·
     iterate 2 refine S0 ?_ (e := fun K_ h_ => by simp only [sH, ↓sP, sA, tyS, simprocAttr, h7_37, h7_44, h7_47, h7_52]; exact AX h_)
     iterate 2 refine S0 ?_ (e := fun K_ h_ => by simp only [sH, ↓sP, sA, tyS, simprocAttr, h7_37, h7_44, h7_47, h7_52]; exact AX h_)
     iterate 2 refine S0 ?_ (e := fun K_ h_ => by simp only [sH, ↓sP, sA, tyS, simprocAttr, h7_37, h7_44, h7_47, h7_52]; exact AX h_)
     iterate 2 refine S0 ?_ (e := fun K_ h_ => by simp only [sH, ↓sP, sA, tyS, simprocAttr, h7_37, h7_44, h7_47, h7_52]; exact AX h_)
     simp only [sE, ↓reduceIte, simprocAttr]
     exact key false _ _ _ (by simp only [alZ, puZ, h7_37, h7_44, h7_47, h7_52, Bool.and_true, Bool.and_false, Bool.true_and, Bool.false_and, Bool.or_true, Bool.true_or, Bool.false_or, Bool.or_false, Bool.and_self, Bool.or_self, Bool.not_true, Bool.not_false]) (fF)
    iterate 2 refine S0 ?_ (e := fun K_ h_ => by simp only [sH, ↓sP, sA, tyS, simprocAttr, h7_37, h7_44, h7_47, h7_52]; exact AX h_)
    iterate 2 refine S0 ?_ (e := fun K_ h_ => by simp only [sH, ↓sP, sA, tyS, simprocAttr, h7_37, h7_44, h7_47, h7_52]; exact AX h_)
    refine hlex_cases 56 rfl (fun h7_56 => ?_) (fun h7_56 => ?_)
    ·
     iterate 2 refine S0 ?_ (e := fun K_ h_ => by simp only [sH, ↓sP, sA, tyS, simprocAttr, h7_37, h7_44, h7_47, h7_52, h7_56]; exact AX h_)
     iterate 2 refine S0 ?_ (e := fun K_ h_ => by simp only [sH, ↓sP, sA, tyS, simprocAttr, h7_37, h7_44, h7_47, h7_52, h7_56]; exact AX h_)
     simp only [sE, ↓reduceIte, simprocAttr]
     exact key false _ _ _ (by simp only [alZ, puZ, h7_37, h7_44, h7_47, h7_52, h7_56, Bool.and_true, Bool.and_false, Bool.true_and, Bool.false_and, Bool.or_true, Bool.true_or, Bool.false_or, Bool.or_false, Bool.and_self, Bool.or_self, Bool.not_true, Bool.not_false]) (fF)
    iterate 2 refine S0 ?_ (e := fun K_ h_ => by simp only [sH, ↓sP, sA, tyS, simprocAttr, h7_37, h7_44, h7_47, h7_52, h7_56]; exact AX h_)
    iterate 2 refine S0 ?_ (e := fun K_ h_ => by simp only [sH, ↓sP, sA, tyS, simprocAttr, h7_37, h7_44, h7_47, h7_52, h7_56]; exact AX h_)
    refine hlex_cases 60 rfl (fun h7_60 => ?_) (fun h7_60 => ?_)
    ·
     simp only [h7_60]
     simp only [sE, ↓reduceIte, simprocAttr]
     exact key false _ _ _ (by simp only [alZ, puZ, h7_37, h7_44, h7_47, h7_52, h7_56, h7_60, Bool.and_true, Bool.and_false, Bool.true_and, Bool.false_and, Bool.or_true, Bool.true_or, Bool.false_or, Bool.or_false, Bool.and_self, Bool.or_self, Bool.not_true, Bool.not_false]) (fF)
    simp only [h7_60]
    simp only [sE, ↓reduceIte, simprocAttr]
    exact key true _ _ _ (by simp only [alZ, puZ, h7_37, h7_44, h7_47, h7_52, h7_56, h7_60, Bool.and_true, Bool.and_false, Bool.true_and, Bool.false_and, Bool.or_true, Bool.true_or, Bool.false_or, Bool.or_false, Bool.and_self, Bool.or_self, Bool.not_true, Bool.not_false]) (fF)
   iterate 2 refine S0 ?_ (e := fun K_ h_ => by simp only [sH, ↓sP, sA, tyS, simprocAttr, h7_37, h7_44]; exact AX h_)
   refine S0 ?_ (e := fun K_ h_ => by simp only [sH, ↓sP, sA, tyS, simprocAttr, h7_37, h7_44]; exact AX h_)
   iterate 2 refine S0 ?_ (e := fun K_ h_ => by simp only [sH, ↓sP, sA, tyS, simprocAttr, h7_37, h7_44]; exact AX h_)
   iterate 2 refine S0 ?_ (e := fun K_ h_ => by simp only [sH, ↓sP, sA, tyS, simprocAttr, h7_37, h7_44]; exact AX h_)
   iterate 2 refine S0 ?_ (e := fun K_ h_ => by simp only [sH, ↓sP, sA, tyS, simprocAttr, h7_37, h7_44]; exact AX h_)
   refine hlex_cases 52 rfl (fun h7_52 => ?_) (fun h7_52 => ?_)
   ·
    iterate 2 refine S0 ?_ (e := fun K_ h_ => by simp only [sH, ↓sP, sA, tyS, simprocAttr, h7_37, h7_44, h7_52]; exact AX h_)
    iterate 2 refine S0 ?_ (e := fun K_ h_ => by simp only [sH, ↓sP, sA, tyS, simprocAttr, h7_37, h7_44, h7_52]; exact AX h_)
    iterate 2 refine S0 ?_ (e := fun K_ h_ => by simp only [sH, ↓sP, sA, tyS, simprocAttr, h7_37, h7_44, h7_52]; exact AX h_)
    iterate 2 refine S0 ?_ (e := fun K_ h_ => by simp only [sH, ↓sP, sA, tyS, simprocAttr, h7_37, h7_44, h7_52]; exact AX h_)
    simp only [sE, ↓reduceIte, simprocAttr]
    exact key false _ _ _ (by simp only [alZ, puZ, h7_37, h7_44, h7_52, Bool.and_true, Bool.and_false, Bool.true_and, Bool.false_and, Bool.or_true, Bool.true_or, Bool.false_or, Bool.or_false, Bool.and_self, Bool.or_self, Bool.not_true, Bool.not_false]) (fF)
   iterate 2 refine S0 ?_ (e := fun K_ h_ => by simp only [sH, ↓sP, sA, tyS, simprocAttr, h7_37, h7_44, h7_52]; exact AX h_)
   iterate 2 refine S0 ?_ (e := fun K_ h_ => by simp only [sH, ↓sP, sA, tyS, simprocAttr, h7_37, h7_44, h7_52]; exact AX h_)
   refine hlex_cases 56 rfl (fun h7_56 => ?_) (fun h7_56 => ?_)
   ·
    iterate 2 refine S0 ?_ (e := fun K_ h_ => by simp only [sH, ↓sP, sA, tyS, simprocAttr, h7_37, h7_44, h7_52, h7_56]; exact AX h_)
    iterate 2 refine S0 ?_ (e := fun K_ h_ => by simp only [sH, ↓sP, sA, tyS, simprocAttr, h7_37, h7_44, h7_52, h7_56]; exact AX h_)
    simp only [sE, ↓reduceIte, simprocAttr]
    exact key false _ _ _ (by simp only [alZ, puZ, h7_37, h7_44, h7_52, h7_56, Bool.and_true, Bool.and_false, Bool.true_and, Bool.false_and, Bool.or_true, Bool.true_or, Bool.false_or, Bool.or_false, Bool.and_self, Bool.or_self, Bool.not_true, Bool.not_false]) (fF)
   iterate 2 refine S0 ?_ (e := fun K_ h_ => by simp only [sH, ↓sP, sA, tyS, simprocAttr, h7_37, h7_44, h7_52, h7_56]; exact AX h_)
   iterate 2 refine S0 ?_ (e := fun K_ h_ => by simp only [sH, ↓sP, sA, tyS, simprocAttr, h7_37, h7_44, h7_52, h7_56]; exact AX h_)
   refine hlex_cases 60 rfl (fun h7_60 => ?_) (fun h7_60 => ?_)
   ·
    simp only [h7_60]
    simp only [sE, ↓reduceIte, simprocAttr]
    exact key false _ _ _ (by simp only [alZ, puZ, h7_37, h7_44, h7_52, h7_56, h7_60, Bool.and_true, Bool.and_false, Bool.true_and, Bool.false_and, Bool.or_true, Bool.true_or, Bool.false_or, Bool.or_false, Bool.and_self, Bool.or_self, Bool.not_true, Bool.not_false]) (fF)
   simp only [h7_60]
   simp only [sE, ↓reduceIte, simprocAttr]
   exact key true _ _ _ (by simp only [alZ, puZ, h7_37, h7_44, h7_52, h7_56, h7_60, Bool.and_true, Bool.and_false, Bool.true_and, Bool.false_and, Bool.or_true, Bool.true_or, Bool.false_or, Bool.or_false, Bool.and_self, Bool.or_self, Bool.not_true, Bool.not_false]) (fF)
  refine hw_exit ?_
  simp only [↓sP, sA, tyS, simprocAttr]
  clear hK K
  refine AX (hK _ _ _ ?_)
  clear hK K
  refine R0 ?_
  refine hw_ret ?_
  simp only [hpost, Tryz.results39, hresL, hres1, tupOf, ↓sP, sA, tyS, simprocAttr]
  have hei : i = s.length := by simp at hb; omega
  exact hret_pure [] (.bool true) rfl (by rw [nameB_ref hbad fun j h => h0 j (by omega) h])
 refine hw_region (by kernel_rfl) ?_
 simp only [sR, simprocAttr]
 iterate 3 refine S0 ?_ (e := fun K_ h_ => by simp only [sH, ↓sP, sA, tyS, simprocAttr, ne_nil]; exact AX h_)
 refine hlex_cases 6 rfl (fun h1_6 => ?_) (fun h1_6 => ?_)
 ·
  iterate 3 refine S0 ?_ (e := fun K_ h_ => by simp only [sH, ↓sP, sA, tyS, simprocAttr, ne_nil, h1_6]; exact AX h_)
  iterate 2 refine S0 ?_ (e := fun K_ h_ => by simp only [sH, ↓sP, sA, tyS, simprocAttr, ne_nil, h1_6]; exact AX h_)
  iterate 3 refine S0 ?_ (e := fun K_ h_ => by simp only [sH, ↓sP, sA, tyS, simprocAttr, ne_nil, h1_6]; exact AX h_)
  iterate 2 refine S0 ?_ (e := fun K_ h_ => by simp only [sH, ↓sP, sA, tyS, simprocAttr, ne_nil, h1_6]; exact AX h_)
  iterate 3 refine S0 ?_ (e := fun K_ h_ => by simp only [sH, ↓sP, sA, tyS, simprocAttr, ne_nil, h1_6]; exact AX h_)
  iterate 2 refine S0 ?_ (e := fun K_ h_ => by simp only [sH, ↓sP, sA, tyS, simprocAttr, ne_nil, h1_6]; exact AX h_)
  iterate 3 refine S0 ?_ (e := fun K_ h_ => by simp only [sH, ↓sP, sA, tyS, simprocAttr, ne_nil, h1_6]; exact AX h_)
  refine S0 ?_ (e := fun K_ h_ => by simp only [sH, ↓sP, sA, tyS, simprocAttr, ne_nil, h1_6]; exact AX h_)
  simp only [sE, ↓reduceIte, simprocAttr]
  exact key true _ _ _ (by simp only [badHead, gb, h1_6, Bool.and_true, Bool.and_false, Bool.true_and, Bool.false_and, Bool.or_true, Bool.true_or, Bool.false_or, Bool.or_false, Bool.and_self, Bool.or_self]) (fF)
 iterate 3 refine S0 ?_ (e := fun K_ h_ => by simp only [sH, ↓sP, sA, tyS, simprocAttr, ne_nil, h1_6]; exact AX h_)
 iterate 2 refine S0 ?_ (e := fun K_ h_ => by simp only [sH, ↓sP, sA, tyS, simprocAttr, ne_nil, h1_6]; exact AX h_)
 refine hlex_cases 10 rfl (fun h1_10 => ?_) (fun h1_10 => ?_)
 ·
  iterate 3 refine S0 ?_ (e := fun K_ h_ => by simp only [sH, ↓sP, sA, tyS, simprocAttr, ne_nil, h1_6, h1_10]; exact AX h_)
  iterate 2 refine S0 ?_ (e := fun K_ h_ => by simp only [sH, ↓sP, sA, tyS, simprocAttr, ne_nil, h1_6, h1_10]; exact AX h_)
  iterate 3 refine S0 ?_ (e := fun K_ h_ => by simp only [sH, ↓sP, sA, tyS, simprocAttr, ne_nil, h1_6, h1_10]; exact AX h_)
  iterate 2 refine S0 ?_ (e := fun K_ h_ => by simp only [sH, ↓sP, sA, tyS, simprocAttr, ne_nil, h1_6, h1_10]; exact AX h_)
  iterate 3 refine S0 ?_ (e := fun K_ h_ => by simp only [sH, ↓sP, sA, tyS, simprocAttr, ne_nil, h1_6, h1_10]; exact AX h_)
  refine S0 ?_ (e := fun K_ h_ => by simp only [sH, ↓sP, sA, tyS, simprocAttr, ne_nil, h1_6, h1_10]; exact AX h_)
  simp only [sE, ↓reduceIte, simprocAttr]
  exact key true _ _ _ (by simp only [badHead, gb, h1_6, h1_10, Bool.and_true, Bool.and_false, Bool.true_and, Bool.false_and, Bool.or_true, Bool.true_or, Bool.false_or, Bool.or_false, Bool.and_self, Bool.or_self]) (fF)
 iterate 3 refine S0 ?_ (e := fun K_ h_ => by simp only [sH, ↓sP, sA, tyS, simprocAttr, ne_nil, h1_6, h1_10]; exact AX h_)
 iterate 2 refine S0 ?_ (e := fun K_ h_ => by simp only [sH, ↓sP, sA, tyS, simprocAttr, ne_nil, h1_6, h1_10]; exact AX h_)
 refine hlex_cases 15 rfl (fun h1_15 => ?_) (fun h1_15 => ?_)
 ·
  iterate 3 refine S0 ?_ (e := fun K_ h_ => by simp only [sH, ↓sP, sA, tyS, simprocAttr, ne_nil, h1_6, h1_10, h1_15]; exact AX h_)
  iterate 2 refine S0 ?_ (e := fun K_ h_ => by simp only [sH, ↓sP, sA, tyS, simprocAttr, ne_nil, h1_6, h1_10, h1_15]; exact AX h_)
  iterate 3 refine S0 ?_ (e := fun K_ h_ => by simp only [sH, ↓sP, sA, tyS, simprocAttr, ne_nil, h1_6, h1_10, h1_15]; exact AX h_)
  refine S0 ?_ (e := fun K_ h_ => by simp only [sH, ↓sP, sA, tyS, simprocAttr, ne_nil, h1_6, h1_10, h1_15]; exact AX h_)
  simp only [sE, ↓reduceIte, simprocAttr]
  exact key true _ _ _ (by simp only [badHead, gb, h1_6, h1_10, h1_15, Bool.and_true, Bool.and_false, Bool.true_and, Bool.false_and, Bool.or_true, Bool.true_or, Bool.false_or, Bool.or_false, Bool.and_self, Bool.or_self]) (fF)
 iterate 3 refine S0 ?_ (e := fun K_ h_ => by simp only [sH, ↓sP, sA, tyS, simprocAttr, ne_nil, h1_6, h1_10, h1_15]; exact AX h_)
 iterate 2 refine S0 ?_ (e := fun K_ h_ => by simp only [sH, ↓sP, sA, tyS, simprocAttr, ne_nil, h1_6, h1_10, h1_15]; exact AX h_)
 refine hlex_cases 20 rfl (fun h1_20 => ?_) (fun h1_20 => ?_)
 ·
  iterate 3 refine S0 ?_ (e := fun K_ h_ => by simp only [sH, ↓sP, sA, tyS, simprocAttr, ne_nil, h1_6, h1_10, h1_15, h1_20]; exact AX h_)
  refine S0 ?_ (e := fun K_ h_ => by simp only [sH, ↓sP, sA, tyS, simprocAttr, ne_nil, h1_6, h1_10, h1_15, h1_20]; exact AX h_)
  simp only [sE, ↓reduceIte, simprocAttr]
  exact key true _ _ _ (by simp only [badHead, gb, h1_6, h1_10, h1_15, h1_20, Bool.and_true, Bool.and_false, Bool.true_and, Bool.false_and, Bool.or_true, Bool.true_or, Bool.false_or, Bool.or_false, Bool.and_self, Bool.or_self]) (fF)
 iterate 3 refine S0 ?_ (e := fun K_ h_ => by simp only [sH, ↓sP, sA, tyS, simprocAttr, ne_nil, h1_6, h1_10, h1_15, h1_20]; exact AX h_)
 refine S0 ?_ (e := fun K_ h_ => by simp only [sH, ↓sP, sA, tyS, simprocAttr, ne_nil, h1_6, h1_10, h1_15, h1_20]; exact AX h_)
 refine hlex_cases 25 rfl (fun h1_25 => ?_) (fun h1_25 => ?_)
 ·
  simp only [h1_25]
  simp only [sE, ↓reduceIte, simprocAttr]
  exact key true _ _ _ (by simp only [badHead, gb, h1_6, h1_10, h1_15, h1_20, h1_25, Bool.and_true, Bool.and_false, Bool.true_and, Bool.false_and, Bool.or_true, Bool.true_or, Bool.false_or, Bool.or_false, Bool.and_self, Bool.or_self]) (fF)
 simp only [h1_25]
 simp only [sE, ↓reduceIte, simprocAttr]
 exact key false _ _ _ (by simp only [badHead, gb, h1_6, h1_10, h1_15, h1_20, h1_25, Bool.and_true, Bool.and_false, Bool.true_and, Bool.false_and, Bool.or_true, Bool.true_or, Bool.false_or, Bool.or_false, Bool.and_self, Bool.or_self]) (fF)


theorem rnames_ok (l : List Word) (hl : l.length < 2 ^ 40) (hw : ∀ w ∈ l, w.length < 2 ^ 63) : HPure Tryz.prog 86 [.slc (l.map .str)] (fun v => v = .bool (namesB l)) := by
 refine hfn_walk Tryz.func86 rfl (by kernel_rfl) (locOk_nil _) (Nat.le_of_ble_eq_true rfl) ?_
 refine R0 ?_
 refine hw_seq fun K hK => ?_
 refine R0 ?_
 refine hw_block ?_
 refine hw_loop (α := {i : Nat // i ≤ l.length ∧ ∀ w ∈ l.take i, nameB w = true}) (fun i => (fin [(0, .c (.slc (l.map .str))), (3, .c (.int .i64 i.1))], fob [])) 100 (fun i => l.length - i.1) ⟨0, by omega, by simp⟩ (fF) ?_
 rintro ⟨i, hi, h0⟩
 refine hw_seq fun K hK => ?_
 refine hw_seq fun K hK => hw_region (by kernel_rfl) ?_
 simp only [sR, simprocAttr]
 iterate 4 refine S0 ?_
 refine T2 (hK _ _ _ ?_)
 clear hK K
 refine hw_cond (b := decide ((i : Int) < l.length)) rfl (fun hb => ?_) (fun hb => ?_)
 ·
  have hlt : i < l.length := by simpa using hb
  refine hw_skip ?_
  refine T0 (hK _ _ _ ?_)
  clear hK K
  refine hw_seq fun K hK => ?_
  refine hw_block ?_
  refine hw_seq fun K hK => hw_region (by kernel_rfl) ?_
  simp only [sR, simprocAttr]
  iterate 4 refine S0 ?_ (e := fun K_ h_ => by simp only [sH, ↓sP, sA, tyS, simprocAttr, Int.natCast_nonneg, Int.ofNat_lt, hlt, nth_map hlt]; exact AX h_)
  refine hlex_step (g := none) rfl rfl fun K' hK' => ?_
  simp only [sH, ↓sP, sA, tyS, simprocAttr, Int.natCast_nonneg, Int.ofNat_lt, hlt, nth_map hlt]
  refine call_pure (args := [_]) (rname_ok l[i] (hw _ (List.getElem_mem hlt))) ⟨rfl, rfl, rfl, rfl⟩ ?_
  rintro u rfl
  refine AX (hK' _ _ ?_)
  clear hK' K'
  refine S0 ?_ (e := fun K_ h_ => by simp only [sH, ↓sP, sA, tyS, simprocAttr, Int.natCast_nonneg, Int.ofNat_lt, hlt, nth_map hlt]; exact AX h_)
  refine T2 (hK _ _ _ ?_)
  clear hK K
  refine hw_cond (b := !nameB l[i]) rfl (fun hb => ?_) (fun hb => ?_)
  ·
   refine R0 ?_
   refine hw_ret ?_
   simp only [hpost, Tryz.results86, hresL, hres1, tupOf, ↓sP, sA, tyS, simprocAttr]
   exact hret_pure [] (.bool false) rfl (by rw [namesB_eq, bad_one hlt (by simpa using hb)])
  refine hw_skip ?_
  refine T0 (hK _ _ _ ?_)
  clear hK K
  refine hw_region (by kernel_rfl) ?_
  simp only [↓sP, sA, tyS, simprocAttr, i64s i]
  refine ⟨⟨i + 1, hlt, fun w hw' => ?_⟩, fF, ?_⟩
  ·
   rw [List.take_succ_eq_append_getElem hlt, List.mem_append, List.mem_singleton] at hw'
   rcases hw' with hw' | rfl
   ·
    exact h0 w hw'
   simpa using hb
  show l.length - (i + 1) < l.length - i
  omega
 refine hw_exit ?_
 simp only [↓sP, sA, tyS, simprocAttr]
 clear hK K
 refine AX (hK _ _ _ ?_)
 clear hK K
 refine hw_seq fun K hK => hw_region (by kernel_rfl) ?_
 simp only [sR, simprocAttr]
 refine S0 ?_
 refine hlex_step (g := none) rfl rfl fun K' hK' => ?_
 simp only [sH, ↓sP, sA, tyS, simprocAttr]
 refine call_pure (args := [_]) (ascending_ok l (by omega)) ⟨rfl, rfl, rfl, rfl⟩ ?_
 rintro u rfl
 refine AX (hK' _ _ ?_)
 clear hK' K'
 refine S0 ?_
 refine T2 (hK _ _ _ ?_)
 clear hK K
 refine hw_ret ?_
 simp only [hpost, Tryz.results86, hresL, hres1, tupOf, ↓sP, sA, tyS, simprocAttr]
 have hei : i = l.length := by simp at hb; omega
 subst hei
 refine hret_pure [] (.bool _) rfl ?_
 have : l.all nameB = true := by rw [List.all_eq_true]; simpa using h0
 unfold namesB; rw [this, Bool.true_and]


theorem names_ok (l : List Word) (hl : l.length < 2 ^ 40) (hw : ∀ w ∈ l, w.length < 2 ^ 63) : HPure Tryz.prog 79 [.slc (l.map .str)] (fun v => v = .bool (namesB l)) := by
 refine hfn_walk Tryz.func79 rfl (by kernel_rfl) (locOk_nil _) (Nat.le_of_ble_eq_true rfl) ?_
 refine R0 ?_
 refine hw_seq fun K hK => ?_
 refine R0 ?_
 refine hw_block ?_
 refine hw_loop (α := {i : Nat // i ≤ l.length ∧ GoodTo nameB slt l i}) (fun i => (fin [(0, .c (.slc (l.map .str))), (5, .c (.slc (l.map .str))), (6, .c (.int .i64 l.length)), (7, .c (.int .i64 i.1))], fob [])) 100 (fun i => l.length - i.1) ⟨0, by omega, GoodTo.zero⟩ (fF) ?_
 rintro ⟨i, hi, h0⟩
 refine R0 ?_
 refine hw_seq fun K hK => ?_
 refine hw_cond (b := decide ((i : Int) < l.length)) rfl (fun hb => ?_) (fun hb => ?_)
 ·
  have hlt : i < l.length := by simpa using hb
  have hi1 : i - 1 < l.length := by omega
  have hm : decide ((0 : Int) < (i : Int)) = true → IntKind.i64.wrap ((i : Int) - 1) = ((i - 1 : Nat) : Int) := fun h => by
   have : 0 < i := by simpa using h
   rw [IntWalk.i64_in _ (by omega)]; omega
  refine hw_skip ?_
  refine T0 (hK _ _ _ ?_)
  clear hK K
  refine hw_seq fun K hK => ?_
  refine hw_block ?_
  refine hw_seq fun K hK => hw_region (by kernel_rfl) ?_
  simp only [sR, simprocAttr]
  iterate 5 refine S0 ?_ (e := fun K_ h_ => by simp only [sH, ↓sP, sA, tyS, simprocAttr, Int.natCast_nonneg, Int.ofNat_lt, hlt, nth_map hlt]; exact AX h_)
  refine T2 (hK _ _ _ ?_)
  clear hK K
  refine hw_seq fun K hK => hw_region (by kernel_rfl) ?_
  simp only [sR, simprocAttr]
  refine S0 ?_ (e := fun K_ h_ => by simp only [sH, ↓sP, sA, tyS, simprocAttr, hm, Int.natCast_nonneg, Int.ofNat_lt, hi1, nth_map hi1]; exact AX h_)
  refine hlex_step (g := none) rfl rfl fun K' hK' => ?_
  simp only [sH, ↓sP, sA, tyS, simprocAttr, hm, Int.natCast_nonneg, Int.ofNat_lt, hi1, nth_map hi1]
  refine call_pure (args := [_]) (name_ok l[i] (hw _ (List.getElem_mem hlt))) ⟨rfl, rfl, rfl, rfl⟩ ?_
  rintro u rfl
  refine AX (hK' _ _ ?_)
  clear hK' K'
  iterate 2 refine S0 ?_ (e := fun K_ h_ => by simp only [sH, ↓sP, sA, tyS, simprocAttr, hm, Int.natCast_nonneg, Int.ofNat_lt, hi1, nth_map hi1]; exact AX h_)
  refine hlex_cases 13 rfl (fun h4_13 => ?_) (fun h4_13 => ?_)
  ·
   iterate 3 refine S0 ?_ (e := fun K_ h_ => by simp only [sH, ↓sP, sA, tyS, simprocAttr, hm, Int.natCast_nonneg, Int.ofNat_lt, hi1, nth_map hi1, h4_13]; exact AX h_)
   refine hlex_cases 17 rfl (fun h4_17 => ?_) (fun h4_17 => ?_)
   ·
    iterate 7 refine S0 ?_ (e := fun K_ h_ => by simp only [sH, ↓sP, sA, tyS, simprocAttr, hm, Int.natCast_nonneg, Int.ofNat_lt, hi1, nth_map hi1, h4_13, h4_17]; exact AX h_)
    refine S0 ?_ (e := fun K_ h_ => by simp only [sH, ↓sP, sA, tyS, simprocAttr, hm, Int.natCast_nonneg, Int.ofNat_lt, hi1, nth_map hi1, h4_13, h4_17]; exact AX h_)
    refine S0 ?_ (e := fun K_ h_ => by simp only [sH, ↓sP, sA, tyS, simprocAttr, hm, Int.natCast_nonneg, Int.ofNat_lt, hi1, nth_map hi1, h4_13, h4_17]; exact AX h_)
    refine hlex_cases 25 rfl (fun h4_25 => ?_) (fun h4_25 => ?_)
    ·
     simp only [h4_25]
     refine T2 (hK _ _ _ ?_)
     clear hK K
     refine hw_cond (b := true) rfl (fun hb => ?_) (fun hb => ?_)
     ·
      refine R0 ?_
      refine hw_ret ?_
      simp only [hpost, Tryz.results79, hresL, hres1, tupOf, ↓sP, sA, tyS, simprocAttr]
      obtain ⟨j, rfl⟩ : ∃ j, i = j + 1 := ⟨i - 1, by simp at h4_17; omega⟩
      exact hret_pure [] (.bool false) rfl (by rw [namesB_eq, bad_two (i := j) hlt (by simpa using h4_25)])
     cases hb
    simp only [h4_25]
    refine T2 (hK _ _ _ ?_)
    clear hK K
    refine hw_cond (b := false) rfl (fun hb => ?_) (fun hb => ?_)
    ·
     cases hb
    refine hw_skip ?_
    refine T0 (hK _ _ _ ?_)
    clear hK K
    refine hw_region (by kernel_rfl) ?_
    simp only [↓sP, sA, tyS, simprocAttr, i64s i]
    obtain ⟨j, rfl⟩ : ∃ j, i = j + 1 := ⟨i - 1, by simp at h4_17; omega⟩
    refine ⟨⟨j + 1 + 1, hlt, h0.succ hlt h4_13 (by simpa using h4_25)⟩, fF, ?_⟩
    show l.length - (j + 1 + 1) < l.length - (j + 1)
    omega
   iterate 7 refine S0 ?_ (e := fun K_ h_ => by simp only [sH, ↓sP, sA, tyS, simprocAttr, hm, Int.natCast_nonneg, Int.ofNat_lt, hi1, nth_map hi1, h4_13, h4_17]; exact AX h_)
   refine S0 ?_ (e := fun K_ h_ => by simp only [sH, ↓sP, sA, tyS, simprocAttr, hm, Int.natCast_nonneg, Int.ofNat_lt, hi1, nth_map hi1, h4_13, h4_17]; exact AX h_)
   refine S0 ?_ (e := fun K_ h_ => by simp only [sH, ↓sP, sA, tyS, simprocAttr, hm, Int.natCast_nonneg, Int.ofNat_lt, hi1, nth_map hi1, h4_13, h4_17]; exact AX h_)
   refine T2 (hK _ _ _ ?_)
   clear hK K
   refine hw_cond (b := false) rfl (fun hb => ?_) (fun hb => ?_)
   ·
    cases hb
   refine hw_skip ?_
   refine T0 (hK _ _ _ ?_)
   clear hK K
   refine hw_region (by kernel_rfl) ?_
   simp only [↓sP, sA, tyS, simprocAttr, i64s i]
   obtain rfl : i = 0 := by simp at h4_17; omega
   refine ⟨⟨1, hlt, GoodTo.one hlt h4_13⟩, fF, ?_⟩
   show l.length - 1 < l.length - 0
   omega
  iterate 3 refine S0 ?_ (e := fun K_ h_ => by simp only [sH, ↓sP, sA, tyS, simprocAttr, hm, Int.natCast_nonneg, Int.ofNat_lt, hi1, nth_map hi1, h4_13]; exact AX h_)
  iterate 7 refine S0 ?_ (e := fun K_ h_ => by simp only [sH, ↓sP, sA, tyS, simprocAttr, hm, Int.natCast_nonneg, Int.ofNat_lt, hi1, nth_map hi1, h4_13]; exact AX h_)
  refine S0 ?_ (e := fun K_ h_ => by simp only [sH, ↓sP, sA, tyS, simprocAttr, hm, Int.natCast_nonneg, Int.ofNat_lt, hi1, nth_map hi1, h4_13]; exact AX h_)
  refine S0 ?_ (e := fun K_ h_ => by simp only [sH, ↓sP, sA, tyS, simprocAttr, hm, Int.natCast_nonneg, Int.ofNat_lt, hi1, nth_map hi1, h4_13]; exact AX h_)
  refine T2 (hK _ _ _ ?_)
  clear hK K
  refine hw_cond (b := true) rfl (fun hb => ?_) (fun hb => ?_)
  ·
   refine R0 ?_
   refine hw_ret ?_
   simp only [hpost, Tryz.results79, hresL, hres1, tupOf, ↓sP, sA, tyS, simprocAttr]
   exact hret_pure [] (.bool false) rfl (by rw [namesB_eq, bad_one hlt h4_13])
  cases hb
 refine hw_exit ?_
 simp only [↓sP, sA, tyS, simprocAttr]
 clear hK K
 refine AX (hK _ _ _ ?_)
 clear hK K
 refine R0 ?_
 refine hw_ret ?_
 simp only [hpost, Tryz.results79, hresL, hres1, tupOf, ↓sP, sA, tyS, simprocAttr]
 have hei : i = l.length := by simp at hb; omega
 subst hei
 exact hret_pure [] (.bool true) rfl (by rw [namesB_eq, h0.all])

end Go.Proofs.YtenbfeemmpjdhaaGreatDoor
