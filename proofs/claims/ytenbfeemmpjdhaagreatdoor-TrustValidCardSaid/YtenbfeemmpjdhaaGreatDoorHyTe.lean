/- Part of a proof: walks of functions of the program, by contracts, and the rules they use. By an AI agent. -/
import Derived.Test.YtenbfeemmpjdhaaGreatDoorHyT3
import Derived.Test.YtenbfeemmpjdhaaGreatDoorHyTk
import Derived.Test.YtenbfeemmpjdhaaGreatDoorHlZb
import Derived.Test.YtenbfeemmpjdhaaGreatDoorPlShb
set_option linter.unusedSimpArgs false
set_option linter.unusedVariables false
set_option linter.defProp false
namespace Go.Proofs.YtenbfeemmpjdhaaGreatDoor
open Go Go.Hl Go.Pl
set_option maxRecDepth 10000
set_option maxHeartbeats 4000000
set_option linter.unusedSimpArgs false
set_option linter.unusedVariables false

theorem compact_ok (l : List Word) (hl : l.length < 2 ^ 40) : HTake Tryz.prog 84 9 1 (l.map .str) (fun u => u = .slc ((dedup l).map .str)) := by
 show HFn _ _ [.own 0 (l.map CV.str).length] 1 _ _
 rw [List.length_map]
 refine hfn_walk (args := [.own 0 l.length]) Tryz.func84 rfl (by kernel_rfl) (locOk_take 9 1 l.length _) (Nat.le_of_ble_eq_true rfl) ?_
 refine R0 ?_
 refine hw_seq fun K hK => ?_
 refine R0 ?_
 refine hw_cond (b := decide ((l.length : Int) < 2)) rfl (fun hb => ?_) (fun hb => ?_)
 ·
  refine R0 ?_
  refine hw_ret ?_
  simp only [hpost, Tryz.results84, hresL, hres1, tupOf, ↓sP, sA, tyS, simprocAttr]
  exact hret_take [0] (.slc (l.map .str)) (by simp [HV.close, HV.norm, HV.toC, fob_at]) (by rw [dedup_short (by simp at hb; omega)])
 refine hw_skip ?_
 refine T0 (hK _ _ _ ?_)
 clear hK K
 refine hw_seq fun K hK => ?_
 refine R0 ?_
 refine hw_block ?_
 have h2 : 2 ≤ l.length := by simp at hb; omega
 refine hw_loop (α := {k : Nat // 1 ≤ k ∧ k ≤ l.length ∧ dedup (l.take k) = l.take k}) (fun k => (fin [(0, .own 0 l.length), (3, .c (.int .i64 k.1))], fob [(0, .row 9 1 (l.map .str))])) 100 (fun k => l.length - k.1) ⟨1, by omega, by omega, dedup_short (by simp; omega)⟩ (fF) ?_
 clear hb
 rintro ⟨k, hk1, hk, hd⟩
 refine hw_seq fun K hK => ?_
 refine hw_seq fun K hK => hw_region (by kernel_rfl) ?_
 simp only [sR, simprocAttr]
 iterate 4 refine S0 ?_
 refine T2 (hK _ _ _ ?_)
 clear hK K
 refine hw_cond (b := decide ((k : Int) < l.length)) rfl (fun hb => ?_) (fun hb => ?_)
 ·
  have hlt : k < l.length := by simpa using hb
  have hlt1 : k - 1 < l.length := by omega
  have m1 : IntKind.i64.wrap ((k : Int) - 1) = ((k - 1 : Nat) : Int) := by rw [IntWalk.i64_in _ (by omega)]; omega
  refine hw_skip ?_
  refine T0 (hK _ _ _ ?_)
  clear hK K
  refine hw_seq fun K hK => ?_
  refine hw_block ?_
  refine hw_seq fun K hK => hw_quiet mixed (by kernel_rfl) (by kernel_rfl) (by kernel_rfl) ?_
  simp only [sR, simprocAttr]
  iterate 10 refine S0 ?_ (e := fun K_ h_ => by simp only [sH, ↓sP, sA, tyS, simprocAttr, m1, Int.natCast_nonneg, Int.ofNat_lt, hlt, hlt1, nth_map hlt, nth_map hlt1]; exact AX h_)
  refine T2 (hK _ _ _ ?_)
  clear hK K
  refine hw_cond (b := l[k] == l[k - 1]) rfl (fun hb => ?_) (fun hb => ?_)
  ·
   refine hw_seq fun K hK => hw_region (by kernel_rfl) ?_
   simp only [sR, simprocAttr]
   iterate 4 refine S0 ?_
   refine T2 (hK _ _ _ ?_)
   clear hK K
   refine hw_seq fun K hK => ?_
   refine R0 ?_
   refine hw_block ?_
   refine hw_loop (α := {x : Nat × Nat × List Word // x.2.2.length = l.length ∧ 1 ≤ x.1 ∧ x.1 < x.2.1 ∧ x.2.1 ≤ l.length ∧ k < x.2.1 ∧ x.2.2.take x.1 = dedup (l.take x.2.1) ∧ x.2.2.drop (x.2.1 - 1) = l.drop (x.2.1 - 1)}) (fun x => (fin [(0, .own 0 l.length), (3, .c (.int .i64 x.1.1)), (4, .osl 0 l.length k 1 l.length), (5, .c (.int .i64 ((x.1.2.1 - k : Nat) : Int)))], fob [(0, .row 9 1 (x.1.2.2.map .str))])) 300 (fun x => l.length - x.1.2.1) ⟨(k, k + 1, l), rfl, hk1, by simp, hlt, by simp, by rw [dedup_skip hk1 hlt hb, hd], rfl⟩ (fF) ?_
   rintro ⟨⟨i, j, r⟩, hr, hi1, hij, hj, hkj, g1, g2⟩
   simp only at hr hi1 hij hj hkj g1 g2 ⊢
   have hrl : (r.map CV.str).length = l.length := by rw [List.length_map, hr]
   have p0 : 0 < l.length := by omega
   have e9 : (List.take (l.length - k) (List.drop k (r.map CV.str))).length = l.length - k := by simp [hr]
   refine hw_seq fun K hK => ?_
   refine hw_seq fun K hK => hw_region (by kernel_rfl) ?_
   simp only [sR, simprocAttr]
   iterate 4 refine S0 ?_ (e := fun K_ h_ => by simp only [sH, ↓sP, sA, tyS, simprocAttr, hr, p0, hk, Nat.le_refl, e9]; exact AX h_)
   refine T2 (hK _ _ _ ?_)
   clear hK K
   refine hw_cond (b := decide (((j - k : Nat) : Int) < ((l.length - k : Nat) : Int))) rfl (fun hb => ?_) (fun hb => ?_)
   ·
    have hjl : j < l.length := by simp at hb; omega
    have hjr : j < r.length := by omega
    have hj1r : j - 1 < r.length := by omega
    have hir : i < r.length := by omega
    have hil : i < l.length := by omega
    have hj1l : j - 1 < l.length := by omega
    have z1 : ((j - k : Nat) : Int) < ((l.length - k : Nat) : Int) := by omega
    have z2 : ((j - k - 1 : Nat) : Int) < ((l.length - k : Nat) : Int) := by omega
    have e1 : k + (j - k) = j := by omega
    have e2 : k + (j - k - 1) = j - 1 := by omega
    have m2 : IntKind.i64.wrap (((j - k : Nat) : Int) - 1) = ((j - k - 1 : Nat) : Int) := by rw [IntWalk.i64_in _ (by omega)]; omega
    have m3 : IntKind.i64.wrap (((j - k : Nat) : Int) + 1) = ((j + 1 - k : Nat) : Int) := by rw [IntWalk.i64_in _ (by omega)]; omega
    have q0 : r[j - 1] = l[j - 1] ∧ r[j] = l[j] := by
     have a1 : (r.drop (j - 1))[0]? = (l.drop (j - 1))[0]? := by rw [g2]
     have a2 : (r.drop (j - 1))[1]? = (l.drop (j - 1))[1]? := by rw [g2]
     simp only [List.getElem?_drop, Nat.add_zero, show j - 1 + 1 = j by omega, List.getElem?_eq_getElem hjr, List.getElem?_eq_getElem hj1r, List.getElem?_eq_getElem hjl, List.getElem?_eq_getElem hj1l, Option.some.injEq] at a1 a2
     exact ⟨a1, a2⟩
    have q1 : nth (r.map CV.str) j = .str l[j] := by rw [nth_map hjr, q0.2]
    have q2 : nth (r.map CV.str) (j - 1) = .str l[j - 1] := by rw [nth_map hj1r, q0.1]
    have g3 : r.drop j = l.drop j := by
     have : (r.drop (j - 1)).drop 1 = (l.drop (j - 1)).drop 1 := by rw [g2]
     rwa [List.drop_drop, List.drop_drop, show j - 1 + 1 = j by omega] at this
    refine hw_skip ?_
    refine T0 (hK _ _ _ ?_)
    clear hK K
    refine hw_seq fun K hK => ?_
    have key : ∀ (i' : Nat) (r' : List Word) fr ob nx, r'.length = l.length → 1 ≤ i' → i' < j + 1 → r'.take i' = dedup (l.take (j + 1)) → r'.drop j = l.drop j → Fits 1 fr ob (fin [(0, .own 0 l.length), (3, .c (.int .i64 i')), (4, .osl 0 l.length k 1 l.length), (5, .c (.int .i64 ((j - k : Nat) : Int)))]) (fob [(0, .row 9 1 (r'.map .str))]) 500 → K fr ob nx := by
     rintro i' r' fr ob nx w1 w2 w3 w4 w5 hf
     refine hK _ _ _ (hw_fits hf ?_)
     clear hf hK K
     refine hw_region (by kernel_rfl) ?_
     simp only [↓sP, sA, tyS, simprocAttr, m3]
     refine ⟨⟨(i', j + 1, r'), w1, w2, w3, hjl, by simp only; omega, w4, w5⟩, fF, ?_⟩
     show l.length - (j + 1) < l.length - j
     omega
    refine hw_block ?_
    refine hw_seq fun K hK => hw_quiet mixed (by kernel_rfl) (by kernel_rfl) (by kernel_rfl) ?_
    simp only [sR, simprocAttr]
    iterate 10 refine S0 ?_ (e := fun K_ h_ => by simp only [sH, ↓sP, sA, tyS, simprocAttr, hr, m2, e1, e2, z1, z2, q1, q2, hjl, hj1l, hjr, hj1r, Int.natCast_nonneg, Int.ofNat_lt]; exact AX h_)
    refine T2 (hK _ _ _ ?_)
    clear hK K
    refine hw_cond (b := !(l[j] == l[j - 1])) rfl (fun hb => ?_) (fun hb => ?_)
    ·
     refine hw_seq fun K hK => hw_region (by kernel_rfl) ?_
     simp only [sR, simprocAttr]
     iterate 8 refine S0 ?_ (e := fun K_ h_ => by simp only [sH, ↓sP, sA, tyS, simprocAttr, hr, e1, z1, q1, nth_map hir, hil, hir, hjl, hjr, Int.natCast_nonneg, Int.ofNat_lt, ← List.map_set]; exact AX h_)
     refine T2 (hK _ _ _ ?_)
     clear hK K
     refine hw_region (by kernel_rfl) ?_
     simp only [↓sP, sA, tyS, simprocAttr, i64s i]
     refine key (i + 1) (r.set i l[j]) _ _ _ (by simp [hr]) (by omega) (by omega) ?_ ?_ (fF)
     ·
      rw [dedup_put (by omega) hjl (by simpa using hb), ← g1, List.take_succ_eq_append_getElem (by simp; omega), List.take_set_of_le (by omega)]
      simp
     rw [List.drop_set_of_lt (by omega), g3]
    refine hw_skip ?_
    simp only [↓sP, sA, tyS, simprocAttr]
    exact key i r _ _ _ hr hi1 (by omega) (by rw [dedup_skip (by omega) hjl (by simpa using hb), g1]) g3 (fF)
   have hjl : j = l.length := by simp at hb; omega
   subst hjl
   rw [List.take_length] at g1
   refine hw_exit ?_
   simp only [↓sP, sA, tyS, simprocAttr]
   clear hK K
   refine AX (hK _ _ _ ?_)
   clear hK K
   refine hw_seq fun K hK => hw_region (by kernel_rfl) ?_
   simp only [sR, simprocAttr]
   iterate 4 refine S0 ?_ (e := fun K_ h_ => by simp only [sH, ↓sP, sA, tyS, simprocAttr, hr]; exact AX h_)
   refine T2 (hK _ _ _ ?_)
   clear hK K
   refine hw_seq fun K hK => hw_region (by kernel_rfl) ?_
   simp only [sR, simprocAttr]
   iterate 4 refine S0 ?_ (e := fun K_ h_ => by simp only [sH, ↓sP, sA, tyS, simprocAttr, hr]; exact AX h_)
   refine T2 (hK _ _ _ ?_)
   clear hK K
   refine hw_ret ?_
   simp only [hpost, Tryz.results84, hresL, hres1, tupOf, ↓sP, sA, tyS, simprocAttr]
   refine hret_take [0] (.slc ((r.take i).map .str)) ?_ (by rw [g1])
   simp [HV.close, HV.norm, fob_at]
   rw [if_pos ⟨by omega, by omega, by omega⟩]
   show HV.c (CV.slc _) = _
   rw [List.take_append_of_le_length (by simp; omega), List.take_take, Nat.min_self]
  refine hw_skip ?_
  refine T0 (hK _ _ _ ?_)
  clear hK K
  refine hw_region (by kernel_rfl) ?_
  simp only [↓sP, sA, tyS, simprocAttr, i64s k]
  refine ⟨⟨k + 1, by omega, hlt, dedup_keep hk1 hlt hb hd⟩, fF, ?_⟩
  show l.length - (k + 1) < l.length - k
  omega
 refine hw_exit ?_
 simp only [↓sP, sA, tyS, simprocAttr]
 clear hK K
 refine AX (hK _ _ _ ?_)
 clear hK K
 refine R0 ?_
 refine hw_ret ?_
 simp only [hpost, Tryz.results84, hresL, hres1, tupOf, ↓sP, sA, tyS, simprocAttr]
 have hkl : k = l.length := by simp at hb; omega
 subst hkl
 rw [List.take_length] at hd
 exact hret_take [0] (.slc (l.map .str)) (by simp [HV.close, HV.norm, HV.toC, fob_at]) (by rw [hd])

end Go.Proofs.YtenbfeemmpjdhaaGreatDoor

namespace Go.Proofs.YtenbfeemmpjdhaaGreatDoor
open Go Go.Hl Go.Pl
set_option maxRecDepth 10000
set_option maxHeartbeats 4000000
set_option linter.unusedSimpArgs false
set_option linter.unusedVariables false

theorem live_ok (r : Rt) (k : Ky) (t : Int) (hr : rSz r) : HPure Tryz.prog 56 [r.cv, k.cv, .int .i64 t] (fun v => v = .bool (liveB r k t)) := by
 refine hfn_walk Tryz.func56 rfl (by kernel_rfl) (locOk_nil _) (Nat.le_of_ble_eq_true rfl) ?_
 refine R0 ?_
 refine hw_seq fun K hK => hw_draw2 mixed [(0, [], []), (1, [], []), (2, [], []), (3, [], [0]), (4, [], []), (5, [], []), (6, [], []), (7, [], []), (8, [], []), (9, [], [])] [0, 0, 2, 6, 15, 31, 63, 63, 127, 511] (by kernel_rfl) (by kernel_rfl) (by kernel_rfl) (by kernel_rfl) rfl (by kernel_rfl) ?_
 iterate 3 refine W0 ?_
 refine hwalk2_step (g := none) rfl rfl fun K' hK' => ?_
 simp only [sH, ↓sP, sA, tyS, simprocAttr]
 refine call_pure (args := [_]) (pid_ok k.p) ⟨rfl, rfl, rfl, rfl⟩ ?_
 rintro u rfl
 refine AX (hK' _ _ ?_)
 clear hK' K'
 refine hwalk2_step (g := none) rfl rfl fun K' hK' => ?_
 simp only [sH, ↓sP, sA, tyS, simprocAttr]
 refine call_pure2 (args := [_, _]) (revoked_ok r (pid k.p) hr.2.2) ⟨rfl, rfl, rfl, rfl⟩ ?_
 rintro u v ⟨rfl, rfl⟩
 refine AX (hK' _ _ ?_)
 clear hK' K'
 iterate 5 refine W0 ?_
 refine T2 (hK _ _ _ ?_)
 clear hK K
 refine hw_seq fun K hK => hw_region (by kernel_rfl) ?_
 simp only [sR, simprocAttr]
 iterate 5 refine S0 ?_
 refine hlex_cases 20 rfl (fun h2_20 => ?_) (fun h2_20 => ?_)
 ·
  iterate 4 refine S0 ?_ (e := fun K_ h_ => by simp only [sH, ↓sP, sA, tyS, simprocAttr, h2_20]; exact AX h_)
  iterate 2 refine S0 ?_ (e := fun K_ h_ => by simp only [sH, ↓sP, sA, tyS, simprocAttr, h2_20]; exact AX h_)
  refine hlex_cases 25 rfl (fun h2_25 => ?_) (fun h2_25 => ?_)
  ·
   iterate 4 refine S0 ?_ (e := fun K_ h_ => by simp only [sH, ↓sP, sA, tyS, simprocAttr, h2_20, h2_25]; exact AX h_)
   iterate 2 refine S0 ?_ (e := fun K_ h_ => by simp only [sH, ↓sP, sA, tyS, simprocAttr, h2_20, h2_25]; exact AX h_)
   refine hlex_cases 31 rfl (fun h2_31 => ?_) (fun h2_31 => ?_)
   ·
    iterate 2 refine S0 ?_ (e := fun K_ h_ => by simp only [sH, ↓sP, sA, tyS, simprocAttr, h2_20, h2_25, h2_31]; exact AX h_)
    refine hlex_cases 34 rfl (fun h2_34 => ?_) (fun h2_34 => ?_)
    ·
     iterate 3 refine S0 ?_ (e := fun K_ h_ => by simp only [sH, ↓sP, sA, tyS, simprocAttr, h2_20, h2_25, h2_31, h2_34]; exact AX h_)
     iterate 2 refine S0 ?_ (e := fun K_ h_ => by simp only [sH, ↓sP, sA, tyS, simprocAttr, h2_20, h2_25, h2_31, h2_34]; exact AX h_)
     iterate 2 refine S0 ?_ (e := fun K_ h_ => by simp only [sH, ↓sP, sA, tyS, simprocAttr, h2_20, h2_25, h2_31, h2_34]; exact AX h_)
     refine hlex_cases 38 rfl (fun h2_38 => ?_) (fun h2_38 => ?_)
     ·
      simp only [h2_38]
      refine T2 (hK _ _ _ ?_)
      clear hK K
      refine hw_ret ?_
      simp only [hpost, Tryz.results56, hresL, hres1, tupOf, ↓sP, sA, tyS, simprocAttr]
      exact hret_pure [] (.bool false) rfl (by simp only [live_code, h2_20, h2_25, h2_31, h2_34, h2_38, Bool.and_true, Bool.and_false, Bool.true_and, Bool.false_and, Bool.not_true, Bool.not_false])
     simp only [h2_38]
     refine T2 (hK _ _ _ ?_)
     clear hK K
     refine hw_ret ?_
     simp only [hpost, Tryz.results56, hresL, hres1, tupOf, ↓sP, sA, tyS, simprocAttr]
     exact hret_pure [] (.bool true) rfl (by simp only [live_code, h2_20, h2_25, h2_31, h2_34, h2_38, Bool.and_true, Bool.and_false, Bool.true_and, Bool.false_and, Bool.not_true, Bool.not_false])
    iterate 3 refine S0 ?_ (e := fun K_ h_ => by simp only [sH, ↓sP, sA, tyS, simprocAttr, h2_20, h2_25, h2_31, h2_34]; exact AX h_)
    iterate 2 refine S0 ?_ (e := fun K_ h_ => by simp only [sH, ↓sP, sA, tyS, simprocAttr, h2_20, h2_25, h2_31, h2_34]; exact AX h_)
    iterate 2 refine S0 ?_ (e := fun K_ h_ => by simp only [sH, ↓sP, sA, tyS, simprocAttr, h2_20, h2_25, h2_31, h2_34]; exact AX h_)
    refine T2 (hK _ _ _ ?_)
    clear hK K
    refine hw_ret ?_
    simp only [hpost, Tryz.results56, hresL, hres1, tupOf, ↓sP, sA, tyS, simprocAttr]
    exact hret_pure [] (.bool true) rfl (by simp only [live_code, h2_20, h2_25, h2_31, h2_34, Bool.and_true, Bool.and_false, Bool.true_and, Bool.false_and, Bool.not_true, Bool.not_false])
   iterate 2 refine S0 ?_ (e := fun K_ h_ => by simp only [sH, ↓sP, sA, tyS, simprocAttr, h2_20, h2_25, h2_31]; exact AX h_)
   iterate 3 refine S0 ?_ (e := fun K_ h_ => by simp only [sH, ↓sP, sA, tyS, simprocAttr, h2_20, h2_25, h2_31]; exact AX h_)
   iterate 2 refine S0 ?_ (e := fun K_ h_ => by simp only [sH, ↓sP, sA, tyS, simprocAttr, h2_20, h2_25, h2_31]; exact AX h_)
   iterate 2 refine S0 ?_ (e := fun K_ h_ => by simp only [sH, ↓sP, sA, tyS, simprocAttr, h2_20, h2_25, h2_31]; exact AX h_)
   refine T2 (hK _ _ _ ?_)
   clear hK K
   refine hw_ret ?_
   simp only [hpost, Tryz.results56, hresL, hres1, tupOf, ↓sP, sA, tyS, simprocAttr]
   exact hret_pure [] (.bool false) rfl (by simp only [live_code, h2_20, h2_25, h2_31, Bool.and_true, Bool.and_false, Bool.true_and, Bool.false_and, Bool.not_true, Bool.not_false])
  iterate 4 refine S0 ?_ (e := fun K_ h_ => by simp only [sH, ↓sP, sA, tyS, simprocAttr, h2_20, h2_25]; exact AX h_)
  iterate 2 refine S0 ?_ (e := fun K_ h_ => by simp only [sH, ↓sP, sA, tyS, simprocAttr, h2_20, h2_25]; exact AX h_)
  iterate 2 refine S0 ?_ (e := fun K_ h_ => by simp only [sH, ↓sP, sA, tyS, simprocAttr, h2_20, h2_25]; exact AX h_)
  iterate 3 refine S0 ?_ (e := fun K_ h_ => by simp only [sH, ↓sP, sA, tyS, simprocAttr, h2_20, h2_25]; exact AX h_)
  iterate 2 refine S0 ?_ (e := fun K_ h_ => by simp only [sH, ↓sP, sA, tyS, simprocAttr, h2_20, h2_25]; exact AX h_)
  iterate 2 refine S0 ?_ (e := fun K_ h_ => by simp only [sH, ↓sP, sA, tyS, simprocAttr, h2_20, h2_25]; exact AX h_)
  refine T2 (hK _ _ _ ?_)
  clear hK K
  refine hw_ret ?_
  simp only [hpost, Tryz.results56, hresL, hres1, tupOf, ↓sP, sA, tyS, simprocAttr]
  exact hret_pure [] (.bool false) rfl (by simp only [live_code, h2_20, h2_25, Bool.and_true, Bool.and_false, Bool.true_and, Bool.false_and, Bool.not_true, Bool.not_false])
 iterate 4 refine S0 ?_ (e := fun K_ h_ => by simp only [sH, ↓sP, sA, tyS, simprocAttr, h2_20]; exact AX h_)
 iterate 2 refine S0 ?_ (e := fun K_ h_ => by simp only [sH, ↓sP, sA, tyS, simprocAttr, h2_20]; exact AX h_)
 iterate 4 refine S0 ?_ (e := fun K_ h_ => by simp only [sH, ↓sP, sA, tyS, simprocAttr, h2_20]; exact AX h_)
 iterate 2 refine S0 ?_ (e := fun K_ h_ => by simp only [sH, ↓sP, sA, tyS, simprocAttr, h2_20]; exact AX h_)
 iterate 2 refine S0 ?_ (e := fun K_ h_ => by simp only [sH, ↓sP, sA, tyS, simprocAttr, h2_20]; exact AX h_)
 iterate 3 refine S0 ?_ (e := fun K_ h_ => by simp only [sH, ↓sP, sA, tyS, simprocAttr, h2_20]; exact AX h_)
 iterate 2 refine S0 ?_ (e := fun K_ h_ => by simp only [sH, ↓sP, sA, tyS, simprocAttr, h2_20]; exact AX h_)
 iterate 2 refine S0 ?_ (e := fun K_ h_ => by simp only [sH, ↓sP, sA, tyS, simprocAttr, h2_20]; exact AX h_)
 refine T2 (hK _ _ _ ?_)
 clear hK K
 refine hw_ret ?_
 simp only [hpost, Tryz.results56, hresL, hres1, tupOf, ↓sP, sA, tyS, simprocAttr]
 exact hret_pure [] (.bool false) rfl (by simp only [live_code, h2_20, Bool.and_true, Bool.and_false, Bool.true_and, Bool.false_and, Bool.not_true, Bool.not_false])


theorem vclo_ok (r : Rt) (l : List Dig) (t : Int) (hr : rSz r) (hl : l.length < 2 ^ 40) (k : Ky) : HPure Tryz.prog 121 [k.cv, .rp (.slc (l.map dg)), .rp r.cv, .rp (.int .i64 t)] (fun v => v = .bool (l.contains (kid k) && liveB r k t)) := by
 refine hfn_walk Tryz.func121 rfl (by kernel_rfl) (locOk_nil _) (Nat.le_of_ble_eq_true rfl) ?_
 refine R0 ?_
 refine hw_seq fun K hK => hw_draw2 mixed [(0, [], []), (1, [], []), (2, [], []), (3, [], [0]), (4, [], []), (5, [], []), (6, [], []), (7, [], []), (8, [], []), (9, [], []), (10, [], []), (11, [], [])] [0, 0, 2, 6, 15, 31, 63, 63, 63, 511, 1023, 2047] (by kernel_rfl) (by kernel_rfl) (by kernel_rfl) (by kernel_rfl) rfl (by kernel_rfl) ?_
 iterate 3 refine W0 ?_ (e := fun K_ h_ => by simp only [sH, ↓sP, sA, tyS, simprocAttr, denilL_dg]; exact AX h_)
 refine hwalk2_step (g := none) rfl rfl fun K' hK' => ?_
 simp only [sH, ↓sP, sA, tyS, simprocAttr, denilL_dg]
 refine call_pure (args := [_]) (pid_ok k.p) ⟨rfl, rfl, rfl, rfl⟩ ?_
 rintro u rfl
 refine AX (hK' _ _ ?_)
 clear hK' K'
 refine hwalk2_step (g := none) rfl rfl fun K' hK' => ?_
 simp only [sH, ↓sP, sA, tyS, simprocAttr, denilL_dg]
 refine call_pure (args := [_, _]) (contd_ok l (pid k.p) hl) ⟨rfl, rfl, rfl, rfl⟩ ?_
 rintro u rfl
 refine AX (hK' _ _ ?_)
 clear hK' K'
 refine W0 ?_ (e := fun K_ h_ => by simp only [sH, ↓sP, sA, tyS, simprocAttr, denilL_dg]; exact AX h_)
 refine hwalk2_cases 10 rfl (fun h1_10 => ?_) (fun h1_10 => ?_)
 ·
  iterate 3 refine W0 ?_ (e := fun K_ h_ => by simp only [sH, ↓sP, sA, tyS, simprocAttr, denilL_dg, h1_10]; exact AX h_)
  refine hwalk2_step (g := some (11, true)) rfl rfl fun K' hK' => ?_
  simp only [sH, ↓sP, sA, tyS, simprocAttr, denilL_dg, h1_10]
  refine call_pure (args := [_, _, _]) (live_ok r k t hr) ⟨rfl, rfl, rfl, rfl⟩ ?_
  rintro u rfl
  refine AX (hK' _ _ ?_)
  clear hK' K'
  iterate 2 refine W0 ?_ (e := fun K_ h_ => by simp only [sH, ↓sP, sA, tyS, simprocAttr, denilL_dg, h1_10]; exact AX h_)
  refine hwalk2_cases 15 rfl (fun h1_15 => ?_) (fun h1_15 => ?_)
  ·
   simp only [h1_15]
   refine T2 (hK _ _ _ ?_)
   clear hK K
   refine hw_ret ?_
   simp only [hpost, Tryz.results121, hresL, hres1, tupOf, ↓sP, sA, tyS, simprocAttr]
   exact hret_pure [] (.bool true) rfl (by simp only [kid, h1_10, h1_15, Bool.and_true, Bool.and_false, Bool.true_and, Bool.false_and])
  simp only [h1_15]
  refine T2 (hK _ _ _ ?_)
  clear hK K
  refine hw_ret ?_
  simp only [hpost, Tryz.results121, hresL, hres1, tupOf, ↓sP, sA, tyS, simprocAttr]
  exact hret_pure [] (.bool false) rfl (by simp only [kid, h1_10, h1_15, Bool.and_true, Bool.and_false, Bool.true_and, Bool.false_and])
 iterate 4 refine W0 ?_ (e := fun K_ h_ => by simp only [sH, ↓sP, sA, tyS, simprocAttr, denilL_dg, h1_10]; exact AX h_)
 iterate 2 refine W0 ?_ (e := fun K_ h_ => by simp only [sH, ↓sP, sA, tyS, simprocAttr, denilL_dg, h1_10]; exact AX h_)
 refine T2 (hK _ _ _ ?_)
 clear hK K
 refine hw_ret ?_
 simp only [hpost, Tryz.results121, hresL, hres1, tupOf, ↓sP, sA, tyS, simprocAttr]
 exact hret_pure [] (.bool false) rfl (by simp only [kid, h1_10, Bool.and_true, Bool.and_false, Bool.true_and, Bool.false_and])


theorem towners_ok (r : Rt) (role : Word) (g : FuncId) (caps : List CV) (p : Ky → Bool) (hr : rSz r) (hp : ∀ k ∈ r.k, HPure Tryz.prog g (k.cv :: caps) (fun v => v = .bool (p k))) :
  HPureH Tryz.prog 36 [.c r.cv, .c (.str role), .clo g (caps.map .c)] (fun v => v = .slc ((ownB r.k role p).map .str)) := by
 refine hfn_walk Tryz.func36 rfl (by kernel_rfl) (locOk_h (by simp [HV.menL, HV.men, HV.menL_c])) (Nat.le_of_ble_eq_true rfl) ?_
 have hlk : r.k.length < 2 ^ 40 := hr.2.1.1
 refine R0 ?_
 refine R0 ?_
 refine hw_seq fun K hK => ?_
 refine hw_seq fun K hK => hw_region (by kernel_rfl) ?_
 simp only [sR, simprocAttr]
 iterate 4 refine S0 ?_
 refine T2 (hK _ _ _ ?_)
 clear hK K
 refine hw_block ?_
 refine hw_own 7 0 9 1 rfl rfl rfl rfl ?_
 refine hw_loop (α := {i : Nat // i ≤ r.k.length}) (fun i => (fin [(1, .c (.str role)), (2, .clo g (caps.map .c)), (7, .own 28 (ownF (r.k.take i.1) role p).length), (11, .c (.slc (r.k.map Ky.cv))), (12, .c (.int .i64 r.k.length)), (13, .c (.int .i64 i.1))], fob [(28, .row 9 1 ((ownF (r.k.take i.1) role p).map .str))])) 100 (fun i => r.k.length - i.1) ⟨0, by omega⟩ (fits_fin (by omega) (by simp [FinOk, fin_at, finA_at, upd_at, HV.men, HV.menL, HV.norm, HV.toC, HV.toCL, HV.menL_c, ownF]) (by simp [FobOk, fob_at, upd_at, none0_at, gone, HO.men, HV.men, HV.menL, HV.norm, HV.toC, HV.toCL, ownF])) ?_
 rintro ⟨i, hi⟩
 refine R0 ?_
 refine hw_seq fun K hK => ?_
 refine hw_cond (b := decide ((i : Int) < r.k.length)) rfl (fun hb => ?_) (fun hb => ?_)
 ·
  have hlt : i < r.k.length := by simpa using hb
  have hk := hr.2.1.2 _ (List.getElem_mem hlt)
  have hof := ownF_len (r.k.take i) role p
  have hti : (r.k.take i).length = i := by simp; omega
  refine hw_skip ?_
  refine T0 (hK _ _ _ ?_)
  clear hK K
  refine hw_seq fun K hK => ?_
  have key : ∀ (m : List Word) fr ob nx, m = ownF (r.k.take (i + 1)) role p → Fits 0 fr ob (fin [(1, .c (.str role)), (2, .clo g (caps.map .c)), (7, .own 28 m.length), (11, .c (.slc (r.k.map Ky.cv))), (12, .c (.int .i64 r.k.length)), (13, .c (.int .i64 i))]) (fob [(28, .row 9 1 (m.map .str))]) 500 → K fr ob nx := by
   rintro m fr ob nx rfl hf
   refine hK _ _ _ (hw_fits hf ?_)
   clear hf hK K
   refine hw_region (by kernel_rfl) ?_
   simp only [↓sP, sA, tyS, simprocAttr, i64s i]
   refine ⟨⟨i + 1, hlt⟩, fits_fin (by omega) (by simp [FinOk, fin_at, finA_at, upd_at, HV.men, HV.menL, HV.norm, HV.toC, HV.toCL, HV.menL_c]) (by simp [FobOk, fob_at, upd_at, none0_at, gone, HO.men, HV.men, HV.menL, HV.norm, HV.toC, HV.toCL]), ?_⟩
   show r.k.length - (i + 1) < r.k.length - i
   omega
  refine hw_block ?_
  refine hw_seq fun K hK => hw_region (by kernel_rfl) ?_
  simp only [sR, simprocAttr]
  iterate 4 refine S0 ?_ (e := fun K_ h_ => by simp only [sH, ↓sP, sA, tyS, simprocAttr, Int.natCast_nonneg, Int.ofNat_lt, hlt, nth_map hlt]; exact AX h_)
  refine T2 (hK _ _ _ ?_)
  clear hK K
  refine hw_seq fun K hK => hw_region (by kernel_rfl) ?_
  simp only [sR, simprocAttr]
  iterate 3 refine S0 ?_
  refine hlex_step (g := none) rfl rfl fun K' hK' => ?_
  simp only [sH, ↓sP, sA, tyS, simprocAttr]
  refine call_pure (args := [_, _]) (cont_ok r.k[i].rs role hk.2.1) ⟨rfl, rfl, rfl, rfl⟩ ?_
  rintro u rfl
  refine AX (hK' _ _ ?_)
  clear hK' K'
  refine S0 ?_
  refine hlex_cases 20 rfl (fun h5_20 => ?_) (fun h5_20 => ?_)
  ·
   iterate 2 refine S0 ?_ (e := fun K_ h_ => by simp only [sH, ↓sP, sA, tyS, simprocAttr, h5_20]; exact AX h_)
   refine hlex_step (g := some (21, true)) rfl rfl fun K' hK' => ?_
   simp only [sH, ↓sP, sA, tyS, simprocAttr, h5_20]
   refine call_pure (args := r.k[i].cv :: caps) (hp _ (List.getElem_mem hlt)) ⟨rfl, rfl, rfl, rfl⟩ ?_
   rintro u rfl
   refine AX (hK' _ _ ?_)
   clear hK' K'
   refine S0 ?_ (e := fun K_ h_ => by simp only [sH, ↓sP, sA, tyS, simprocAttr, h5_20]; exact AX h_)
   refine hlex_cases 24 rfl (fun h5_24 => ?_) (fun h5_24 => ?_)
   ·
    simp only [h5_24]
    refine T2 (hK _ _ _ ?_)
    clear hK K
    refine hw_cond (b := true) rfl (fun hb => ?_) (fun hb => ?_)
    ·
     refine hw_region (by kernel_rfl) ?_
     simp only [sR, simprocAttr]
     iterate 6 refine S0 ?_ (e := fun K_ h_ => by simp only [sH, ↓sP, sA, tyS, simprocAttr, List.length_append, hti, h5_20, h5_24]; exact AX h_)
     simp only [sE, ↓reduceIte, simprocAttr]
     refine key (ownF (r.k.take i) role p ++ [r.k[i].o]) _ _ _ (by rw [ownF_take hlt]; simp only [h5_20, h5_24, Bool.and_self, if_true]) ?_
     exact fits_fin (by omega) (by simp [FinOk, fin_at, finA_at, upd_at, HV.men, HV.menL, HV.norm, HV.toC, HV.toCL, HV.menL_c]) (by simp [FobOk, fob_at, upd_at, none0_at, gone, HO.men, HV.men, HV.menL, HV.norm, HV.toC, HV.toCL])
    cases hb
   simp only [h5_24]
   refine T2 (hK _ _ _ ?_)
   clear hK K
   refine hw_cond (b := false) rfl (fun hb => ?_) (fun hb => ?_)
   ·
    cases hb
   refine hw_skip ?_
   simp only [↓sP, sA, tyS, simprocAttr]
   refine key (ownF (r.k.take i) role p) _ _ _ (by rw [ownF_take hlt]; simp only [h5_20, h5_24, Bool.and_true, Bool.and_false, Bool.true_and, Bool.false_and]; try simp) ?_
   exact fits_fin (by omega) (by simp [FinOk, fin_at, finA_at, upd_at, HV.men, HV.menL, HV.norm, HV.toC, HV.toCL, HV.menL_c]) (by simp [FobOk, fob_at, upd_at, none0_at, gone, HO.men, HV.men, HV.menL, HV.norm, HV.toC, HV.toCL])
  iterate 3 refine S0 ?_ (e := fun K_ h_ => by simp only [sH, ↓sP, sA, tyS, simprocAttr, h5_20]; exact AX h_)
  refine S0 ?_ (e := fun K_ h_ => by simp only [sH, ↓sP, sA, tyS, simprocAttr, h5_20]; exact AX h_)
  refine T2 (hK _ _ _ ?_)
  clear hK K
  refine hw_cond (b := false) rfl (fun hb => ?_) (fun hb => ?_)
  ·
   cases hb
  refine hw_skip ?_
  simp only [↓sP, sA, tyS, simprocAttr]
  refine key (ownF (r.k.take i) role p) _ _ _ (by rw [ownF_take hlt]; simp only [h5_20, Bool.and_true, Bool.and_false, Bool.true_and, Bool.false_and]; try simp) ?_
  exact fits_fin (by omega) (by simp [FinOk, fin_at, finA_at, upd_at, HV.men, HV.menL, HV.norm, HV.toC, HV.toCL, HV.menL_c]) (by simp [FobOk, fob_at, upd_at, none0_at, gone, HO.men, HV.men, HV.menL, HV.norm, HV.toC, HV.toCL])
 have hei : i = r.k.length := by simp at hb; omega
 subst hei
 clear hb
 rw [List.take_length]
 have hof := ownF_len r.k role p
 have hsl : ((ownF r.k role p).mergeSort leW).length = (ownF r.k role p).length := (List.mergeSort_perm _ _).length_eq
 refine hw_exit ?_
 simp only [↓sP, sA, tyS, simprocAttr]
 clear hK K
 refine AX (hK _ _ _ ?_)
 clear hK K
 refine hw_seq fun K hK => hw_region (by kernel_rfl) ?_
 simp only [sR, simprocAttr]
 refine S0 ?_
 refine hlex_step (g := none) rfl rfl fun K' hK' => ?_
 simp only [sH, ↓sP, sA, tyS, simprocAttr]
 refine call_sort (sort_ok (ownF r.k role p) (by omega)) rfl rfl (by simp) ⟨rfl, rfl, rfl, rfl⟩ ?_
 refine AX (hK' _ _ ?_)
 clear hK' K'
 refine T2 (hK _ _ _ ?_)
 clear hK K
 refine hw_seq fun K hK => hw_region (by kernel_rfl) ?_
 simp only [sR, simprocAttr]
 refine S0 ?_
 refine hlex_step (g := none) rfl rfl fun K' hK' => ?_
 simp only [sH, ↓sP, sA, tyS, simprocAttr]
 refine call_take (compact_ok ((ownF r.k role p).mergeSort leW) (by omega)) rfl (by rw [List.length_map, hsl]) (by simp) ⟨rfl, rfl, rfl, rfl⟩ ?_
 rintro u rfl
 refine AX (hK' _ _ ?_)
 clear hK' K'
 refine S0 ?_
 refine T2 (hK _ _ _ ?_)
 clear hK K
 refine hw_ret ?_
 simp only [hpost, Tryz.results36, hresL, hres1, tupOf, ↓sP, sA, tyS, simprocAttr]
 refine hret_pure [] (.slc ((ownB r.k role p).map .str)) ?_ rfl
 rw [dedup_ms]
 exact close_c (by simp only [CV.denil, denilL_str])


theorem yes_ok (k : Ky) : HPure Tryz.prog 37 [k.cv] (fun v => v = .bool true) := by
 refine hfn_walk Tryz.func37 rfl (by kernel_rfl) (locOk_nil _) (Nat.le_of_ble_eq_true rfl) ?_
 refine R0 ?_
 refine R0 ?_
 refine hw_ret ?_
 simp only [hpost, Tryz.results37, hresL, hres1, tupOf, ↓sP, sA, tyS, simprocAttr]
 exact hret_pure [] (.bool true) rfl rfl


theorem valid_ok (r : Rt) (hr : rSz r) : HPure Tryz.prog 10 [r.cv] (fun v => v = .bool (validR r)) := by
 refine hfn_walk Tryz.func10 rfl (by kernel_rfl) (locOk_nil _) (Nat.le_of_ble_eq_true rfl) ?_
 refine R0 ?_
 refine hw_seq fun K hK => ?_
 refine hw_seq fun K hK => hw_region (by kernel_rfl) ?_
 simp only [sR, simprocAttr]
 iterate 2 refine S0 ?_
 refine hlex_step (g := none) rfl rfl fun K' hK' => ?_
 simp only [sH, ↓sP, sA, tyS, simprocAttr]
 refine call_pure (args := [_, _]) (within_ok 1 r.v) ⟨rfl, rfl, rfl, rfl⟩ ?_
 rintro u rfl
 refine AX (hK' _ _ ?_)
 clear hK' K'
 iterate 2 refine S0 ?_
 refine hlex_cases 6 rfl (fun h1_6 => ?_) (fun h1_6 => ?_)
 ·
  iterate 2 refine S0 ?_ (e := fun K_ h_ => by simp only [sH, ↓sP, sA, tyS, simprocAttr, h1_6]; exact AX h_)
  refine hlex_step (g := some (8, false)) rfl rfl fun K' hK' => ?_
  simp only [sH, ↓sP, sA, tyS, simprocAttr, h1_6]
  refine call_pure (args := [_, _]) (within_ok 0 r.e) ⟨rfl, rfl, rfl, rfl⟩ ?_
  rintro u rfl
  refine AX (hK' _ _ ?_)
  clear hK' K'
  refine S0 ?_ (e := fun K_ h_ => by simp only [sH, ↓sP, sA, tyS, simprocAttr, h1_6]; exact AX h_)
  iterate 2 refine S0 ?_ (e := fun K_ h_ => by simp only [sH, ↓sP, sA, tyS, simprocAttr, h1_6]; exact AX h_)
  refine hlex_cases 11 rfl (fun h1_11 => ?_) (fun h1_11 => ?_)
  ·
   iterate 2 refine S0 ?_ (e := fun K_ h_ => by simp only [sH, ↓sP, sA, tyS, simprocAttr, h1_6, h1_11]; exact AX h_)
   refine hlex_step (g := some (14, false)) rfl rfl fun K' hK' => ?_
   simp only [sH, ↓sP, sA, tyS, simprocAttr, h1_6, h1_11]
   refine call_pure (args := [_]) (quotas_ok r.q hr.1.1 hr.1.2) ⟨rfl, rfl, rfl, rfl⟩ ?_
   rintro u rfl
   refine AX (hK' _ _ ?_)
   clear hK' K'
   refine S0 ?_ (e := fun K_ h_ => by simp only [sH, ↓sP, sA, tyS, simprocAttr, h1_6, h1_11]; exact AX h_)
   iterate 2 refine S0 ?_ (e := fun K_ h_ => by simp only [sH, ↓sP, sA, tyS, simprocAttr, h1_6, h1_11]; exact AX h_)
   refine hlex_cases 17 rfl (fun h1_17 => ?_) (fun h1_17 => ?_)
   ·
    iterate 2 refine S0 ?_ (e := fun K_ h_ => by simp only [sH, ↓sP, sA, tyS, simprocAttr, h1_6, h1_11, h1_17]; exact AX h_)
    refine hlex_step (g := some (20, false)) rfl rfl fun K' hK' => ?_
    simp only [sH, ↓sP, sA, tyS, simprocAttr, h1_6, h1_11, h1_17]
    refine call_pure (args := [_]) (keys_ok pid_ok r.k hr.2.1.1 hr.2.1.2) ⟨rfl, rfl, rfl, rfl⟩ ?_
    rintro u rfl
    refine AX (hK' _ _ ?_)
    clear hK' K'
    refine S0 ?_ (e := fun K_ h_ => by simp only [sH, ↓sP, sA, tyS, simprocAttr, h1_6, h1_11, h1_17]; exact AX h_)
    iterate 2 refine S0 ?_ (e := fun K_ h_ => by simp only [sH, ↓sP, sA, tyS, simprocAttr, h1_6, h1_11, h1_17]; exact AX h_)
    refine hlex_cases 23 rfl (fun h1_23 => ?_) (fun h1_23 => ?_)
    ·
     iterate 2 refine S0 ?_ (e := fun K_ h_ => by simp only [sH, ↓sP, sA, tyS, simprocAttr, h1_6, h1_11, h1_17, h1_23]; exact AX h_)
     refine hlex_step (g := some (26, false)) rfl rfl fun K' hK' => ?_
     simp only [sH, ↓sP, sA, tyS, simprocAttr, h1_6, h1_11, h1_17, h1_23]
     refine call_pure (args := [_]) (revocations_ok r.x hr.2.2) ⟨rfl, rfl, rfl, rfl⟩ ?_
     rintro u rfl
     refine AX (hK' _ _ ?_)
     clear hK' K'
     refine S0 ?_ (e := fun K_ h_ => by simp only [sH, ↓sP, sA, tyS, simprocAttr, h1_6, h1_11, h1_17, h1_23]; exact AX h_)
     refine S0 ?_ (e := fun K_ h_ => by simp only [sH, ↓sP, sA, tyS, simprocAttr, h1_6, h1_11, h1_17, h1_23]; exact AX h_)
     refine hlex_cases 29 rfl (fun h1_29 => ?_) (fun h1_29 => ?_)
     ·
      simp only [h1_29]
      refine T2 (hK _ _ _ ?_)
      clear hK K
      refine hw_cond (b := false) rfl (fun hb => ?_) (fun hb => ?_)
      ·
       cases hb
      refine hw_skip ?_
      refine T0 (hK _ _ _ ?_)
      clear hK K
      refine hw_seq fun K hK => hw_region (by kernel_rfl) ?_
      simp only [sR, simprocAttr]
      refine S0 ?_ (e := fun K_ h_ => by simp only [sH, ↓sP, sA, tyS, simprocAttr, h1_6, h1_11, h1_17, h1_23, h1_29]; exact AX h_)
      refine hlex_step (g := none) rfl rfl fun K' hK' => ?_
      simp only [sH, ↓sP, sA, tyS, simprocAttr, h1_6, h1_11, h1_17, h1_23, h1_29]
      refine call_pure (args := [_, _]) (need_ok r wRoot hr.1.1) ⟨rfl, rfl, rfl, rfl⟩ ?_
      rintro u rfl
      refine AX (hK' _ _ ?_)
      clear hK' K'
      refine S0 ?_ (e := fun K_ h_ => by simp only [sH, ↓sP, sA, tyS, simprocAttr, h1_6, h1_11, h1_17, h1_23, h1_29]; exact AX h_)
      refine T2 (hK _ _ _ ?_)
      clear hK K
      refine hw_seq fun K hK => hw_region (by kernel_rfl) ?_
      simp only [sR, simprocAttr]
      iterate 3 refine S0 ?_ (e := fun K_ h_ => by simp only [sH, ↓sP, sA, tyS, simprocAttr, h1_6, h1_11, h1_17, h1_23, h1_29]; exact AX h_)
      refine hlex_cases 35 rfl (fun h4_35 => ?_) (fun h4_35 => ?_)
      ·
       refine S0 ?_ (e := fun K_ h_ => by simp only [sH, ↓sP, sA, tyS, simprocAttr, h1_6, h1_11, h1_17, h1_23, h1_29, h4_35]; exact AX h_)
       refine hlex_step (g := some (36, true)) rfl rfl fun K' hK' => ?_
       simp only [sH, ↓sP, sA, tyS, simprocAttr, h1_6, h1_11, h1_17, h1_23, h1_29, h4_35]
       refine call_pureh (hpureh_fn (towners_ok r wRoot 37 [] (fun _ => true) hr fun k _ => yes_ok k)) (by simp [HV.menL, HV.men]) (fun m => by simp [HV.renL, HV.ren]) ⟨rfl, rfl, rfl, rfl⟩ ?_
       rintro u rfl
       refine AX (hK' _ _ ?_)
       clear hK' K'
       iterate 3 refine S0 ?_ (e := fun K_ h_ => by simp only [sH, ↓sP, sA, tyS, simprocAttr, h1_6, h1_11, h1_17, h1_23, h1_29, h4_35]; exact AX h_)
       iterate 2 refine S0 ?_ (e := fun K_ h_ => by simp only [sH, ↓sP, sA, tyS, simprocAttr, h1_6, h1_11, h1_17, h1_23, h1_29, h4_35]; exact AX h_)
       refine hlex_cases 41 rfl (fun h4_41 => ?_) (fun h4_41 => ?_)
       ·
        simp only [h4_41]
        refine T2 (hK _ _ _ ?_)
        clear hK K
        refine hw_ret ?_
        simp only [hpost, Tryz.results10, hresL, hres1, tupOf, ↓sP, sA, tyS, simprocAttr]
        exact hret_pure [] (.bool true) rfl (by simp only [valid_code, h1_6, h1_11, h1_17, h1_23, h1_29, h4_35, h4_41, Bool.and_true, Bool.true_and])
       simp only [h4_41]
       refine T2 (hK _ _ _ ?_)
       clear hK K
       refine hw_ret ?_
       simp only [hpost, Tryz.results10, hresL, hres1, tupOf, ↓sP, sA, tyS, simprocAttr]
       exact hret_pure [] (.bool false) rfl (by simp only [valid_code, h1_6, h1_11, h1_17, h1_23, h1_29, h4_35, h4_41, Bool.and_true, Bool.and_false, Bool.true_and, Bool.false_and])
      iterate 5 refine S0 ?_ (e := fun K_ h_ => by simp only [sH, ↓sP, sA, tyS, simprocAttr, h1_6, h1_11, h1_17, h1_23, h1_29, h4_35]; exact AX h_)
      iterate 2 refine S0 ?_ (e := fun K_ h_ => by simp only [sH, ↓sP, sA, tyS, simprocAttr, h1_6, h1_11, h1_17, h1_23, h1_29, h4_35]; exact AX h_)
      refine T2 (hK _ _ _ ?_)
      clear hK K
      refine hw_ret ?_
      simp only [hpost, Tryz.results10, hresL, hres1, tupOf, ↓sP, sA, tyS, simprocAttr]
      exact hret_pure [] (.bool false) rfl (by simp only [valid_code, h1_6, h1_11, h1_17, h1_23, h1_29, h4_35, Bool.and_true, Bool.and_false, Bool.true_and, Bool.false_and])
     simp only [h1_29]
     refine T2 (hK _ _ _ ?_)
     clear hK K
     refine hw_cond (b := true) rfl (fun hb => ?_) (fun hb => ?_)
     ·
      refine R0 ?_
      refine hw_ret ?_
      simp only [hpost, Tryz.results10, hresL, hres1, tupOf, ↓sP, sA, tyS, simprocAttr]
      exact hret_pure [] (.bool false) rfl (by simp only [valid_code, h1_6, h1_11, h1_17, h1_23, h1_29, Bool.and_true, Bool.and_false, Bool.true_and, Bool.false_and])
     cases hb
    iterate 4 refine S0 ?_ (e := fun K_ h_ => by simp only [sH, ↓sP, sA, tyS, simprocAttr, h1_6, h1_11, h1_17, h1_23]; exact AX h_)
    refine S0 ?_ (e := fun K_ h_ => by simp only [sH, ↓sP, sA, tyS, simprocAttr, h1_6, h1_11, h1_17, h1_23]; exact AX h_)
    refine T2 (hK _ _ _ ?_)
    clear hK K
    refine hw_cond (b := true) rfl (fun hb => ?_) (fun hb => ?_)
    ·
     refine R0 ?_
     refine hw_ret ?_
     simp only [hpost, Tryz.results10, hresL, hres1, tupOf, ↓sP, sA, tyS, simprocAttr]
     exact hret_pure [] (.bool false) rfl (by simp only [valid_code, h1_6, h1_11, h1_17, h1_23, Bool.and_true, Bool.and_false, Bool.true_and, Bool.false_and])
    cases hb
   iterate 4 refine S0 ?_ (e := fun K_ h_ => by simp only [sH, ↓sP, sA, tyS, simprocAttr, h1_6, h1_11, h1_17]; exact AX h_)
   iterate 2 refine S0 ?_ (e := fun K_ h_ => by simp only [sH, ↓sP, sA, tyS, simprocAttr, h1_6, h1_11, h1_17]; exact AX h_)
   iterate 4 refine S0 ?_ (e := fun K_ h_ => by simp only [sH, ↓sP, sA, tyS, simprocAttr, h1_6, h1_11, h1_17]; exact AX h_)
   refine S0 ?_ (e := fun K_ h_ => by simp only [sH, ↓sP, sA, tyS, simprocAttr, h1_6, h1_11, h1_17]; exact AX h_)
   refine T2 (hK _ _ _ ?_)
   clear hK K
   refine hw_cond (b := true) rfl (fun hb => ?_) (fun hb => ?_)
   ·
    refine R0 ?_
    refine hw_ret ?_
    simp only [hpost, Tryz.results10, hresL, hres1, tupOf, ↓sP, sA, tyS, simprocAttr]
    exact hret_pure [] (.bool false) rfl (by simp only [valid_code, h1_6, h1_11, h1_17, Bool.and_true, Bool.and_false, Bool.true_and, Bool.false_and])
   cases hb
  iterate 4 refine S0 ?_ (e := fun K_ h_ => by simp only [sH, ↓sP, sA, tyS, simprocAttr, h1_6, h1_11]; exact AX h_)
  iterate 2 refine S0 ?_ (e := fun K_ h_ => by simp only [sH, ↓sP, sA, tyS, simprocAttr, h1_6, h1_11]; exact AX h_)
  iterate 4 refine S0 ?_ (e := fun K_ h_ => by simp only [sH, ↓sP, sA, tyS, simprocAttr, h1_6, h1_11]; exact AX h_)
  iterate 2 refine S0 ?_ (e := fun K_ h_ => by simp only [sH, ↓sP, sA, tyS, simprocAttr, h1_6, h1_11]; exact AX h_)
  iterate 4 refine S0 ?_ (e := fun K_ h_ => by simp only [sH, ↓sP, sA, tyS, simprocAttr, h1_6, h1_11]; exact AX h_)
  refine S0 ?_ (e := fun K_ h_ => by simp only [sH, ↓sP, sA, tyS, simprocAttr, h1_6, h1_11]; exact AX h_)
  refine T2 (hK _ _ _ ?_)
  clear hK K
  refine hw_cond (b := true) rfl (fun hb => ?_) (fun hb => ?_)
  ·
   refine R0 ?_
   refine hw_ret ?_
   simp only [hpost, Tryz.results10, hresL, hres1, tupOf, ↓sP, sA, tyS, simprocAttr]
   exact hret_pure [] (.bool false) rfl (by simp only [valid_code, h1_6, h1_11, Bool.and_true, Bool.and_false, Bool.true_and, Bool.false_and])
  cases hb
 iterate 4 refine S0 ?_ (e := fun K_ h_ => by simp only [sH, ↓sP, sA, tyS, simprocAttr, h1_6]; exact AX h_)
 iterate 2 refine S0 ?_ (e := fun K_ h_ => by simp only [sH, ↓sP, sA, tyS, simprocAttr, h1_6]; exact AX h_)
 iterate 4 refine S0 ?_ (e := fun K_ h_ => by simp only [sH, ↓sP, sA, tyS, simprocAttr, h1_6]; exact AX h_)
 iterate 2 refine S0 ?_ (e := fun K_ h_ => by simp only [sH, ↓sP, sA, tyS, simprocAttr, h1_6]; exact AX h_)
 iterate 4 refine S0 ?_ (e := fun K_ h_ => by simp only [sH, ↓sP, sA, tyS, simprocAttr, h1_6]; exact AX h_)
 iterate 2 refine S0 ?_ (e := fun K_ h_ => by simp only [sH, ↓sP, sA, tyS, simprocAttr, h1_6]; exact AX h_)
 iterate 4 refine S0 ?_ (e := fun K_ h_ => by simp only [sH, ↓sP, sA, tyS, simprocAttr, h1_6]; exact AX h_)
 refine S0 ?_ (e := fun K_ h_ => by simp only [sH, ↓sP, sA, tyS, simprocAttr, h1_6]; exact AX h_)
 refine T2 (hK _ _ _ ?_)
 clear hK K
 refine hw_cond (b := true) rfl (fun hb => ?_) (fun hb => ?_)
 ·
  refine R0 ?_
  refine hw_ret ?_
  simp only [hpost, Tryz.results10, hresL, hres1, tupOf, ↓sP, sA, tyS, simprocAttr]
  exact hret_pure [] (.bool false) rfl (by simp only [valid_code, h1_6, Bool.and_true, Bool.and_false, Bool.true_and, Bool.false_and])
 cases hb


theorem tneed_ok (r : Rt) (w : Word) (hr : rSz r) : HPure Tryz.prog 45 [r.cv, .str w] (fun v => v = .int .i64 (needV r w)) := by
 refine hfn_walk Tryz.func45 rfl (by kernel_rfl) (locOk_nil _) (Nat.le_of_ble_eq_true rfl) ?_
 refine R0 ?_
 refine hw_seq fun K hK => ?_
 refine hw_seq fun K hK => hw_region (by kernel_rfl) ?_
 simp only [sR, simprocAttr]
 refine S0 ?_
 refine hlex_step (g := none) rfl rfl fun K' hK' => ?_
 simp only [sH, ↓sP, sA, tyS, simprocAttr]
 refine call_pure (args := [_]) (valid_ok r hr) ⟨rfl, rfl, rfl, rfl⟩ ?_
 rintro u rfl
 refine AX (hK' _ _ ?_)
 clear hK' K'
 refine S0 ?_
 refine T2 (hK _ _ _ ?_)
 clear hK K
 refine hw_cond (b := !validR r) rfl (fun hb => ?_) (fun hb => ?_)
 ·
  refine R0 ?_
  refine hw_ret ?_
  simp only [hpost, Tryz.results45, hresL, hres1, tupOf, ↓sP, sA, tyS, simprocAttr]
  exact hret_pure [] (.int .i64 0) rfl (by unfold needV; rw [if_neg (by simpa using hb)])
 refine hw_skip ?_
 refine T0 (hK _ _ _ ?_)
 clear hK K
 refine hw_seq fun K hK => hw_region (by kernel_rfl) ?_
 simp only [sR, simprocAttr]
 iterate 2 refine S0 ?_
 refine hlex_step (g := none) rfl rfl fun K' hK' => ?_
 simp only [sH, ↓sP, sA, tyS, simprocAttr]
 refine call_pure (args := [_, _]) (need_ok r w hr.1.1) ⟨rfl, rfl, rfl, rfl⟩ ?_
 rintro u rfl
 refine AX (hK' _ _ ?_)
 clear hK' K'
 refine S0 ?_
 refine T2 (hK _ _ _ ?_)
 clear hK K
 refine hw_ret ?_
 simp only [hpost, Tryz.results45, hresL, hres1, tupOf, ↓sP, sA, tyS, simprocAttr]
 exact hret_pure [] (.int .i64 _) rfl (by unfold needV; rw [if_pos (by simpa using hb)])


theorem vouched_ok (r : Rt) (role : Word) (l : List Dig) (t : Int) (hr : rSz r) (hl : l.length < 2 ^ 40) : HPure Tryz.prog 90 [r.cv, .str role, .slc (l.map dg), .int .i64 t] (fun v => v = .slc ((vouched r role l t).map .str)) := by
 refine hfn_walk Tryz.func90 rfl (by kernel_rfl) (locOk_nil _) (Nat.le_of_ble_eq_true rfl) ?_
 refine hw_seq fun K hK => hw_region (by kernel_rfl) ?_
 simp only [sR, simprocAttr]
 iterate 4 refine S0 ?_
 refine T2 (hK _ _ _ ?_)
 clear hK K
 refine hw_seq fun K hK => ?_
 refine hw_seq fun K hK => hw_region (by kernel_rfl) ?_
 simp only [sR, simprocAttr]
 refine S0 ?_
 refine hlex_step (g := none) rfl rfl fun K' hK' => ?_
 simp only [sH, ↓sP, sA, tyS, simprocAttr]
 refine call_pure (args := [_]) (valid_ok r hr) ⟨rfl, rfl, rfl, rfl⟩ ?_
 rintro u rfl
 refine AX (hK' _ _ ?_)
 clear hK' K'
 refine S0 ?_
 refine T2 (hK _ _ _ ?_)
 clear hK K
 refine hw_cond (b := !validR r) rfl (fun hb => ?_) (fun hb => ?_)
 ·
  refine R0 ?_
  refine hw_ret ?_
  simp only [hpost, Tryz.results90, hresL, hres1, tupOf, ↓sP, sA, tyS, simprocAttr]
  exact hret_pure [] (.slc []) rfl (by unfold vouched; rw [if_neg (by simpa using hb)]; rfl)
 refine hw_skip ?_
 refine T0 (hK _ _ _ ?_)
 clear hK K
 refine hw_freeze 4 0 rfl rfl ?_
 refine hw_freeze 6 4 rfl rfl ?_
 refine hw_freeze 7 8 rfl rfl ?_
 refine hw_seq fun K hK => hw_region (by kernel_rfl) ?_
 simp only [sR, simprocAttr]
 iterate 3 refine S0 ?_
 refine hlex_step (g := none) rfl rfl fun K' hK' => ?_
 simp only [sH, ↓sP, sA, tyS, simprocAttr]
 refine call_pureh (towners_ok r role 121 [.rp (.slc (l.map dg)), .rp r.cv, .rp (.int .i64 t)] (fun k => l.contains (kid k) && liveB r k t) hr fun k _ => vclo_ok r l t hr hl k) (by simp [HV.menL, HV.men]) (fun m => by simp [HV.renL, HV.ren]) ⟨rfl, rfl, rfl, rfl⟩ ?_
 rintro u rfl
 refine AX (hK' _ _ ?_)
 clear hK' K'
 refine S0 ?_
 refine T2 (hK _ _ _ ?_)
 clear hK K
 refine hw_ret ?_
 simp only [hpost, Tryz.results90, hresL, hres1, tupOf, ↓sP, sA, tyS, simprocAttr]
 refine hret_pure [] (.slc ((ownB r.k role fun k => l.contains (kid k) && liveB r k t).map .str)) ?_ (by unfold vouched; rw [if_pos (by simpa using hb)])
 exact close_c (by simp only [CV.denil, denilL_str])


theorem enough_ok (r : Rt) (role : Word) (l : List Dig) (t : Int) (hr : rSz r) (hl : l.length < 2 ^ 40) : HPure Tryz.prog 46 [r.cv, .str role, .slc (l.map dg), .int .i64 t] (fun v => v = .bool (enough r role l t)) := by
 refine hfn_walk Tryz.func46 rfl (by kernel_rfl) (locOk_nil _) (Nat.le_of_ble_eq_true rfl) ?_
 refine R0 ?_
 refine hw_seq fun K hK => hw_region (by kernel_rfl) ?_
 simp only [sR, simprocAttr]
 iterate 2 refine S0 ?_
 refine hlex_step (g := none) rfl rfl fun K' hK' => ?_
 simp only [sH, ↓sP, sA, tyS, simprocAttr]
 refine call_pure (args := [_, _]) (tneed_ok r role hr) ⟨rfl, rfl, rfl, rfl⟩ ?_
 rintro u rfl
 refine AX (hK' _ _ ?_)
 clear hK' K'
 refine S0 ?_
 refine T2 (hK _ _ _ ?_)
 clear hK K
 refine hw_seq fun K hK => hw_region (by kernel_rfl) ?_
 simp only [sR, simprocAttr]
 iterate 3 refine S0 ?_ (e := fun K_ h_ => by simp only [sH, ↓sP, sA, tyS, simprocAttr, denilL_dg]; exact AX h_)
 refine hlex_cases 14 rfl (fun h2_14 => ?_) (fun h2_14 => ?_)
 ·
  iterate 5 refine S0 ?_ (e := fun K_ h_ => by simp only [sH, ↓sP, sA, tyS, simprocAttr, denilL_dg, h2_14]; exact AX h_)
  refine hlex_step (g := some (15, true)) rfl rfl fun K' hK' => ?_
  simp only [sH, ↓sP, sA, tyS, simprocAttr, denilL_dg, h2_14]
  refine call_pure (args := [_, _, _, _]) (vouched_ok r role l t hr hl) ⟨rfl, rfl, rfl, rfl⟩ ?_
  rintro u rfl
  refine AX (hK' _ _ ?_)
  clear hK' K'
  iterate 2 refine S0 ?_ (e := fun K_ h_ => by simp only [sH, ↓sP, sA, tyS, simprocAttr, denilL_dg, h2_14]; exact AX h_)
  iterate 2 refine S0 ?_ (e := fun K_ h_ => by simp only [sH, ↓sP, sA, tyS, simprocAttr, denilL_dg, h2_14]; exact AX h_)
  refine hlex_cases 23 rfl (fun h2_23 => ?_) (fun h2_23 => ?_)
  ·
   simp only [h2_23]
   refine T2 (hK _ _ _ ?_)
   clear hK K
   refine hw_ret ?_
   simp only [hpost, Tryz.results46, hresL, hres1, tupOf, ↓sP, sA, tyS, simprocAttr]
   exact hret_pure [] (.bool true) rfl (by simp only [enough, h2_14, h2_23, Bool.and_true, Bool.and_false, Bool.true_and, Bool.false_and])
  simp only [h2_23]
  refine T2 (hK _ _ _ ?_)
  clear hK K
  refine hw_ret ?_
  simp only [hpost, Tryz.results46, hresL, hres1, tupOf, ↓sP, sA, tyS, simprocAttr]
  exact hret_pure [] (.bool false) rfl (by simp only [enough, h2_14, h2_23, Bool.and_true, Bool.and_false, Bool.true_and, Bool.false_and])
 iterate 8 refine S0 ?_ (e := fun K_ h_ => by simp only [sH, ↓sP, sA, tyS, simprocAttr, denilL_dg, h2_14]; exact AX h_)
 iterate 2 refine S0 ?_ (e := fun K_ h_ => by simp only [sH, ↓sP, sA, tyS, simprocAttr, denilL_dg, h2_14]; exact AX h_)
 refine T2 (hK _ _ _ ?_)
 clear hK K
 refine hw_ret ?_
 simp only [hpost, Tryz.results46, hresL, hres1, tupOf, ↓sP, sA, tyS, simprocAttr]
 exact hret_pure [] (.bool false) rfl (by simp only [enough, h2_14, Bool.and_true, Bool.and_false, Bool.true_and, Bool.false_and])

end Go.Proofs.YtenbfeemmpjdhaaGreatDoor
