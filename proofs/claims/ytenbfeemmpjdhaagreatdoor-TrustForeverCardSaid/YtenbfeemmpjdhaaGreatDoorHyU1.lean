/- Part of a proof: walks of functions of the program, by contracts, and the rules they use. By an AI agent. -/
import Derived.Test.YtenbfeemmpjdhaaGreatDoorHySq
import Derived.Test.YtenbfeemmpjdhaaGreatDoorHlZb
import Derived.Test.YtenbfeemmpjdhaaGreatDoorPl11q
import Derived.Test.YtenbfeemmpjdhaaGreatDoorPl18
import Derived.Test.YtenbfeemmpjdhaaGreatDoorHlAs
set_option linter.unusedSimpArgs false
set_option linter.unusedVariables false
set_option linter.defProp false
namespace Go.Proofs.YtenbfeemmpjdhaaGreatDoor
open Go Go.Hl Go.Pl
set_option maxRecDepth 10000
set_option linter.unusedSimpArgs false
set_option linter.unusedVariables false

theorem has_ok (l : List (List UInt8)) (w : List UInt8) (hl : l.length < 2 ^ 62) : HPure Tryz.prog 88 [.slc (l.map .str), .str w] (fun v => v = .bool (l.contains w)) := by
 refine hfn_walk Tryz.func88 rfl (by kernel_rfl) (locOk_nil _) (Nat.le_of_ble_eq_true rfl) ?_
 refine R0 ?_
 refine hw_seq fun K hK => ?_
 refine R0 ?_
 refine hw_block ?_
 refine hw_loop (α := {i : Nat // i ≤ l.length ∧ w ∉ l.take i}) (fun i => (fin [(0, .c (.slc (l.map .str))), (1, .c (.str w)), (5, .c (.int .i64 i.1))], fob [])) 0 (fun i => l.length - i.1) ⟨0, by omega, by simp⟩ (fF) ?_
 rintro ⟨i, hi, hni⟩
 refine hw_seq fun K hK => ?_
 refine R0 ?_
 refine hw_cond (b := decide ((i : Int) < l.length)) rfl (fun hb => ?_) (fun hb => ?_)
 ·
  have hlt : i < l.length := by simpa using hb
  refine hw_skip ?_
  refine T0 (hK _ _ _ ?_)
  clear hK K
  refine hw_seq fun K hK => hw_block ?_
  refine R0 ?_ (e := fun _ h_ => by simp only [↓sP, sA, tyS, simprocAttr, Int.natCast_nonneg, Int.ofNat_lt, hlt, nth_map hlt]; exact AX h_)
  refine hw_cond (b := l[i] == w) rfl (fun hb => ?_) (fun hb => ?_)
  ·
   refine R0 ?_
   refine hw_ret ?_
   simp only [hpost, Tryz.results88, hresL, hres1, tupOf, ↓sP, sA, tyS, simprocAttr]
   refine hret_pure [] (.bool true) rfl ?_
   have : l[i] ∈ l := List.getElem_mem _
   simp_all
  refine hw_skip ?_
  refine T0 (hK _ _ _ ?_)
  clear hK K
  refine hw_region (by kernel_rfl) ?_
  simp only [↓sP, sA, tyS, simprocAttr, i64s i]
  refine ⟨⟨i + 1, hlt, ?_⟩, fF, ?_⟩
  ·
   rw [List.take_succ_eq_append_getElem hlt]
   intro hm
   rcases List.mem_append.1 hm with hm | hm
   ·
    exact hni hm
   simp_all
  show l.length - (i + 1) < l.length - i
  omega
 refine hw_exit ?_
 simp only [↓sP, sA, tyS, simprocAttr]
 clear hK K
 refine AX (hK _ _ _ ?_)
 clear hK K
 refine R0 ?_
 refine hw_ret ?_
 simp only [hpost, Tryz.results88, hresL, hres1, tupOf, ↓sP, sA, tyS, simprocAttr]
 refine hret_pure [] (.bool false) rfl ?_
 have : i = l.length := by simp at hb; omega
 subst this
 simpa using hni

theorem ascending_ok (l : List Word) (hl : l.length < 2 ^ 62) : HPure Tryz.prog 119 [.slc (l.map .str)] (fun v => v = .bool (ascB l)) := by
 refine hfn_walk Tryz.func119 rfl (by kernel_rfl) (locOk_nil _) (Nat.le_of_ble_eq_true rfl) ?_
 refine R0 ?_
 refine hw_seq fun K hK => ?_
 refine R0 ?_
 refine hw_block ?_
 refine hw_loop (α := {i : Nat // 1 ≤ i ∧ (i ≤ l.length ∨ i = 1) ∧ ∀ j (h : j + 1 < i) (h' : j + 1 < l.length), slt l[j] l[j + 1] = true}) (fun i => (fin [(0, .c (.slc (l.map .str))), (3, .c (.int .i64 i.1))], fob [])) 0 (fun i => l.length - i.1) ⟨1, by omega, by simp, fun j h => by omega⟩ (fF) ?_
 rintro ⟨i, h1, hi, hni⟩
 refine hw_seq fun K hK => ?_
 refine R0 ?_
 refine hw_cond (b := decide ((i : Int) < l.length)) rfl (fun hb => ?_) (fun hb => ?_)
 ·
  have hlt : i < l.length := by simpa using hb
  have e1 : IntKind.i64.wrap ((i : Int) - 1) = ((i - 1 : Nat) : Int) := by rw [IntWalk.i64_in _ (by omega)]; omega
  have hlt1 : i - 1 < l.length := by omega
  refine hw_skip ?_
  refine T0 (hK _ _ _ ?_)
  clear hK K
  refine hw_seq fun K hK => hw_block ?_
  refine hw_seq fun K hK => hw_quiet mixed (by kernel_rfl) (by kernel_rfl) (by kernel_rfl) ?_
  simp only [↓sP, sA, tyS, simprocAttr, Int.natCast_nonneg, Int.ofNat_lt, hlt, e1, hlt1, nth_map hlt, nth_map hlt1]
  refine AX (hK _ _ _ ?_)
  clear hK K
  refine hw_cond (b := !slt l[i - 1] l[i]) rfl (fun hb => ?_) (fun hb => ?_)
  ·
   refine R0 ?_
   refine hw_ret ?_
   simp only [hpost, Tryz.results119, hresL, hres1, tupOf, ↓sP, sA, tyS, simprocAttr]
   refine hret_pure [] (.bool false) rfl ?_
   congr 1
   refine (Bool.not_eq_true _ ▸ fun h => ?_ : ascB l = false).symm
   have := ascB_iff.1 h (i - 1) (by omega)
   simp only [show i - 1 + 1 = i by omega] at this
   simp [this] at hb
  refine hw_skip ?_
  refine T0 (hK _ _ _ ?_)
  clear hK K
  refine hw_region (by kernel_rfl) ?_
  simp only [↓sP, sA, tyS, simprocAttr, i64s i]
  refine ⟨⟨i + 1, by omega, by omega, fun j h h' => ?_⟩, fF, ?_⟩
  ·
   by_cases e : j + 1 = i
   ·
    subst e
    simpa using hb
   exact hni j (by omega) h'
  show l.length - (i + 1) < l.length - i
  omega
 refine hw_exit ?_
 simp only [↓sP, sA, tyS, simprocAttr]
 clear hK K
 refine AX (hK _ _ _ ?_)
 clear hK K
 refine R0 ?_
 refine hw_ret ?_
 simp only [hpost, Tryz.results119, hresL, hres1, tupOf, ↓sP, sA, tyS, simprocAttr]
 refine hret_pure [] (.bool true) rfl ?_
 have : l.length ≤ i := by simp at hb; omega
 exact congrArg _ (ascB_iff.2 fun j h => hni j (by omega) h).symm

end Go.Proofs.YtenbfeemmpjdhaaGreatDoor

namespace Go.Proofs.YtenbfeemmpjdhaaGreatDoor
open Go Go.Hl Go.Pl
set_option maxRecDepth 10000
set_option linter.unusedSimpArgs false
set_option linter.unusedVariables false

theorem add_ok (l : List Word) (w : Word) (hl : l.length < 2 ^ 40) : HPure Tryz.prog 89 [.slc (l.map .str), .str w] (fun v => v = .slc ((addW l w).map .str)) := by
 refine hfn_walk Tryz.func89 rfl (by kernel_rfl) (locOk_nil _) (Nat.le_of_ble_eq_true rfl) ?_
 refine R0 ?_
 refine hw_seq fun K hK => ?_
 refine hw_seq fun K hK => hw_region (by kernel_rfl) ?_
 simp only [↓sP, sA, tyS, simprocAttr]
 refine call_pure (has_ok l w (by omega)) ⟨rfl, rfl, rfl, rfl⟩ ?_
 rintro v rfl
 refine AX (hK _ _ _ ?_)
 clear hK K
 refine hw_cond (b := l.contains w) rfl (fun hb => ?_) (fun hb => ?_)
 ·
  refine R0 ?_
  refine hw_ret ?_
  simp only [hpost, Tryz.results89, hresL, hres1, tupOf, ↓sP, sA, tyS, simprocAttr]
  refine hret_pure [] (.slc (l.map .str)) ?_ ?_
  ·
   simp [HV.close, CV.denil, denilL_str]; rfl
  simp only [addW, hb, if_true]
 refine hw_skip ?_
 refine T0 (hK _ _ _ ?_)
 clear hK K
 refine R0 ?_
 refine R0 ?_
 refine hw_seq fun K hK => ?_
 refine hw_block ?_
 refine hw_own 5 0 9 1 rfl rfl rfl rfl ?_
 refine hw_loop (α := {i : Nat // i ≤ l.length ∧ ∀ j (h : j < i) (h' : j < l.length), slt l[j] w = true}) (fun i => (fin [(0, .c (.slc (l.map .str))), (1, .c (.str w)), (5, .own 24 i.1), (6, .c (.int .i64 i.1))], fob [(24, .row 9 1 ((l.take i.1).map .str))])) 25 (fun i => l.length - i.1) ⟨0, by omega, fun j h => by omega⟩ (fF) ?_
 rintro ⟨i, hi, hni⟩
 have hti : (l.take i).length = i := by simp; omega
 refine hw_seq fun K hK => ?_
 by_cases hlt : i < l.length
 ·
  refine hw_seq fun K hK => Rg ?_
  iterate 12 refine S0 ?_ (e := fun _ h_ => by simp only [sH, ↓sP, sA, tyS, simprocAttr, Int.natCast_nonneg, Int.ofNat_lt, hlt, nth_map hlt]; exact AX h_)
  refine T2 (hK _ _ _ ?_)
  clear hK K
  refine hw_cond (b := slt l[i] w) rfl (fun hb => ?_) (fun hb => ?_)
  ·
   refine hw_skip ?_
   refine T0 (hK _ _ _ ?_)
   clear hK K
   refine hw_block ?_
   refine hw_seq fun K hK => Rg ?_
   iterate 8 refine S0 ?_ (e := fun _ h_ => by simp only [sH, ↓sP, sA, tyS, simprocAttr, Int.natCast_nonneg, Int.ofNat_lt, hlt, nth_map hlt, hti, List.length_append]; exact AX h_)
   refine T2 (hK _ _ _ ?_)
   clear hK K
   refine hw_region (by kernel_rfl) ?_
   simp only [↓sP, sA, tyS, simprocAttr, i64s i]
   refine ⟨⟨i + 1, by omega, fun j h h' => ?_⟩, fits_fin (by omega) ?_ ?_, ?_⟩
   ·
    by_cases e : j = i
    ·
     subst e; exact hb
    exact hni j (by omega) h'
   ·
    simp [FinOk, upd_at, fin_at, HV.men]
   ·
    refine ⟨?_, by omega, trivial, trivial⟩
    simp only [List.take_succ_eq_append_getElem hlt, List.map_append]
    rfl
   show l.length - (i + 1) < l.length - i
   omega
  refine hw_exit ?_
  simp only [↓sP, sA, tyS, simprocAttr]
  clear hK K
  refine AX (hK _ _ _ ?_)
  clear hK K
  refine hw_seq fun K hK => hw_draw2 mixed [(0, [], []), (1, [], []), (2, [], []), (4, [2], []), (5, [2], []), (6, [2], []), (3, [], [4, 5, 6]), (7, [], []), (8, [], [])] [0, 0, 2, 7, 0, 0, 48, 127, 255] (by kernel_rfl) (by kernel_rfl) (by kernel_rfl) (by kernel_rfl) rfl (by kernel_rfl) ?_
  iterate 9 refine W0 ?_ (e := fun _ h_ => by simp only [sH, ↓sP, sA, tyS, simprocAttr, hti, ← List.map_drop, ← List.map_take]; exact AX h_)
  refine T2 (hK _ _ _ ?_)
  clear hK K
  refine hw_ret ?_
  simp only [hpost, Tryz.results89, hresL, hres1, tupOf, ↓sP, sA, tyS, simprocAttr]
  refine hret_pure [24] (.slc ((l.take i ++ w :: l.drop i).map .str)) ?_ ?_
  ·
   have : l.take (l.length - i) = l.take (l.length - i) := rfl
   simp [HV.close, upd_at, HV.norm, HV.toC, List.take_of_length_le]
  rw [addW_eq (by assumption) hi hni (fun _ => hb)]
 refine hw_seq fun K hK => Rg ?_
 iterate 12 refine S0 ?_ (e := fun _ h_ => by simp only [sH, ↓sP, sA, tyS, simprocAttr, Int.ofNat_lt, hlt]; exact AX h_)
 refine T2 (hK _ _ _ ?_)
 clear hK K
 refine hw_cond (b := _) rfl (fun hb => ?_) (fun hb => ?_)
 ·
  cases hb
 refine hw_exit ?_
 simp only [↓sP, sA, tyS, simprocAttr]
 clear hK K
 refine AX (hK _ _ _ ?_)
 clear hK K
 refine hw_seq fun K hK => hw_draw2 mixed [(0, [], []), (1, [], []), (2, [], []), (4, [2], []), (5, [2], []), (6, [2], []), (3, [], [4, 5, 6]), (7, [], []), (8, [], [])] [0, 0, 2, 7, 0, 0, 48, 127, 255] (by kernel_rfl) (by kernel_rfl) (by kernel_rfl) (by kernel_rfl) rfl (by kernel_rfl) ?_
 iterate 9 refine W0 ?_ (e := fun _ h_ => by simp only [sH, ↓sP, sA, tyS, simprocAttr, hti, ← List.map_drop, ← List.map_take]; exact AX h_)
 refine T2 (hK _ _ _ ?_)
 clear hK K
 refine hw_ret ?_
 simp only [hpost, Tryz.results89, hresL, hres1, tupOf, ↓sP, sA, tyS, simprocAttr]
 refine hret_pure [24] (.slc ((l.take i ++ w :: l.drop i).map .str)) ?_ ?_
 ·
  simp [HV.close, upd_at, HV.norm, HV.toC, List.take_of_length_le]
 rw [addW_eq (by assumption) hi hni (fun h => absurd h hlt)]

end Go.Proofs.YtenbfeemmpjdhaaGreatDoor

namespace Go.Proofs.YtenbfeemmpjdhaaGreatDoor
open Go Go.Hl Go.Pl
set_option maxRecDepth 10000
set_option maxHeartbeats 2000000
set_option linter.unusedSimpArgs false
set_option linter.unusedVariables false

theorem within_ok (lo n : Int) : HPure Tryz.prog 31 [.int .i64 lo, .int .i64 n] (fun v => v = .bool (decide (lo ≤ n) && decide (n ≤ maxN))) := by
  refine hfn_walk Tryz.func31 rfl (by kernel_rfl) (locOk_nil _) (Nat.le_of_ble_eq_true rfl) ?_
  refine R0 ?_
  refine hw_seq fun K hK => Rg ?_
  iterate 4 refine S0 ?_
  refine hlex_cases 7 rfl (fun h1_7 => ?_) (fun h1_7 => ?_)
  · iterate 2 refine S0 ?_ (e := fun _ h_ => by simp only [sH, ↓sP, sA, tyS, simprocAttr, h1_7]; exact AX h_)
    iterate 2 refine S0 ?_ (e := fun _ h_ => by simp only [sH, ↓sP, sA, tyS, simprocAttr, h1_7]; exact AX h_)
    refine T2 (hK _ _ _ ?_)
    clear hK K
    refine hw_ret ?_
    simp only [hpost, Tryz.results31, hresL, hres1, tupOf, ↓sP, sA, tyS, simprocAttr]
    refine hret_pure [] (.bool _) rfl ?_
    simp [h1_7, maxN]
    all_goals first | rfl | simp_all
  · iterate 2 refine S0 ?_ (e := fun _ h_ => by simp only [sH, ↓sP, sA, tyS, simprocAttr, h1_7]; exact AX h_)
    iterate 2 refine S0 ?_ (e := fun _ h_ => by simp only [sH, ↓sP, sA, tyS, simprocAttr, h1_7]; exact AX h_)
    refine T2 (hK _ _ _ ?_)
    clear hK K
    refine hw_ret ?_
    simp only [hpost, Tryz.results31, hresL, hres1, tupOf, ↓sP, sA, tyS, simprocAttr]
    refine hret_pure [] (.bool _) rfl ?_
    simp [h1_7, maxN]
    all_goals first | rfl | simp_all


theorem instant_ok (n : Int) : HPure Tryz.prog 38 [.int .i64 n] (fun v => v = .bool (inN n)) := by
  refine hfn_walk Tryz.func38 rfl (by kernel_rfl) (locOk_nil _) (Nat.le_of_ble_eq_true rfl) ?_
  refine R0 ?_
  refine hw_seq fun K hK => Rg ?_
  iterate 3 refine S0 ?_
  refine hlex_cases 4 rfl (fun h1_4 => ?_) (fun h1_4 => ?_)
  · iterate 2 refine S0 ?_ (e := fun _ h_ => by simp only [sH, ↓sP, sA, tyS, simprocAttr, h1_4]; exact AX h_)
    iterate 2 refine S0 ?_ (e := fun _ h_ => by simp only [sH, ↓sP, sA, tyS, simprocAttr, h1_4]; exact AX h_)
    refine T2 (hK _ _ _ ?_)
    clear hK K
    refine hw_ret ?_
    simp only [hpost, Tryz.results38, hresL, hres1, tupOf, ↓sP, sA, tyS, simprocAttr]
    refine hret_pure [] (.bool _) rfl ?_
    simp [h1_4, inN, maxN]
    all_goals first | rfl | simp_all
  · iterate 2 refine S0 ?_ (e := fun _ h_ => by simp only [sH, ↓sP, sA, tyS, simprocAttr, h1_4]; exact AX h_)
    iterate 2 refine S0 ?_ (e := fun _ h_ => by simp only [sH, ↓sP, sA, tyS, simprocAttr, h1_4]; exact AX h_)
    refine T2 (hK _ _ _ ?_)
    clear hK K
    refine hw_ret ?_
    simp only [hpost, Tryz.results38, hresL, hres1, tupOf, ↓sP, sA, tyS, simprocAttr]
    refine hret_pure [] (.bool _) rfl ?_
    simp [h1_4, inN, maxN]
    all_goals first | rfl | simp_all


theorem height_ok (n : Int) : HPure Tryz.prog 113 [.int .i64 n] (fun v => v = .bool (decide (0 ≤ n) && decide (n ≤ 6))) := by
  refine hfn_walk Tryz.func113 rfl (by kernel_rfl) (locOk_nil _) (Nat.le_of_ble_eq_true rfl) ?_
  refine R0 ?_
  refine hw_seq fun K hK => Rg ?_
  iterate 3 refine S0 ?_
  refine hlex_cases 4 rfl (fun h1_4 => ?_) (fun h1_4 => ?_)
  · iterate 2 refine S0 ?_ (e := fun _ h_ => by simp only [sH, ↓sP, sA, tyS, simprocAttr, h1_4]; exact AX h_)
    iterate 2 refine S0 ?_ (e := fun _ h_ => by simp only [sH, ↓sP, sA, tyS, simprocAttr, h1_4]; exact AX h_)
    refine T2 (hK _ _ _ ?_)
    clear hK K
    refine hw_ret ?_
    simp only [hpost, Tryz.results113, hresL, hres1, tupOf, ↓sP, sA, tyS, simprocAttr]
    refine hret_pure [] (.bool _) rfl ?_
    simp [h1_4]
    all_goals first | rfl | simp_all
  · iterate 2 refine S0 ?_ (e := fun _ h_ => by simp only [sH, ↓sP, sA, tyS, simprocAttr, h1_4]; exact AX h_)
    iterate 2 refine S0 ?_ (e := fun _ h_ => by simp only [sH, ↓sP, sA, tyS, simprocAttr, h1_4]; exact AX h_)
    refine T2 (hK _ _ _ ?_)
    clear hK K
    refine hw_ret ?_
    simp only [hpost, Tryz.results113, hresL, hres1, tupOf, ↓sP, sA, tyS, simprocAttr]
    refine hret_pure [] (.bool _) rfl ?_
    simp [h1_4]
    all_goals first | rfl | simp_all


theorem pvalid_ok (p : Pk) : HPure Tryz.prog 78 [p.cv] (fun v => v = .bool (decide (0 ≤ p.h) && decide (p.h ≤ 6))) := by
  refine hfn_walk Tryz.func78 rfl (by kernel_rfl) (locOk_nil _) (Nat.le_of_ble_eq_true rfl) ?_
  refine R0 ?_
  refine hw_seq fun K hK => Rg ?_
  iterate 2 refine S0 ?_
  refine hlex_step (g := none) rfl rfl fun K' hK' => ?_
  simp only [sH, ↓sP, sA, tyS, simprocAttr]
  refine call_pure (args := [_]) (height_ok p.h) ⟨rfl, rfl, rfl, rfl⟩ ?_
  rintro u rfl
  refine AX (hK' _ _ ?_)
  clear hK' K'
  refine S0 ?_
  refine T2 (hK _ _ _ ?_)
  clear hK K
  refine hw_ret ?_
  simp only [hpost, Tryz.results78, hresL, hres1, tupOf, ↓sP, sA, tyS, simprocAttr]
  exact hret_pure [] (.bool _) rfl rfl


theorem pvalid9_ok (p : Pk) : HPure Tryz.prog 85 [p.cv] (fun v => v = .bool (decide (0 ≤ p.h) && decide (p.h ≤ 6))) := by
  refine hfn_walk Tryz.func85 rfl (by kernel_rfl) (locOk_nil _) (Nat.le_of_ble_eq_true rfl) ?_
  refine R0 ?_
  refine hw_seq fun K hK => Rg ?_
  iterate 4 refine S0 ?_
  refine hlex_cases 5 rfl (fun h1_5 => ?_) (fun h1_5 => ?_)
  · iterate 3 refine S0 ?_ (e := fun _ h_ => by simp only [sH, ↓sP, sA, tyS, simprocAttr, h1_5]; exact AX h_)
    iterate 2 refine S0 ?_ (e := fun _ h_ => by simp only [sH, ↓sP, sA, tyS, simprocAttr, h1_5]; exact AX h_)
    refine T2 (hK _ _ _ ?_)
    clear hK K
    refine hw_ret ?_
    simp only [hpost, Tryz.results85, hresL, hres1, tupOf, ↓sP, sA, tyS, simprocAttr]
    refine hret_pure [] (.bool _) rfl ?_
    simp [h1_5]
    all_goals first | rfl | simp_all
  · iterate 3 refine S0 ?_ (e := fun _ h_ => by simp only [sH, ↓sP, sA, tyS, simprocAttr, h1_5]; exact AX h_)
    iterate 2 refine S0 ?_ (e := fun _ h_ => by simp only [sH, ↓sP, sA, tyS, simprocAttr, h1_5]; exact AX h_)
    refine T2 (hK _ _ _ ?_)
    clear hK K
    refine hw_ret ?_
    simp only [hpost, Tryz.results85, hresL, hres1, tupOf, ↓sP, sA, tyS, simprocAttr]
    refine hret_pure [] (.bool _) rfl ?_
    simp [h1_5]
    all_goals first | rfl | simp_all


theorem need_ok (r : Rt) (w : Word) (hl : r.q.length < 2 ^ 40) : HPure Tryz.prog 35 [r.cv, .str w] (fun v => v = .int .i64 (need r.q w)) := by
  refine hfn_walk Tryz.func35 rfl (by kernel_rfl) (locOk_nil _) (Nat.le_of_ble_eq_true rfl) ?_
  refine R0 ?_
  refine hw_seq fun K hK => ?_
  refine hw_seq fun K hK => Rg ?_
  iterate 4 refine S0 ?_
  refine T2 (hK _ _ _ ?_)
  clear hK K
  refine hw_block ?_
  refine hw_loop (α := {i : Nat // i ≤ r.q.length ∧ ∀ x ∈ r.q.take i, (x.r == w) = false}) (fun i => (fin [(1, .c (.str w)), (8, .c (.slc (r.q.map Qt.cv))), (9, .c (.int .i64 r.q.length)), (10, .c (.int .i64 i.1))], fob [])) 100 (fun i => r.q.length - i.1) ⟨0, by omega, by simp⟩ (fF) ?_
  rintro ⟨i, hi, h0⟩
  refine R0 ?_
  refine hw_seq fun K hK => ?_
  refine hw_cond (b := decide ((i : Int) < r.q.length)) rfl (fun hb => ?_) (fun hb => ?_)
  · have hlt : i < r.q.length := by simpa using hb
    refine hw_skip ?_
    refine T0 (hK _ _ _ ?_)
    clear hK K
    refine hw_seq fun K hK => ?_
    refine hw_block ?_
    refine hw_seq fun K hK => Rg ?_
    iterate 4 refine S0 ?_ (e := fun _ h_ => by simp only [sH, ↓sP, sA, tyS, simprocAttr, Int.natCast_nonneg, Int.ofNat_lt, hlt, nth_map hlt]; exact AX h_)
    refine T2 (hK _ _ _ ?_)
    clear hK K
    refine hw_seq fun K hK => Rg ?_
    iterate 4 refine S0 ?_
    refine T2 (hK _ _ _ ?_)
    clear hK K
    refine hw_cond (b := r.q[i].r == w) rfl (fun hb => ?_) (fun hb => ?_)
    · refine R0 ?_
      refine hw_ret ?_
      simp only [hpost, Tryz.results35, hresL, hres1, tupOf, ↓sP, sA, tyS, simprocAttr]
      exact hret_pure [] (.int .i64 r.q[i].n) rfl (by rw [need_hit hlt hb h0])
    · refine hw_skip ?_
      refine T0 (hK _ _ _ ?_)
      clear hK K
      refine hw_region (by kernel_rfl) ?_
      simp only [↓sP, sA, tyS, simprocAttr, i64s i]
      refine ⟨⟨i + 1, hlt, take_miss (p := fun x => x.r == w) hlt hb h0⟩, fF, ?_⟩
      show r.q.length - (i + 1) < r.q.length - i
      omega
  · refine hw_exit ?_
    simp only [↓sP, sA, tyS, simprocAttr]
    clear hK K
    refine AX (hK _ _ _ ?_)
    clear hK K
    refine R0 ?_
    refine hw_ret ?_
    simp only [hpost, Tryz.results35, hresL, hres1, tupOf, ↓sP, sA, tyS, simprocAttr]
    have hei : i = r.q.length := by simp at hb; omega
    subst hei
    exact hret_pure [] (.int .i64 0) rfl (by rw [need_miss (by simpa using h0)])


theorem quota_ok (r : Rt) (w : Word) (hl : r.q.length < 2 ^ 40) : HPure Tryz.prog 43 [r.cv, .str w] (fun v => v = .int .i64 (need r.q w)) := by
  refine hfn_walk Tryz.func43 rfl (by kernel_rfl) (locOk_nil _) (Nat.le_of_ble_eq_true rfl) ?_
  refine R0 ?_
  refine hw_seq fun K hK => ?_
  refine R0 ?_
  refine hw_block ?_
  refine hw_loop (α := {i : Nat // i ≤ r.q.length ∧ ∀ x ∈ r.q.take i, (x.r == w) = false}) (fun i => (fin [(1, .c (.str w)), (2, .ptr 0 0), (5, .c (.int .i64 i.1))], fob [(0, .box 26 (.c r.cv))])) 100 (fun i => r.q.length - i.1) ⟨0, by omega, by simp⟩ (fF) ?_
  rintro ⟨i, hi, h0⟩
  refine hw_seq fun K hK => ?_
  refine hw_seq fun K hK => Rg ?_
  iterate 5 refine S0 ?_
  refine T2 (hK _ _ _ ?_)
  clear hK K
  refine hw_cond (b := decide ((i : Int) < r.q.length)) rfl (fun hb => ?_) (fun hb => ?_)
  · have hlt : i < r.q.length := by simpa using hb
    refine hw_skip ?_
    refine T0 (hK _ _ _ ?_)
    clear hK K
    refine hw_seq fun K hK => ?_
    refine hw_block ?_
    refine hw_seq fun K hK => Rg ?_
    iterate 8 refine S0 ?_ (e := fun _ h_ => by simp only [sH, ↓sP, sA, tyS, simprocAttr, Int.natCast_nonneg, Int.ofNat_lt, hlt, nth_map hlt]; exact AX h_)
    refine T2 (hK _ _ _ ?_)
    clear hK K
    refine hw_cond (b := r.q[i].r == w) rfl (fun hb => ?_) (fun hb => ?_)
    · refine hw_seq fun K hK => Rg ?_
      iterate 7 refine S0 ?_ (e := fun _ h_ => by simp only [sH, ↓sP, sA, tyS, simprocAttr, Int.natCast_nonneg, Int.ofNat_lt, hlt, nth_map hlt]; exact AX h_)
      refine T2 (hK _ _ _ ?_)
      clear hK K
      refine hw_ret ?_
      simp only [hpost, Tryz.results43, hresL, hres1, tupOf, ↓sP, sA, tyS, simprocAttr]
      exact hret_pure [] (.int .i64 r.q[i].n) rfl (by rw [need_hit hlt hb h0])
    · refine hw_skip ?_
      refine T0 (hK _ _ _ ?_)
      clear hK K
      refine hw_region (by kernel_rfl) ?_
      simp only [↓sP, sA, tyS, simprocAttr, i64s i]
      refine ⟨⟨i + 1, hlt, take_miss (p := fun x => x.r == w) hlt hb h0⟩, fF, ?_⟩
      show r.q.length - (i + 1) < r.q.length - i
      omega
  · refine hw_exit ?_
    simp only [↓sP, sA, tyS, simprocAttr]
    clear hK K
    refine AX (hK _ _ _ ?_)
    clear hK K
    refine R0 ?_
    refine hw_ret ?_
    simp only [hpost, Tryz.results43, hresL, hres1, tupOf, ↓sP, sA, tyS, simprocAttr]
    have hei : i = r.q.length := by simp at hb; omega
    subst hei
    exact hret_pure [] (.int .i64 0) rfl (by rw [need_miss (by simpa using h0)])


theorem revoked_ok (r : Rt) (d : Dig) (hl : r.x.length < 2 ^ 40) : HPure2 Tryz.prog 93 [r.cv, dg d] (fun u v => u = .int .i64 (revZ r.x d) ∧ v = .bool (revS r.x d)) := by
  refine hfn_walk Tryz.func93 rfl (by kernel_rfl) (locOk_nil _) (Nat.le_of_ble_eq_true rfl) ?_
  refine hw_seq fun K hK => Rg ?_
  iterate 4 refine S0 ?_
  refine T2 (hK _ _ _ ?_)
  clear hK K
  refine hw_seq fun K hK => ?_
  refine hw_seq fun K hK => Rg ?_
  iterate 4 refine S0 ?_
  refine T2 (hK _ _ _ ?_)
  clear hK K
  refine hw_block ?_
  refine hw_loop (α := {i : Nat // i ≤ r.x.length ∧ ∀ x ∈ r.x.take i, (x.k == d) = false}) (fun i => (fin [(3, .ptr 4 0), (9, .c (.slc (r.x.map Rv.cv))), (10, .c (.int .i64 r.x.length)), (11, .c (.int .i64 i.1))], fob [(4, .box 49 (.c (dg d)))])) 100 (fun i => r.x.length - i.1) ⟨0, by omega, by simp⟩ (fF) ?_
  rintro ⟨i, hi, h0⟩
  refine R0 ?_
  refine hw_seq fun K hK => ?_
  refine hw_cond (b := decide ((i : Int) < r.x.length)) rfl (fun hb => ?_) (fun hb => ?_)
  · have hlt : i < r.x.length := by simpa using hb
    refine hw_skip ?_
    refine T0 (hK _ _ _ ?_)
    clear hK K
    refine hw_seq fun K hK => ?_
    refine hw_block ?_
    refine hw_seq fun K hK => Rg ?_
    iterate 4 refine S0 ?_ (e := fun _ h_ => by simp only [sH, ↓sP, sA, tyS, simprocAttr, Int.natCast_nonneg, Int.ofNat_lt, hlt, nth_map hlt]; exact AX h_)
    refine T2 (hK _ _ _ ?_)
    clear hK K
    refine hw_seq fun K hK => Rg ?_
    iterate 4 refine S0 ?_
    refine T2 (hK _ _ _ ?_)
    clear hK K
    refine hw_cond (b := r.x[i].k == d) rfl (fun hb => ?_) (fun hb => ?_)
    · refine hw_seq fun K hK => Rg ?_
      iterate 4 refine S0 ?_
      refine T2 (hK _ _ _ ?_)
      clear hK K
      refine hw_ret ?_
      simp only [hpost, Tryz.results93, hresL, hres1, tupOf, ↓sP, sA, tyS, simprocAttr]
      exact hret_pure2 [] (.int .i64 r.x[i].t) (.bool true) rfl ⟨by unfold revZ; rw [rev_hit hlt hb h0]; rfl, by unfold revS; rw [rev_hit hlt hb h0]; rfl⟩
    · refine hw_skip ?_
      refine T0 (hK _ _ _ ?_)
      clear hK K
      refine hw_region (by kernel_rfl) ?_
      simp only [↓sP, sA, tyS, simprocAttr, i64s i]
      refine ⟨⟨i + 1, hlt, take_miss (p := fun x => x.k == d) hlt hb h0⟩, fF, ?_⟩
      show r.x.length - (i + 1) < r.x.length - i
      omega
  · refine hw_exit ?_
    simp only [↓sP, sA, tyS, simprocAttr]
    clear hK K
    refine AX (hK _ _ _ ?_)
    clear hK K
    refine R0 ?_
    refine hw_ret ?_
    simp only [hpost, Tryz.results93, hresL, hres1, tupOf, ↓sP, sA, tyS, simprocAttr]
    have hei : i = r.x.length := by simp at hb; omega
    subst hei
    have hm := rev_miss (l := r.x) (d := d) (by simpa using h0)
    exact hret_pure2 [] (.int .i64 0) (.bool false) rfl ⟨by unfold revZ; rw [hm]; rfl, by unfold revS; rw [hm]; rfl⟩


theorem hasd_ok (l : List Dig) (d : Dig) (hl : l.length < 2 ^ 40) : HPure Tryz.prog 92 [.slc (l.map dg), dg d] (fun v => v = .bool (l.contains d)) := by
  refine hfn_walk Tryz.func92 rfl (by kernel_rfl) (locOk_nil _) (Nat.le_of_ble_eq_true rfl) ?_
  refine R0 ?_
  refine hw_seq fun K hK => ?_
  refine R0 ?_
  refine hw_block ?_
  refine hw_loop (α := {i : Nat // i ≤ l.length ∧ ∀ x ∈ l.take i, (x == d) = false}) (fun i => (fin [(0, .c (.slc (l.map dg))), (3, .ptr 0 0), (5, .c (.int .i64 i.1))], fob [(0, .box 49 (.c (dg d)))])) 100 (fun i => l.length - i.1) ⟨0, by omega, by simp⟩ (fF) ?_
  rintro ⟨i, hi, h0⟩
  refine hw_seq fun K hK => ?_
  refine hw_seq fun K hK => Rg ?_
  iterate 4 refine S0 ?_
  refine T2 (hK _ _ _ ?_)
  clear hK K
  refine hw_cond (b := decide ((i : Int) < l.length)) rfl (fun hb => ?_) (fun hb => ?_)
  · have hlt : i < l.length := by simpa using hb
    refine hw_skip ?_
    refine T0 (hK _ _ _ ?_)
    clear hK K
    refine hw_seq fun K hK => ?_
    refine hw_block ?_
    refine hw_seq fun K hK => hw_quiet mixed (by kernel_rfl) (by kernel_rfl) (by kernel_rfl) ?_
    simp only [sR, simprocAttr]
    iterate 6 refine S0 ?_ (e := fun _ h_ => by simp only [sH, ↓sP, sA, tyS, simprocAttr, Int.natCast_nonneg, Int.ofNat_lt, hlt, nth_map hlt]; exact AX h_)
    refine T2 (hK _ _ _ ?_)
    clear hK K
    refine hw_cond (b := l[i] == d) rfl (fun hb => ?_) (fun hb => ?_)
    · refine R0 ?_
      refine hw_ret ?_
      simp only [hpost, Tryz.results92, hresL, hres1, tupOf, ↓sP, sA, tyS, simprocAttr]
      exact hret_pure [] (.bool true) rfl (by have := List.getElem_mem hlt; have e : l[i] = d := eq_of_beq hb
                                              rw [e] at this; simp [this])
    · refine hw_skip ?_
      refine T0 (hK _ _ _ ?_)
      clear hK K
      refine hw_region (by kernel_rfl) ?_
      simp only [↓sP, sA, tyS, simprocAttr, i64s i]
      refine ⟨⟨i + 1, hlt, take_miss (p := fun x => x == d) hlt hb h0⟩, fF, ?_⟩
      show l.length - (i + 1) < l.length - i
      omega
  · refine hw_exit ?_
    simp only [↓sP, sA, tyS, simprocAttr]
    clear hK K
    refine AX (hK _ _ _ ?_)
    clear hK K
    refine R0 ?_
    refine hw_ret ?_
    simp only [hpost, Tryz.results92, hresL, hres1, tupOf, ↓sP, sA, tyS, simprocAttr]
    have hei : i = l.length := by simp at hb; omega
    subst hei
    exact hret_pure [] (.bool false) rfl (by rw [List.take_length] at h0; have : d ∉ l := fun hm => by have := h0 d hm; simp at this
                                             simp [this])


theorem less_ok (a b : Dig) : HPure Tryz.prog 41 [dg a, dg b] (fun v => v = .bool (dlt a b)) := by
  refine hfn_walk Tryz.func41 rfl (by kernel_rfl) (locOk_nil _) (Nat.le_of_ble_eq_true rfl) ?_
  refine R0 ?_
  refine hw_seq fun K hK => ?_
  refine R0 ?_
  refine hw_block ?_
  refine hw_loop (α := {i : Nat // i ≤ 32 ∧ a.1.take i = b.1.take i}) (fun i => (fin [(2, .ptr 0 0), (3, .ptr 4 0), (5, .c (.int .i64 i.1))], fob [(0, .box 49 (.c (dg a))), (4, .box 49 (.c (dg b)))])) 100 (fun i => 32 - i.1) ⟨0, by omega, by simp⟩ (fF) ?_
  rintro ⟨i, hi, h0⟩
  refine hw_seq fun K hK => ?_
  refine R0 ?_
  refine hw_cond (b := decide ((i : Int) < 32)) rfl (fun hb => ?_) (fun hb => ?_)
  · have hlt : i < 32 := by simp at hb; omega
    have hlt' : (i : Int) < 32 := by omega
    have ha : i < a.1.length := by rw [a.2]; exact hlt
    have hb' : i < b.1.length := by rw [b.2]; exact hlt
    refine hw_skip ?_
    refine T0 (hK _ _ _ ?_)
    clear hK K
    refine hw_seq fun K hK => ?_
    refine hw_block ?_
    refine hw_seq fun K hK => hw_quiet mixed (by kernel_rfl) (by kernel_rfl) (by kernel_rfl) ?_
    simp only [sR, simprocAttr]
    iterate 7 refine S0 ?_ (e := fun _ h_ => by simp only [sH, ↓sP, sA, tyS, simprocAttr, Int.natCast_nonneg, hlt', dg_get hlt, Nat.mul_one, u8]; exact AX h_)
    refine T2 (hK _ _ _ ?_)
    clear hK K
    refine hw_cond (b := (((a.1[i]).toNat : Int) != ((b.1[i]).toNat : Int))) rfl (fun hb => ?_) (fun hb => ?_)
    · refine hw_seq fun K hK => hw_quiet mixed (by kernel_rfl) (by kernel_rfl) (by kernel_rfl) ?_
      simp only [sR, simprocAttr]
      iterate 8 refine S0 ?_ (e := fun _ h_ => by simp only [sH, ↓sP, sA, tyS, simprocAttr, Int.natCast_nonneg, hlt', dg_get hlt, Nat.mul_one, u8]; exact AX h_)
      refine T2 (hK _ _ _ ?_)
      clear hK K
      refine hw_ret ?_
      simp only [hpost, Tryz.results41, hresL, hres1, tupOf, ↓sP, sA, tyS, simprocAttr]
      rw [u8_ne] at hb
      exact hret_pure [] (.bool _) rfl (by rw [u8_lt, dlt_at hlt h0 (by simpa using hb)])
    · refine hw_skip ?_
      refine T0 (hK _ _ _ ?_)
      clear hK K
      refine hw_region (by kernel_rfl) ?_
      simp only [↓sP, sA, tyS, simprocAttr, i64s i]
      rw [u8_ne] at hb
      refine ⟨⟨i + 1, hlt, ?_⟩, fF, ?_⟩
      · rw [List.take_succ_eq_append_getElem ha, List.take_succ_eq_append_getElem hb', h0]
        have : a.1[i] = b.1[i] := by simpa using hb
        rw [this]
      · show 32 - (i + 1) < 32 - i
        omega
  · refine hw_exit ?_
    simp only [↓sP, sA, tyS, simprocAttr]
    clear hK K
    refine AX (hK _ _ _ ?_)
    clear hK K
    refine R0 ?_
    refine hw_ret ?_
    simp only [hpost, Tryz.results41, hresL, hres1, tupOf, ↓sP, sA, tyS, simprocAttr]
    have hei : i = 32 := by simp at hb; omega
    subst hei
    exact hret_pure [] (.bool false) rfl (by rw [dlt_same h0])

end Go.Proofs.YtenbfeemmpjdhaaGreatDoor

namespace Go.Proofs.YtenbfeemmpjdhaaGreatDoor
open Go Go.Hl Go.Pl
set_option maxRecDepth 10000
set_option maxHeartbeats 2000000
set_option linter.unusedSimpArgs false
set_option linter.unusedVariables false

theorem index_ok (l : List Word) (w : Word) (hl : l.length < 2 ^ 40) : HPure Tryz.prog 116 [.slc (l.map .str), .str w] (fun v => v = .int .i64 (idxP (fun x => w == x) l)) := by
 refine hfn_walk Tryz.func116 rfl (by kernel_rfl) (locOk_nil _) (Nat.le_of_ble_eq_true rfl) ?_
 refine R0 ?_
 refine hw_seq fun K hK => ?_
 refine R0 ?_
 refine hw_block ?_
 refine hw_loop (α := {i : Nat // i ≤ l.length ∧ ∀ x ∈ l.take i, (w == x) = false}) (fun i => (fin [(0, .c (.slc (l.map .str))), (1, .c (.str w)), (7, .c (.int .i64 l.length)), (8, .c (.int .i64 i.1))], fob [])) 100 (fun i => l.length - i.1) ⟨0, by omega, by simp⟩ (fF) ?_
 rintro ⟨i, hi, h0⟩
 refine R0 ?_
 refine hw_seq fun K hK => ?_
 refine hw_cond (b := decide ((i : Int) < l.length)) rfl (fun hb => ?_) (fun hb => ?_)
 ·
  have hlt : i < l.length := by simpa using hb
  refine hw_skip ?_
  refine T0 (hK _ _ _ ?_)
  clear hK K
  refine hw_seq fun K hK => ?_
  refine hw_block ?_
  refine R0 ?_
  refine hw_seq fun K hK => Rg ?_
  iterate 6 refine S0 ?_ (e := fun _ h_ => by simp only [sH, ↓sP, sA, tyS, simprocAttr, Int.natCast_nonneg, Int.ofNat_lt, hlt, nth_map hlt]; exact AX h_)
  refine T2 (hK _ _ _ ?_)
  clear hK K
  refine hw_cond (b := w == l[i]) rfl (fun hb => ?_) (fun hb => ?_)
  ·
   refine R0 ?_
   refine hw_ret ?_
   simp only [hpost, Tryz.results116, hresL, hres1, tupOf, ↓sP, sA, tyS, simprocAttr]
   exact hret_pure [] (.int .i64 i) rfl (by rw [idxP_hit (p := fun x => w == x) hlt hb h0])
  refine hw_skip ?_
  refine T0 (hK _ _ _ ?_)
  clear hK K
  refine hw_region (by kernel_rfl) ?_
  simp only [↓sP, sA, tyS, simprocAttr, i64s i]
  refine ⟨⟨i + 1, hlt, take_miss (p := fun x => w == x) hlt hb h0⟩, fF, ?_⟩
  show l.length - (i + 1) < l.length - i
  omega
 refine hw_exit ?_
 simp only [↓sP, sA, tyS, simprocAttr]
 clear hK K
 refine AX (hK _ _ _ ?_)
 clear hK K
 refine R0 ?_
 refine hw_ret ?_
 simp only [hpost, Tryz.results116, hresL, hres1, tupOf, ↓sP, sA, tyS, simprocAttr]
 have hei : i = l.length := by simp at hb; omega
 subst hei
 exact hret_pure [] (.int .i64 (-1)) rfl (by rw [idxP_none (p := fun x => w == x) (by simpa using h0)])


theorem cont_ok (l : List Word) (w : Word) (hl : l.length < 2 ^ 40) : HPure Tryz.prog 82 [.slc (l.map .str), .str w] (fun v => v = .bool (l.contains w)) := by
 refine hfn_walk Tryz.func82 rfl (by kernel_rfl) (locOk_nil _) (Nat.le_of_ble_eq_true rfl) ?_
 refine R0 ?_
 refine hw_seq fun K hK => Rg ?_
 iterate 2 refine S0 ?_
 refine hlex_step (g := none) rfl rfl fun K' hK' => ?_
 simp only [sH, ↓sP, sA, tyS, simprocAttr]
 refine call_pure (args := [_, _]) (index_ok l w hl) ⟨rfl, rfl, rfl, rfl⟩ ?_
 rintro u rfl
 refine AX (hK' _ _ ?_)
 clear hK' K'
 refine hlex_step (g := none) rfl rfl fun K' hK' => ?_
 simp only [sH, ↓sP, sA, tyS, simprocAttr]
 rw [idx_contains l w]
 refine AX (hK' _ _ ?_)
 clear hK' K'
 refine S0 ?_
 refine T2 (hK _ _ _ ?_)
 clear hK K
 refine hw_ret ?_
 simp only [hpost, Tryz.results82, hresL, hres1, tupOf, ↓sP, sA, tyS, simprocAttr]
 exact hret_pure [] (.bool _) rfl rfl


theorem indexd_ok (l : List Dig) (d : Dig) (hl : l.length < 2 ^ 40) : HPure Tryz.prog 151 [.slc (l.map dg), dg d] (fun v => v = .int .i64 (idxP (fun x => d == x) l)) := by
 refine hfn_walk Tryz.func151 rfl (by kernel_rfl) (locOk_nil _) (Nat.le_of_ble_eq_true rfl) ?_
 refine R0 ?_
 refine hw_seq fun K hK => ?_
 refine R0 ?_
 refine hw_block ?_
 refine hw_loop (α := {i : Nat // i ≤ l.length ∧ ∀ x ∈ l.take i, (d == x) = false}) (fun i => (fin [(0, .c (.slc (l.map dg))), (3, .ptr 0 0), (7, .c (.int .i64 l.length)), (8, .c (.int .i64 i.1))], fob [(0, .box 49 (.c (dg d)))])) 100 (fun i => l.length - i.1) ⟨0, by omega, by simp⟩ (fF) ?_
 rintro ⟨i, hi, h0⟩
 refine R0 ?_
 refine hw_seq fun K hK => ?_
 refine hw_cond (b := decide ((i : Int) < l.length)) rfl (fun hb => ?_) (fun hb => ?_)
 ·
  have hlt : i < l.length := by simpa using hb
  refine hw_skip ?_
  refine T0 (hK _ _ _ ?_)
  clear hK K
  refine hw_seq fun K hK => ?_
  refine hw_block ?_
  refine R0 ?_
  refine hw_seq fun K hK => hw_quiet mixed (by kernel_rfl) (by kernel_rfl) (by kernel_rfl) ?_
  simp only [sR, simprocAttr]
  iterate 6 refine S0 ?_ (e := fun _ h_ => by simp only [sH, ↓sP, sA, tyS, simprocAttr, Int.natCast_nonneg, Int.ofNat_lt, hlt, nth_map hlt]; exact AX h_)
  refine T2 (hK _ _ _ ?_)
  clear hK K
  refine hw_cond (b := d == l[i]) rfl (fun hb => ?_) (fun hb => ?_)
  ·
   refine R0 ?_
   refine hw_ret ?_
   simp only [hpost, Tryz.results151, hresL, hres1, tupOf, ↓sP, sA, tyS, simprocAttr]
   exact hret_pure [] (.int .i64 i) rfl (by rw [idxP_hit (p := fun x => d == x) hlt hb h0])
  refine hw_skip ?_
  refine T0 (hK _ _ _ ?_)
  clear hK K
  refine hw_region (by kernel_rfl) ?_
  simp only [↓sP, sA, tyS, simprocAttr, i64s i]
  refine ⟨⟨i + 1, hlt, take_miss (p := fun x => d == x) hlt hb h0⟩, fF, ?_⟩
  show l.length - (i + 1) < l.length - i
  omega
 refine hw_exit ?_
 simp only [↓sP, sA, tyS, simprocAttr]
 clear hK K
 refine AX (hK _ _ _ ?_)
 clear hK K
 refine R0 ?_
 refine hw_ret ?_
 simp only [hpost, Tryz.results151, hresL, hres1, tupOf, ↓sP, sA, tyS, simprocAttr]
 have hei : i = l.length := by simp at hb; omega
 subst hei
 exact hret_pure [] (.int .i64 (-1)) rfl (by rw [idxP_none (p := fun x => d == x) (by simpa using h0)])


theorem contd_ok (l : List Dig) (d : Dig) (hl : l.length < 2 ^ 40) : HPure Tryz.prog 122 [.slc (l.map dg), dg d] (fun v => v = .bool (l.contains d)) := by
 refine hfn_walk Tryz.func122 rfl (by kernel_rfl) (locOk_nil _) (Nat.le_of_ble_eq_true rfl) ?_
 refine R0 ?_
 refine hw_seq fun K hK => Rg ?_
 iterate 2 refine S0 ?_
 refine hlex_step (g := none) rfl rfl fun K' hK' => ?_
 simp only [sH, ↓sP, sA, tyS, simprocAttr]
 refine call_pure (args := [_, _]) (indexd_ok l d hl) ⟨rfl, rfl, rfl, rfl⟩ ?_
 rintro u rfl
 refine AX (hK' _ _ ?_)
 clear hK' K'
 refine hlex_step (g := none) rfl rfl fun K' hK' => ?_
 simp only [sH, ↓sP, sA, tyS, simprocAttr]
 rw [idx_contains l d]
 refine AX (hK' _ _ ?_)
 clear hK' K'
 refine S0 ?_
 refine T2 (hK _ _ _ ?_)
 clear hK K
 refine hw_ret ?_
 simp only [hpost, Tryz.results122, hresL, hres1, tupOf, ↓sP, sA, tyS, simprocAttr]
 exact hret_pure [] (.bool _) rfl rfl


theorem owners_ok : HPure Tryz.prog 91 [] (fun v => v = .slc (owners4.map .str)) := by
 refine hfn_walk Tryz.func91 rfl (by kernel_rfl) (locOk_nil _) (Nat.le_of_ble_eq_true rfl) ?_
 refine R0 ?_
 refine R0 ?_
 refine hw_ret ?_
 simp only [hpost, Tryz.results91, hresL, hres1, tupOf, ↓sP, sA, tyS, simprocAttr]
 exact hret_pure [4] _ rfl rfl


theorem roles_ok : HPure Tryz.prog 48 [] (fun v => v = .slc (roles10.map .str)) := by
 refine hfn_walk Tryz.func48 rfl (by kernel_rfl) (locOk_nil _) (Nat.le_of_ble_eq_true rfl) ?_
 refine R0 ?_
 refine R0 ?_
 refine hw_ret ?_
 simp only [hpost, Tryz.results48, hresL, hres1, tupOf, ↓sP, sA, tyS, simprocAttr]
 exact hret_pure [4] _ rfl rfl


theorem owner_ok (i : Nat) (hi : i < 2 ^ 40) : HPure Tryz.prog 51 [.int .i64 i] (fun v => v = .str (mOwner i)) := by
 have h4 : i % 4 < owners4.length := Nat.mod_lt _ (by decide)
 have hm : (i : Int).tmod 4 = ((i % 4 : Nat) : Int) := rfl
 refine hfn_walk Tryz.func51 rfl (by kernel_rfl) (locOk_nil _) (Nat.le_of_ble_eq_true rfl) ?_
 refine R0 ?_
 refine hw_seq fun K hK => Rg ?_
 refine hlex_step (g := none) rfl rfl fun K' hK' => ?_
 simp only [sH, ↓sP, sA, tyS, simprocAttr, hm, Int.natCast_nonneg, Int.ofNat_lt, h4, nth_map h4]
 refine call_pure (args := []) owners_ok ⟨rfl, rfl, rfl, rfl⟩ ?_
 rintro u rfl
 refine AX (hK' _ _ ?_)
 clear hK' K'
 iterate 5 refine S0 ?_ (e := fun _ h_ => by simp only [sH, ↓sP, sA, tyS, simprocAttr, hm, Int.natCast_nonneg, Int.ofNat_lt, h4, nth_map h4]; exact AX h_)
 refine T2 (hK _ _ _ ?_)
 clear hK K
 refine hw_ret ?_
 simp only [hpost, Tryz.results51, hresL, hres1, tupOf, ↓sP, sA, tyS, simprocAttr]
 exact hret_pure [] (.str owners4[i % 4]) rfl (by unfold mOwner; rw [List.getD_eq_getElem?_getD, List.getElem?_eq_getElem h4]; rfl)


theorem name_ok (s : Word) (hl : s.length < 2 ^ 63) : HPure Tryz.prog 77 [.str s] (fun v => v = .bool (nameB s)) := by
 refine hfn_walk Tryz.func77 rfl (by kernel_rfl) (locOk_nil _) (Nat.le_of_ble_eq_true rfl) ?_
 refine R0 ?_
 refine hw_seq fun K hK => ?_
 refine hw_seq fun K hK => Rg ?_
 iterate 4 refine S0 ?_
 refine hlex_cases 7 rfl (fun h1_7 => ?_) (fun h1_7 => ?_)
 ·
  iterate 4 refine S0 ?_ (e := fun _ h_ => by simp only [sH, ↓sP, sA, tyS, simprocAttr, h1_7]; exact AX h_)
  refine T2 (hK _ _ _ ?_)
  clear hK K
  refine hw_cond (b := true) rfl (fun hb => ?_) (fun hb => ?_)
  ·
   refine R0 ?_
   refine hw_ret ?_
   simp only [hpost, Tryz.results77, hresL, hres1, tupOf, ↓sP, sA, tyS, simprocAttr]
   exact hret_pure [] (.bool false) rfl (by rw [nameB_len (by simp at h1_7; omega)])
  cases hb
 iterate 4 refine S0 ?_ (e := fun _ h_ => by simp only [sH, ↓sP, sA, tyS, simprocAttr, h1_7]; exact AX h_)
 refine T2 (hK _ _ _ ?_)
 clear hK K
 refine hw_cond (b := _) rfl (fun hb => ?_) (fun hb => ?_)
 ·
  refine R0 ?_
  refine hw_ret ?_
  simp only [hpost, Tryz.results77, hresL, hres1, tupOf, ↓sP, sA, tyS, simprocAttr]
  exact hret_pure [] (.bool false) rfl (by rw [nameB_len (by simp at hb; omega)])
 refine hw_skip ?_
 refine T0 (hK _ _ _ ?_)
 clear hK K
 refine hw_seq fun K hK => ?_
 refine R0 ?_
 refine hw_block ?_
 have hlen : 1 ≤ s.length ∧ s.length ≤ 64 := by simp at h1_7 hb; omega
 refine hw_loop (α := {i : Nat // i ≤ s.length ∧ ∀ j (_ : j < i) (h : j < s.length), okc j s[j] = true}) (fun i => (fin [(0, .c (.str s)), (3, .c (.int .i64 i.1))], fob [])) 100 (fun i => s.length - i.1) ⟨0, by omega, fun j h => by omega⟩ (fF) ?_
 clear hb
 rintro ⟨i, hi, h0⟩
 refine hw_seq fun K hK => ?_
 refine hw_seq fun K hK => Rg ?_
 iterate 4 refine S0 ?_ (e := fun _ h_ => by simp only [sH, ↓sP, sA, tyS, simprocAttr, h1_7]; exact AX h_)
 refine T2 (hK _ _ _ ?_)
 clear hK K
 refine hw_cond (b := decide ((i : Int) < s.length)) rfl (fun hb => ?_) (fun hb => ?_)
 ·
  have hlt : i < s.length := by simpa using hb
  have hgd : s.getD i 0 = s[i] := by simp [hlt]
  refine hw_skip ?_
  refine T0 (hK _ _ _ ?_)
  clear hK K
  refine hw_seq fun K hK => ?_
  refine hw_block ?_
  refine hw_seq fun K hK => Rg ?_
  iterate 4 refine S0 ?_ (e := fun _ h_ => by simp only [sH, ↓sP, sA, tyS, simprocAttr, Int.natCast_nonneg, Int.ofNat_lt, hlt, hgd, h1_7]; exact AX h_)
  refine T2 (hK _ _ _ ?_)
  clear hK K
  refine hw_seq fun K hK => ?_
  refine hw_seq fun K hK => ?_
  have key : ∀ (b : Bool) fr ob nx, b = okc i s[i] → Fits 0 fr ob (fin [(0, .c (.str s)), (3, .c (.int .i64 i)), (51, .c (.bool b))]) (fob []) 600 → K fr ob nx := by
   rintro b fr ob nx rfl hf
   refine hK _ _ _ (hw_fits hf ?_)
   clear hf hK K
   refine hw_cond (b := okc i s[i]) rfl (fun hb => ?_) (fun hb => ?_)
   ·
    refine hw_exit ?_
    simp only [↓sP, sA, tyS, simprocAttr]
    clear hK K
    refine AX (hK _ _ _ ?_)
    clear hK K
    refine hw_region (by kernel_rfl) ?_
    simp only [↓sP, sA, tyS, simprocAttr, i64s i]
    refine ⟨⟨i + 1, hlt, name_step hlt hb h0⟩, fF, ?_⟩
    show s.length - (i + 1) < s.length - i
    omega
   refine hw_skip ?_
   refine T0 (hK _ _ _ ?_)
   clear hK K
   refine R0 ?_
   refine hw_ret ?_
   simp only [hpost, Tryz.results77, hresL, hres1, tupOf, ↓sP, sA, tyS, simprocAttr]
   exact hret_pure [] (.bool false) rfl (by rw [nameB_bad hlt hb])
  refine hw_region (by kernel_rfl) ?_
  simp only [sR, simprocAttr]
  iterate 3 refine S0 ?_ (e := fun _ h_ => by simp only [sH, ↓sP, sA, tyS, simprocAttr, h1_7]; exact AX h_)
  refine hlex_cases 23 rfl (fun h7_23 => ?_) (fun h7_23 => ?_)
  ·
   iterate 4 refine S0 ?_ (e := fun _ h_ => by simp only [sH, ↓sP, sA, tyS, simprocAttr, h1_7, h7_23]; exact AX h_)
   refine hlex_cases 26 rfl (fun h7_26 => ?_) (fun h7_26 => ?_)
   ·
    iterate 23 refine S0 ?_ (e := fun _ h_ => by simp only [sH, ↓sP, sA, tyS, simprocAttr, h1_7, h7_23, h7_26]; exact AX h_)
    simp only [sE, ↓reduceIte, simprocAttr]
    exact key true _ _ _ (by simp only [okc, alZ, puZ, h1_7, h7_23, h7_26, Bool.and_true, Bool.and_false, Bool.true_and, Bool.false_and, Bool.or_true, Bool.true_or, Bool.false_or, Bool.or_false, Bool.and_self, Bool.or_self]) (fF)
   iterate 3 refine S0 ?_ (e := fun _ h_ => by simp only [sH, ↓sP, sA, tyS, simprocAttr, h1_7, h7_23, h7_26]; exact AX h_)
   refine hlex_cases 30 rfl (fun h7_30 => ?_) (fun h7_30 => ?_)
   ·
    iterate 5 refine S0 ?_ (e := fun _ h_ => by simp only [sH, ↓sP, sA, tyS, simprocAttr, h1_7, h7_23, h7_26, h7_30]; exact AX h_)
    refine hlex_cases 33 rfl (fun h7_33 => ?_) (fun h7_33 => ?_)
    ·
     iterate 15 refine S0 ?_ (e := fun _ h_ => by simp only [sH, ↓sP, sA, tyS, simprocAttr, h1_7, h7_23, h7_26, h7_30, h7_33]; exact AX h_)
     simp only [sE, ↓reduceIte, simprocAttr]
     exact key true _ _ _ (by simp only [okc, alZ, puZ, h1_7, h7_23, h7_26, h7_30, h7_33, Bool.and_true, Bool.and_false, Bool.true_and, Bool.false_and, Bool.or_true, Bool.true_or, Bool.false_or, Bool.or_false, Bool.and_self, Bool.or_self]) (fF)
    iterate 3 refine S0 ?_ (e := fun _ h_ => by simp only [sH, ↓sP, sA, tyS, simprocAttr, h1_7, h7_23, h7_26, h7_30, h7_33]; exact AX h_)
    refine hlex_cases 38 rfl (fun h7_38 => ?_) (fun h7_38 => ?_)
    ·
     iterate 3 refine S0 ?_ (e := fun _ h_ => by simp only [sH, ↓sP, sA, tyS, simprocAttr, h1_7, h7_23, h7_26, h7_30, h7_33, h7_38]; exact AX h_)
     refine hlex_cases 41 rfl (fun h7_41 => ?_) (fun h7_41 => ?_)
     ·
      iterate 9 refine S0 ?_ (e := fun _ h_ => by simp only [sH, ↓sP, sA, tyS, simprocAttr, h1_7, h7_23, h7_26, h7_30, h7_33, h7_38, h7_41]; exact AX h_)
      simp only [sE, ↓reduceIte, simprocAttr]
      exact key true _ _ _ (by simp only [okc, alZ, puZ, h1_7, h7_23, h7_26, h7_30, h7_33, h7_38, h7_41, Bool.and_true, Bool.and_false, Bool.true_and, Bool.false_and, Bool.or_true, Bool.true_or, Bool.false_or, Bool.or_false, Bool.and_self, Bool.or_self]) (fF)
     iterate 4 refine S0 ?_ (e := fun _ h_ => by simp only [sH, ↓sP, sA, tyS, simprocAttr, h1_7, h7_23, h7_26, h7_30, h7_33, h7_38, h7_41]; exact AX h_)
     refine hlex_cases 44 rfl (fun h7_44 => ?_) (fun h7_44 => ?_)
     ·
      iterate 5 refine S0 ?_ (e := fun _ h_ => by simp only [sH, ↓sP, sA, tyS, simprocAttr, h1_7, h7_23, h7_26, h7_30, h7_33, h7_38, h7_41, h7_44]; exact AX h_)
      simp only [sE, ↓reduceIte, simprocAttr]
      exact key true _ _ _ (by simp only [okc, alZ, puZ, h1_7, h7_23, h7_26, h7_30, h7_33, h7_38, h7_41, h7_44, Bool.and_true, Bool.and_false, Bool.true_and, Bool.false_and, Bool.or_true, Bool.true_or, Bool.false_or, Bool.or_false, Bool.and_self, Bool.or_self]) (fF)
     iterate 5 refine S0 ?_ (e := fun _ h_ => by simp only [sH, ↓sP, sA, tyS, simprocAttr, h1_7, h7_23, h7_26, h7_30, h7_33, h7_38, h7_41, h7_44]; exact AX h_)
     refine hlex_cases 48 rfl (fun h7_48 => ?_) (fun h7_48 => ?_)
     ·
      simp only [h7_48]
      simp only [sE, ↓reduceIte, simprocAttr]
      exact key true _ _ _ (by simp only [okc, alZ, puZ, h1_7, h7_23, h7_26, h7_30, h7_33, h7_38, h7_41, h7_44, h7_48, Bool.and_true, Bool.and_false, Bool.true_and, Bool.false_and, Bool.or_true, Bool.true_or, Bool.false_or, Bool.or_false, Bool.and_self, Bool.or_self]) (fF)
     simp only [h7_48]
     simp only [sE, ↓reduceIte, simprocAttr]
     exact key false _ _ _ (by simp only [okc, alZ, puZ, h1_7, h7_23, h7_26, h7_30, h7_33, h7_38, h7_41, h7_44, h7_48, Bool.and_true, Bool.and_false, Bool.true_and, Bool.false_and, Bool.or_true, Bool.true_or, Bool.false_or, Bool.or_false, Bool.and_self, Bool.or_self]) (fF)
    iterate 12 refine S0 ?_ (e := fun _ h_ => by simp only [sH, ↓sP, sA, tyS, simprocAttr, h1_7, h7_23, h7_26, h7_30, h7_33, h7_38]; exact AX h_)
    simp only [sE, ↓reduceIte, simprocAttr]
    exact key false _ _ _ (by simp only [okc, alZ, puZ, h1_7, h7_23, h7_26, h7_30, h7_33, h7_38, Bool.and_true, Bool.and_false, Bool.true_and, Bool.false_and, Bool.or_true, Bool.true_or, Bool.false_or, Bool.or_false, Bool.and_self, Bool.or_self]) (fF)
   iterate 8 refine S0 ?_ (e := fun _ h_ => by simp only [sH, ↓sP, sA, tyS, simprocAttr, h1_7, h7_23, h7_26, h7_30]; exact AX h_)
   refine hlex_cases 38 rfl (fun h7_38 => ?_) (fun h7_38 => ?_)
   ·
    iterate 3 refine S0 ?_ (e := fun _ h_ => by simp only [sH, ↓sP, sA, tyS, simprocAttr, h1_7, h7_23, h7_26, h7_30, h7_38]; exact AX h_)
    refine hlex_cases 41 rfl (fun h7_41 => ?_) (fun h7_41 => ?_)
    ·
     iterate 9 refine S0 ?_ (e := fun _ h_ => by simp only [sH, ↓sP, sA, tyS, simprocAttr, h1_7, h7_23, h7_26, h7_30, h7_38, h7_41]; exact AX h_)
     simp only [sE, ↓reduceIte, simprocAttr]
     exact key true _ _ _ (by simp only [okc, alZ, puZ, h1_7, h7_23, h7_26, h7_30, h7_38, h7_41, Bool.and_true, Bool.and_false, Bool.true_and, Bool.false_and, Bool.or_true, Bool.true_or, Bool.false_or, Bool.or_false, Bool.and_self, Bool.or_self]) (fF)
    iterate 4 refine S0 ?_ (e := fun _ h_ => by simp only [sH, ↓sP, sA, tyS, simprocAttr, h1_7, h7_23, h7_26, h7_30, h7_38, h7_41]; exact AX h_)
    refine hlex_cases 44 rfl (fun h7_44 => ?_) (fun h7_44 => ?_)
    ·
     iterate 5 refine S0 ?_ (e := fun _ h_ => by simp only [sH, ↓sP, sA, tyS, simprocAttr, h1_7, h7_23, h7_26, h7_30, h7_38, h7_41, h7_44]; exact AX h_)
     simp only [sE, ↓reduceIte, simprocAttr]
     exact key true _ _ _ (by simp only [okc, alZ, puZ, h1_7, h7_23, h7_26, h7_30, h7_38, h7_41, h7_44, Bool.and_true, Bool.and_false, Bool.true_and, Bool.false_and, Bool.or_true, Bool.true_or, Bool.false_or, Bool.or_false, Bool.and_self, Bool.or_self]) (fF)
    iterate 5 refine S0 ?_ (e := fun _ h_ => by simp only [sH, ↓sP, sA, tyS, simprocAttr, h1_7, h7_23, h7_26, h7_30, h7_38, h7_41, h7_44]; exact AX h_)
    refine hlex_cases 48 rfl (fun h7_48 => ?_) (fun h7_48 => ?_)
    ·
     simp only [h7_48]
     simp only [sE, ↓reduceIte, simprocAttr]
     exact key true _ _ _ (by simp only [okc, alZ, puZ, h1_7, h7_23, h7_26, h7_30, h7_38, h7_41, h7_44, h7_48, Bool.and_true, Bool.and_false, Bool.true_and, Bool.false_and, Bool.or_true, Bool.true_or, Bool.false_or, Bool.or_false, Bool.and_self, Bool.or_self]) (fF)
    simp only [h7_48]
    simp only [sE, ↓reduceIte, simprocAttr]
    exact key false _ _ _ (by simp only [okc, alZ, puZ, h1_7, h7_23, h7_26, h7_30, h7_38, h7_41, h7_44, h7_48, Bool.and_true, Bool.and_false, Bool.true_and, Bool.false_and, Bool.or_true, Bool.true_or, Bool.false_or, Bool.or_false, Bool.and_self, Bool.or_self]) (fF)
   iterate 12 refine S0 ?_ (e := fun _ h_ => by simp only [sH, ↓sP, sA, tyS, simprocAttr, h1_7, h7_23, h7_26, h7_30, h7_38]; exact AX h_)
   simp only [sE, ↓reduceIte, simprocAttr]
   exact key false _ _ _ (by simp only [okc, alZ, puZ, h1_7, h7_23, h7_26, h7_30, h7_38, Bool.and_true, Bool.and_false, Bool.true_and, Bool.false_and, Bool.or_true, Bool.true_or, Bool.false_or, Bool.or_false, Bool.and_self, Bool.or_self]) (fF)
  iterate 7 refine S0 ?_ (e := fun _ h_ => by simp only [sH, ↓sP, sA, tyS, simprocAttr, h1_7, h7_23]; exact AX h_)
  refine hlex_cases 30 rfl (fun h7_30 => ?_) (fun h7_30 => ?_)
  ·
   iterate 5 refine S0 ?_ (e := fun _ h_ => by simp only [sH, ↓sP, sA, tyS, simprocAttr, h1_7, h7_23, h7_30]; exact AX h_)
   refine hlex_cases 33 rfl (fun h7_33 => ?_) (fun h7_33 => ?_)
   ·
    iterate 15 refine S0 ?_ (e := fun _ h_ => by simp only [sH, ↓sP, sA, tyS, simprocAttr, h1_7, h7_23, h7_30, h7_33]; exact AX h_)
    simp only [sE, ↓reduceIte, simprocAttr]
    exact key true _ _ _ (by simp only [okc, alZ, puZ, h1_7, h7_23, h7_30, h7_33, Bool.and_true, Bool.and_false, Bool.true_and, Bool.false_and, Bool.or_true, Bool.true_or, Bool.false_or, Bool.or_false, Bool.and_self, Bool.or_self]) (fF)
   iterate 3 refine S0 ?_ (e := fun _ h_ => by simp only [sH, ↓sP, sA, tyS, simprocAttr, h1_7, h7_23, h7_30, h7_33]; exact AX h_)
   refine hlex_cases 38 rfl (fun h7_38 => ?_) (fun h7_38 => ?_)
   ·
    iterate 3 refine S0 ?_ (e := fun _ h_ => by simp only [sH, ↓sP, sA, tyS, simprocAttr, h1_7, h7_23, h7_30, h7_33, h7_38]; exact AX h_)
    refine hlex_cases 41 rfl (fun h7_41 => ?_) (fun h7_41 => ?_)
    ·
     iterate 9 refine S0 ?_ (e := fun _ h_ => by simp only [sH, ↓sP, sA, tyS, simprocAttr, h1_7, h7_23, h7_30, h7_33, h7_38, h7_41]; exact AX h_)
     simp only [sE, ↓reduceIte, simprocAttr]
     exact key true _ _ _ (by simp only [okc, alZ, puZ, h1_7, h7_23, h7_30, h7_33, h7_38, h7_41, Bool.and_true, Bool.and_false, Bool.true_and, Bool.false_and, Bool.or_true, Bool.true_or, Bool.false_or, Bool.or_false, Bool.and_self, Bool.or_self]) (fF)
    iterate 4 refine S0 ?_ (e := fun _ h_ => by simp only [sH, ↓sP, sA, tyS, simprocAttr, h1_7, h7_23, h7_30, h7_33, h7_38, h7_41]; exact AX h_)
    refine hlex_cases 44 rfl (fun h7_44 => ?_) (fun h7_44 => ?_)
    ·
     iterate 5 refine S0 ?_ (e := fun _ h_ => by simp only [sH, ↓sP, sA, tyS, simprocAttr, h1_7, h7_23, h7_30, h7_33, h7_38, h7_41, h7_44]; exact AX h_)
     simp only [sE, ↓reduceIte, simprocAttr]
     exact key true _ _ _ (by simp only [okc, alZ, puZ, h1_7, h7_23, h7_30, h7_33, h7_38, h7_41, h7_44, Bool.and_true, Bool.and_false, Bool.true_and, Bool.false_and, Bool.or_true, Bool.true_or, Bool.false_or, Bool.or_false, Bool.and_self, Bool.or_self]) (fF)
    iterate 5 refine S0 ?_ (e := fun _ h_ => by simp only [sH, ↓sP, sA, tyS, simprocAttr, h1_7, h7_23, h7_30, h7_33, h7_38, h7_41, h7_44]; exact AX h_)
    refine hlex_cases 48 rfl (fun h7_48 => ?_) (fun h7_48 => ?_)
    ·
     simp only [h7_48]
     simp only [sE, ↓reduceIte, simprocAttr]
     exact key true _ _ _ (by simp only [okc, alZ, puZ, h1_7, h7_23, h7_30, h7_33, h7_38, h7_41, h7_44, h7_48, Bool.and_true, Bool.and_false, Bool.true_and, Bool.false_and, Bool.or_true, Bool.true_or, Bool.false_or, Bool.or_false, Bool.and_self, Bool.or_self]) (fF)
    simp only [h7_48]
    simp only [sE, ↓reduceIte, simprocAttr]
    exact key false _ _ _ (by simp only [okc, alZ, puZ, h1_7, h7_23, h7_30, h7_33, h7_38, h7_41, h7_44, h7_48, Bool.and_true, Bool.and_false, Bool.true_and, Bool.false_and, Bool.or_true, Bool.true_or, Bool.false_or, Bool.or_false, Bool.and_self, Bool.or_self]) (fF)
   iterate 12 refine S0 ?_ (e := fun _ h_ => by simp only [sH, ↓sP, sA, tyS, simprocAttr, h1_7, h7_23, h7_30, h7_33, h7_38]; exact AX h_)
   simp only [sE, ↓reduceIte, simprocAttr]
   exact key false _ _ _ (by simp only [okc, alZ, puZ, h1_7, h7_23, h7_30, h7_33, h7_38, Bool.and_true, Bool.and_false, Bool.true_and, Bool.false_and, Bool.or_true, Bool.true_or, Bool.false_or, Bool.or_false, Bool.and_self, Bool.or_self]) (fF)
  iterate 8 refine S0 ?_ (e := fun _ h_ => by simp only [sH, ↓sP, sA, tyS, simprocAttr, h1_7, h7_23, h7_30]; exact AX h_)
  refine hlex_cases 38 rfl (fun h7_38 => ?_) (fun h7_38 => ?_)
  ·
   iterate 3 refine S0 ?_ (e := fun _ h_ => by simp only [sH, ↓sP, sA, tyS, simprocAttr, h1_7, h7_23, h7_30, h7_38]; exact AX h_)
   refine hlex_cases 41 rfl (fun h7_41 => ?_) (fun h7_41 => ?_)
   ·
    iterate 9 refine S0 ?_ (e := fun _ h_ => by simp only [sH, ↓sP, sA, tyS, simprocAttr, h1_7, h7_23, h7_30, h7_38, h7_41]; exact AX h_)
    simp only [sE, ↓reduceIte, simprocAttr]
    exact key true _ _ _ (by simp only [okc, alZ, puZ, h1_7, h7_23, h7_30, h7_38, h7_41, Bool.and_true, Bool.and_false, Bool.true_and, Bool.false_and, Bool.or_true, Bool.true_or, Bool.false_or, Bool.or_false, Bool.and_self, Bool.or_self]) (fF)
   iterate 4 refine S0 ?_ (e := fun _ h_ => by simp only [sH, ↓sP, sA, tyS, simprocAttr, h1_7, h7_23, h7_30, h7_38, h7_41]; exact AX h_)
   refine hlex_cases 44 rfl (fun h7_44 => ?_) (fun h7_44 => ?_)
   ·
    iterate 5 refine S0 ?_ (e := fun _ h_ => by simp only [sH, ↓sP, sA, tyS, simprocAttr, h1_7, h7_23, h7_30, h7_38, h7_41, h7_44]; exact AX h_)
    simp only [sE, ↓reduceIte, simprocAttr]
    exact key true _ _ _ (by simp only [okc, alZ, puZ, h1_7, h7_23, h7_30, h7_38, h7_41, h7_44, Bool.and_true, Bool.and_false, Bool.true_and, Bool.false_and, Bool.or_true, Bool.true_or, Bool.false_or, Bool.or_false, Bool.and_self, Bool.or_self]) (fF)
   iterate 5 refine S0 ?_ (e := fun _ h_ => by simp only [sH, ↓sP, sA, tyS, simprocAttr, h1_7, h7_23, h7_30, h7_38, h7_41, h7_44]; exact AX h_)
   refine hlex_cases 48 rfl (fun h7_48 => ?_) (fun h7_48 => ?_)
   ·
    simp only [h7_48]
    simp only [sE, ↓reduceIte, simprocAttr]
    exact key true _ _ _ (by simp only [okc, alZ, puZ, h1_7, h7_23, h7_30, h7_38, h7_41, h7_44, h7_48, Bool.and_true, Bool.and_false, Bool.true_and, Bool.false_and, Bool.or_true, Bool.true_or, Bool.false_or, Bool.or_false, Bool.and_self, Bool.or_self]) (fF)
   simp only [h7_48]
   simp only [sE, ↓reduceIte, simprocAttr]
   exact key false _ _ _ (by simp only [okc, alZ, puZ, h1_7, h7_23, h7_30, h7_38, h7_41, h7_44, h7_48, Bool.and_true, Bool.and_false, Bool.true_and, Bool.false_and, Bool.or_true, Bool.true_or, Bool.false_or, Bool.or_false, Bool.and_self, Bool.or_self]) (fF)
  iterate 12 refine S0 ?_ (e := fun _ h_ => by simp only [sH, ↓sP, sA, tyS, simprocAttr, h1_7, h7_23, h7_30, h7_38]; exact AX h_)
  simp only [sE, ↓reduceIte, simprocAttr]
  exact key false _ _ _ (by simp only [okc, alZ, puZ, h1_7, h7_23, h7_30, h7_38, Bool.and_true, Bool.and_false, Bool.true_and, Bool.false_and, Bool.or_true, Bool.true_or, Bool.false_or, Bool.or_false, Bool.and_self, Bool.or_self]) (fF)
 refine hw_exit ?_
 simp only [↓sP, sA, tyS, simprocAttr]
 clear hK K
 refine AX (hK _ _ _ ?_)
 clear hK K
 refine R0 ?_
 refine hw_ret ?_
 simp only [hpost, Tryz.results77, hresL, hres1, tupOf, ↓sP, sA, tyS, simprocAttr]
 have hei : i = s.length := by simp at hb; omega
 exact hret_pure [] (.bool true) rfl (by rw [nameB_iff.2 ⟨hlen, fun j h => h0 j (by omega) h⟩])

end Go.Proofs.YtenbfeemmpjdhaaGreatDoor

namespace Go.Pl
open Go Go.Hl

def plainB (c : UInt8) : Bool := decide ((33 : Int) ≤ c.toNat) && decide ((c.toNat : Int) ≤ 125) && ((c.toNat : Int) != 37)
def hexU (n : Nat) : UInt8 := ([48, 49, 50, 51, 52, 53, 54, 55, 56, 57, 65, 66, 67, 68, 69, 70] : List UInt8).getD n 0
def encB (c : UInt8) : List UInt8 := if plainB c then [c] else [37, hexU (c.toNat / 16), hexU (c.toNat % 16)]
def encBs (w : Word) : Word := w.flatMap encB
def encW (w : Word) : Word := if w = [] then [126] else encBs w
def sizeW (w : Word) : Nat := max (encBs w).length 1

@[simp] theorem encBs_nil : encBs [] = [] := rfl
theorem encB_le (c : UInt8) : (encB c).length ≤ 3 := by unfold encB; split <;> simp
theorem encB_pos (c : UInt8) : 1 ≤ (encB c).length := by unfold encB; split <;> simp
theorem encBs_le (w : Word) : (encBs w).length ≤ 3 * w.length := by
 induction w with
 | nil => simp [encBs]
 | cons c w ih =>
  have := encB_le c
  simp only [encBs, List.flatMap_cons, List.length_append, List.length_cons] at *
  omega
theorem encBs_ge (w : Word) : w.length ≤ (encBs w).length := by
 induction w with
 | nil => simp [encBs]
 | cons c w ih =>
  have := encB_pos c
  simp only [encBs, List.flatMap_cons, List.length_append, List.length_cons] at *
  omega
theorem encBs_take {w : Word} {i : Nat} (h : i < w.length) : encBs (w.take (i + 1)) = encBs (w.take i) ++ encB w[i] := by
 simp only [List.take_succ_eq_append_getElem h, encBs, List.flatMap_append, List.flatMap_cons, List.flatMap_nil, List.append_nil]
theorem encBs_take_le (w : Word) (i : Nat) : (encBs (w.take i)).length ≤ (encBs w).length := by
 have : encBs w = encBs (w.take i) ++ encBs (w.drop i) := by simp [encBs, ← List.flatMap_append]
 rw [this, List.length_append]; omega
theorem encW_len (w : Word) : (encW w).length = sizeW w := by
 unfold encW sizeW
 split
 ·
  subst_vars; rfl
 ·
  rename_i h
  have := encBs_ge w
  have : 0 < w.length := List.length_pos_iff.2 h
  omega
theorem sizeW_le (w : Word) : sizeW w ≤ 3 * w.length + 1 := by have := encBs_le w; unfold sizeW; omega
theorem sizeW_pos (w : Word) : 1 ≤ sizeW w := by unfold sizeW; omega
theorem shr4 (c : UInt8) : Int.fdiv (c.toNat : Int) (2 ^ (min 4 IntKind.u8.bits)) = ((c.toNat / 16 : Nat) : Int) := by
 rw [show min 4 IntKind.u8.bits = 4 from rfl, Int.fdiv_eq_ediv_of_nonneg _ (by omega)]
 rfl
theorem and15 (c : UInt8) : IntKind.u8.wrap ((BitVec.ofInt IntKind.u8.bits (c.toNat : Int) &&& BitVec.ofInt IntKind.u8.bits 15).toNat : Int) = ((c.toNat % 16 : Nat) : Int) := by
 have h := c.toNat_lt
 have : (BitVec.ofInt IntKind.u8.bits (c.toNat : Int) &&& BitVec.ofInt IntKind.u8.bits 15).toNat = c.toNat % 16 := by
  rw [BitVec.toNat_and]
  have e1 : (BitVec.ofInt IntKind.u8.bits (c.toNat : Int)).toNat = c.toNat := by
   simp [IntKind.bits]
  have e2 : (BitVec.ofInt IntKind.u8.bits 15).toNat = 15 := rfl
  rw [e1, e2]
  exact Nat.and_two_pow_sub_one_eq_mod _ 4
 rw [this]
 exact IntWalk.u8_in _ (by omega)

theorem denilL_byte : ∀ bs : List UInt8, CV.denilL (bs.map byteC) = bs.map byteC
 | [] => rfl
 | b :: bs => by simp only [List.map_cons, CV.denilL, denilL_byte bs]; rfl

def sepW : List Word → Word
 | [] => []
 | w :: l => encW w ++ l.flatMap fun v => 32 :: encW v
theorem sepW_snoc (l : List Word) (w : Word) : sepW (l ++ [w]) = sepW l ++ ((if l = [] then [] else [32]) ++ encW w) := by
 cases l with
 | nil => simp [sepW]
 | cons a l => simp [sepW]
theorem sepW_take {l : List Word} {i : Nat} (h : i < l.length) : sepW (l.take (i + 1)) = sepW (l.take i) ++ ((if i = 0 then [] else [32]) ++ encW l[i]) := by
 rw [List.take_succ_eq_append_getElem h, sepW_snoc]
 congr 2
 have : l.take i = [] ↔ i = 0 := by
  rw [List.take_eq_nil_iff]
  constructor
  ·
   rintro (h1 | h1)
   ·
    exact h1
   ·
    subst h1; simp at h
  ·
   exact Or.inl
 simp only [this]
def encL (l : List Word) : Word := sepW l ++ [10]
def docB (ls : List (List Word)) : Word := ls.flatMap encL
def sumL (l : List Word) : Nat := (l.map fun w => sizeW w + 1).sum
def sumD (ls : List (List Word)) : Nat := (ls.map sumL).sum
theorem sepW_len : ∀ (l : List Word), l ≠ [] → (sepW l).length + 1 = sumL l
 | [], h => absurd rfl h
 | w :: l, _ => by
  have : ∀ l : List Word, (l.flatMap fun v => 32 :: encW v).length = sumL l := by
   intro l
   induction l with
   | nil => rfl
   | cons v l ih => simp only [List.flatMap_cons, List.length_append, List.length_cons, encW_len, ih, sumL, List.map_cons, List.sum_cons]
  simp only [sepW, List.length_append, encW_len, this, sumL, List.map_cons, List.sum_cons]
  omega
theorem encL_len {l : List Word} (h : l ≠ []) : (encL l).length = sumL l := by
 rw [encL, List.length_append, ← sepW_len l h]; rfl
theorem sepW_le (l : List Word) : (sepW l).length ≤ sumL l := by
 cases l with
 | nil => simp [sepW]
 | cons w l => have := sepW_len (w :: l) (by simp); omega
theorem docB_len : ∀ {ls : List (List Word)}, (∀ l ∈ ls, l ≠ []) → (docB ls).length = sumD ls
 | [], _ => rfl
 | l :: ls, h => by
  have ih := docB_len (ls := ls) fun x hx => h x (List.mem_cons_of_mem _ hx)
  have h1 := encL_len (h l List.mem_cons_self)
  simp only [docB, sumD, List.flatMap_cons, List.length_append, List.map_cons, List.sum_cons] at *
  omega
theorem docB_take {ls : List (List Word)} {i : Nat} (h : i < ls.length) : docB (ls.take (i + 1)) = docB (ls.take i) ++ encL ls[i] := by
 simp only [List.take_succ_eq_append_getElem h, docB, List.flatMap_append, List.flatMap_cons, List.flatMap_nil, List.append_nil]
@[simp] theorem docB_nil : docB [] = [] := rfl
@[simp] theorem sepW_nil : sepW [] = [] := rfl
@[simp] theorem sumL_nil : sumL [] = 0 := rfl
@[simp] theorem sumD_nil : sumD [] = 0 := rfl
def chkL (l : List Word) : Int :=
 if l.length = 0 then 1 else if 120 < l.length then 3 else if l.any (fun w => decide (32768 < w.length)) then 3 else 0
def okL (l : List Word) : Bool := chkL l == 0
theorem okL_iff (l : List Word) : okL l = true ↔ l ≠ [] ∧ l.length ≤ 120 ∧ ∀ w ∈ l, w.length ≤ 32768 := by
 unfold okL chkL
 constructor
 ·
  intro h
  split at h
  ·
   simp at h
  ·
   split at h
   ·
    simp at h
   ·
    split at h
    ·
     simp at h
    ·
     rename_i h1 h2 h3
     refine ⟨fun h => h1 (by rw [h]; rfl), by omega, fun w hw => ?_⟩
     simp only [List.any_eq_true, not_exists, not_and, decide_eq_true_eq, Nat.not_lt] at h3
     exact h3 w hw
 ·
  rintro ⟨h1, h2, h3⟩
  rw [if_neg (fun h => h1 (List.eq_nil_of_length_eq_zero h)), if_neg (by omega), if_neg (by simpa using h3)]
  rfl
theorem sumL_le {l : List Word} (h : okL l = true) : sumL l ≤ 11796720 := by
 obtain ⟨-, h1, h2⟩ := (okL_iff l).1 h
 have key : ∀ l : List Word, (∀ w ∈ l, w.length ≤ 32768) → sumL l ≤ 98306 * l.length := by
  intro l
  induction l with
  | nil => intro _; simp [sumL]
  | cons w l ih =>
   intro h
   have := ih fun x hx => h x (List.mem_cons_of_mem _ hx)
   have h3 := h w List.mem_cons_self
   have h4 := sizeW_le w
   simp only [sumL, List.map_cons, List.sum_cons, List.length_cons] at *
   omega
 have := key l h2
 omega
theorem sumD_le {ls : List (List Word)} (h : ∀ l ∈ ls, okL l = true) : sumD ls ≤ 11796720 * ls.length := by
 induction ls with
 | nil => simp [sumD]
 | cons l ls ih =>
  have := ih fun x hx => h x (List.mem_cons_of_mem _ hx)
  have h3 := sumL_le (h l List.mem_cons_self)
  simp only [sumD, List.map_cons, List.sum_cons, List.length_cons] at *
  omega
theorem sepW_le2 (l : List Word) (h : ∀ w ∈ l, w.length ≤ 32768) : (sepW l).length ≤ 98306 * l.length := by
 have h1 := sepW_le l
 have key : ∀ l : List Word, (∀ w ∈ l, w.length ≤ 32768) → sumL l ≤ 98306 * l.length := by
  intro l
  induction l with
  | nil => intro _; simp
  | cons w l ih =>
   intro h
   have := ih fun x hx => h x (List.mem_cons_of_mem _ hx)
   have h3 := h w List.mem_cons_self
   have h4 := sizeW_le w
   simp only [sumL, List.map_cons, List.sum_cons, List.length_cons] at *
   omega
 have := key l h
 omega
theorem all_takeP {α : Type} {p : α → Prop} {l : List α} {i : Nat} (h : i < l.length) (h1 : p l[i]) (h0 : ∀ x ∈ l.take i, p x) : ∀ x ∈ l.take (i + 1), p x := by
 intro x hx
 rw [List.take_succ_eq_append_getElem h, List.mem_append, List.mem_singleton] at hx
 rcases hx with hx | rfl
 ·
  exact h0 x hx
 ·
  exact h1
def encE (ls : List (List Word)) : Int :=
 if 1000 < ls.length then 3 else match ls.find? (fun l => !okL l) with
  | some l => chkL l
  | none => if 262144 < (docB ls).length then 3 else 0
def encO (ls : List (List Word)) : Word := if encE ls = 0 then docB ls else []
theorem encE_long {ls : List (List Word)} (h : 1000 < ls.length) : encE ls = 3 := by unfold encE; rw [if_pos h]
theorem encE_bad {ls : List (List Word)} {i : Nat} (h : ls.length ≤ 1000) (hi : i < ls.length) (h0 : ∀ l ∈ ls.take i, okL l = true) (h1 : okL ls[i] = false) : encE ls = chkL ls[i] := by
 unfold encE
 rw [if_neg (by omega)]
 have : ls.find? (fun l => !okL l) = some ls[i] := by
  rw [List.find?_eq_some_iff_append]
  refine ⟨by simp [h1], ls.take i, ls.drop (i + 1), ?_, fun l hl => by simp [h0 l hl]⟩
  rw [List.getElem_cons_drop, List.take_append_drop]
 rw [this]
theorem encE_ok {ls : List (List Word)} (h : ls.length ≤ 1000) (h0 : ∀ l ∈ ls, okL l = true) : encE ls = if 262144 < (docB ls).length then 3 else 0 := by
 unfold encE
 rw [if_neg (by omega)]
 have : ls.find? (fun l => !okL l) = none := by
  rw [List.find?_eq_none]
  intro l hl
  simp [h0 l hl]
 rw [this]
theorem encO_nil {ls : List (List Word)} (h : encE ls ≠ 0) : encO ls = [] := by unfold encO; rw [if_neg h]
theorem encO_ok {ls : List (List Word)} (h : encE ls = 0) : encO ls = docB ls := by unfold encO; rw [if_pos h]

def hexLo (n : Nat) : UInt8 := ([48, 49, 50, 51, 52, 53, 54, 55, 56, 57, 97, 98, 99, 100, 101, 102] : List UInt8).getD n 0
def hexB (c : UInt8) : List UInt8 := [hexLo (c.toNat / 16), hexLo (c.toNat % 16)]
def hexL (bs : List UInt8) : List UInt8 := bs.flatMap hexB
@[simp] theorem hexL_nil : hexL [] = [] := rfl
theorem hexL_len (bs : List UInt8) : (hexL bs).length = 2 * bs.length := by
 induction bs with
 | nil => rfl
 | cons c bs ih => simp only [hexL, List.flatMap_cons, List.length_append, List.length_cons, hexB, List.length_nil] at *; omega
theorem hexL_take {bs : List UInt8} {i : Nat} (h : i < bs.length) : hexL (bs.take (i + 1)) = hexL (bs.take i) ++ hexB bs[i] := by
 simp only [List.take_succ_eq_append_getElem h, hexL, List.flatMap_append, List.flatMap_cons, List.flatMap_nil, List.append_nil]
end Go.Pl

namespace Go.Proofs.YtenbfeemmpjdhaaGreatDoor
open Go Go.Hl Go.Pl
set_option maxRecDepth 10000
set_option maxHeartbeats 2000000
set_option linter.unusedSimpArgs false
set_option linter.unusedVariables false

theorem plain_ok (c : UInt8) : HPure Tryz.prog 111 [.int .u8 c.toNat] (fun v => v = .bool (plainB c)) := by
 refine hfn_walk Tryz.func111 rfl (by kernel_rfl) (locOk_nil _) (Nat.le_of_ble_eq_true rfl) ?_
 refine R0 ?_
 refine hw_seq fun K hK => Rg ?_
 iterate 3 refine S0 ?_
 refine hlex_cases 4 rfl (fun h1_4 => ?_) (fun h1_4 => ?_)
 ·
  iterate 4 refine S0 ?_ (e := fun _ h_ => by simp only [sH, ↓sP, sA, tyS, simprocAttr, h1_4]; exact AX h_)
  refine hlex_cases 7 rfl (fun h1_7 => ?_) (fun h1_7 => ?_)
  ·
   iterate 4 refine S0 ?_ (e := fun _ h_ => by simp only [sH, ↓sP, sA, tyS, simprocAttr, h1_4, h1_7]; exact AX h_)
   refine T2 (hK _ _ _ ?_)
   clear hK K
   refine hw_ret ?_
   simp only [hpost, Tryz.results111, hresL, hres1, tupOf, ↓sP, sA, tyS, simprocAttr]
   refine hret_pure [] (.bool _) rfl ?_
   simp [h1_4, h1_7, plainB]
   all_goals first | rfl | simp_all | omega
  iterate 4 refine S0 ?_ (e := fun _ h_ => by simp only [sH, ↓sP, sA, tyS, simprocAttr, h1_4, h1_7]; exact AX h_)
  refine T2 (hK _ _ _ ?_)
  clear hK K
  refine hw_ret ?_
  simp only [hpost, Tryz.results111, hresL, hres1, tupOf, ↓sP, sA, tyS, simprocAttr]
  refine hret_pure [] (.bool _) rfl ?_
  simp [h1_4, h1_7, plainB]
  all_goals first | rfl | simp_all | omega
 iterate 8 refine S0 ?_ (e := fun _ h_ => by simp only [sH, ↓sP, sA, tyS, simprocAttr, h1_4]; exact AX h_)
 refine T2 (hK _ _ _ ?_)
 clear hK K
 refine hw_ret ?_
 simp only [hpost, Tryz.results111, hresL, hres1, tupOf, ↓sP, sA, tyS, simprocAttr]
 refine hret_pure [] (.bool _) rfl ?_
 simp [h1_4, plainB]
 all_goals first | rfl | simp_all | omega


theorem plain2_ok (c : UInt8) : HPure Tryz.prog 112 [.int .u8 c.toNat] (fun v => v = .bool (plainB c)) := by
 refine hfn_walk Tryz.func112 rfl (by kernel_rfl) (locOk_nil _) (Nat.le_of_ble_eq_true rfl) ?_
 refine R0 ?_
 refine hw_seq fun K hK => Rg ?_
 iterate 3 refine S0 ?_
 refine hlex_cases 4 rfl (fun h1_4 => ?_) (fun h1_4 => ?_)
 ·
  iterate 4 refine S0 ?_ (e := fun _ h_ => by simp only [sH, ↓sP, sA, tyS, simprocAttr, h1_4]; exact AX h_)
  refine hlex_cases 7 rfl (fun h1_7 => ?_) (fun h1_7 => ?_)
  ·
   iterate 4 refine S0 ?_ (e := fun _ h_ => by simp only [sH, ↓sP, sA, tyS, simprocAttr, h1_4, h1_7]; exact AX h_)
   refine T2 (hK _ _ _ ?_)
   clear hK K
   refine hw_ret ?_
   simp only [hpost, Tryz.results112, hresL, hres1, tupOf, ↓sP, sA, tyS, simprocAttr]
   refine hret_pure [] (.bool _) rfl ?_
   simp [h1_4, h1_7, plainB]
   all_goals first | rfl | simp_all | omega
  iterate 4 refine S0 ?_ (e := fun _ h_ => by simp only [sH, ↓sP, sA, tyS, simprocAttr, h1_4, h1_7]; exact AX h_)
  refine T2 (hK _ _ _ ?_)
  clear hK K
  refine hw_ret ?_
  simp only [hpost, Tryz.results112, hresL, hres1, tupOf, ↓sP, sA, tyS, simprocAttr]
  refine hret_pure [] (.bool _) rfl ?_
  simp [h1_4, h1_7, plainB]
  all_goals first | rfl | simp_all | omega
 iterate 8 refine S0 ?_ (e := fun _ h_ => by simp only [sH, ↓sP, sA, tyS, simprocAttr, h1_4]; exact AX h_)
 refine T2 (hK _ _ _ ?_)
 clear hK K
 refine hw_ret ?_
 simp only [hpost, Tryz.results112, hresL, hres1, tupOf, ↓sP, sA, tyS, simprocAttr]
 refine hret_pure [] (.bool _) rfl ?_
 simp [h1_4, plainB]
 all_goals first | rfl | simp_all | omega


end Go.Proofs.YtenbfeemmpjdhaaGreatDoor
