/- Written forms of digests, halves and numbers, in plain Lean. By an AI agent. -/
import Derived.Test.YtenbfeemmpjdhaaGreatDoorHyT3
import Derived.Test.YtenbfeemmpjdhaaGreatDoorHlZb
import Derived.Test.YtenbfeemmpjdhaaGreatDoorPlShb
import Derived.Test.YtenbfeemmpjdhaaGreatDoorPl18
import Derived.Test.YtenbfeemmpjdhaaGreatDoorHlAs
import Derived.Shelf.LaysM
import Derived.Shelf.Strings.BuilderK
import Derived.Test.YtenbfeemmpjdhaaGreatDoorChecked
import Derived.WalkKit
import Derived.BigCall
import Derived.Lib.ItoaLen
set_option linter.unusedSimpArgs false
set_option linter.unusedVariables false
set_option linter.defProp false
namespace Go.Proofs.YtenbfeemmpjdhaaGreatDoor
open Go Go.Hl Go.Pl
set_option maxRecDepth 10000
set_option maxHeartbeats 2000000
set_option linter.unusedSimpArgs false
set_option linter.unusedVariables false

theorem index_ok (l : List Word) (w : Word) (hl : l.length < 2 ^ 40) : HPure Tryz.prog 116 [.slc (l.map .str), .str w] (fun v => v = .int .i64 (idxP (fun x => w == x) l)) := by
 refine hfn_walk Tryz.func116 rfl (by kernel_rfl) (locOk_nil _) (Nat.le_of_ble_eq_true rfl) ?_
 refine R0 ?_
 refine hw_seq fun K hK => ?_
 refine R0 ?_
 refine hw_block ?_
 refine hw_loop (α := {i : Nat // i ≤ l.length ∧ ∀ x ∈ l.take i, (w == x) = false}) (fun i => (fin [(0, .c (.slc (l.map .str))), (1, .c (.str w)), (7, .c (.int .i64 l.length)), (8, .c (.int .i64 i.1))], fob [])) 100 (fun i => l.length - i.1) ⟨0, by omega, by simp⟩ (fF) ?_
 rintro ⟨i, hi, h0⟩
 refine R0 ?_
 refine hw_seq fun K hK => ?_
 refine hw_cond (b := decide ((i : Int) < l.length)) rfl (fun hb => ?_) (fun hb => ?_)
 ·
  have hlt : i < l.length := by simpa using hb
  refine hw_skip ?_
  refine T0 (hK _ _ _ ?_)
  clear hK K
  refine hw_seq fun K hK => ?_
  refine hw_block ?_
  refine R0 ?_
  refine hw_seq fun K hK => hw_region (by kernel_rfl) ?_
  simp only [sR, simprocAttr]
  iterate 6 refine S0 ?_ (e := fun K_ h_ => by simp only [sH, ↓sP, sA, tyS, simprocAttr, Int.natCast_nonneg, Int.ofNat_lt, hlt, nth_map hlt]; exact AX h_)
  refine T2 (hK _ _ _ ?_)
  clear hK K
  refine hw_cond (b := w == l[i]) rfl (fun hb => ?_) (fun hb => ?_)
  ·
   refine R0 ?_
   refine hw_ret ?_
   simp only [hpost, Tryz.results116, hresL, hres1, tupOf, ↓sP, sA, tyS, simprocAttr]
   exact hret_pure [] (.int .i64 i) rfl (by rw [idxP_hit (p := fun x => w == x) hlt hb h0])
  refine hw_skip ?_
  refine T0 (hK _ _ _ ?_)
  clear hK K
  refine hw_region (by kernel_rfl) ?_
  simp only [↓sP, sA, tyS, simprocAttr, i64s i]
  refine ⟨⟨i + 1, hlt, take_miss (p := fun x => w == x) hlt hb h0⟩, fF, ?_⟩
  show l.length - (i + 1) < l.length - i
  omega
 refine hw_exit ?_
 simp only [↓sP, sA, tyS, simprocAttr]
 clear hK K
 refine AX (hK _ _ _ ?_)
 clear hK K
 refine R0 ?_
 refine hw_ret ?_
 simp only [hpost, Tryz.results116, hresL, hres1, tupOf, ↓sP, sA, tyS, simprocAttr]
 have hei : i = l.length := by simp at hb; omega
 subst hei
 exact hret_pure [] (.int .i64 (-1)) rfl (by rw [idxP_none (p := fun x => w == x) (by simpa using h0)])


theorem cont_ok (l : List Word) (w : Word) (hl : l.length < 2 ^ 40) : HPure Tryz.prog 82 [.slc (l.map .str), .str w] (fun v => v = .bool (l.contains w)) := by
 refine hfn_walk Tryz.func82 rfl (by kernel_rfl) (locOk_nil _) (Nat.le_of_ble_eq_true rfl) ?_
 refine R0 ?_
 refine hw_seq fun K hK => hw_region (by kernel_rfl) ?_
 simp only [sR, simprocAttr]
 iterate 2 refine S0 ?_
 refine hlex_step (g := none) rfl rfl fun K' hK' => ?_
 simp only [sH, ↓sP, sA, tyS, simprocAttr]
 refine call_pure (args := [_, _]) (index_ok l w hl) ⟨rfl, rfl, rfl, rfl⟩ ?_
 rintro u rfl
 refine AX (hK' _ _ ?_)
 clear hK' K'
 refine hlex_step (g := none) rfl rfl fun K' hK' => ?_
 simp only [sH, ↓sP, sA, tyS, simprocAttr]
 rw [idx_contains l w]
 refine AX (hK' _ _ ?_)
 clear hK' K'
 refine S0 ?_
 refine T2 (hK _ _ _ ?_)
 clear hK K
 refine hw_ret ?_
 simp only [hpost, Tryz.results82, hresL, hres1, tupOf, ↓sP, sA, tyS, simprocAttr]
 exact hret_pure [] (.bool _) rfl rfl


theorem indexd_ok (l : List Dig) (d : Dig) (hl : l.length < 2 ^ 40) : HPure Tryz.prog 151 [.slc (l.map dg), dg d] (fun v => v = .int .i64 (idxP (fun x => d == x) l)) := by
 refine hfn_walk Tryz.func151 rfl (by kernel_rfl) (locOk_nil _) (Nat.le_of_ble_eq_true rfl) ?_
 refine R0 ?_
 refine hw_seq fun K hK => ?_
 refine R0 ?_
 refine hw_block ?_
 refine hw_loop (α := {i : Nat // i ≤ l.length ∧ ∀ x ∈ l.take i, (d == x) = false}) (fun i => (fin [(0, .c (.slc (l.map dg))), (3, .ptr 0 0), (7, .c (.int .i64 l.length)), (8, .c (.int .i64 i.1))], fob [(0, .box 49 (.c (dg d)))])) 100 (fun i => l.length - i.1) ⟨0, by omega, by simp⟩ (fF) ?_
 rintro ⟨i, hi, h0⟩
 refine R0 ?_
 refine hw_seq fun K hK => ?_
 refine hw_cond (b := decide ((i : Int) < l.length)) rfl (fun hb => ?_) (fun hb => ?_)
 ·
  have hlt : i < l.length := by simpa using hb
  refine hw_skip ?_
  refine T0 (hK _ _ _ ?_)
  clear hK K
  refine hw_seq fun K hK => ?_
  refine hw_block ?_
  refine R0 ?_
  refine hw_seq fun K hK => hw_quiet mixed (by kernel_rfl) (by kernel_rfl) (by kernel_rfl) ?_
  simp only [sR, simprocAttr]
  iterate 6 refine S0 ?_ (e := fun K_ h_ => by simp only [sH, ↓sP, sA, tyS, simprocAttr, Int.natCast_nonneg, Int.ofNat_lt, hlt, nth_map hlt]; exact AX h_)
  refine T2 (hK _ _ _ ?_)
  clear hK K
  refine hw_cond (b := d == l[i]) rfl (fun hb => ?_) (fun hb => ?_)
  ·
   refine R0 ?_
   refine hw_ret ?_
   simp only [hpost, Tryz.results151, hresL, hres1, tupOf, ↓sP, sA, tyS, simprocAttr]
   exact hret_pure [] (.int .i64 i) rfl (by rw [idxP_hit (p := fun x => d == x) hlt hb h0])
  refine hw_skip ?_
  refine T0 (hK _ _ _ ?_)
  clear hK K
  refine hw_region (by kernel_rfl) ?_
  simp only [↓sP, sA, tyS, simprocAttr, i64s i]
  refine ⟨⟨i + 1, hlt, take_miss (p := fun x => d == x) hlt hb h0⟩, fF, ?_⟩
  show l.length - (i + 1) < l.length - i
  omega
 refine hw_exit ?_
 simp only [↓sP, sA, tyS, simprocAttr]
 clear hK K
 refine AX (hK _ _ _ ?_)
 clear hK K
 refine R0 ?_
 refine hw_ret ?_
 simp only [hpost, Tryz.results151, hresL, hres1, tupOf, ↓sP, sA, tyS, simprocAttr]
 have hei : i = l.length := by simp at hb; omega
 subst hei
 exact hret_pure [] (.int .i64 (-1)) rfl (by rw [idxP_none (p := fun x => d == x) (by simpa using h0)])


theorem contd_ok (l : List Dig) (d : Dig) (hl : l.length < 2 ^ 40) : HPure Tryz.prog 122 [.slc (l.map dg), dg d] (fun v => v = .bool (l.contains d)) := by
 refine hfn_walk Tryz.func122 rfl (by kernel_rfl) (locOk_nil _) (Nat.le_of_ble_eq_true rfl) ?_
 refine R0 ?_
 refine hw_seq fun K hK => hw_region (by kernel_rfl) ?_
 simp only [sR, simprocAttr]
 iterate 2 refine S0 ?_
 refine hlex_step (g := none) rfl rfl fun K' hK' => ?_
 simp only [sH, ↓sP, sA, tyS, simprocAttr]
 refine call_pure (args := [_, _]) (indexd_ok l d hl) ⟨rfl, rfl, rfl, rfl⟩ ?_
 rintro u rfl
 refine AX (hK' _ _ ?_)
 clear hK' K'
 refine hlex_step (g := none) rfl rfl fun K' hK' => ?_
 simp only [sH, ↓sP, sA, tyS, simprocAttr]
 rw [idx_contains l d]
 refine AX (hK' _ _ ?_)
 clear hK' K'
 refine S0 ?_
 refine T2 (hK _ _ _ ?_)
 clear hK K
 refine hw_ret ?_
 simp only [hpost, Tryz.results122, hresL, hres1, tupOf, ↓sP, sA, tyS, simprocAttr]
 exact hret_pure [] (.bool _) rfl rfl


theorem owners_ok : HPure Tryz.prog 91 [] (fun v => v = .slc (owners4.map .str)) := by
 refine hfn_walk Tryz.func91 rfl (by kernel_rfl) (locOk_nil _) (Nat.le_of_ble_eq_true rfl) ?_
 refine R0 ?_
 refine R0 ?_
 refine hw_ret ?_
 simp only [hpost, Tryz.results91, hresL, hres1, tupOf, ↓sP, sA, tyS, simprocAttr]
 exact hret_pure [4] _ rfl rfl


theorem roles_ok : HPure Tryz.prog 48 [] (fun v => v = .slc (roles10.map .str)) := by
 refine hfn_walk Tryz.func48 rfl (by kernel_rfl) (locOk_nil _) (Nat.le_of_ble_eq_true rfl) ?_
 refine R0 ?_
 refine R0 ?_
 refine hw_ret ?_
 simp only [hpost, Tryz.results48, hresL, hres1, tupOf, ↓sP, sA, tyS, simprocAttr]
 exact hret_pure [4] _ rfl rfl


theorem owner_ok (i : Nat) (hi : i < 2 ^ 40) : HPure Tryz.prog 51 [.int .i64 i] (fun v => v = .str (mOwner i)) := by
 have h4 : i % 4 < owners4.length := Nat.mod_lt _ (by decide)
 have hm : (i : Int).tmod 4 = ((i % 4 : Nat) : Int) := rfl
 refine hfn_walk Tryz.func51 rfl (by kernel_rfl) (locOk_nil _) (Nat.le_of_ble_eq_true rfl) ?_
 refine R0 ?_
 refine hw_seq fun K hK => hw_region (by kernel_rfl) ?_
 simp only [sR, simprocAttr]
 refine hlex_step (g := none) rfl rfl fun K' hK' => ?_
 simp only [sH, ↓sP, sA, tyS, simprocAttr, hm, Int.natCast_nonneg, Int.ofNat_lt, h4, nth_map h4]
 refine call_pure (args := []) owners_ok ⟨rfl, rfl, rfl, rfl⟩ ?_
 rintro u rfl
 refine AX (hK' _ _ ?_)
 clear hK' K'
 iterate 5 refine S0 ?_ (e := fun K_ h_ => by simp only [sH, ↓sP, sA, tyS, simprocAttr, hm, Int.natCast_nonneg, Int.ofNat_lt, h4, nth_map h4]; exact AX h_)
 refine T2 (hK _ _ _ ?_)
 clear hK K
 refine hw_ret ?_
 simp only [hpost, Tryz.results51, hresL, hres1, tupOf, ↓sP, sA, tyS, simprocAttr]
 exact hret_pure [] (.str owners4[i % 4]) rfl (by unfold mOwner; rw [List.getD_eq_getElem?_getD, List.getElem?_eq_getElem h4]; rfl)


theorem name_ok (s : Word) (hl : s.length < 2 ^ 63) : HPure Tryz.prog 77 [.str s] (fun v => v = .bool (nameB s)) := by
 refine hfn_walk Tryz.func77 rfl (by kernel_rfl) (locOk_nil _) (Nat.le_of_ble_eq_true rfl) ?_
 refine R0 ?_
 refine hw_seq fun K hK => ?_
 refine hw_seq fun K hK => hw_region (by kernel_rfl) ?_
 simp only [sR, simprocAttr]
 iterate 4 refine S0 ?_
 refine hlex_cases 7 rfl (fun h1_7 => ?_) (fun h1_7 => ?_)
 ·
  iterate 3 refine S0 ?_ (e := fun K_ h_ => by simp only [sH, ↓sP, sA, tyS, simprocAttr, h1_7]; exact AX h_)
  refine S0 ?_ (e := fun K_ h_ => by simp only [sH, ↓sP, sA, tyS, simprocAttr, h1_7]; exact AX h_)
  refine T2 (hK _ _ _ ?_)
  clear hK K
  refine hw_cond (b := true) rfl (fun hb => ?_) (fun hb => ?_)
  ·
   refine R0 ?_
   refine hw_ret ?_
   simp only [hpost, Tryz.results77, hresL, hres1, tupOf, ↓sP, sA, tyS, simprocAttr]
   exact hret_pure [] (.bool false) rfl (by rw [nameB_len (by simp at h1_7; omega)])
  cases hb
 iterate 3 refine S0 ?_ (e := fun K_ h_ => by simp only [sH, ↓sP, sA, tyS, simprocAttr, h1_7]; exact AX h_)
 refine S0 ?_ (e := fun K_ h_ => by simp only [sH, ↓sP, sA, tyS, simprocAttr, h1_7]; exact AX h_)
 refine T2 (hK _ _ _ ?_)
 clear hK K
 refine hw_cond (b := _) rfl (fun hb => ?_) (fun hb => ?_)
 ·
  refine R0 ?_
  refine hw_ret ?_
  simp only [hpost, Tryz.results77, hresL, hres1, tupOf, ↓sP, sA, tyS, simprocAttr]
  exact hret_pure [] (.bool false) rfl (by rw [nameB_len (by simp at hb; omega)])
 refine hw_skip ?_
 refine T0 (hK _ _ _ ?_)
 clear hK K
 refine hw_seq fun K hK => ?_
 refine R0 ?_
 refine hw_block ?_
 have hlen : 1 ≤ s.length ∧ s.length ≤ 64 := by simp at h1_7 hb; omega
 refine hw_loop (α := {i : Nat // i ≤ s.length ∧ ∀ j (_ : j < i) (h : j < s.length), okc j s[j] = true}) (fun i => (fin [(0, .c (.str s)), (3, .c (.int .i64 i.1))], fob [])) 100 (fun i => s.length - i.1) ⟨0, by omega, fun j h => by omega⟩ (fF) ?_
 clear hb
 rintro ⟨i, hi, h0⟩
 refine hw_seq fun K hK => ?_
 refine hw_seq fun K hK => hw_region (by kernel_rfl) ?_
 simp only [sR, simprocAttr]
 iterate 4 refine S0 ?_ (e := fun K_ h_ => by simp only [sH, ↓sP, sA, tyS, simprocAttr, h1_7]; exact AX h_)
 refine T2 (hK _ _ _ ?_)
 clear hK K
 refine hw_cond (b := decide ((i : Int) < s.length)) rfl (fun hb => ?_) (fun hb => ?_)
 ·
  have hlt : i < s.length := by simpa using hb
  have hgd : s.getD i 0 = s[i] := by simp [hlt]
  refine hw_skip ?_
  refine T0 (hK _ _ _ ?_)
  clear hK K
  refine hw_seq fun K hK => ?_
  refine hw_block ?_
  refine hw_seq fun K hK => hw_region (by kernel_rfl) ?_
  simp only [sR, simprocAttr]
  iterate 4 refine S0 ?_ (e := fun K_ h_ => by simp only [sH, ↓sP, sA, tyS, simprocAttr, Int.natCast_nonneg, Int.ofNat_lt, hlt, hgd, h1_7]; exact AX h_)
  refine T2 (hK _ _ _ ?_)
  clear hK K
  refine hw_seq fun K hK => ?_
  refine hw_seq fun K hK => ?_
  have key : ∀ (b : Bool) fr ob nx, b = okc i s[i] → Fits 0 fr ob (fin [(0, .c (.str s)), (3, .c (.int .i64 i)), (51, .c (.bool b))]) (fob []) 600 → K fr ob nx := by
   rintro b fr ob nx rfl hf
   refine hK _ _ _ (hw_fits hf ?_)
   clear hf hK K
   refine hw_cond (b := okc i s[i]) rfl (fun hb => ?_) (fun hb => ?_)
   ·
    refine hw_exit ?_
    simp only [↓sP, sA, tyS, simprocAttr]
    clear hK K
    refine AX (hK _ _ _ ?_)
    clear hK K
    refine hw_region (by kernel_rfl) ?_
    simp only [↓sP, sA, tyS, simprocAttr, i64s i]
    refine ⟨⟨i + 1, hlt, name_step hlt hb h0⟩, fF, ?_⟩
    show s.length - (i + 1) < s.length - i
    omega
   refine hw_skip ?_
   refine T0 (hK _ _ _ ?_)
   clear hK K
   refine R0 ?_
   refine hw_ret ?_
   simp only [hpost, Tryz.results77, hresL, hres1, tupOf, ↓sP, sA, tyS, simprocAttr]
   exact hret_pure [] (.bool false) rfl (by rw [nameB_bad hlt hb])
  refine hw_region (by kernel_rfl) ?_
  simp only [sR, simprocAttr]
  iterate 3 refine S0 ?_ (e := fun K_ h_ => by simp only [sH, ↓sP, sA, tyS, simprocAttr, h1_7]; exact AX h_)
  refine hlex_cases 23 rfl (fun h7_23 => ?_) (fun h7_23 => ?_)
  ·
   iterate 2 refine S0 ?_ (e := fun K_ h_ => by simp only [sH, ↓sP, sA, tyS, simprocAttr, h1_7, h7_23]; exact AX h_)
   iterate 2 refine S0 ?_ (e := fun K_ h_ => by simp only [sH, ↓sP, sA, tyS, simprocAttr, h1_7, h7_23]; exact AX h_)
   refine hlex_cases 26 rfl (fun h7_26 => ?_) (fun h7_26 => ?_)
   ·
    iterate 3 refine S0 ?_ (e := fun K_ h_ => by simp only [sH, ↓sP, sA, tyS, simprocAttr, h1_7, h7_23, h7_26]; exact AX h_)
    iterate 2 refine S0 ?_ (e := fun K_ h_ => by simp only [sH, ↓sP, sA, tyS, simprocAttr, h1_7, h7_23, h7_26]; exact AX h_)
    refine S0 ?_ (e := fun K_ h_ => by simp only [sH, ↓sP, sA, tyS, simprocAttr, h1_7, h7_23, h7_26]; exact AX h_)
    iterate 2 refine S0 ?_ (e := fun K_ h_ => by simp only [sH, ↓sP, sA, tyS, simprocAttr, h1_7, h7_23, h7_26]; exact AX h_)
    iterate 3 refine S0 ?_ (e := fun K_ h_ => by simp only [sH, ↓sP, sA, tyS, simprocAttr, h1_7, h7_23, h7_26]; exact AX h_)
    iterate 3 refine S0 ?_ (e := fun K_ h_ => by simp only [sH, ↓sP, sA, tyS, simprocAttr, h1_7, h7_23, h7_26]; exact AX h_)
    iterate 2 refine S0 ?_ (e := fun K_ h_ => by simp only [sH, ↓sP, sA, tyS, simprocAttr, h1_7, h7_23, h7_26]; exact AX h_)
    iterate 2 refine S0 ?_ (e := fun K_ h_ => by simp only [sH, ↓sP, sA, tyS, simprocAttr, h1_7, h7_23, h7_26]; exact AX h_)
    iterate 2 refine S0 ?_ (e := fun K_ h_ => by simp only [sH, ↓sP, sA, tyS, simprocAttr, h1_7, h7_23, h7_26]; exact AX h_)
    refine S0 ?_ (e := fun K_ h_ => by simp only [sH, ↓sP, sA, tyS, simprocAttr, h1_7, h7_23, h7_26]; exact AX h_)
    refine S0 ?_ (e := fun K_ h_ => by simp only [sH, ↓sP, sA, tyS, simprocAttr, h1_7, h7_23, h7_26]; exact AX h_)
    refine S0 ?_ (e := fun K_ h_ => by simp only [sH, ↓sP, sA, tyS, simprocAttr, h1_7, h7_23, h7_26]; exact AX h_)
    simp only [sE, ↓reduceIte, simprocAttr]
    exact key true _ _ _ (by simp only [okc, alZ, puZ, h1_7, h7_23, h7_26, Bool.and_true, Bool.and_false, Bool.true_and, Bool.false_and, Bool.or_true, Bool.true_or, Bool.false_or, Bool.or_false, Bool.and_self, Bool.or_self]) (fF)
   iterate 3 refine S0 ?_ (e := fun K_ h_ => by simp only [sH, ↓sP, sA, tyS, simprocAttr, h1_7, h7_23, h7_26]; exact AX h_)
   refine hlex_cases 30 rfl (fun h7_30 => ?_) (fun h7_30 => ?_)
   ·
    iterate 2 refine S0 ?_ (e := fun K_ h_ => by simp only [sH, ↓sP, sA, tyS, simprocAttr, h1_7, h7_23, h7_26, h7_30]; exact AX h_)
    refine S0 ?_ (e := fun K_ h_ => by simp only [sH, ↓sP, sA, tyS, simprocAttr, h1_7, h7_23, h7_26, h7_30]; exact AX h_)
    iterate 2 refine S0 ?_ (e := fun K_ h_ => by simp only [sH, ↓sP, sA, tyS, simprocAttr, h1_7, h7_23, h7_26, h7_30]; exact AX h_)
    refine hlex_cases 33 rfl (fun h7_33 => ?_) (fun h7_33 => ?_)
    ·
     iterate 3 refine S0 ?_ (e := fun K_ h_ => by simp only [sH, ↓sP, sA, tyS, simprocAttr, h1_7, h7_23, h7_26, h7_30, h7_33]; exact AX h_)
     iterate 3 refine S0 ?_ (e := fun K_ h_ => by simp only [sH, ↓sP, sA, tyS, simprocAttr, h1_7, h7_23, h7_26, h7_30, h7_33]; exact AX h_)
     iterate 2 refine S0 ?_ (e := fun K_ h_ => by simp only [sH, ↓sP, sA, tyS, simprocAttr, h1_7, h7_23, h7_26, h7_30, h7_33]; exact AX h_)
     iterate 2 refine S0 ?_ (e := fun K_ h_ => by simp only [sH, ↓sP, sA, tyS, simprocAttr, h1_7, h7_23, h7_26, h7_30, h7_33]; exact AX h_)
     iterate 2 refine S0 ?_ (e := fun K_ h_ => by simp only [sH, ↓sP, sA, tyS, simprocAttr, h1_7, h7_23, h7_26, h7_30, h7_33]; exact AX h_)
     refine S0 ?_ (e := fun K_ h_ => by simp only [sH, ↓sP, sA, tyS, simprocAttr, h1_7, h7_23, h7_26, h7_30, h7_33]; exact AX h_)
     refine S0 ?_ (e := fun K_ h_ => by simp only [sH, ↓sP, sA, tyS, simprocAttr, h1_7, h7_23, h7_26, h7_30, h7_33]; exact AX h_)
     refine S0 ?_ (e := fun K_ h_ => by simp only [sH, ↓sP, sA, tyS, simprocAttr, h1_7, h7_23, h7_26, h7_30, h7_33]; exact AX h_)
     simp only [sE, ↓reduceIte, simprocAttr]
     exact key true _ _ _ (by simp only [okc, alZ, puZ, h1_7, h7_23, h7_26, h7_30, h7_33, Bool.and_true, Bool.and_false, Bool.true_and, Bool.false_and, Bool.or_true, Bool.true_or, Bool.false_or, Bool.or_false, Bool.and_self, Bool.or_self]) (fF)
    iterate 3 refine S0 ?_ (e := fun K_ h_ => by simp only [sH, ↓sP, sA, tyS, simprocAttr, h1_7, h7_23, h7_26, h7_30, h7_33]; exact AX h_)
    refine hlex_cases 38 rfl (fun h7_38 => ?_) (fun h7_38 => ?_)
    ·
     iterate 3 refine S0 ?_ (e := fun K_ h_ => by simp only [sH, ↓sP, sA, tyS, simprocAttr, h1_7, h7_23, h7_26, h7_30, h7_33, h7_38]; exact AX h_)
     refine hlex_cases 41 rfl (fun h7_41 => ?_) (fun h7_41 => ?_)
     ·
      iterate 2 refine S0 ?_ (e := fun K_ h_ => by simp only [sH, ↓sP, sA, tyS, simprocAttr, h1_7, h7_23, h7_26, h7_30, h7_33, h7_38, h7_41]; exact AX h_)
      iterate 2 refine S0 ?_ (e := fun K_ h_ => by simp only [sH, ↓sP, sA, tyS, simprocAttr, h1_7, h7_23, h7_26, h7_30, h7_33, h7_38, h7_41]; exact AX h_)
      iterate 2 refine S0 ?_ (e := fun K_ h_ => by simp only [sH, ↓sP, sA, tyS, simprocAttr, h1_7, h7_23, h7_26, h7_30, h7_33, h7_38, h7_41]; exact AX h_)
      refine S0 ?_ (e := fun K_ h_ => by simp only [sH, ↓sP, sA, tyS, simprocAttr, h1_7, h7_23, h7_26, h7_30, h7_33, h7_38, h7_41]; exact AX h_)
      refine S0 ?_ (e := fun K_ h_ => by simp only [sH, ↓sP, sA, tyS, simprocAttr, h1_7, h7_23, h7_26, h7_30, h7_33, h7_38, h7_41]; exact AX h_)
      refine S0 ?_ (e := fun K_ h_ => by simp only [sH, ↓sP, sA, tyS, simprocAttr, h1_7, h7_23, h7_26, h7_30, h7_33, h7_38, h7_41]; exact AX h_)
      simp only [sE, ↓reduceIte, simprocAttr]
      exact key true _ _ _ (by simp only [okc, alZ, puZ, h1_7, h7_23, h7_26, h7_30, h7_33, h7_38, h7_41, Bool.and_true, Bool.and_false, Bool.true_and, Bool.false_and, Bool.or_true, Bool.true_or, Bool.false_or, Bool.or_false, Bool.and_self, Bool.or_self]) (fF)
     iterate 2 refine S0 ?_ (e := fun K_ h_ => by simp only [sH, ↓sP, sA, tyS, simprocAttr, h1_7, h7_23, h7_26, h7_30, h7_33, h7_38, h7_41]; exact AX h_)
     iterate 2 refine S0 ?_ (e := fun K_ h_ => by simp only [sH, ↓sP, sA, tyS, simprocAttr, h1_7, h7_23, h7_26, h7_30, h7_33, h7_38, h7_41]; exact AX h_)
     refine hlex_cases 44 rfl (fun h7_44 => ?_) (fun h7_44 => ?_)
     ·
      iterate 2 refine S0 ?_ (e := fun K_ h_ => by simp only [sH, ↓sP, sA, tyS, simprocAttr, h1_7, h7_23, h7_26, h7_30, h7_33, h7_38, h7_41, h7_44]; exact AX h_)
      refine S0 ?_ (e := fun K_ h_ => by simp only [sH, ↓sP, sA, tyS, simprocAttr, h1_7, h7_23, h7_26, h7_30, h7_33, h7_38, h7_41, h7_44]; exact AX h_)
      refine S0 ?_ (e := fun K_ h_ => by simp only [sH, ↓sP, sA, tyS, simprocAttr, h1_7, h7_23, h7_26, h7_30, h7_33, h7_38, h7_41, h7_44]; exact AX h_)
      refine S0 ?_ (e := fun K_ h_ => by simp only [sH, ↓sP, sA, tyS, simprocAttr, h1_7, h7_23, h7_26, h7_30, h7_33, h7_38, h7_41, h7_44]; exact AX h_)
      simp only [sE, ↓reduceIte, simprocAttr]
      exact key true _ _ _ (by simp only [okc, alZ, puZ, h1_7, h7_23, h7_26, h7_30, h7_33, h7_38, h7_41, h7_44, Bool.and_true, Bool.and_false, Bool.true_and, Bool.false_and, Bool.or_true, Bool.true_or, Bool.false_or, Bool.or_false, Bool.and_self, Bool.or_self]) (fF)
     iterate 2 refine S0 ?_ (e := fun K_ h_ => by simp only [sH, ↓sP, sA, tyS, simprocAttr, h1_7, h7_23, h7_26, h7_30, h7_33, h7_38, h7_41, h7_44]; exact AX h_)
     refine S0 ?_ (e := fun K_ h_ => by simp only [sH, ↓sP, sA, tyS, simprocAttr, h1_7, h7_23, h7_26, h7_30, h7_33, h7_38, h7_41, h7_44]; exact AX h_)
     refine S0 ?_ (e := fun K_ h_ => by simp only [sH, ↓sP, sA, tyS, simprocAttr, h1_7, h7_23, h7_26, h7_30, h7_33, h7_38, h7_41, h7_44]; exact AX h_)
     refine S0 ?_ (e := fun K_ h_ => by simp only [sH, ↓sP, sA, tyS, simprocAttr, h1_7, h7_23, h7_26, h7_30, h7_33, h7_38, h7_41, h7_44]; exact AX h_)
     refine hlex_cases 48 rfl (fun h7_48 => ?_) (fun h7_48 => ?_)
     ·
      simp only [h7_48]
      simp only [sE, ↓reduceIte, simprocAttr]
      exact key true _ _ _ (by simp only [okc, alZ, puZ, h1_7, h7_23, h7_26, h7_30, h7_33, h7_38, h7_41, h7_44, h7_48, Bool.and_true, Bool.and_false, Bool.true_and, Bool.false_and, Bool.or_true, Bool.true_or, Bool.false_or, Bool.or_false, Bool.and_self, Bool.or_self]) (fF)
     simp only [h7_48]
     simp only [sE, ↓reduceIte, simprocAttr]
     exact key false _ _ _ (by simp only [okc, alZ, puZ, h1_7, h7_23, h7_26, h7_30, h7_33, h7_38, h7_41, h7_44, h7_48, Bool.and_true, Bool.and_false, Bool.true_and, Bool.false_and, Bool.or_true, Bool.true_or, Bool.false_or, Bool.or_false, Bool.and_self, Bool.or_self]) (fF)
    iterate 3 refine S0 ?_ (e := fun K_ h_ => by simp only [sH, ↓sP, sA, tyS, simprocAttr, h1_7, h7_23, h7_26, h7_30, h7_33, h7_38]; exact AX h_)
    iterate 2 refine S0 ?_ (e := fun K_ h_ => by simp only [sH, ↓sP, sA, tyS, simprocAttr, h1_7, h7_23, h7_26, h7_30, h7_33, h7_38]; exact AX h_)
    iterate 2 refine S0 ?_ (e := fun K_ h_ => by simp only [sH, ↓sP, sA, tyS, simprocAttr, h1_7, h7_23, h7_26, h7_30, h7_33, h7_38]; exact AX h_)
    iterate 2 refine S0 ?_ (e := fun K_ h_ => by simp only [sH, ↓sP, sA, tyS, simprocAttr, h1_7, h7_23, h7_26, h7_30, h7_33, h7_38]; exact AX h_)
    refine S0 ?_ (e := fun K_ h_ => by simp only [sH, ↓sP, sA, tyS, simprocAttr, h1_7, h7_23, h7_26, h7_30, h7_33, h7_38]; exact AX h_)
    refine S0 ?_ (e := fun K_ h_ => by simp only [sH, ↓sP, sA, tyS, simprocAttr, h1_7, h7_23, h7_26, h7_30, h7_33, h7_38]; exact AX h_)
    refine S0 ?_ (e := fun K_ h_ => by simp only [sH, ↓sP, sA, tyS, simprocAttr, h1_7, h7_23, h7_26, h7_30, h7_33, h7_38]; exact AX h_)
    simp only [sE, ↓reduceIte, simprocAttr]
    exact key false _ _ _ (by simp only [okc, alZ, puZ, h1_7, h7_23, h7_26, h7_30, h7_33, h7_38, Bool.and_true, Bool.and_false, Bool.true_and, Bool.false_and, Bool.or_true, Bool.true_or, Bool.false_or, Bool.or_false, Bool.and_self, Bool.or_self]) (fF)
   iterate 2 refine S0 ?_ (e := fun K_ h_ => by simp only [sH, ↓sP, sA, tyS, simprocAttr, h1_7, h7_23, h7_26, h7_30]; exact AX h_)
   refine S0 ?_ (e := fun K_ h_ => by simp only [sH, ↓sP, sA, tyS, simprocAttr, h1_7, h7_23, h7_26, h7_30]; exact AX h_)
   iterate 2 refine S0 ?_ (e := fun K_ h_ => by simp only [sH, ↓sP, sA, tyS, simprocAttr, h1_7, h7_23, h7_26, h7_30]; exact AX h_)
   iterate 3 refine S0 ?_ (e := fun K_ h_ => by simp only [sH, ↓sP, sA, tyS, simprocAttr, h1_7, h7_23, h7_26, h7_30]; exact AX h_)
   refine hlex_cases 38 rfl (fun h7_38 => ?_) (fun h7_38 => ?_)
   ·
    iterate 3 refine S0 ?_ (e := fun K_ h_ => by simp only [sH, ↓sP, sA, tyS, simprocAttr, h1_7, h7_23, h7_26, h7_30, h7_38]; exact AX h_)
    refine hlex_cases 41 rfl (fun h7_41 => ?_) (fun h7_41 => ?_)
    ·
     iterate 2 refine S0 ?_ (e := fun K_ h_ => by simp only [sH, ↓sP, sA, tyS, simprocAttr, h1_7, h7_23, h7_26, h7_30, h7_38, h7_41]; exact AX h_)
     iterate 2 refine S0 ?_ (e := fun K_ h_ => by simp only [sH, ↓sP, sA, tyS, simprocAttr, h1_7, h7_23, h7_26, h7_30, h7_38, h7_41]; exact AX h_)
     iterate 2 refine S0 ?_ (e := fun K_ h_ => by simp only [sH, ↓sP, sA, tyS, simprocAttr, h1_7, h7_23, h7_26, h7_30, h7_38, h7_41]; exact AX h_)
     refine S0 ?_ (e := fun K_ h_ => by simp only [sH, ↓sP, sA, tyS, simprocAttr, h1_7, h7_23, h7_26, h7_30, h7_38, h7_41]; exact AX h_)
     refine S0 ?_ (e := fun K_ h_ => by simp only [sH, ↓sP, sA, tyS, simprocAttr, h1_7, h7_23, h7_26, h7_30, h7_38, h7_41]; exact AX h_)
     refine S0 ?_ (e := fun K_ h_ => by simp only [sH, ↓sP, sA, tyS, simprocAttr, h1_7, h7_23, h7_26, h7_30, h7_38, h7_41]; exact AX h_)
     simp only [sE, ↓reduceIte, simprocAttr]
     exact key true _ _ _ (by simp only [okc, alZ, puZ, h1_7, h7_23, h7_26, h7_30, h7_38, h7_41, Bool.and_true, Bool.and_false, Bool.true_and, Bool.false_and, Bool.or_true, Bool.true_or, Bool.false_or, Bool.or_false, Bool.and_self, Bool.or_self]) (fF)
    iterate 2 refine S0 ?_ (e := fun K_ h_ => by simp only [sH, ↓sP, sA, tyS, simprocAttr, h1_7, h7_23, h7_26, h7_30, h7_38, h7_41]; exact AX h_)
    iterate 2 refine S0 ?_ (e := fun K_ h_ => by simp only [sH, ↓sP, sA, tyS, simprocAttr, h1_7, h7_23, h7_26, h7_30, h7_38, h7_41]; exact AX h_)
    refine hlex_cases 44 rfl (fun h7_44 => ?_) (fun h7_44 => ?_)
    ·
     iterate 2 refine S0 ?_ (e := fun K_ h_ => by simp only [sH, ↓sP, sA, tyS, simprocAttr, h1_7, h7_23, h7_26, h7_30, h7_38, h7_41, h7_44]; exact AX h_)
     refine S0 ?_ (e := fun K_ h_ => by simp only [sH, ↓sP, sA, tyS, simprocAttr, h1_7, h7_23, h7_26, h7_30, h7_38, h7_41, h7_44]; exact AX h_)
     refine S0 ?_ (e := fun K_ h_ => by simp only [sH, ↓sP, sA, tyS, simprocAttr, h1_7, h7_23, h7_26, h7_30, h7_38, h7_41, h7_44]; exact AX h_)
     refine S0 ?_ (e := fun K_ h_ => by simp only [sH, ↓sP, sA, tyS, simprocAttr, h1_7, h7_23, h7_26, h7_30, h7_38, h7_41, h7_44]; exact AX h_)
     simp only [sE, ↓reduceIte, simprocAttr]
     exact key true _ _ _ (by simp only [okc, alZ, puZ, h1_7, h7_23, h7_26, h7_30, h7_38, h7_41, h7_44, Bool.and_true, Bool.and_false, Bool.true_and, Bool.false_and, Bool.or_true, Bool.true_or, Bool.false_or, Bool.or_false, Bool.and_self, Bool.or_self]) (fF)
    iterate 2 refine S0 ?_ (e := fun K_ h_ => by simp only [sH, ↓sP, sA, tyS, simprocAttr, h1_7, h7_23, h7_26, h7_30, h7_38, h7_41, h7_44]; exact AX h_)
    refine S0 ?_ (e := fun K_ h_ => by simp only [sH, ↓sP, sA, tyS, simprocAttr, h1_7, h7_23, h7_26, h7_30, h7_38, h7_41, h7_44]; exact AX h_)
    refine S0 ?_ (e := fun K_ h_ => by simp only [sH, ↓sP, sA, tyS, simprocAttr, h1_7, h7_23, h7_26, h7_30, h7_38, h7_41, h7_44]; exact AX h_)
    refine S0 ?_ (e := fun K_ h_ => by simp only [sH, ↓sP, sA, tyS, simprocAttr, h1_7, h7_23, h7_26, h7_30, h7_38, h7_41, h7_44]; exact AX h_)
    refine hlex_cases 48 rfl (fun h7_48 => ?_) (fun h7_48 => ?_)
    ·
     simp only [h7_48]
     simp only [sE, ↓reduceIte, simprocAttr]
     exact key true _ _ _ (by simp only [okc, alZ, puZ, h1_7, h7_23, h7_26, h7_30, h7_38, h7_41, h7_44, h7_48, Bool.and_true, Bool.and_false, Bool.true_and, Bool.false_and, Bool.or_true, Bool.true_or, Bool.false_or, Bool.or_false, Bool.and_self, Bool.or_self]) (fF)
    simp only [h7_48]
    simp only [sE, ↓reduceIte, simprocAttr]
    exact key false _ _ _ (by simp only [okc, alZ, puZ, h1_7, h7_23, h7_26, h7_30, h7_38, h7_41, h7_44, h7_48, Bool.and_true, Bool.and_false, Bool.true_and, Bool.false_and, Bool.or_true, Bool.true_or, Bool.false_or, Bool.or_false, Bool.and_self, Bool.or_self]) (fF)
   iterate 3 refine S0 ?_ (e := fun K_ h_ => by simp only [sH, ↓sP, sA, tyS, simprocAttr, h1_7, h7_23, h7_26, h7_30, h7_38]; exact AX h_)
   iterate 2 refine S0 ?_ (e := fun K_ h_ => by simp only [sH, ↓sP, sA, tyS, simprocAttr, h1_7, h7_23, h7_26, h7_30, h7_38]; exact AX h_)
   iterate 2 refine S0 ?_ (e := fun K_ h_ => by simp only [sH, ↓sP, sA, tyS, simprocAttr, h1_7, h7_23, h7_26, h7_30, h7_38]; exact AX h_)
   iterate 2 refine S0 ?_ (e := fun K_ h_ => by simp only [sH, ↓sP, sA, tyS, simprocAttr, h1_7, h7_23, h7_26, h7_30, h7_38]; exact AX h_)
   refine S0 ?_ (e := fun K_ h_ => by simp only [sH, ↓sP, sA, tyS, simprocAttr, h1_7, h7_23, h7_26, h7_30, h7_38]; exact AX h_)
   refine S0 ?_ (e := fun K_ h_ => by simp only [sH, ↓sP, sA, tyS, simprocAttr, h1_7, h7_23, h7_26, h7_30, h7_38]; exact AX h_)
   refine S0 ?_ (e := fun K_ h_ => by simp only [sH, ↓sP, sA, tyS, simprocAttr, h1_7, h7_23, h7_26, h7_30, h7_38]; exact AX h_)
   simp only [sE, ↓reduceIte, simprocAttr]
   exact key false _ _ _ (by simp only [okc, alZ, puZ, h1_7, h7_23, h7_26, h7_30, h7_38, Bool.and_true, Bool.and_false, Bool.true_and, Bool.false_and, Bool.or_true, Bool.true_or, Bool.false_or, Bool.or_false, Bool.and_self, Bool.or_self]) (fF)
  iterate 2 refine S0 ?_ (e := fun K_ h_ => by simp only [sH, ↓sP, sA, tyS, simprocAttr, h1_7, h7_23]; exact AX h_)
  iterate 2 refine S0 ?_ (e := fun K_ h_ => by simp only [sH, ↓sP, sA, tyS, simprocAttr, h1_7, h7_23]; exact AX h_)
  iterate 3 refine S0 ?_ (e := fun K_ h_ => by simp only [sH, ↓sP, sA, tyS, simprocAttr, h1_7, h7_23]; exact AX h_)
  refine hlex_cases 30 rfl (fun h7_30 => ?_) (fun h7_30 => ?_)
  ·
   iterate 2 refine S0 ?_ (e := fun K_ h_ => by simp only [sH, ↓sP, sA, tyS, simprocAttr, h1_7, h7_23, h7_30]; exact AX h_)
   refine S0 ?_ (e := fun K_ h_ => by simp only [sH, ↓sP, sA, tyS, simprocAttr, h1_7, h7_23, h7_30]; exact AX h_)
   iterate 2 refine S0 ?_ (e := fun K_ h_ => by simp only [sH, ↓sP, sA, tyS, simprocAttr, h1_7, h7_23, h7_30]; exact AX h_)
   refine hlex_cases 33 rfl (fun h7_33 => ?_) (fun h7_33 => ?_)
   ·
    iterate 3 refine S0 ?_ (e := fun K_ h_ => by simp only [sH, ↓sP, sA, tyS, simprocAttr, h1_7, h7_23, h7_30, h7_33]; exact AX h_)
    iterate 3 refine S0 ?_ (e := fun K_ h_ => by simp only [sH, ↓sP, sA, tyS, simprocAttr, h1_7, h7_23, h7_30, h7_33]; exact AX h_)
    iterate 2 refine S0 ?_ (e := fun K_ h_ => by simp only [sH, ↓sP, sA, tyS, simprocAttr, h1_7, h7_23, h7_30, h7_33]; exact AX h_)
    iterate 2 refine S0 ?_ (e := fun K_ h_ => by simp only [sH, ↓sP, sA, tyS, simprocAttr, h1_7, h7_23, h7_30, h7_33]; exact AX h_)
    iterate 2 refine S0 ?_ (e := fun K_ h_ => by simp only [sH, ↓sP, sA, tyS, simprocAttr, h1_7, h7_23, h7_30, h7_33]; exact AX h_)
    refine S0 ?_ (e := fun K_ h_ => by simp only [sH, ↓sP, sA, tyS, simprocAttr, h1_7, h7_23, h7_30, h7_33]; exact AX h_)
    refine S0 ?_ (e := fun K_ h_ => by simp only [sH, ↓sP, sA, tyS, simprocAttr, h1_7, h7_23, h7_30, h7_33]; exact AX h_)
    refine S0 ?_ (e := fun K_ h_ => by simp only [sH, ↓sP, sA, tyS, simprocAttr, h1_7, h7_23, h7_30, h7_33]; exact AX h_)
    simp only [sE, ↓reduceIte, simprocAttr]
    exact key true _ _ _ (by simp only [okc, alZ, puZ, h1_7, h7_23, h7_30, h7_33, Bool.and_true, Bool.and_false, Bool.true_and, Bool.false_and, Bool.or_true, Bool.true_or, Bool.false_or, Bool.or_false, Bool.and_self, Bool.or_self]) (fF)
   iterate 3 refine S0 ?_ (e := fun K_ h_ => by simp only [sH, ↓sP, sA, tyS, simprocAttr, h1_7, h7_23, h7_30, h7_33]; exact AX h_)
   refine hlex_cases 38 rfl (fun h7_38 => ?_) (fun h7_38 => ?_)
   ·
    iterate 3 refine S0 ?_ (e := fun K_ h_ => by simp only [sH, ↓sP, sA, tyS, simprocAttr, h1_7, h7_23, h7_30, h7_33, h7_38]; exact AX h_)
    refine hlex_cases 41 rfl (fun h7_41 => ?_) (fun h7_41 => ?_)
    ·
     iterate 2 refine S0 ?_ (e := fun K_ h_ => by simp only [sH, ↓sP, sA, tyS, simprocAttr, h1_7, h7_23, h7_30, h7_33, h7_38, h7_41]; exact AX h_)
     iterate 2 refine S0 ?_ (e := fun K_ h_ => by simp only [sH, ↓sP, sA, tyS, simprocAttr, h1_7, h7_23, h7_30, h7_33, h7_38, h7_41]; exact AX h_)
     iterate 2 refine S0 ?_ (e := fun K_ h_ => by simp only [sH, ↓sP, sA, tyS, simprocAttr, h1_7, h7_23, h7_30, h7_33, h7_38, h7_41]; exact AX h_)
     refine S0 ?_ (e := fun K_ h_ => by simp only [sH, ↓sP, sA, tyS, simprocAttr, h1_7, h7_23, h7_30, h7_33, h7_38, h7_41]; exact AX h_)
     refine S0 ?_ (e := fun K_ h_ => by simp only [sH, ↓sP, sA, tyS, simprocAttr, h1_7, h7_23, h7_30, h7_33, h7_38, h7_41]; exact AX h_)
     refine S0 ?_ (e := fun K_ h_ => by simp only [sH, ↓sP, sA, tyS, simprocAttr, h1_7, h7_23, h7_30, h7_33, h7_38, h7_41]; exact AX h_)
     simp only [sE, ↓reduceIte, simprocAttr]
     exact key true _ _ _ (by simp only [okc, alZ, puZ, h1_7, h7_23, h7_30, h7_33, h7_38, h7_41, Bool.and_true, Bool.and_false, Bool.true_and, Bool.false_and, Bool.or_true, Bool.true_or, Bool.false_or, Bool.or_false, Bool.and_self, Bool.or_self]) (fF)
    iterate 2 refine S0 ?_ (e := fun K_ h_ => by simp only [sH, ↓sP, sA, tyS, simprocAttr, h1_7, h7_23, h7_30, h7_33, h7_38, h7_41]; exact AX h_)
    iterate 2 refine S0 ?_ (e := fun K_ h_ => by simp only [sH, ↓sP, sA, tyS, simprocAttr, h1_7, h7_23, h7_30, h7_33, h7_38, h7_41]; exact AX h_)
    refine hlex_cases 44 rfl (fun h7_44 => ?_) (fun h7_44 => ?_)
    ·
     iterate 2 refine S0 ?_ (e := fun K_ h_ => by simp only [sH, ↓sP, sA, tyS, simprocAttr, h1_7, h7_23, h7_30, h7_33, h7_38, h7_41, h7_44]; exact AX h_)
     refine S0 ?_ (e := fun K_ h_ => by simp only [sH, ↓sP, sA, tyS, simprocAttr, h1_7, h7_23, h7_30, h7_33, h7_38, h7_41, h7_44]; exact AX h_)
     refine S0 ?_ (e := fun K_ h_ => by simp only [sH, ↓sP, sA, tyS, simprocAttr, h1_7, h7_23, h7_30, h7_33, h7_38, h7_41, h7_44]; exact AX h_)
     refine S0 ?_ (e := fun K_ h_ => by simp only [sH, ↓sP, sA, tyS, simprocAttr, h1_7, h7_23, h7_30, h7_33, h7_38, h7_41, h7_44]; exact AX h_)
     simp only [sE, ↓reduceIte, simprocAttr]
     exact key true _ _ _ (by simp only [okc, alZ, puZ, h1_7, h7_23, h7_30, h7_33, h7_38, h7_41, h7_44, Bool.and_true, Bool.and_false, Bool.true_and, Bool.false_and, Bool.or_true, Bool.true_or, Bool.false_or, Bool.or_false, Bool.and_self, Bool.or_self]) (fF)
    iterate 2 refine S0 ?_ (e := fun K_ h_ => by simp only [sH, ↓sP, sA, tyS, simprocAttr, h1_7, h7_23, h7_30, h7_33, h7_38, h7_41, h7_44]; exact AX h_)
    refine S0 ?_ (e := fun K_ h_ => by simp only [sH, ↓sP, sA, tyS, simprocAttr, h1_7, h7_23, h7_30, h7_33, h7_38, h7_41, h7_44]; exact AX h_)
    refine S0 ?_ (e := fun K_ h_ => by simp only [sH, ↓sP, sA, tyS, simprocAttr, h1_7, h7_23, h7_30, h7_33, h7_38, h7_41, h7_44]; exact AX h_)
    refine S0 ?_ (e := fun K_ h_ => by simp only [sH, ↓sP, sA, tyS, simprocAttr, h1_7, h7_23, h7_30, h7_33, h7_38, h7_41, h7_44]; exact AX h_)
    refine hlex_cases 48 rfl (fun h7_48 => ?_) (fun h7_48 => ?_)
    ·
     simp only [h7_48]
     simp only [sE, ↓reduceIte, simprocAttr]
     exact key true _ _ _ (by simp only [okc, alZ, puZ, h1_7, h7_23, h7_30, h7_33, h7_38, h7_41, h7_44, h7_48, Bool.and_true, Bool.and_false, Bool.true_and, Bool.false_and, Bool.or_true, Bool.true_or, Bool.false_or, Bool.or_false, Bool.and_self, Bool.or_self]) (fF)
    simp only [h7_48]
    simp only [sE, ↓reduceIte, simprocAttr]
    exact key false _ _ _ (by simp only [okc, alZ, puZ, h1_7, h7_23, h7_30, h7_33, h7_38, h7_41, h7_44, h7_48, Bool.and_true, Bool.and_false, Bool.true_and, Bool.false_and, Bool.or_true, Bool.true_or, Bool.false_or, Bool.or_false, Bool.and_self, Bool.or_self]) (fF)
   iterate 3 refine S0 ?_ (e := fun K_ h_ => by simp only [sH, ↓sP, sA, tyS, simprocAttr, h1_7, h7_23, h7_30, h7_33, h7_38]; exact AX h_)
   iterate 2 refine S0 ?_ (e := fun K_ h_ => by simp only [sH, ↓sP, sA, tyS, simprocAttr, h1_7, h7_23, h7_30, h7_33, h7_38]; exact AX h_)
   iterate 2 refine S0 ?_ (e := fun K_ h_ => by simp only [sH, ↓sP, sA, tyS, simprocAttr, h1_7, h7_23, h7_30, h7_33, h7_38]; exact AX h_)
   iterate 2 refine S0 ?_ (e := fun K_ h_ => by simp only [sH, ↓sP, sA, tyS, simprocAttr, h1_7, h7_23, h7_30, h7_33, h7_38]; exact AX h_)
   refine S0 ?_ (e := fun K_ h_ => by simp only [sH, ↓sP, sA, tyS, simprocAttr, h1_7, h7_23, h7_30, h7_33, h7_38]; exact AX h_)
   refine S0 ?_ (e := fun K_ h_ => by simp only [sH, ↓sP, sA, tyS, simprocAttr, h1_7, h7_23, h7_30, h7_33, h7_38]; exact AX h_)
   refine S0 ?_ (e := fun K_ h_ => by simp only [sH, ↓sP, sA, tyS, simprocAttr, h1_7, h7_23, h7_30, h7_33, h7_38]; exact AX h_)
   simp only [sE, ↓reduceIte, simprocAttr]
   exact key false _ _ _ (by simp only [okc, alZ, puZ, h1_7, h7_23, h7_30, h7_33, h7_38, Bool.and_true, Bool.and_false, Bool.true_and, Bool.false_and, Bool.or_true, Bool.true_or, Bool.false_or, Bool.or_false, Bool.and_self, Bool.or_self]) (fF)
  iterate 2 refine S0 ?_ (e := fun K_ h_ => by simp only [sH, ↓sP, sA, tyS, simprocAttr, h1_7, h7_23, h7_30]; exact AX h_)
  refine S0 ?_ (e := fun K_ h_ => by simp only [sH, ↓sP, sA, tyS, simprocAttr, h1_7, h7_23, h7_30]; exact AX h_)
  iterate 2 refine S0 ?_ (e := fun K_ h_ => by simp only [sH, ↓sP, sA, tyS, simprocAttr, h1_7, h7_23, h7_30]; exact AX h_)
  iterate 3 refine S0 ?_ (e := fun K_ h_ => by simp only [sH, ↓sP, sA, tyS, simprocAttr, h1_7, h7_23, h7_30]; exact AX h_)
  refine hlex_cases 38 rfl (fun h7_38 => ?_) (fun h7_38 => ?_)
  ·
   iterate 3 refine S0 ?_ (e := fun K_ h_ => by simp only [sH, ↓sP, sA, tyS, simprocAttr, h1_7, h7_23, h7_30, h7_38]; exact AX h_)
   refine hlex_cases 41 rfl (fun h7_41 => ?_) (fun h7_41 => ?_)
   ·
    iterate 2 refine S0 ?_ (e := fun K_ h_ => by simp only [sH, ↓sP, sA, tyS, simprocAttr, h1_7, h7_23, h7_30, h7_38, h7_41]; exact AX h_)
    iterate 2 refine S0 ?_ (e := fun K_ h_ => by simp only [sH, ↓sP, sA, tyS, simprocAttr, h1_7, h7_23, h7_30, h7_38, h7_41]; exact AX h_)
    iterate 2 refine S0 ?_ (e := fun K_ h_ => by simp only [sH, ↓sP, sA, tyS, simprocAttr, h1_7, h7_23, h7_30, h7_38, h7_41]; exact AX h_)
    refine S0 ?_ (e := fun K_ h_ => by simp only [sH, ↓sP, sA, tyS, simprocAttr, h1_7, h7_23, h7_30, h7_38, h7_41]; exact AX h_)
    refine S0 ?_ (e := fun K_ h_ => by simp only [sH, ↓sP, sA, tyS, simprocAttr, h1_7, h7_23, h7_30, h7_38, h7_41]; exact AX h_)
    refine S0 ?_ (e := fun K_ h_ => by simp only [sH, ↓sP, sA, tyS, simprocAttr, h1_7, h7_23, h7_30, h7_38, h7_41]; exact AX h_)
    simp only [sE, ↓reduceIte, simprocAttr]
    exact key true _ _ _ (by simp only [okc, alZ, puZ, h1_7, h7_23, h7_30, h7_38, h7_41, Bool.and_true, Bool.and_false, Bool.true_and, Bool.false_and, Bool.or_true, Bool.true_or, Bool.false_or, Bool.or_false, Bool.and_self, Bool.or_self]) (fF)
   iterate 2 refine S0 ?_ (e := fun K_ h_ => by simp only [sH, ↓sP, sA, tyS, simprocAttr, h1_7, h7_23, h7_30, h7_38, h7_41]; exact AX h_)
   iterate 2 refine S0 ?_ (e := fun K_ h_ => by simp only [sH, ↓sP, sA, tyS, simprocAttr, h1_7, h7_23, h7_30, h7_38, h7_41]; exact AX h_)
   refine hlex_cases 44 rfl (fun h7_44 => ?_) (fun h7_44 => ?_)
   ·
    iterate 2 refine S0 ?_ (e := fun K_ h_ => by simp only [sH, ↓sP, sA, tyS, simprocAttr, h1_7, h7_23, h7_30, h7_38, h7_41, h7_44]; exact AX h_)
    refine S0 ?_ (e := fun K_ h_ => by simp only [sH, ↓sP, sA, tyS, simprocAttr, h1_7, h7_23, h7_30, h7_38, h7_41, h7_44]; exact AX h_)
    refine S0 ?_ (e := fun K_ h_ => by simp only [sH, ↓sP, sA, tyS, simprocAttr, h1_7, h7_23, h7_30, h7_38, h7_41, h7_44]; exact AX h_)
    refine S0 ?_ (e := fun K_ h_ => by simp only [sH, ↓sP, sA, tyS, simprocAttr, h1_7, h7_23, h7_30, h7_38, h7_41, h7_44]; exact AX h_)
    simp only [sE, ↓reduceIte, simprocAttr]
    exact key true _ _ _ (by simp only [okc, alZ, puZ, h1_7, h7_23, h7_30, h7_38, h7_41, h7_44, Bool.and_true, Bool.and_false, Bool.true_and, Bool.false_and, Bool.or_true, Bool.true_or, Bool.false_or, Bool.or_false, Bool.and_self, Bool.or_self]) (fF)
   iterate 2 refine S0 ?_ (e := fun K_ h_ => by simp only [sH, ↓sP, sA, tyS, simprocAttr, h1_7, h7_23, h7_30, h7_38, h7_41, h7_44]; exact AX h_)
   refine S0 ?_ (e := fun K_ h_ => by simp only [sH, ↓sP, sA, tyS, simprocAttr, h1_7, h7_23, h7_30, h7_38, h7_41, h7_44]; exact AX h_)
   refine S0 ?_ (e := fun K_ h_ => by simp only [sH, ↓sP, sA, tyS, simprocAttr, h1_7, h7_23, h7_30, h7_38, h7_41, h7_44]; exact AX h_)
   refine S0 ?_ (e := fun K_ h_ => by simp only [sH, ↓sP, sA, tyS, simprocAttr, h1_7, h7_23, h7_30, h7_38, h7_41, h7_44]; exact AX h_)
   refine hlex_cases 48 rfl (fun h7_48 => ?_) (fun h7_48 => ?_)
   ·
    simp only [h7_48]
    simp only [sE, ↓reduceIte, simprocAttr]
    exact key true _ _ _ (by simp only [okc, alZ, puZ, h1_7, h7_23, h7_30, h7_38, h7_41, h7_44, h7_48, Bool.and_true, Bool.and_false, Bool.true_and, Bool.false_and, Bool.or_true, Bool.true_or, Bool.false_or, Bool.or_false, Bool.and_self, Bool.or_self]) (fF)
   simp only [h7_48]
   simp only [sE, ↓reduceIte, simprocAttr]
   exact key false _ _ _ (by simp only [okc, alZ, puZ, h1_7, h7_23, h7_30, h7_38, h7_41, h7_44, h7_48, Bool.and_true, Bool.and_false, Bool.true_and, Bool.false_and, Bool.or_true, Bool.true_or, Bool.false_or, Bool.or_false, Bool.and_self, Bool.or_self]) (fF)
  iterate 3 refine S0 ?_ (e := fun K_ h_ => by simp only [sH, ↓sP, sA, tyS, simprocAttr, h1_7, h7_23, h7_30, h7_38]; exact AX h_)
  iterate 2 refine S0 ?_ (e := fun K_ h_ => by simp only [sH, ↓sP, sA, tyS, simprocAttr, h1_7, h7_23, h7_30, h7_38]; exact AX h_)
  iterate 2 refine S0 ?_ (e := fun K_ h_ => by simp only [sH, ↓sP, sA, tyS, simprocAttr, h1_7, h7_23, h7_30, h7_38]; exact AX h_)
  iterate 2 refine S0 ?_ (e := fun K_ h_ => by simp only [sH, ↓sP, sA, tyS, simprocAttr, h1_7, h7_23, h7_30, h7_38]; exact AX h_)
  refine S0 ?_ (e := fun K_ h_ => by simp only [sH, ↓sP, sA, tyS, simprocAttr, h1_7, h7_23, h7_30, h7_38]; exact AX h_)
  refine S0 ?_ (e := fun K_ h_ => by simp only [sH, ↓sP, sA, tyS, simprocAttr, h1_7, h7_23, h7_30, h7_38]; exact AX h_)
  refine S0 ?_ (e := fun K_ h_ => by simp only [sH, ↓sP, sA, tyS, simprocAttr, h1_7, h7_23, h7_30, h7_38]; exact AX h_)
  simp only [sE, ↓reduceIte, simprocAttr]
  exact key false _ _ _ (by simp only [okc, alZ, puZ, h1_7, h7_23, h7_30, h7_38, Bool.and_true, Bool.and_false, Bool.true_and, Bool.false_and, Bool.or_true, Bool.true_or, Bool.false_or, Bool.or_false, Bool.and_self, Bool.or_self]) (fF)
 refine hw_exit ?_
 simp only [↓sP, sA, tyS, simprocAttr]
 clear hK K
 refine AX (hK _ _ _ ?_)
 clear hK K
 refine R0 ?_
 refine hw_ret ?_
 simp only [hpost, Tryz.results77, hresL, hres1, tupOf, ↓sP, sA, tyS, simprocAttr]
 have hei : i = s.length := by simp at hb; omega
 exact hret_pure [] (.bool true) rfl (by rw [nameB_iff.2 ⟨hlen, fun j h => h0 j (by omega) h⟩])

end Go.Proofs.YtenbfeemmpjdhaaGreatDoor

namespace Go.Pl
open Go Go.Hl

def plainB (c : UInt8) : Bool := decide ((33 : Int) ≤ c.toNat) && decide ((c.toNat : Int) ≤ 125) && ((c.toNat : Int) != 37)
def hexU (n : Nat) : UInt8 := ([48, 49, 50, 51, 52, 53, 54, 55, 56, 57, 65, 66, 67, 68, 69, 70] : List UInt8).getD n 0
def encB (c : UInt8) : List UInt8 := if plainB c then [c] else [37, hexU (c.toNat / 16), hexU (c.toNat % 16)]
def encBs (w : Word) : Word := w.flatMap encB
def encW (w : Word) : Word := if w = [] then [126] else encBs w
def sizeW (w : Word) : Nat := max (encBs w).length 1

@[simp] theorem encBs_nil : encBs [] = [] := rfl
theorem encB_le (c : UInt8) : (encB c).length ≤ 3 := by unfold encB; split <;> simp
theorem encB_pos (c : UInt8) : 1 ≤ (encB c).length := by unfold encB; split <;> simp
theorem encBs_le (w : Word) : (encBs w).length ≤ 3 * w.length := by
  induction w with
  | nil => simp [encBs]
  | cons c w ih =>
    have := encB_le c
    simp only [encBs, List.flatMap_cons, List.length_append, List.length_cons] at *
    omega
theorem encBs_ge (w : Word) : w.length ≤ (encBs w).length := by
  induction w with
  | nil => simp [encBs]
  | cons c w ih =>
    have := encB_pos c
    simp only [encBs, List.flatMap_cons, List.length_append, List.length_cons] at *
    omega
theorem encBs_take {w : Word} {i : Nat} (h : i < w.length) : encBs (w.take (i + 1)) = encBs (w.take i) ++ encB w[i] := by
  simp only [List.take_succ_eq_append_getElem h, encBs, List.flatMap_append, List.flatMap_cons, List.flatMap_nil, List.append_nil]
theorem encBs_take_le (w : Word) (i : Nat) : (encBs (w.take i)).length ≤ (encBs w).length := by
  have : encBs w = encBs (w.take i) ++ encBs (w.drop i) := by simp [encBs, ← List.flatMap_append]
  rw [this, List.length_append]; omega
theorem encW_len (w : Word) : (encW w).length = sizeW w := by
  unfold encW sizeW
  split
  · subst_vars; rfl
  · rename_i h
    have := encBs_ge w
    have : 0 < w.length := List.length_pos_iff.2 h
    omega
theorem sizeW_le (w : Word) : sizeW w ≤ 3 * w.length + 1 := by have := encBs_le w; unfold sizeW; omega
theorem sizeW_pos (w : Word) : 1 ≤ sizeW w := by unfold sizeW; omega
theorem max1 (n : Nat) : (if (1 : Int) > (n : Int) then (1 : Int) else (n : Int)) = ((max n 1 : Nat) : Int) := by split <;> omega
theorem shr4 (c : UInt8) : Int.fdiv (c.toNat : Int) (2 ^ (min 4 IntKind.u8.bits)) = ((c.toNat / 16 : Nat) : Int) := by
  rw [show min 4 IntKind.u8.bits = 4 from rfl, Int.fdiv_eq_ediv_of_nonneg _ (by omega)]
  rfl
theorem and15 (c : UInt8) : IntKind.u8.wrap ((BitVec.ofInt IntKind.u8.bits (c.toNat : Int) &&& BitVec.ofInt IntKind.u8.bits 15).toNat : Int) = ((c.toNat % 16 : Nat) : Int) := by
  have h := c.toNat_lt
  have : (BitVec.ofInt IntKind.u8.bits (c.toNat : Int) &&& BitVec.ofInt IntKind.u8.bits 15).toNat = c.toNat % 16 := by
    rw [BitVec.toNat_and]
    have e1 : (BitVec.ofInt IntKind.u8.bits (c.toNat : Int)).toNat = c.toNat := by
      simp [IntKind.bits]
    have e2 : (BitVec.ofInt IntKind.u8.bits 15).toNat = 15 := rfl
    rw [e1, e2]
    exact Nat.and_two_pow_sub_one_eq_mod _ 4
  rw [this]
  exact IntWalk.u8_in _ (by omega)

theorem denilL_byte : ∀ bs : List UInt8, CV.denilL (bs.map byteC) = bs.map byteC
  | [] => rfl
  | b :: bs => by simp only [List.map_cons, CV.denilL, denilL_byte bs]; rfl

def sepW : List Word → Word
  | [] => []
  | w :: l => encW w ++ l.flatMap fun v => 32 :: encW v
theorem sepW_snoc (l : List Word) (w : Word) : sepW (l ++ [w]) = sepW l ++ ((if l = [] then [] else [32]) ++ encW w) := by
  cases l with
  | nil => simp [sepW]
  | cons a l => simp [sepW]
theorem sepW_take {l : List Word} {i : Nat} (h : i < l.length) : sepW (l.take (i + 1)) = sepW (l.take i) ++ ((if i = 0 then [] else [32]) ++ encW l[i]) := by
  rw [List.take_succ_eq_append_getElem h, sepW_snoc]
  congr 2
  have : l.take i = [] ↔ i = 0 := by
    rw [List.take_eq_nil_iff]
    constructor
    · rintro (h1 | h1)
      · exact h1
      · subst h1; simp at h
    · exact Or.inl
  simp only [this]
def encL (l : List Word) : Word := sepW l ++ [10]
def docB (ls : List (List Word)) : Word := ls.flatMap encL
def sumL (l : List Word) : Nat := (l.map fun w => sizeW w + 1).sum
def sumD (ls : List (List Word)) : Nat := (ls.map sumL).sum
theorem sepW_len : ∀ (l : List Word), l ≠ [] → (sepW l).length + 1 = sumL l
  | [], h => absurd rfl h
  | w :: l, _ => by
    have : ∀ l : List Word, (l.flatMap fun v => 32 :: encW v).length = sumL l := by
      intro l
      induction l with
      | nil => rfl
      | cons v l ih => simp only [List.flatMap_cons, List.length_append, List.length_cons, encW_len, ih, sumL, List.map_cons, List.sum_cons]
    simp only [sepW, List.length_append, encW_len, this, sumL, List.map_cons, List.sum_cons]
    omega
theorem encL_len {l : List Word} (h : l ≠ []) : (encL l).length = sumL l := by
  rw [encL, List.length_append, ← sepW_len l h]; rfl
theorem sepW_le (l : List Word) : (sepW l).length ≤ sumL l := by
  cases l with
  | nil => simp [sepW]
  | cons w l => have := sepW_len (w :: l) (by simp); omega
theorem docB_len : ∀ {ls : List (List Word)}, (∀ l ∈ ls, l ≠ []) → (docB ls).length = sumD ls
  | [], _ => rfl
  | l :: ls, h => by
    have ih := docB_len (ls := ls) fun x hx => h x (List.mem_cons_of_mem _ hx)
    have h1 := encL_len (h l List.mem_cons_self)
    simp only [docB, sumD, List.flatMap_cons, List.length_append, List.map_cons, List.sum_cons] at *
    omega
theorem docB_take {ls : List (List Word)} {i : Nat} (h : i < ls.length) : docB (ls.take (i + 1)) = docB (ls.take i) ++ encL ls[i] := by
  simp only [List.take_succ_eq_append_getElem h, docB, List.flatMap_append, List.flatMap_cons, List.flatMap_nil, List.append_nil]
theorem sumL_take {l : List Word} {i : Nat} (h : i < l.length) : sumL (l.take (i + 1)) = sumL (l.take i) + (sizeW l[i] + 1) := by
  simp only [List.take_succ_eq_append_getElem h, sumL, List.map_append, List.sum_append, List.map_cons, List.map_nil, List.sum_cons, List.sum_nil, Nat.add_zero]
theorem sumD_take {ls : List (List Word)} {i : Nat} (h : i < ls.length) : sumD (ls.take (i + 1)) = sumD (ls.take i) + sumL ls[i] := by
  simp only [List.take_succ_eq_append_getElem h, sumD, List.map_append, List.sum_append, List.map_cons, List.map_nil, List.sum_cons, List.sum_nil, Nat.add_zero]

@[simp] theorem docB_nil : docB [] = [] := rfl
@[simp] theorem sepW_nil : sepW [] = [] := rfl
@[simp] theorem sumL_nil : sumL [] = 0 := rfl
@[simp] theorem sumD_nil : sumD [] = 0 := rfl
theorem sumL_take_le (l : List Word) (i : Nat) : sumL (l.take i) ≤ sumL l := by
  have : sumL l = sumL (l.take i) + sumL (l.drop i) := by
    simp only [sumL, ← List.sum_append, ← List.map_append, List.take_append_drop]
  omega
theorem sumD_take_le (l : List (List Word)) (i : Nat) : sumD (l.take i) ≤ sumD l := by
  have : sumD l = sumD (l.take i) + sumD (l.drop i) := by
    simp only [sumD, ← List.sum_append, ← List.map_append, List.take_append_drop]
  omega

def chkL (l : List Word) : Int :=
  if l.length = 0 then 1 else if 120 < l.length then 3 else if l.any (fun w => decide (32768 < w.length)) then 3 else 0
def okL (l : List Word) : Bool := chkL l == 0
theorem okL_iff (l : List Word) : okL l = true ↔ l ≠ [] ∧ l.length ≤ 120 ∧ ∀ w ∈ l, w.length ≤ 32768 := by
  unfold okL chkL
  constructor
  · intro h
    split at h
    · simp at h
    · split at h
      · simp at h
      · split at h
        · simp at h
        · rename_i h1 h2 h3
          refine ⟨fun h => h1 (by rw [h]; rfl), by omega, fun w hw => ?_⟩
          simp only [List.any_eq_true, not_exists, not_and, decide_eq_true_eq, Nat.not_lt] at h3
          exact h3 w hw
  · rintro ⟨h1, h2, h3⟩
    rw [if_neg (fun h => h1 (List.eq_nil_of_length_eq_zero h)), if_neg (by omega), if_neg (by simpa using h3)]
    rfl
theorem sumL_le {l : List Word} (h : okL l = true) : sumL l ≤ 11796720 := by
  obtain ⟨-, h1, h2⟩ := (okL_iff l).1 h
  have key : ∀ l : List Word, (∀ w ∈ l, w.length ≤ 32768) → sumL l ≤ 98306 * l.length := by
    intro l
    induction l with
    | nil => intro _; simp [sumL]
    | cons w l ih =>
      intro h
      have := ih fun x hx => h x (List.mem_cons_of_mem _ hx)
      have h3 := h w List.mem_cons_self
      have h4 := sizeW_le w
      simp only [sumL, List.map_cons, List.sum_cons, List.length_cons] at *
      omega
  have := key l h2
  omega
theorem sumD_le {ls : List (List Word)} (h : ∀ l ∈ ls, okL l = true) : sumD ls ≤ 11796720 * ls.length := by
  induction ls with
  | nil => simp [sumD]
  | cons l ls ih =>
    have := ih fun x hx => h x (List.mem_cons_of_mem _ hx)
    have h3 := sumL_le (h l List.mem_cons_self)
    simp only [sumD, List.map_cons, List.sum_cons, List.length_cons] at *
    omega
theorem sepW_le2 (l : List Word) (h : ∀ w ∈ l, w.length ≤ 32768) : (sepW l).length ≤ 98306 * l.length := by
  have h1 := sepW_le l
  have key : ∀ l : List Word, (∀ w ∈ l, w.length ≤ 32768) → sumL l ≤ 98306 * l.length := by
    intro l
    induction l with
    | nil => intro _; simp
    | cons w l ih =>
      intro h
      have := ih fun x hx => h x (List.mem_cons_of_mem _ hx)
      have h3 := h w List.mem_cons_self
      have h4 := sizeW_le w
      simp only [sumL, List.map_cons, List.sum_cons, List.length_cons] at *
      omega
  have := key l h
  omega
theorem all_takeP {α : Type} {p : α → Prop} {l : List α} {i : Nat} (h : i < l.length) (h1 : p l[i]) (h0 : ∀ x ∈ l.take i, p x) : ∀ x ∈ l.take (i + 1), p x := by
  intro x hx
  rw [List.take_succ_eq_append_getElem h, List.mem_append, List.mem_singleton] at hx
  rcases hx with hx | rfl
  · exact h0 x hx
  · exact h1
def encE (ls : List (List Word)) : Int :=
  if 1000 < ls.length then 3 else match ls.find? (fun l => !okL l) with
    | some l => chkL l
    | none => if 262144 < (docB ls).length then 3 else 0
def encO (ls : List (List Word)) : Word := if encE ls = 0 then docB ls else []
theorem encE_long {ls : List (List Word)} (h : 1000 < ls.length) : encE ls = 3 := by unfold encE; rw [if_pos h]
theorem encE_bad {ls : List (List Word)} {i : Nat} (h : ls.length ≤ 1000) (hi : i < ls.length) (h0 : ∀ l ∈ ls.take i, okL l = true) (h1 : okL ls[i] = false) : encE ls = chkL ls[i] := by
  unfold encE
  rw [if_neg (by omega)]
  have : ls.find? (fun l => !okL l) = some ls[i] := by
    rw [List.find?_eq_some_iff_append]
    refine ⟨by simp [h1], ls.take i, ls.drop (i + 1), ?_, fun l hl => by simp [h0 l hl]⟩
    rw [List.getElem_cons_drop, List.take_append_drop]
  rw [this]
theorem encE_ok {ls : List (List Word)} (h : ls.length ≤ 1000) (h0 : ∀ l ∈ ls, okL l = true) : encE ls = if 262144 < (docB ls).length then 3 else 0 := by
  unfold encE
  rw [if_neg (by omega)]
  have : ls.find? (fun l => !okL l) = none := by
    rw [List.find?_eq_none]
    intro l hl
    simp [h0 l hl]
  rw [this]
theorem encO_nil {ls : List (List Word)} (h : encE ls ≠ 0) : encO ls = [] := by unfold encO; rw [if_neg h]
theorem encO_ok {ls : List (List Word)} (h : encE ls = 0) : encO ls = docB ls := by unfold encO; rw [if_pos h]

def hexLo (n : Nat) : UInt8 := ([48, 49, 50, 51, 52, 53, 54, 55, 56, 57, 97, 98, 99, 100, 101, 102] : List UInt8).getD n 0
def hexB (c : UInt8) : List UInt8 := [hexLo (c.toNat / 16), hexLo (c.toNat % 16)]
def hexL (bs : List UInt8) : List UInt8 := bs.flatMap hexB
@[simp] theorem hexL_nil : hexL [] = [] := rfl
theorem hexL_len (bs : List UInt8) : (hexL bs).length = 2 * bs.length := by
  induction bs with
  | nil => rfl
  | cons c bs ih => simp only [hexL, List.flatMap_cons, List.length_append, List.length_cons, hexB, List.length_nil] at *; omega
theorem hexL_take {bs : List UInt8} {i : Nat} (h : i < bs.length) : hexL (bs.take (i + 1)) = hexL (bs.take i) ++ hexB bs[i] := by
  simp only [List.take_succ_eq_append_getElem h, hexL, List.flatMap_append, List.flatMap_cons, List.flatMap_nil, List.append_nil]
end Go.Pl

namespace Go.Proofs.YtenbfeemmpjdhaaGreatDoor
open Go Go.Hl Go.Pl Go.RowKit Go.Shelf
set_option maxRecDepth 100000
set_option linter.unusedVariables false

def bs166_ren : Go.Shelf.Ren := ⟨fun | 169 => 166 | n => n, fun | 70 => 187 | 9 => 9 | 0 => 0 | 72 => 189 | 37 => 30 | 127 => 208 | 3 => 3 | 5 => 5 | n => n, fun | n => n⟩
theorem bs166 : Go.Proofs.Lays.n169 Tryz.prog bs166_ren := {
  mixed := by kernel_rfl
  f169 := Tryz.func166.trans (congrArg some (by kernel_rfl))
  t0 := Tryz.underlying0
  a0 := Tryz.isAgg0
  z0 := Tryz.sizeOf0
  v0 := Tryz.zeroValue0
  t3 := Tryz.underlying3
  a3 := Tryz.isAgg3
  z3 := Tryz.sizeOf3
  v3 := Tryz.zeroValue3
  t9 := Tryz.underlying9
  a9 := Tryz.isAgg9
  z9 := Tryz.sizeOf9
  v9 := Tryz.zeroValue9
  t37 := Tryz.underlying30
  a37 := Tryz.isAgg30
  z37 := Tryz.sizeOf30
  v37 := Tryz.zeroValue30
  t70 := Tryz.underlying187
  a70 := Tryz.isAgg187
  z70 := Tryz.sizeOf187
  v70 := Tryz.zeroValue187
  t72 := Tryz.underlying189
  a72 := Tryz.isAgg189
  z72 := Tryz.sizeOf189
  v72 := Tryz.zeroValue189
  t127 := Tryz.underlying208
  a127 := Tryz.isAgg208
  z127 := Tryz.sizeOf208
  v127 := Tryz.zeroValue208 }
theorem bsx166 : Builder.Extra Tryz.prog bs166_ren := {
  sizeBuilder := by kernel_rfl
  liesBuilder := by kernel_rfl
  t5 := Tryz.underlying5
  a5 := Tryz.isAgg5
  z5 := Tryz.sizeOf5
  v5 := Tryz.zeroValue5
  infoByte := by kernel_rfl
  cellsByte := by kernel_rfl
  sizeByte := by kernel_rfl
  neB5 := by decide }

set_option maxHeartbeats 1000000 in
theorem cc_used (b : Nat) (w : World) (h0 : w.cell? ⟨b, 0, none⟩ = some (.pointer (some ⟨b, 0, none⟩))) :
    Calls Tryz.prog 188 #[.pointer (some ⟨b, 0, none⟩)] w fun e w' => e = .returned (.tuple #[]) ∧ w' = w := by
  obtain ⟨j, hj, _⟩ := Option.map_eq_some_iff.1 bsx166.sizeBuilder
  go_enter Tryz.func188, Tryz.ntmps188
  go_wp2
  rw [Lib.run_neq_ptr_same w _ Tryz.underlying187 hj]
  go_wp2
  go_end0
  exact ⟨rfl, rfl⟩

set_option maxHeartbeats 1000000 in
theorem cc_fresh (b : Nat) (w : World) (h0 : w.cell? ⟨b, 0, none⟩ = some (.pointer none)) (hsh : w.shape? b = some (189, 2)) (hfz : w.frozen? ⟨b, 0, none⟩ = false) :
    Calls Tryz.prog 188 #[.pointer (some ⟨b, 0, none⟩)] w fun e w' => e = .returned (.tuple #[]) ∧ w' = w.setCell ⟨b, 0, none⟩ (.pointer (some ⟨b, 0, none⟩)) := by
  obtain ⟨j, hj, hjs⟩ := Option.map_eq_some_iff.1 bsx166.sizeBuilder
  go_enter Tryz.func188, Tryz.ntmps188
  go_wp2
  rw [Lib.run_to_unsafe w ⟨b, 0, none⟩ Tryz.underlying187 Tryz.underlying219 hj (by rw [hjs]; decide) hsh (Nat.zero_lt_succ 1)]
  simp only [Result.andThen]
  rw [Oper.upon_value]
  go_wp2
  rw [run_callFunc_extern Tryz.func197 (by kernel_rfl) (by kernel_rfl) (by kernel_rfl) (e := Extern.AbiNoEscape.same) (by kernel_rfl)]
  rw [Lib.run_noEscape]
  simp only [Result.andThen]
  rw [Oper.upon_value]
  go_wp2
  rw [Lib.run_from_unsafe w ⟨b, 0, none⟩ Tryz.underlying219 Tryz.underlying187 hj hsh bsx166.liesBuilder]
  simp only [Result.andThen]
  rw [Oper.upon_value]
  go_wp2
  go_end0
  exact ⟨rfl, rfl⟩
theorem cc_k (B b : Nat) (bs : List Value) (w : World) (h : Lib.IsBuilderF 189 5 B b bs w) :
    Calls Tryz.prog 188 #[.pointer (some ⟨b, 0, none⟩)] w fun e w' => e = .returned (.tuple #[]) ∧ (Lib.BuilderAtF 189 5 B b (.pointer (some ⟨b, 0, none⟩)) bs w' ∧ Below B w w' ∧ Lib.OthersKept 5 (some b) w w') := by
  rcases h with h | h
  · refine (cc_fresh b w h.cell0 h.shape h.frozen0).mono ?_
    rintro e w' ⟨rfl, rfl⟩
    exact ⟨rfl, h.used _, (Below.refl B w).setCell (p := ⟨b, 0, none⟩) h.1 _, (Lib.OthersKept.refl _ _ w).setCell ⟨b, 0, none⟩ rfl _⟩
  · refine (cc_used b w h.cell0).mono ?_
    rintro e w' ⟨rfl, rfl⟩
    exact ⟨rfl, h, Below.refl B _, Lib.OthersKept.refl _ _ _⟩

set_option maxHeartbeats 2000000 in
theorem wb_k (B b : Nat) (bs : List Value) (c : Int) (w : World) (h : Lib.IsBuilderF 189 5 B b bs w) (hlen : bs.length + 1 ≤ 140737488355328) (hBw : B ≤ w.heap.size) :
    Calls Tryz.prog 165 #[.pointer (some ⟨b, 0, none⟩), .int .u8 c] w fun e w' => e = .returned .nilIface ∧ (Lib.BuilderAtF 189 5 B b (.pointer (some ⟨b, 0, none⟩)) (bs ++ [.int .u8 c]) w' ∧ Below B w w' ∧ Lib.OthersKept 5 (some b) w w') := by
  obtain ⟨i0, hi, hz0, hz1, hz2⟩ := info_parts bsx166.infoByte
  go_enter Tryz.func165, Tryz.ntmps165
  go_wp2_with (go_at_call 188; refine (cc_k B b bs _ h).mono ?_)
  rintro e w1 ⟨rfl, h1, hb1, hk1⟩
  obtain ⟨hB, v, hbk, hown, hne⟩ := h1
  have c0 : w1.cell? ⟨b, 0, none⟩ = some (.pointer (some ⟨b, 0, none⟩)) := by rw [Lib.cell_of_heap hbk]; rfl
  have c1 : w1.cell? ⟨b, 1, none⟩ = some v := by rw [Lib.cell_of_heap hbk]; rfl
  go_wp2_with (at_builtin; refine wpList_append_ownF _ rfl _ _ 30 rfl B 5 i0 (.int .u8 0) 1 1 Tryz.underlying30 hi hz0 hz1 hz2 rfl (by decide) _ _ _ rfl (hown.alloc _) ⟨w1.heap.size, 0, none⟩ 1 1 [.int .u8 c] rfl rfl ?c1 ?c2 ?c3 ?c4 ?c5 ?_)
  case c1 =>
    intro j u hj
    match j, hj with
    | 0, hj => simp at hj; subst hj; simp [Addr.add]
  case c2 => intro u hu; simp at hu; subst hu; rfl
  case c3 => unfold maxLen; omega
  case c4 => omega
  case c5 => have := hb1.size; simp; omega
  intro v' w2 hown' hgrow _
  have hlt : b < w1.heap.size := by
    rcases Nat.lt_or_ge b w1.heap.size with h' | h'
    · exact h'
    · simp [Array.getElem?_eq_none h'] at hbk
  have hb2 : w2.heap[b]? = some (.cells #[.pointer (some ⟨b, 0, none⟩), v] 189 (0, 0)) := by
    rw [hgrow.block b (by simp; omega) (fun e => hne e.symm), Lib.alloc_old w1 _ b hlt]
    exact hbk
  have d0 : w2.cell? ⟨b, 0, none⟩ = some (.pointer (some ⟨b, 0, none⟩)) := by rw [Lib.cell_of_heap hb2]; rfl
  have d1 : w2.cell? ⟨b, 1, none⟩ = some v := by rw [Lib.cell_of_heap hb2]; rfl
  have f1 : w2.frozen? ⟨b, 1, none⟩ = false := Lib.frozen_of_heap hb2 1
  obtain ⟨g, cap, rfl⟩ : ∃ g cap, v' = .slice (some ⟨g, 0, none⟩) (bs.length + 1) cap := by
    rcases hown'.2 with ⟨_, h0⟩ | ⟨g, cap, cur, fz, hv, _⟩
    · omega
    · exact ⟨g, cap, hv⟩
  go_wp2
  go_ret
  refine ⟨rfl, ?_, ?_, ((hk1.alloc _).grown hgrow (Lib.ownsRowF_kind (hown.alloc _))).setCell ⟨b, 1, none⟩ rfl _⟩
  · exact Lib.BuilderAtF.put (T := 189) (e := 5) hB hb2 (bs' := bs ++ [.int .u8 c]) (by simpa using hown') (by decide)
  · exact ((hb1.alloc (by have := hb1.size; omega) _).grown hgrow (by have := hb1.size; simp; omega) (fun k hk => (hown.lt k hk).1)).setCell (p := ⟨b, 1, none⟩) hB _
end Go.Proofs.YtenbfeemmpjdhaaGreatDoor

namespace Go.Pl
open Go Go.Hl

theorem hf_get {d : Half} {i : Nat} (h : i < 16) : CV.getAt i 1 false (hf d) = some (u8 (d.1[i]'(by rw [d.2]; exact h))) := us_get (l := d.1) (by rw [d.2]; exact h)
def fmtH (h : Half) : Word := hexL h.1
def fmtD (d : Dig) : Word := [115, 104, 97, 50, 53, 54, 58] ++ hexL d.1
theorem bytesC_u8 (l : List UInt8) : bytesC (l.map u8) = some l := bytesC_map l
theorem bytesC_one (b : UInt8) : bytesC [CV.int .u8 b.toNat] = some [b] := bytesC_map [b]

def numW (n : Int) : Word := Lib.itoa n
theorem numW_zero : numW 0 = [48] := by unfold numW Lib.itoa; rw [if_neg (by omega)]; simp [Lib.decDigits]
theorem numW_pos {n : Int} (h : 0 ≤ n) : numW n = Lib.decDigits n.natAbs := by unfold numW Lib.itoa; rw [if_neg (by omega)]; congr 1; omega
theorem numW_neg {n : Int} (h : n < 0) : numW n = 45 :: Lib.decDigits n.natAbs := by unfold numW Lib.itoa; rw [if_pos h]
theorem dec_step {v : Nat} (h : v ≠ 0) : Lib.decDigits v = (if v / 10 = 0 then [] else Lib.decDigits (v / 10)) ++ [UInt8.ofNat (48 + v % 10)] := by
  by_cases h1 : v < 10
  · rw [Lib.decDigits, dif_pos h1, if_pos (by omega), show v % 10 = v by omega]; rfl
  · rw [Lib.decDigits, dif_neg h1, if_neg (by omega)]
theorem neg_abs {n : Int} (h : n < 0) (h1 : -9223372036854775808 ≤ n) : IntKind.u64.wrap (-(IntKind.u64.wrap n)) = (n.natAbs : Int) := by
  have e : IntKind.u64.wrap n = n + 18446744073709551616 := by
    have : IntKind.u64.wrap n = n % 18446744073709551616 := by simp [IntKind.wrap, IntKind.bits, IntKind.signed]
    rw [this]; omega
  rw [e]
  have : ∀ m : Int, IntKind.u64.wrap m = m % 18446744073709551616 := fun m => by simp [IntKind.wrap, IntKind.bits, IntKind.signed]
  rw [this]; omega
theorem pos_abs {n : Int} (h : 0 ≤ n) (h1 : n ≤ 9223372036854775807) : IntKind.u64.wrap n = (n.natAbs : Int) := by
  have : IntKind.u64.wrap n = n % 18446744073709551616 := by simp [IntKind.wrap, IntKind.bits, IntKind.signed]
  rw [this]; omega
theorem dig_byte (v : Nat) : IntKind.u8.wrap (IntKind.u64.wrap (48 + Int.tmod (v : Int) 10)) = ((UInt8.ofNat (48 + v % 10)).toNat : Int) := by
  have h1 : Int.tmod (v : Int) 10 = ((v % 10 : Nat) : Int) := rfl
  have h2 : v % 10 < 10 := Nat.mod_lt _ (by omega)
  rw [h1]
  generalize v % 10 = r at h2
  rw [IntWalk.u64_in _ (by omega), IntWalk.u8_in _ (by omega), UInt8.toNat_ofNat', Nat.mod_eq_of_lt (by omega)]
  omega
theorem quo_nat {v : Nat} (h : v < 18446744073709551616) : IntKind.u64.wrap (Int.tdiv (v : Int) 10) = ((v / 10 : Nat) : Int) := by
  rw [show Int.tdiv (v : Int) 10 = ((v / 10 : Nat) : Int) from rfl, IntWalk.u64_in _ (by omega)]
theorem decD_len {u : Nat} (h : u < 18446744073709551616) : (Lib.decDigits u).length ≤ 20 := by rw [Lib.decDigits_length]; exact Lib.nDigits_le20 u h

inductive Av where
  | i (n : Int)
  | l (n : Int)
  | h (x : Half)
  | d (x : Dig)
  | s (w : Word)
def Av.w : Av → Word
  | .i n => numW n
  | .l n => numW n
  | .h x => fmtH x
  | .d x => fmtD x
  | .s w => w
def Av.ok : Av → Prop
  | .i n => -9223372036854775808 ≤ n ∧ n ≤ 9223372036854775807
  | .l n => -9223372036854775808 ≤ n ∧ n ≤ 9223372036854775807
  | _ => True
end Go.Pl
