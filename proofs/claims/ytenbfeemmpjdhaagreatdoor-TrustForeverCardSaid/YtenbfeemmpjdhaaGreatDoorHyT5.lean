/- Part of a proof: walks of functions of the program, by contracts, and the rules they use. By an AI agent. -/
import Derived.Test.YtenbfeemmpjdhaaGreatDoorHySq
import Derived.Test.YtenbfeemmpjdhaaGreatDoorHlFl
import Derived.Test.YtenbfeemmpjdhaaGreatDoorHlZb
import Derived.Test.YtenbfeemmpjdhaaGreatDoorHyU1
import Derived.Test.YtenbfeemmpjdhaaGreatDoorPl11q
set_option linter.unusedSimpArgs false
set_option linter.unusedVariables false
set_option linter.defProp false
namespace Go.Proofs.YtenbfeemmpjdhaaGreatDoor
open Go Go.Hl Go.Pl
set_option maxRecDepth 10000
set_option maxHeartbeats 2000000
set_option linter.unusedSimpArgs false
set_option linter.unusedVariables false

theorem bitem {α : Type} (l : List (List UInt8)) (j : Nat) (p : List UInt8) (r : List (List UInt8)) (h : l.drop j = p :: r) : ∃ hj : j < (l.map fun p => [CV.slc (p.map u8)]).length, (l.map fun p => [CV.slc (p.map u8)])[j] = [CV.slc (p.map u8)] ∧ l.drop (j + 1) = r := by
 have hj : j < l.length := by
  rcases Nat.lt_or_ge j l.length with h' | h'
  ·
   exact h'
  rw [List.drop_eq_nil_of_le h'] at h; cases h
 have h1 := List.drop_eq_getElem_cons hj
 rw [h1] at h
 cases h
 exact ⟨by simpa using hj, by simp, rfl⟩

theorem splitit_ok (l : List UInt8) (c : UInt8) (hl : l.length < 2 ^ 40) : HIterB Tryz.prog 157 [(30, .slc [u8 c]), (30, .slc (l.map u8)), (3, .int .i64 0)] ((splitB c l).map fun p => [.slc (p.map u8)]) := by
 refine hiterB_of Tryz.func157 rfl (by kernel_rfl) (Nat.le_of_ble_eq_true rfl) rfl fun L J hS hY => ?_
 have e0 : bobs [(30, CV.slc [u8 c]), (30, .slc (l.map u8)), (3, .int .i64 0)] = fob [(0, .box 30 (.c (.slc [u8 c]))), (1, .box 30 (.c (.slc (l.map u8)))), (2, .box 3 (.c (.int .i64 0)))] := by
  funext i
  match i with
  | 0 => rfl
  | 1 => rfl
  | 2 => rfl
  | i + 3 => simp [bobs, fob, upd]
 have e1 : bptr (List.range [((30 : Nat), CV.slc [u8 c]), (30, .slc (l.map u8)), (3, .int .i64 0)].length) = [.ptr 0 0, .ptr 1 0, .ptr 2 0] := rfl
 rw [e0, e1]
 refine hwi_seq fun K hK => ?_
 refine hwi_seq fun K1 hK1 => hwi_of hS rfl (hw_region (by kernel_rfl) ?_)
 simp only [sR, simprocAttr]
 iterate 3 refine S0 ?_ (e := fun _ h_ => by simp only [sH, ↓sP, sA, tyS, simprocAttr, rI]; exact AX h_)
 simp only [sE, ↓reduceIte, simprocAttr, rI]
 refine hK1 _ _ _ _ _ ?_
 clear hK1 K1
 refine hwi_cond (b := false) rfl (fun hb => by cases hb) (fun _ => ?_)
 refine hwi_skip ?_
 simp only [sE, ↓reduceIte, simprocAttr, rI]
 refine hK _ _ _ _ _ ?_
 clear hK K
 refine hwi_seq fun K hK => ?_
 refine hwi_block ?_
 refine hwi_loop (α := {y : Nat × List UInt8 // (splitB c l).drop y.1 = splitB c y.2 ∧ y.2.length ≤ l.length}) hS (fun y => (fin [(0, .opq (.func (.yield L) #[] #[])), (1, .ptr 0 0), (2, .ptr 1 0), (3, .ptr 2 0)], fob [(0, .box 30 (.c (.slc [u8 c]))), (1, .box 30 (.c (.slc (y.1.2.map u8)))), (2, .box 3 (.c (.int .i64 0)))])) (fun y => y.1.1) 100 (fun y => y.1.2.length) ⟨(0, l), rfl, Nat.le_refl _⟩ rfl (fF) rfl ?_
 rintro ⟨⟨j, rest⟩, hsp, hle⟩
 simp only at hsp hle
 refine hwi_block ?_
 refine hwi_seq fun K1 hK1 => hwi_of hS rfl (hw_region (by kernel_rfl) ?_)
 simp only [sR, simprocAttr]
 iterate 2 refine S0 ?_ (e := fun _ h_ => by simp only [sH, ↓sP, sA, tyS, simprocAttr, rI]; exact AX h_)
 refine hlex_step (g := none) rfl rfl fun K' hK' => ?_
 simp only [sH, ↓sP, sA, tyS, simprocAttr, rI, denilL_u8]
 refine call_pure (args := [_, _]) (bindex_ok rest c) ⟨rfl, rfl, rfl, rfl⟩ ?_
 rintro u rfl
 refine AX (hK' _ _ ?_)
 clear hK' K'
 refine S0 ?_ (e := fun _ h_ => by simp only [sH, ↓sP, sA, tyS, simprocAttr, rI]; exact AX h_)
 simp only [sE, ↓reduceIte, simprocAttr, rI]
 refine hK1 _ _ _ _ _ ?_
 clear hK1 K1
 refine hwi_seq fun K1 hK1 => ?_
 refine hwi_seq fun K2 hK2 => hwi_of hS rfl (hw_region (by kernel_rfl) ?_)
 simp only [sR, simprocAttr]
 iterate 2 refine S0 ?_ (e := fun _ h_ => by simp only [sH, ↓sP, sA, tyS, simprocAttr, rI]; exact AX h_)
 simp only [sE, ↓reduceIte, simprocAttr, rI]
 refine hK2 _ _ _ _ _ ?_
 clear hK2 K2
 refine hwi_cond (b := decide (idxB rest c < 0)) rfl (fun hb => ?_) (fun hb => ?_)
 ·
  -- the last piece
  have hn : idxB rest c < 0 := by simpa using hb
  rw [idxB_neg hn] at hsp
  obtain ⟨hj, hx, hd⟩ := bitem (α := Nat) _ _ _ _ hsp
  refine hwi_exit ?_
  simp only [sE, ↓reduceIte, simprocAttr, rI]
  clear hK1 K1
  refine hK _ _ _ _ _ ?_
  clear hK K
  have htk : List.take rest.length (rest.map u8) = rest.map u8 := List.take_of_length_le (by simp)
  refine hwi_yield (l := L) 7 hS hY rfl (by kernel_rfl) (by decide) ?_
  simp only [sR, List.range', simprocAttr]
  iterate 6 refine S0 ?_ (e := fun _ h_ => by simp only [sH, ↓sP, sA, tyS, simprocAttr, rI, List.length_map]; exact AX h_)
  refine S0 ?_ (e := fun _ h_ => by simp only [sH, ↓sP, sA, tyS, simprocAttr, rI, htk, List.length_map, ↓hslice3.eq_def, Int.natCast_nonneg, cells_u8, List.drop_zero, Nat.sub_zero, Int.le_refl, Int.toNat_zero]; exact AX h_)
  rw [hlex]
  refine ⟨_, _, _, hj, rfl, rfl, rfl, rfl, rfl, ?_, ?_, ?_⟩
  ·
   rw [hx]; rfl
  ·
   simp only [sR, List.range', simprocAttr]
   rw [hlex]
   refine ⟨by simp, fun _ => ?_⟩
   have := List.drop_eq_nil_iff.1 hd
   simp only [List.length_map] at hj ⊢
   omega
  simp only [sR, List.range', simprocAttr]
  rw [hlex]
  exact ⟨by simp, fun h => by cases h⟩
 -- a piece
 have hn : ¬ idxB rest c < 0 := by simpa using hb
 obtain ⟨k, hk, hkl, hsp2⟩ := idxB_nonneg hn
 rw [hk]
 rw [hsp2] at hsp
 obtain ⟨hj, hx, hd⟩ := bitem (α := Nat) _ _ _ _ hsp
 have hkm : min k rest.length = k := by omega
 have ek : List.take k (rest.map u8) = (rest.take k).map u8 := List.map_take.symm
 have htk : List.take k ((rest.take k).map u8) = (rest.take k).map u8 := List.take_of_length_le (by simp; omega)
 have hw1 : IntKind.i64.wrap ((k : Int) + 1) = ((k + 1 : Nat) : Int) := by rw [IntWalk.i64_in _ (by omega)]; rfl
 have hkl1 : k + 1 ≤ rest.length := hkl
 have edr : List.take (rest.length - (k + 1)) (List.drop (k + 1) (rest.map u8)) = (rest.drop (k + 1)).map u8 := by rw [List.map_drop, List.take_of_length_le (by simp)]
 refine hwi_skip ?_
 simp only [sE, ↓reduceIte, simprocAttr, rI]
 refine hK1 _ _ _ _ _ ?_
 clear hK1 K1
 refine hwi_seq fun K1 hK1 => hwi_of hS rfl (hw_region (by kernel_rfl) ?_)
 simp only [sR, simprocAttr]
 iterate 6 refine S0 ?_ (e := fun _ h_ => by simp only [sH, ↓sP, sA, tyS, simprocAttr, rI, ek, List.length_map, Int.natCast_nonneg, cells_u8, Int.add_zero, Int.ofNat_le, Nat.le_of_lt hkl, List.drop_zero, Nat.sub_zero, show IntKind.i64.wrap (k : Int) = (k : Int) from IntWalk.i64_in _ (by omega)]; exact AX h_)
 simp only [sE, ↓reduceIte, simprocAttr, rI]
 refine hK1 _ _ _ _ _ ?_
 clear hK1 K1
 refine hwi_seq fun K1 hK1 => ?_
 refine hwi_seq fun K2 hK2 => hwi_yield (l := L) 7 hS hY rfl (by kernel_rfl) (by decide) ?_
 simp only [sR, List.range', simprocAttr]
 iterate 6 refine S0 ?_ (e := fun _ h_ => by simp only [sH, ↓sP, sA, tyS, simprocAttr, rI, List.length_map, List.length_take, hkm]; exact AX h_)
 refine S0 ?_ (e := fun _ h_ => by simp only [sH, ↓sP, sA, tyS, simprocAttr, rI, htk, List.length_map, List.length_take, hkm, ↓hslice3.eq_def, Int.natCast_nonneg, cells_u8, List.drop_zero, Nat.sub_zero, Int.le_refl, Int.toNat_zero]; exact AX h_)
 rw [hlex]
 refine ⟨_, _, _, hj, rfl, rfl, rfl, rfl, rfl, ?_, ?_, ?_⟩
 ·
  rw [hx]; rfl
 ·
  simp only [sR, List.range', simprocAttr]
  refine S0 ?_ (e := fun _ h_ => by simp only [sH, ↓sP, sA, tyS, simprocAttr, rI]; exact AX h_)
  simp only [sE, ↓reduceIte, simprocAttr, rI]
  refine hK2 _ _ _ _ _ ?_
  clear hK2 K2
  refine hwi_cond (b := false) rfl (fun hb => by cases hb) (fun _ => ?_)
  refine hwi_skip ?_
  simp only [sE, ↓reduceIte, simprocAttr, rI]
  refine hK1 _ _ _ _ _ ?_
  clear hK1 K1
  refine hwi_of hS rfl (hw_region (by kernel_rfl) ?_)
  simp only [sR, simprocAttr]
  iterate 7 refine S0 ?_ (e := fun _ h_ => by simp only [sH, ↓sP, sA, tyS, simprocAttr, rI, edr, hw1, List.length_map, Int.natCast_nonneg, cells_u8, Int.ofNat_le, hkl1, denilL_u8]; exact AX h_)
  simp only [sE, ↓reduceIte, simprocAttr, rI]
  refine ⟨⟨(j + 1, rest.drop (k + 1)), hd, by simp; omega⟩, fF, trivial, rfl, ?_⟩
  show (rest.drop (k + 1)).length < rest.length
  simp; omega
 simp only [sR, List.range', simprocAttr]
 refine S0 ?_ (e := fun _ h_ => by simp only [sH, ↓sP, sA, tyS, simprocAttr, rI]; exact AX h_)
 simp only [sE, ↓reduceIte, simprocAttr, rI]
 refine hK2 _ _ _ _ _ ?_
 clear hK2 K2
 refine hwi_cond (b := true) rfl (fun _ => ?_) (fun hb => by cases hb)
 refine hwi_ret ?_
 simp only [sE, ↓reduceIte, simprocAttr, rI]
 exact ⟨by simp, fun h => by cases h⟩
end Go.Proofs.YtenbfeemmpjdhaaGreatDoor

namespace Go.Proofs.YtenbfeemmpjdhaaGreatDoor
open Go Go.Hl Go.Pl
set_option maxRecDepth 10000
set_option maxHeartbeats 2000000
set_option linter.unusedSimpArgs false
set_option linter.unusedVariables false

theorem unw_ok (s : Word) (hl : s.length < 2 ^ 40) : HPure2 Tryz.prog 100 [.str s] (fun u v => u = .str ((unW s).getD []) ∧ v = .bool (unW s).isSome) := by
 refine hfn_walk Tryz.func100 rfl (by kernel_rfl) (locOk_nil _) (Nat.le_of_ble_eq_true rfl) ?_
 refine R0 ?_
 refine hw_seq fun K hK => ?_
 refine R0 ?_
 refine hw_cond (b := s == [126]) rfl (fun hb => ?_) (fun hb => ?_)
 ·
  refine R0 ?_
  refine hw_ret ?_
  simp only [hpost, Tryz.results100, hresL, hres1, tupOf, ↓sP, sA, tyS, simprocAttr]
  have hs : s = [126] := by simpa using hb
  subst hs
  exact hret_pure2 [] (.str []) (.bool true) rfl ⟨rfl, rfl⟩
 refine hw_skip ?_
 refine T0 (hK _ _ _ ?_)
 clear hK K
 have hne : s ≠ [126] := by simpa using hb
 clear hb
 refine R0 ?_
 refine hw_seq fun K hK => ?_
 refine R0 ?_
 refine hw_block ?_
 refine hw_own 4 0 5 1 rfl rfl rfl rfl ?_
 refine hw_loop (α := {y : Nat × Word // UnSt s y.1 y.2}) (fun y => (fin [(0, .c (.str s)), (4, .own 24 y.1.2.length), (5, .c (.int .i64 y.1.1))], fob [(24, .row 5 1 (y.1.2.map byteC))])) 100 (fun y => s.length - y.1.1) ⟨(0, []), UnSt.init s⟩ (fF) ?_
 rintro ⟨⟨i, out⟩, hst⟩
 simp only at hst
 have hi := hst.1
 have ho := hst.2.2.2
 refine hw_seq fun K hK => ?_
 refine hw_seq fun K hK => Rg ?_
 iterate 4 refine S0 ?_
 refine T2 (hK _ _ _ ?_)
 clear hK K
 refine hw_cond (b := decide ((i : Int) < s.length)) rfl (fun hb => ?_) (fun hb => ?_)
 ·
  have hlt : i < s.length := by simpa using hb
  clear hb
  have hgd : s.getD i 0 = s[i] := by simp [hlt]
  refine hw_skip ?_
  refine T0 (hK _ _ _ ?_)
  clear hK K
  refine hw_seq fun K hK => ?_
  refine hw_block ?_
  refine hw_seq fun K hK => ?_
  refine hw_seq fun K hK => Rg ?_
  iterate 3 refine S0 ?_ (e := fun _ h_ => by simp only [sH, ↓sP, sA, tyS, simprocAttr, Int.natCast_nonneg, Int.ofNat_lt, hlt, hgd]; exact AX h_)
  refine hlex_step (g := none) rfl rfl fun K' hK' => ?_
  simp only [sH, ↓sP, sA, tyS, simprocAttr, Int.natCast_nonneg, Int.ofNat_lt, hlt, hgd]
  refine call_pure (args := [_]) (plain_ok s[i]) ⟨rfl, rfl, rfl, rfl⟩ ?_
  rintro u rfl
  refine AX (hK' _ _ ?_)
  clear hK' K'
  refine T2 (hK _ _ _ ?_)
  clear hK K
  refine hw_cond (b := plainB s[i]) rfl (fun hb => ?_) (fun hb => ?_)
  ·
   refine hw_seq fun K hK => Rg ?_
   iterate 7 refine S0 ?_ (e := fun _ h_ => by simp only [sH, ↓sP, sA, tyS, simprocAttr, Int.natCast_nonneg, Int.ofNat_lt, hlt, hgd, List.length_append, List.length_map]; exact AX h_)
   refine T2 (hK _ _ _ ?_)
   clear hK K
   refine hw_exit ?_
   simp only [↓sP, sA, tyS, simprocAttr]
   clear hK K
   refine AX (hK _ _ _ ?_)
   clear hK K
   refine hw_region (by kernel_rfl) ?_
   simp only [↓sP, sA, tyS, simprocAttr, i64s i]
   refine ⟨⟨(i + 1, out ++ [s[i]]), hst.plain hlt hb⟩, fits_fin (by omega) ?_ ?_, ?_⟩
   ·
    simp [FinOk, upd_at, fin_at, HV.men]
   ·
    simp only [FobOk, List.map_append]
    exact ⟨rfl, by omega, trivial, trivial⟩
   show s.length - (i + 1) < s.length - i
   omega
  refine hw_skip ?_
  refine T0 (hK _ _ _ ?_)
  clear hK K
  refine hw_seq fun K hK => ?_
  have hp : plainB s[i] = false := hb
  clear hb
  have hw1 : IntKind.i64.wrap ((i : Int) + 1) = ((i + 1 : Nat) : Int) := by rw [IntWalk.i64_in _ (by omega)]; rfl
  have hw2 : IntKind.i64.wrap ((i : Int) + 2) = ((i + 2 : Nat) : Int) := by rw [IntWalk.i64_in _ (by omega)]; rfl
  have hw3 : IntKind.i64.wrap (((i + 2 : Nat) : Int) + 1) = ((i + 3 : Nat) : Int) := by rw [IntWalk.i64_in _ (by omega)]; rfl
  refine hw_seq fun K hK => Rg ?_
  iterate 5 refine S0 ?_ (e := fun _ h_ => by simp only [sH, ↓sP, sA, tyS, simprocAttr, Int.natCast_nonneg, Int.ofNat_lt, hlt, hgd, hw2]; exact AX h_)
  refine hlex_cases 29 rfl (fun h9_29 => ?_) (fun h9_29 => ?_)
  ·
   iterate 6 refine S0 ?_ (e := fun _ h_ => by simp only [sH, ↓sP, sA, tyS, simprocAttr, Int.natCast_nonneg, Int.ofNat_lt, hlt, hgd, hw2, h9_29]; exact AX h_)
   refine T2 (hK _ _ _ ?_)
   clear hK K
   refine hw_cond (b := true) rfl (fun hb => ?_) (fun hb => ?_)
   ·
    refine R0 ?_
    refine hw_ret ?_
    simp only [hpost, Tryz.results100, hresL, hres1, tupOf, ↓sP, sA, tyS, simprocAttr]
    have h37 : s[i] ≠ 37 := by rintro h; rw [h] at h9_29; simp at h9_29
    have hn := unW_none (hst.bad1 hlt hp (.inl h37)) hne
    exact hret_pure2 [] (.str []) (.bool false) rfl ⟨by rw [hn]; rfl, by rw [hn]; rfl⟩
   cases hb
  iterate 6 refine S0 ?_ (e := fun _ h_ => by simp only [sH, ↓sP, sA, tyS, simprocAttr, Int.natCast_nonneg, Int.ofNat_lt, hlt, hgd, hw2, h9_29]; exact AX h_)
  refine hlex_cases 35 rfl (fun h9_35 => ?_) (fun h9_35 => ?_)
  ·
   simp only [h9_35]
   refine T2 (hK _ _ _ ?_)
   clear hK K
   refine hw_cond (b := true) rfl (fun hb => ?_) (fun hb => ?_)
   ·
    refine R0 ?_
    refine hw_ret ?_
    simp only [hpost, Tryz.results100, hresL, hres1, tupOf, ↓sP, sA, tyS, simprocAttr]
    have hi2 : s.length ≤ i + 2 := by simp at h9_35; omega
    have hn := unW_none (hst.bad1 hlt hp (.inr hi2)) hne
    exact hret_pure2 [] (.str []) (.bool false) rfl ⟨by rw [hn]; rfl, by rw [hn]; rfl⟩
   cases hb
  simp only [h9_35]
  refine T2 (hK _ _ _ ?_)
  clear hK K
  refine hw_cond (b := false) rfl (fun hb => ?_) (fun hb => ?_)
  ·
   cases hb
  refine hw_skip ?_
  refine T0 (hK _ _ _ ?_)
  clear hK K
  have h37 : s[i] = 37 := by
   simp only [bne_eq_false_iff_eq] at h9_29
   exact UInt8.toNat_inj.1 (by show s[i].toNat = 37; omega)
  have hi2 : i + 2 < s.length := by simp at h9_35; omega
  have hi1 : i + 1 < s.length := by omega
  have hg1 : s.getD (i + 1) 0 = s[i + 1] := by simp [hi1]
  have hg2 : s.getD (i + 2) 0 = s[i + 2] := by simp [hi2]
  refine hw_seq fun K hK => hw_draw2 mixed [(0, [], []), (1, [], []), (2, [], []), (3, [], []), (5, [], []), (6, [], []), (7, [], []), (8, [], []), (4, [], [5, 6, 7, 8]), (9, [], []), (10, [], []), (11, [], [])] [0, 0, 2, 7, 15, 0, 0, 64, 224, 511, 1023, 2047] (by kernel_rfl) (by kernel_rfl) (by kernel_rfl) (by kernel_rfl) rfl (by kernel_rfl) ?_
  iterate 8 refine W0 ?_ (e := fun _ h_ => by simp only [sH, ↓sP, sA, tyS, simprocAttr, Int.natCast_nonneg, Int.ofNat_lt, hw1, hw2, hg1, hg2, hi1, hi2, h9_29, h9_35]; exact AX h_)
  refine hwalk2_step (g := none) rfl rfl fun K' hK' => ?_
  simp only [sH, ↓sP, sA, tyS, simprocAttr, Int.natCast_nonneg, Int.ofNat_lt, hw1, hw2, hg1, hg2, hi1, hi2, h9_29, h9_35]
  refine call_pure (args := [_, _]) (strib_ok hexD s[i + 1]) ⟨rfl, rfl, rfl, rfl⟩ ?_
  rintro u rfl
  refine AX (hK' _ _ ?_)
  clear hK' K'
  refine hwalk2_step (g := none) rfl rfl fun K' hK' => ?_
  simp only [sH, ↓sP, sA, tyS, simprocAttr, Int.natCast_nonneg, Int.ofNat_lt, hw1, hw2, hg1, hg2, hi1, hi2, h9_29, h9_35]
  refine call_pure (args := [_, _]) (strib_ok hexD s[i + 2]) ⟨rfl, rfl, rfl, rfl⟩ ?_
  rintro u rfl
  refine AX (hK' _ _ ?_)
  clear hK' K'
  iterate 2 refine W0 ?_ (e := fun _ h_ => by simp only [sH, ↓sP, sA, tyS, simprocAttr, Int.natCast_nonneg, Int.ofNat_lt, hw1, hw2, hg1, hg2, hi1, hi2, h9_29, h9_35]; exact AX h_)
  refine T2 (hK _ _ _ ?_)
  clear hK K
  refine hw_seq fun K hK => ?_
  by_cases hx : valH s[i + 1] < 16
  ·
   by_cases hy : valH s[i + 2] < 16
   ·
    rw [idx_hex, idx_hex, if_pos hx, if_pos hy]
    have hx0 : decide (((valH s[i + 1] : Nat) : Int) < 0) = false := by simp
    have hy0 : decide (((valH s[i + 2] : Nat) : Int) < 0) = false := by simp
    have e1 : IntKind.i64.wrap (16 * ((valH s[i + 1] : Nat) : Int)) = ((16 * valH s[i + 1] : Nat) : Int) := by rw [IntWalk.i64_in _ (by omega)]; omega
    have e2 : IntKind.i64.wrap (((16 * valH s[i + 1] : Nat) : Int) + ((valH s[i + 2] : Nat) : Int)) = ((16 * valH s[i + 1] + valH s[i + 2] : Nat) : Int) := by rw [IntWalk.i64_in _ (by omega)]; omega
    have e3 : IntKind.u8.wrap ((16 * valH s[i + 1] + valH s[i + 2] : Nat) : Int) = ((byteH s[i + 1] s[i + 2]).toNat : Int) := by rw [IntWalk.u8_in _ (by omega), byteH_nat hx hy]
    refine hw_seq fun K hK => Rg ?_
    iterate 12 refine S0 ?_ (e := fun _ h_ => by simp only [sH, ↓sP, sA, tyS, simprocAttr, hx0, hy0, e1, e2, e3, h9_29, h9_35]; exact AX h_)
    refine hlex_step (g := some (53, false)) rfl rfl fun K' hK' => ?_
    simp only [sH, ↓sP, sA, tyS, simprocAttr, hx0, hy0, e1, e2, e3, h9_29, h9_35]
    refine call_pure (args := [_]) (plain_ok (byteH s[i + 1] s[i + 2])) ⟨rfl, rfl, rfl, rfl⟩ ?_
    rintro u rfl
    refine AX (hK' _ _ ?_)
    clear hK' K'
    refine S0 ?_ (e := fun _ h_ => by simp only [sH, ↓sP, sA, tyS, simprocAttr, hx0, hy0, e1, e2, e3, h9_29, h9_35]; exact AX h_)
    refine T2 (hK _ _ _ ?_)
    clear hK K
    refine hw_cond (b := plainB (byteH s[i + 1] s[i + 2])) rfl (fun hb => ?_) (fun hb => ?_)
    ·
     refine R0 ?_
     refine hw_ret ?_
     simp only [hpost, Tryz.results100, hresL, hres1, tupOf, ↓sP, sA, tyS, simprocAttr]
     have hn := unW_none (hst.bad2 hi2 h37 (by simp [okH, hx, hy, hb])) hne
     exact hret_pure2 [] (.str []) (.bool false) rfl ⟨by rw [hn]; rfl, by rw [hn]; rfl⟩
    refine hw_skip ?_
    refine T0 (hK _ _ _ ?_)
    clear hK K
    refine hw_seq fun K hK => Rg ?_
    iterate 9 refine S0 ?_ (e := fun _ h_ => by simp only [sH, ↓sP, sA, tyS, simprocAttr, Int.natCast_nonneg, List.length_append, List.length_map, e1, e2, e3, h9_29, h9_35]; exact AX h_)
    refine T2 (hK _ _ _ ?_)
    clear hK K
    refine hw_region (by kernel_rfl) ?_
    simp only [↓sP, sA, tyS, simprocAttr, hw2]
    refine AX (hK _ _ _ ?_)
    clear hK K
    refine hw_region (by kernel_rfl) ?_
    simp only [↓sP, sA, tyS, simprocAttr, hw3]
    refine ⟨⟨(i + 3, out ++ [byteH s[i + 1] s[i + 2]]), hst.esc hi2 h37 (by simp [okH, hx, hy, hb])⟩, fits_fin (by omega) ?_ ?_, ?_⟩
    ·
     simp [FinOk, upd_at, fin_at, HV.men]
    ·
     simp only [FobOk, List.map_append]
     exact ⟨rfl, by omega, trivial, trivial⟩
    show s.length - (i + 3) < s.length - i
    omega
   rw [idx_hex, idx_hex, if_pos hx, if_neg hy]
   have hx0 : decide (((valH s[i + 1] : Nat) : Int) < 0) = false := by simp
   refine hw_seq fun K hK => Rg ?_
   iterate 14 refine S0 ?_ (e := fun _ h_ => by simp only [sH, ↓sP, sA, tyS, simprocAttr, hx0, h9_29, h9_35]; exact AX h_)
   refine T2 (hK _ _ _ ?_)
   clear hK K
   refine hw_cond (b := true) rfl (fun hb => ?_) (fun hb => ?_)
   ·
    refine R0 ?_
    refine hw_ret ?_
    simp only [hpost, Tryz.results100, hresL, hres1, tupOf, ↓sP, sA, tyS, simprocAttr]
    have hn := unW_none (hst.bad2 hi2 h37 (by simp [okH, hx, hy])) hne
    exact hret_pure2 [] (.str []) (.bool false) rfl ⟨by rw [hn]; rfl, by rw [hn]; rfl⟩
   cases hb
  rw [idx_hex, if_neg hx]
  refine hw_seq fun K hK => Rg ?_
  iterate 14 refine S0 ?_ (e := fun _ h_ => by simp only [sH, ↓sP, sA, tyS, simprocAttr, h9_29, h9_35]; exact AX h_)
  refine T2 (hK _ _ _ ?_)
  clear hK K
  refine hw_cond (b := true) rfl (fun hb => ?_) (fun hb => ?_)
  ·
   refine R0 ?_
   refine hw_ret ?_
   simp only [hpost, Tryz.results100, hresL, hres1, tupOf, ↓sP, sA, tyS, simprocAttr]
   have hn := unW_none (hst.bad2 hi2 h37 (by simp [okH, hx])) hne
   exact hret_pure2 [] (.str []) (.bool false) rfl ⟨by rw [hn]; rfl, by rw [hn]; rfl⟩
  cases hb
 refine hw_exit ?_
 simp only [↓sP, sA, tyS, simprocAttr]
 clear hK K
 refine AX (hK _ _ _ ?_)
 clear hK K
 have hei : i = s.length := by simp at hb; omega
 have hfin := hst.fin hei hne
 refine hw_close [24] (hw_fits (fr2 := fin [(4, .c (.slc (out.map byteC)))]) (ob2 := fob []) (nx2 := 200) (fits_fin (by omega) (by simp [FinOk, clF_at, fin_at, finA_at, upd_at, fob_at, HV.close, HV.closeL, CV.denil, CV.denilL, denilL_byte, HV.men, HV.menL, HV.norm, HV.toC, HV.toCL]) (by simp [FobOk, clO_at, fob_at, upd_at, none0_at, gone, HO.close, HV.close, HV.closeL, HO.men, HV.men, HV.menL, HV.norm, HV.toC, HV.toCL])) ?_)
 refine hw_seq fun K hK => Rg ?_
 iterate 7 refine S0 ?_ (e := fun _ h_ => by simp only [sH, ↓sP, sA, tyS, simprocAttr, bytesC_map, List.length_map]; exact AX h_)
 refine T2 (hK _ _ _ ?_)
 clear hK K
 refine hw_ret ?_
 simp only [hpost, Tryz.results100, hresL, hres1, tupOf, ↓sP, sA, tyS, simprocAttr]
 refine hret_pure2 [] (.str out) (.bool (decide (0 < (out.length : Int)))) rfl ?_
 rw [hfin]
 by_cases ho0 : out = []
 ·
  subst ho0; simp
 have : 0 < out.length := List.length_pos_iff.2 ho0
 simp [ho0, this]

end Go.Proofs.YtenbfeemmpjdhaaGreatDoor

namespace Go.Proofs.YtenbfeemmpjdhaaGreatDoor
open Go Go.Hl Go.Pl
set_option maxRecDepth 10000
set_option maxHeartbeats 2000000
set_option linter.unusedSimpArgs false
set_option linter.unusedVariables false

def lsC (l : List Word) : CV := .slc (l.map .str)
theorem lsC_cells (l : List Word) : (lsC l).cells = 1 := rfl
theorem lsC_denil (l : List Word) : (lsC l).denil = lsC l := by simp only [lsC, CV.denil, denilL_str]
theorem denilL_lsC (l : List (List Word)) : CV.denilL (l.map lsC) = l.map lsC := denilL_map lsC_denil l
theorem dec_ok (b : Word) (hl : b.length < 2 ^ 40) : HPure2 Tryz.prog 60 [.slc (b.map u8)] (fun u v => u = .slc ((decO b).map lsC) ∧ v = .int .i64 (decE b)) := by
 refine hfn_walk Tryz.func60 rfl (by kernel_rfl) (locOk_nil _) (Nat.le_of_ble_eq_true rfl) ?_
 refine R0 ?_ (e := fun _ h_ => by simp only [↓sP, sA, tyS, simprocAttr, rI]; exact AX h_)
 refine hw_scope ?_
 refine hw_seq fun K hK => ?_
 refine R0 ?_ (e := fun _ h_ => by simp only [↓sP, sA, tyS, simprocAttr, rI, List.length_map]; exact AX h_)
 refine hw_cond (b := decide ((262144 : Int) < b.length)) rfl (fun hb => ?_) (fun hb => ?_)
 ·
  refine R0 ?_ (e := fun _ h_ => by simp only [↓sP, sA, tyS, simprocAttr, rI]; exact AX h_)
  refine hw_ret ?_
  simp only [hpost, Tryz.results60, hresL, hres1, tupOf, ↓sP, sA, tyS, simprocAttr, rI]
  have hE : decE b = 3 := by unfold decE; rw [if_pos (by simp at hb; omega)]
  refine hret_pure2 [] (.slc []) (.int .i64 3) ?_ ⟨by simp only [decO, hE]; rfl, by rw [hE]⟩
  simp [HV.close, HV.closeL, CV.denil, CV.denilL, HV.norm, HV.toC, HV.toCL]
 refine hw_skip ?_
 simp only [↓sP, sA, tyS, simprocAttr, rI]
 refine AX (hK _ _ _ ?_)
 clear hK K
 have hle : b.length ≤ 262144 := by simp at hb; omega
 clear hb
 refine R0 ?_ (e := fun _ h_ => by simp only [↓sP, sA, tyS, simprocAttr, rI]; exact AX h_)
 refine R0 ?_ (e := fun _ h_ => by simp only [↓sP, sA, tyS, simprocAttr, rI]; exact AX h_)
 refine hw_seq fun K hK => ?_
 refine hw_label ?_
 try simp only [↓sP, sA, tyS, simprocAttr, rI]
 refine AX (hK _ _ _ ?_)
 clear hK K
 refine hw_seq fun K hK => ?_
 have key : ∀ (ok : Bool) (ls : List (List Word)) fr ob nx, (ok = true → decV b = some ls) → (ok = false → decV b = none) → ls.length ≤ b.length → Fits 0 fr ob (fin [(4, .own 32 ls.length), (5, .ptr 24 0)]) (fob [(24, .box 4 (.c (.bool ok))), (32, .row 60 1 (ls.map lsC))]) 1000 → K fr ob nx := by
  intro ok ls fr ob nx h1 h2 h3 hf
  refine hK _ _ _ (hw_fits hf ?_)
  clear hf hK K
  refine hw_seq fun K hK => ?_
  cases ok
  ·
   refine hw_seq fun K hK => Rg ?_
   iterate 7 refine S0 ?_ (e := fun _ h_ => by simp only [sH, ↓sP, sA, tyS, simprocAttr, rI, List.length_map]; exact AX h_)
   simp only [sE, ↓reduceIte, simprocAttr, rI]
   refine AX (hK _ _ _ ?_)
   clear hK K
   refine hw_cond (b := true) rfl (fun hb => ?_) (fun hb => ?_)
   ·
    refine R0 ?_ (e := fun _ h_ => by simp only [↓sP, sA, tyS, simprocAttr, rI]; exact AX h_)
    refine hw_ret ?_
    simp only [hpost, Tryz.results60, hresL, hres1, tupOf, ↓sP, sA, tyS, simprocAttr, rI]
    have hE : decE b = 2 := by unfold decE; rw [if_neg (by omega), h2 rfl]
    refine hret_pure2 [] (.slc []) (.int .i64 2) ?_ ⟨by simp only [decO, hE]; rfl, by rw [hE]⟩
    simp [HV.close, HV.closeL, CV.denil, CV.denilL, HV.norm, HV.toC, HV.toCL]
   cases hb
  refine hw_seq fun K hK => Rg ?_
  iterate 7 refine S0 ?_ (e := fun _ h_ => by simp only [sH, ↓sP, sA, tyS, simprocAttr, rI, List.length_map]; exact AX h_)
  simp only [sE, ↓reduceIte, simprocAttr, rI]
  refine AX (hK _ _ _ ?_)
  clear hK K
  refine hw_cond (b := decide ((1000 : Int) < ls.length)) rfl (fun hb => ?_) (fun hb => ?_)
  ·
   refine R0 ?_ (e := fun _ h_ => by simp only [↓sP, sA, tyS, simprocAttr, rI]; exact AX h_)
   refine hw_ret ?_
   simp only [hpost, Tryz.results60, hresL, hres1, tupOf, ↓sP, sA, tyS, simprocAttr, rI]
   have hE : decE b = 2 := by unfold decE; rw [if_neg (by omega), h1 rfl]; simp only; rw [if_pos (by simp at hb; omega)]
   refine hret_pure2 [] (.slc []) (.int .i64 2) ?_ ⟨by simp only [decO, hE]; rfl, by rw [hE]⟩
   simp [HV.close, HV.closeL, CV.denil, CV.denilL, HV.norm, HV.toC, HV.toCL]
  refine hw_skip ?_
  simp only [↓sP, sA, tyS, simprocAttr, rI]
  refine AX (hK _ _ _ ?_)
  clear hK K
  refine R0 ?_ (e := fun _ h_ => by simp only [↓sP, sA, tyS, simprocAttr, rI]; exact AX h_)
  refine hw_ret ?_
  simp only [hpost, Tryz.results60, hresL, hres1, tupOf, ↓sP, sA, tyS, simprocAttr, rI]
  have hE : decE b = 0 := by unfold decE; rw [if_neg (by omega), h1 rfl]; simp only; rw [if_neg (by simp at hb; omega)]
  refine hret_pure2 [32] (.slc (ls.map lsC)) (.int .i64 0) ?_ ⟨by simp only [decO, hE, h1 rfl]; rfl, by rw [hE]⟩
  simp [HV.close, fob_at, upd_at, HV.norm, HV.toC, HV.closeL, HV.toCL, CV.denil, denilL_lsC]
 refine hw_block ?_
 refine hw_own 4 0 60 1 rfl rfl rfl rfl ?_
 refine hw_loop (α := {y : Word × List (List Word) // DecSt b y.1 y.2}) (fun y => (fin [(0, .c (.slc (y.1.1.map u8))), (4, .own 32 y.1.2.length), (5, .ptr 24 0)], fob [(24, .box 4 (.c (.bool true))), (32, .row 60 1 (y.1.2.map lsC))])) 100 (fun y => y.1.1.length) ⟨(b, []), DecSt.init b⟩ (fF) ?_
 rintro ⟨⟨rest, ls⟩, hst⟩
 simp only at hst
 have hr1 := hst.2.1
 have hr2 := hst.2.2
 refine hw_seq fun K hK => ?_
 refine R0 ?_ (e := fun _ h_ => by simp only [↓sP, sA, tyS, simprocAttr, rI, List.length_map]; exact AX h_)
 refine hw_cond (b := decide ((0 : Int) < rest.length)) rfl (fun hb => ?_) (fun hb => ?_)
 ·
  refine hw_skip ?_
  simp only [↓sP, sA, tyS, simprocAttr, rI]
  refine AX (hK _ _ _ ?_)
  clear hK K
  refine hw_block ?_
  have hne : rest ≠ [] := by rintro rfl; simp at hb
  clear hb
  refine hw_seq fun K hK => hw_regionG (by kernel_rfl) ?_
  simp only [sR, simprocAttr]
  refine SG0 ?_ (e := fun _ h_ => by simp only [sH, ↓sP, sA, tyS, simprocAttr, rI, denilL_u8]; exact AX h_)
  refine hlexG_stepC (g := none) 116 rfl rfl fun K' hK' => ?_
  simp only [hop1C, mkId, sH, ↓sP, sA, tyS, simprocAttr, rI, denilL_u8]
  repeat refine AI ?_
  refine closeK_mk (by first | rfl | simp) ?_
  try simp only [sH, ↓sP, sA, tyS, simprocAttr, rI, denilL_u8]
  refine AX (hK' _ _ ?_)
  clear hK' K'
  refine hlexG_step (g := none) rfl rfl fun K' hK' => ?_
  simp only [sH, ↓sP, sA, tyS, simprocAttr, rI, denilL_u8]
  refine call_pure3 (args := [_, _]) (bcut_ok rest 10 (by omega)) ⟨rfl, rfl, rfl, rfl⟩ ?_
  rintro u v x ⟨li, re, fd, rfl, rfl, rfl, hcut⟩
  have hlt := hcut.lt hne
  refine AX (hK' _ _ ?_)
  clear hK' K'
  iterate 7 refine SG0 ?_ (e := fun _ h_ => by simp only [sH, ↓sP, sA, tyS, simprocAttr, rI, denilL_u8]; exact AX h_)
  simp only [sE, ↓reduceIte, simprocAttr, rI]
  refine AX (hK _ _ _ ?_)
  clear hK K
  refine R0 ?_ (e := fun _ h_ => by simp only [↓sP, sA, tyS, simprocAttr, rI]; exact AX h_)
  refine hw_seq fun K hK => ?_
  refine hw_seq fun K hK => hw_regionG (by kernel_rfl) ?_
  simp only [sR, simprocAttr]
  refine SG0 ?_ (e := fun _ h_ => by simp only [sH, ↓sP, sA, tyS, simprocAttr, rI, denilL_u8, addB, bptr, List.range', List.map_cons, List.map_nil]; exact AX h_)
  refine hlexG_stepC (g := none) 160 rfl rfl fun K' hK' => ?_
  simp only [hop1C, mkId, sH, ↓sP, sA, tyS, simprocAttr, rI, denilL_u8, addB, bptr, List.range', List.map_cons, List.map_nil]
  repeat refine AI ?_
  refine closeK_mk (by first | rfl | simp) ?_
  try simp only [sH, ↓sP, sA, tyS, simprocAttr, rI, denilL_u8, addB, bptr, List.range', List.map_cons, List.map_nil]
  refine AX (hK' _ _ ?_)
  clear hK' K'
  refine hlexG_step (g := none) rfl rfl fun K' hK' => ?_
  simp only [sH, ↓sP, sA, tyS, simprocAttr, rI, denilL_u8, addB, bptr, List.range', List.map_cons, List.map_nil]
  refine call_seqB (args := [_, _]) (splitq_ok li 32) (by simp) ⟨rfl, rfl, rfl, rfl⟩ ?_
  refine AX (hK' _ _ ?_)
  clear hK' K'
  simp only [sE, ↓reduceIte, simprocAttr, rI]
  refine AX (hK _ _ _ ?_)
  clear hK K
  refine hw_block ?_
  refine hw_ownb 152 0 9 1 rfl rfl rfl rfl ?_
  refine hw_rangeB (ids := [164, 165, 166]) (fin [(0, .c (.slc (rest.map u8))), (4, .own 32 ls.length), (5, .ptr 24 0), (7, .c (.slc (re.map u8))), (8, .c (.bool fd)), (9, .ptr 152 0)]) (fun i => fob [(24, .box 4 (.c (.bool true))), (32, .row 60 1 (ls.map lsC)), (152, .box 60 (.own 168 i)), (168, .row 9 1 ((wsT li i).map .str))]) 200 (fun i => wsOk li i) (fun p hp => by simp at hp) (splitit_ok li 32 (by omega)) rfl rfl (by decide) ?_ ?_ ?_ ?_ ?_ rfl rfl ?_ ?_
  ·
   intro j x hx
   match j, hx with
   | 0, hx => cases hx; rfl
   | 1, hx => cases hx; rfl
   | 2, hx => cases hx; rfl
  ·
   exact fits_fin (by omega) (by simp [FinOk, fin_at, finA_at, upd_at, HV.men, HV.menL, HV.norm, HV.toC, HV.toCL]) (by simp [FobOk, fob_at, upd_at, none0_at, gone, addB, wsT, HO.men, HV.men, HV.menL, HV.norm, HV.toC, HV.toCL])
  ·
   intro id hid
   simp only [List.mem_cons, List.not_mem_nil, or_false] at hid
   rcases hid with rfl | rfl | rfl <;> rfl
  ·
   intro x hx
   obtain ⟨p, _, rfl⟩ := List.mem_map.1 hx
   rfl
  ·
   intro p hp
   simp only [List.mem_cons, List.not_mem_nil, or_false] at hp
   subst hp
   exact Nat.le_of_ble_eq_true rfl
  ·
   intro i hi hΦ K hK
   have hi' : i < (splitB 32 li).length := by simpa using hi
   have hwl := wsT_length (r := li) (Nat.le_of_lt hi')
   have hsl := splitB_length 32 li
   obtain ⟨p, hp⟩ : ∃ p, p = (splitB 32 li)[i] := ⟨_, rfl⟩
   have hpl : p.length ≤ li.length := by rw [hp]; exact splitB_sum 32 li _ (List.getElem_mem hi')
   have hx : (List.map (fun p => [CV.slc (List.map u8 p)]) (splitB 32 li))[i] = [CV.slc (p.map u8)] := by rw [List.getElem_map, hp]
   rw [hx]
   simp only [parF]
   have hbc : bytesC (p.map u8) = some p := bytesC_map p
   refine hw_region (by kernel_rfl) ?_
   simp only [↓sP, sA, tyS, simprocAttr, rI]
   refine AX (hK _ _ _ ?_)
   clear hK K
   refine hw_block ?_
   refine hw_seq fun K hK => Rg ?_
   iterate 2 refine S0 ?_ (e := fun _ h_ => by simp only [sH, ↓sP, sA, tyS, simprocAttr, rI, hbc]; exact AX h_)
   refine hlex_step (g := none) rfl rfl fun K' hK' => ?_
   simp only [sH, ↓sP, sA, tyS, simprocAttr, rI, hbc]
   refine call_pure2 (args := [_]) (unw_ok p (by omega)) ⟨rfl, rfl, rfl, rfl⟩ ?_
   rintro u v ⟨rfl, rfl⟩
   refine AX (hK' _ _ ?_)
   clear hK' K'
   iterate 5 refine S0 ?_ (e := fun _ h_ => by simp only [sH, ↓sP, sA, tyS, simprocAttr, rI, hbc]; exact AX h_)
   simp only [sE, ↓reduceIte, simprocAttr, rI]
   refine AX (hK _ _ _ ?_)
   clear hK K
   refine hw_seq fun K hK => ?_
   refine R0 ?_ (e := fun _ h_ => by simp only [↓sP, sA, tyS, simprocAttr, rI]; exact AX h_)
   refine hw_cond (b := !(unW p).isSome) rfl (fun hb => ?_) (fun hb => ?_)
   ·
    refine R0 ?_ (e := fun _ h_ => by simp only [↓sP, sA, tyS, simprocAttr, rI]; exact AX h_)
    refine hw_exit ?_
    simp only [↓sP, sA, tyS, simprocAttr, rI]
    clear hK K
    clear hK K
    exact key false ls _ _ _ (fun h => by cases h) (fun _ => hst.bad hcut hne (unR_miss hi' (by rw [← hp]; simpa using hb))) (by omega) (fF)
   refine hw_skip ?_
   simp only [↓sP, sA, tyS, simprocAttr, rI]
   refine AX (hK _ _ _ ?_)
   clear hK K
   refine hw_region (by kernel_rfl) ?_
   simp only [sR, simprocAttr]
   iterate 5 refine S0 ?_ (e := fun _ h_ => by simp only [sH, ↓sP, sA, tyS, simprocAttr, rI, List.length_append, List.length_map, hwl]; exact AX h_)
   simp only [sE, ↓reduceIte, simprocAttr, rI]
   refine ⟨(show Fits 200 _ _ (fin []) _ 200 from fits_fin (by omega) trivial ?_), wsOk_succ hi' hΦ (by rw [← hp]; simpa using hb)⟩
   rw [wsT_succ hi', ← hp]
   simp [FobOk, fob_at, upd_at, none0_at, gone, HO.men, HV.men, HV.menL, HV.norm, HV.toC, HV.toCL]
  intro hΦ
  simp only [sE, ↓reduceIte, simprocAttr, rI]
  rw [List.length_map] at hΦ ⊢
  have hwl := wsT_length (r := li) (Nat.le_refl _)
  have hul := unR_all hΦ
  have hsl := splitB_length 32 li
  obtain ⟨ws, hws⟩ : ∃ ws, ws = wsT li (splitB 32 li).length := ⟨_, rfl⟩
  rw [← hws] at hul hwl
  rw [← hws, ← hwl]
  refine AX (hK _ _ _ ?_)
  clear hK K
  refine hw_seq fun K hK => ?_
  cases fd
  ·
   refine hw_close [168] (hw_fits (fr2 := fin [(0, .c (.slc (rest.map u8))), (4, .own 32 ls.length), (5, .ptr 24 0), (7, .c (.slc (re.map u8))), (8, .c (.bool false)), (9, .ptr 152 0)]) (ob2 := fob [(24, .box 4 (.c (.bool true))), (32, .row 60 1 (ls.map lsC)), (152, .box 60 (.c (.slc (ws.map .str))))]) (nx2 := 300) (fits_fin (by omega) (by simp [FinOk, clF_at, fin_at, finA_at, upd_at, fob_at, HV.close, HV.closeL, CV.denil, CV.denilL, denilL_u8, HV.men, HV.menL, HV.norm, HV.toC, HV.toCL]) (by simp [FobOk, clO_at, fob_at, upd_at, none0_at, gone, HO.close, HV.close, HV.closeL, CV.denil, denilL_str, HO.men, HV.men, HV.menL, HV.norm, HV.toC, HV.toCL])) ?_)
   refine hw_seq fun K hK => Rg ?_
   iterate 7 refine S0 ?_ (e := fun _ h_ => by simp only [sH, ↓sP, sA, tyS, simprocAttr, rI]; exact AX h_)
   simp only [sE, ↓reduceIte, simprocAttr, rI]
   refine AX (hK _ _ _ ?_)
   clear hK K
   refine hw_cond (b := true) rfl (fun hb => ?_) (fun hb => ?_)
   ·
    refine R0 ?_ (e := fun _ h_ => by simp only [↓sP, sA, tyS, simprocAttr, rI]; exact AX h_)
    refine hw_exit ?_
    simp only [↓sP, sA, tyS, simprocAttr, rI]
    clear hK K
    exact key false ls _ _ _ (fun h => by cases h) (fun _ => hst.bad0 hcut hne) (by omega) (fF)
   cases hb
  refine hw_close [168] (hw_fits (fr2 := fin [(0, .c (.slc (rest.map u8))), (4, .own 32 ls.length), (5, .ptr 24 0), (7, .c (.slc (re.map u8))), (8, .c (.bool true)), (9, .ptr 152 0)]) (ob2 := fob [(24, .box 4 (.c (.bool true))), (32, .row 60 1 (ls.map lsC)), (152, .box 60 (.c (.slc (ws.map .str))))]) (nx2 := 300) (fits_fin (by omega) (by simp [FinOk, clF_at, fin_at, finA_at, upd_at, fob_at, HV.close, HV.closeL, CV.denil, CV.denilL, denilL_u8, HV.men, HV.menL, HV.norm, HV.toC, HV.toCL]) (by simp [FobOk, clO_at, fob_at, upd_at, none0_at, gone, HO.close, HV.close, HV.closeL, CV.denil, denilL_str, HO.men, HV.men, HV.menL, HV.norm, HV.toC, HV.toCL])) ?_)
  refine hw_seq fun K hK => Rg ?_
  iterate 4 refine S0 ?_ (e := fun _ h_ => by simp only [sH, ↓sP, sA, tyS, simprocAttr, rI]; exact AX h_)
  refine hlex_step (g := some (44, false)) rfl rfl fun K' hK' => ?_
  simp only [sH, ↓sP, sA, tyS, simprocAttr, rI]
  refine call_pure (args := [_]) (check_ok ws (by omega)) ⟨rfl, rfl, rfl, rfl⟩ ?_
  rintro u rfl
  refine AX (hK' _ _ ?_)
  clear hK' K'
  iterate 2 refine S0 ?_ (e := fun _ h_ => by simp only [sH, ↓sP, sA, tyS, simprocAttr, rI]; exact AX h_)
  simp only [sE, ↓reduceIte, simprocAttr, rI]
  refine AX (hK _ _ _ ?_)
  clear hK K
  refine hw_cond (b := chkL ws != 0) rfl (fun hb => ?_) (fun hb => ?_)
  ·
   refine R0 ?_ (e := fun _ h_ => by simp only [↓sP, sA, tyS, simprocAttr, rI]; exact AX h_)
   refine hw_exit ?_
   simp only [↓sP, sA, tyS, simprocAttr, rI]
   clear hK K
   exact key false ls _ _ _ (fun h => by cases h) (fun _ => hst.bad hcut hne (by rw [hul, if_neg]; unfold okL; simpa using hb)) (by omega) (fF)
  refine hw_skip ?_
  simp only [↓sP, sA, tyS, simprocAttr, rI]
  refine AX (hK _ _ _ ?_)
  clear hK K
  refine hw_region (by kernel_rfl) ?_
  simp only [sR, simprocAttr]
  iterate 7 refine S0 ?_ (e := fun _ h_ => by simp only [sH, ↓sP, sA, tyS, simprocAttr, rI, List.length_append, List.length_map]; exact AX h_)
  simp only [sE, ↓reduceIte, simprocAttr, rI]
  have hok : okL ws = true := by unfold okL; simpa using hb
  refine ⟨⟨(re, ls ++ [ws]), hst.next hcut hne (by rw [hul, if_pos hok])⟩, fits_fin (by omega) ?_ ?_, hlt.1⟩
  ·
   simp [FinOk, upd_at, fin_at, HV.men]
  simp only [FobOk, List.map_append]
  exact ⟨rfl, by omega, trivial, rfl, by omega, trivial, trivial⟩
 refine hw_exit ?_
 simp only [↓sP, sA, tyS, simprocAttr, rI]
 clear hK K
 have hr0 : rest = [] := by simpa using hb
 subst hr0
 exact key true ls _ _ _ (fun _ => hst.fin) (fun h => by cases h) (by omega) (fF)

end Go.Proofs.YtenbfeemmpjdhaaGreatDoor

namespace Go.Proofs.YtenbfeemmpjdhaaGreatDoor
open Go Go.Hl Go.Pl
set_option maxRecDepth 10000
set_option maxHeartbeats 2000000
set_option linter.unusedSimpArgs false
set_option linter.unusedVariables false
def tp (L : List Int) (a : Nat) : CV := .agg [.slc (L.map (.int .i64)), .int .i64 a]
attribute [local simp] tp

theorem next_ok (L : List Int) (a : Nat) (n : Int) (ha : a < 2 ^ 40) (hn : n < 2 ^ 40) : HBox Tryz.prog 16 39 (tp L a) [.int .i64 n] (fun u v' => ∃ (x : Int) (a' : Nat), u = .int .i64 x ∧ v' = tp L a' ∧ a' ≤ a + 1 ∧ 0 ≤ x ∧ (n < 1 → x = 0) ∧ (1 ≤ n → x < n)) := by
 refine hfn_walk Tryz.func16 rfl (by kernel_rfl) (locOk_box _ _ _) (Nat.le_of_ble_eq_true rfl) ?_
 refine R0 ?_
 refine hw_seq fun K hK => ?_
 refine R0 ?_
 refine hw_cond (b := decide (n < 1)) rfl (fun hb => ?_) (fun hb => ?_)
 ·
  refine R0 ?_
  refine hw_ret ?_
  simp only [hpost, Tryz.results16, hresL, hres1, tupOf, ↓sP, sA, tyS, simprocAttr]
  refine hret_box [] (.int .i64 0) (tp L a) rfl rfl ?_ (by simp) ⟨0, a, rfl, rfl, by omega, by omega, fun _ => rfl, fun h => by omega⟩
  simp [HV.close, tp, CV.denil, CV.denilL, denilL_int, HV.norm, HV.toC]
 refine hw_skip ?_
 refine T0 (hK _ _ _ ?_)
 clear hK K
 refine hw_seq fun K hK => Rg ?_
 iterate 7 refine S0 ?_ (e := fun _ h_ => by simp only [sH, ↓sP, sA, tyS, simprocAttr, tp]; exact AX h_)
 refine T2 (hK _ _ _ ?_)
 clear hK K
 refine hw_seq fun K hK => ?_
 have key : ∀ (v : Int) fr ob nx, Fits 1 fr ob (fin [(0, .ptr 0 0), (1, .c (.int .i64 n)), (5, .c (.int .i64 v))]) (fob [(0, .box 39 (.c (tp L a)))]) 300 → K fr ob nx := by
  intro v fr ob nx hf
  refine hK _ _ _ (hw_fits hf ?_)
  clear hf hK K
  have hn1 : 1 ≤ n := by simp at hb; omega
  have e0 := Int.tmod_lt_of_pos v (b := n) (by omega)
  have e1 : -n < v.tmod n := Int.lt_tmod_of_pos v (by omega)
  refine hw_seq fun K hK => Rg ?_
  iterate 8 refine S0 ?_ (e := fun _ h_ => by simp only [sH, ↓sP, sA, tyS, simprocAttr, tp]; exact AX h_)
  refine T2 (hK _ _ _ ?_)
  clear hK K
  refine hw_seq fun K hK => Rg ?_
  iterate 8 refine S0 ?_ (e := fun _ h_ => by simp only [sH, ↓sP, sA, tyS, simprocAttr, tp]; exact AX h_)
  refine T2 (hK _ _ _ ?_)
  clear hK K
  refine hw_ret ?_
  simp only [hpost, Tryz.results16, hresL, hres1, tupOf, ↓sP, sA, tyS, simprocAttr]
  have e2 : IntKind.i64.wrap (v.tmod n + n) = v.tmod n + n := IntWalk.i64_in _ (by omega)
  have e3 : IntKind.i64.wrap ((a : Int) + 1) = ((a + 1 : Nat) : Int) := IntWalk.i64_in _ (by omega)
  refine hret_box [] (.int .i64 ((v.tmod n + n).tmod n)) (tp L (a + 1)) (by rw [e2]; rfl) rfl ?_ (by simp) ⟨_, a + 1, rfl, rfl, by omega, Int.tmod_nonneg _ (by omega), fun h => by omega, fun _ => Int.tmod_lt_of_pos _ (by omega)⟩
  simp [HV.close, HV.closeL, tp, CV.denil, CV.denilL, denilL_int, HV.norm, HV.toC, HV.toCL, e3]
 refine hw_seq fun K hK => hw_quiet mixed (by kernel_rfl) (by kernel_rfl) (by kernel_rfl) ?_
 simp only [sR, simprocAttr]
 iterate 10 refine S0 ?_ (e := fun _ h_ => by simp only [sH, ↓sP, sA, tyS, simprocAttr, tp]; exact AX h_)
 refine T2 (hK _ _ _ ?_)
 clear hK K
 refine hw_cond (b := decide ((a : Int) < L.length)) rfl (fun hb => ?_) (fun hb => ?_)
 ·
  refine hw_quiet mixed (by kernel_rfl) (by kernel_rfl) (by kernel_rfl) ?_
  simp only [sR, simprocAttr]
  iterate 11 refine S0 ?_ (e := fun _ h_ => by simp only [sH, ↓sP, sA, tyS, simprocAttr, tp, Int.natCast_nonneg, (by simpa using hb : (a : Int) < L.length), nth_map (show a < L.length by simpa using hb)]; exact AX h_)
  simp only [sE, ↓reduceIte, simprocAttr]
  exact key (L[a]'(by simpa using hb)) _ _ _ (fF)
 refine hw_skip ?_
 simp only [↓sP, sA, tyS, simprocAttr]
 exact key (IntKind.i64.wrap (IntKind.i64.wrap (↑a * 7) + 3)) _ _ _ (fF)



theorem bcmp0_ok (a b : List UInt8) : HPure Tryz.prog 135 [.slc (a.map u8), .slc (b.map u8)] (fun v => v = .int .i64 (cmpB a b)) :=
 compare_ok (f := 135) (fn := Tryz.f135) Tryz.func135 (by kernel_rfl) (by kernel_rfl) (by kernel_rfl) (by kernel_rfl) a b

theorem bcmp_ok (a b : List UInt8) : HPure Tryz.prog 114 [.slc (a.map u8), .slc (b.map u8)] (fun v => v = .int .i64 (cmpB a b)) := by
 refine hfn_walk Tryz.func114 rfl (by kernel_rfl) (locOk_nil _) (Nat.le_of_ble_eq_true rfl) ?_
 refine R0 ?_
 refine hw_seq fun K hK => Rg ?_
 iterate 2 refine S0 ?_ (e := fun _ h_ => by simp only [sH, ↓sP, sA, tyS, simprocAttr, denilL_u8]; exact AX h_)
 refine hlex_step (g := none) rfl rfl fun K' hK' => ?_
 simp only [sH, ↓sP, sA, tyS, simprocAttr, denilL_u8]
 refine call_pure (args := [_, _]) (bcmp0_ok a b) ⟨rfl, rfl, rfl, rfl⟩ ?_
 rintro u rfl
 refine AX (hK' _ _ ?_)
 clear hK' K'
 refine S0 ?_ (e := fun _ h_ => by simp only [sH, ↓sP, sA, tyS, simprocAttr, denilL_u8]; exact AX h_)
 refine T2 (hK _ _ _ ?_)
 clear hK K
 refine hw_ret ?_
 simp only [hpost, Tryz.results114, hresL, hres1, tupOf, ↓sP, sA, tyS, simprocAttr]
 exact hret_pure [] (.int .i64 _) rfl rfl


theorem order_ok (a b : Dig) : HPure Tryz.prog 80 [dg a, dg b] (fun v => v = .int .i64 (cmpB a.1 b.1)) := by
 refine hfn_walk Tryz.func80 rfl (by kernel_rfl) (locOk_nil _) (Nat.le_of_ble_eq_true rfl) ?_
 refine R0 ?_
 refine hw_freeze 2 0 rfl rfl ?_
 refine hw_freeze 3 4 rfl rfl ?_
 refine hw_seq fun K hK => hw_draw2 mixed [(0, [], []), (1, [], []), (2, [], []), (3, [], [])] [0, 0, 3, 7] (by kernel_rfl) (by kernel_rfl) (by kernel_rfl) (by kernel_rfl) rfl (by kernel_rfl) ?_
 iterate 2 refine W0 ?_ (e := fun _ h_ => by simp only [sH, ↓sP, sA, tyS, simprocAttr, dg_us, cells_u8, a.2, b.2, denilL_u8, List.drop_zero, dg_take]; exact AX h_)
 refine hwalk2_step (g := none) rfl rfl fun K' hK' => ?_
 simp only [sH, ↓sP, sA, tyS, simprocAttr, dg_us, cells_u8, a.2, b.2, denilL_u8, List.drop_zero, dg_take]
 refine call_pure (args := [_, _]) (bcmp_ok a.1 b.1) ⟨rfl, rfl, rfl, rfl⟩ ?_
 rintro u rfl
 refine AX (hK' _ _ ?_)
 clear hK' K'
 refine W0 ?_ (e := fun _ h_ => by simp only [sH, ↓sP, sA, tyS, simprocAttr, dg_us, cells_u8, a.2, b.2, denilL_u8, List.drop_zero, dg_take]; exact AX h_)
 refine T2 (hK _ _ _ ?_)
 clear hK K
 refine hw_ret ?_
 simp only [hpost, Tryz.results80, hresL, hres1, tupOf, ↓sP, sA, tyS, simprocAttr]
 exact hret_pure [] (.int .i64 _) rfl rfl


theorem rname_ok (s : Word) (hl : s.length < 2 ^ 63) : HPure Tryz.prog 39 [.str s] (fun v => v = .bool (nameB s)) := by
 refine hfn_walk Tryz.func39 rfl (by kernel_rfl) (locOk_nil _) (Nat.le_of_ble_eq_true rfl) ?_
 refine R0 ?_
 refine hw_seq fun K hK => ?_
 refine hw_seq fun K hK => ?_
 have key : ∀ (b : Bool) fr ob nx, b = badHead s → Fits 0 fr ob (fin [(0, .c (.str s)), (26, .c (.bool b))]) (fob []) 600 → K fr ob nx := by
  rintro b fr ob nx rfl hf
  refine hK _ _ _ (hw_fits hf ?_)
  clear hf hK K
  refine hw_cond (b := badHead s) rfl (fun hb => ?_) (fun hb => ?_)
  ·
   refine R0 ?_
   refine hw_ret ?_
   simp only [hpost, Tryz.results39, hresL, hres1, tupOf, ↓sP, sA, tyS, simprocAttr]
   exact hret_pure [] (.bool false) rfl (by rw [nameB_head hb])
  refine hw_skip ?_
  refine T0 (hK _ _ _ ?_)
  clear hK K
  refine hw_seq fun K hK => ?_
  refine R0 ?_
  refine hw_block ?_
  have hbad := hb
  refine hw_loop (α := {i : Nat // i ≤ s.length ∧ ∀ j (_ : j < i) (h : j < s.length), (alZ s[j] || puZ s[j]) = true}) (fun i => (fin [(0, .c (.str s)), (3, .c (.int .i64 i.1))], fob [])) 100 (fun i => s.length - i.1) ⟨0, by omega, fun j h => by omega⟩ (fF) ?_
  clear hb
  rintro ⟨i, hi, h0⟩
  refine hw_seq fun K hK => ?_
  refine hw_seq fun K hK => Rg ?_
  iterate 4 refine S0 ?_
  refine T2 (hK _ _ _ ?_)
  clear hK K
  refine hw_cond (b := decide ((i : Int) < s.length)) rfl (fun hb => ?_) (fun hb => ?_)
  ·
   have hlt : i < s.length := by simpa using hb
   have hgd : s.getD i 0 = s[i] := by simp [hlt]
   refine hw_skip ?_
   refine T0 (hK _ _ _ ?_)
   clear hK K
   refine hw_seq fun K hK => ?_
   refine hw_block ?_
   refine hw_seq fun K hK => Rg ?_
   iterate 4 refine S0 ?_ (e := fun _ h_ => by simp only [sH, ↓sP, sA, tyS, simprocAttr, Int.natCast_nonneg, Int.ofNat_lt, hlt, hgd]; exact AX h_)
   refine T2 (hK _ _ _ ?_)
   clear hK K
   refine hw_seq fun K hK => ?_
   have key : ∀ (b : Bool) fr ob nx, b = (!(alZ s[i] || puZ s[i])) → Fits 0 fr ob (fin [(0, .c (.str s)), (3, .c (.int .i64 i)), (62, .c (.bool b))]) (fob []) 600 → K fr ob nx := by
    rintro b fr ob nx rfl hf
    refine hK _ _ _ (hw_fits hf ?_)
    clear hf hK K
    refine hw_cond (b := !(alZ s[i] || puZ s[i])) rfl (fun hb => ?_) (fun hb => ?_)
    ·
     refine R0 ?_
     refine hw_ret ?_
     simp only [hpost, Tryz.results39, hresL, hres1, tupOf, ↓sP, sA, tyS, simprocAttr]
     exact hret_pure [] (.bool false) rfl (by rw [nameB_char hlt (by simpa using hb)])
    refine hw_skip ?_
    refine T0 (hK _ _ _ ?_)
    clear hK K
    refine hw_region (by kernel_rfl) ?_
    simp only [↓sP, sA, tyS, simprocAttr, i64s i]
    refine ⟨⟨i + 1, hlt, fun j hj h' => ?_⟩, fF, ?_⟩
    ·
     rcases Nat.lt_or_ge j i with h1 | h1
     ·
      exact h0 j h1 h'
     have : j = i := by omega
     subst this
     rw [Bool.not_eq_false'] at hb
     exact hb
    show s.length - (i + 1) < s.length - i
    omega
   refine hw_region (by kernel_rfl) ?_
   simp only [sR, simprocAttr]
   iterate 3 refine S0 ?_
   refine hlex_cases 37 rfl (fun h7_37 => ?_) (fun h7_37 => ?_)
   ·
    iterate 4 refine S0 ?_ (e := fun _ h_ => by simp only [sH, ↓sP, sA, tyS, simprocAttr, h7_37]; exact AX h_)
    refine hlex_cases 40 rfl (fun h7_40 => ?_) (fun h7_40 => ?_)
    ·
     iterate 20 refine S0 ?_ (e := fun _ h_ => by simp only [sH, ↓sP, sA, tyS, simprocAttr, h7_37, h7_40]; exact AX h_)
     simp only [sE, ↓reduceIte, simprocAttr]
     exact key false _ _ _ (by simp only [alZ, puZ, h7_37, h7_40, Bool.and_true, Bool.and_false, Bool.true_and, Bool.false_and, Bool.or_true, Bool.true_or, Bool.false_or, Bool.or_false, Bool.and_self, Bool.or_self, Bool.not_true, Bool.not_false]) (fF)
    iterate 3 refine S0 ?_ (e := fun _ h_ => by simp only [sH, ↓sP, sA, tyS, simprocAttr, h7_37, h7_40]; exact AX h_)
    refine hlex_cases 44 rfl (fun h7_44 => ?_) (fun h7_44 => ?_)
    ·
     iterate 5 refine S0 ?_ (e := fun _ h_ => by simp only [sH, ↓sP, sA, tyS, simprocAttr, h7_37, h7_40, h7_44]; exact AX h_)
     refine hlex_cases 47 rfl (fun h7_47 => ?_) (fun h7_47 => ?_)
     ·
      iterate 12 refine S0 ?_ (e := fun _ h_ => by simp only [sH, ↓sP, sA, tyS, simprocAttr, h7_37, h7_40, h7_44, h7_47]; exact AX h_)
      simp only [sE, ↓reduceIte, simprocAttr]
      exact key false _ _ _ (by simp only [alZ, puZ, h7_37, h7_40, h7_44, h7_47, Bool.and_true, Bool.and_false, Bool.true_and, Bool.false_and, Bool.or_true, Bool.true_or, Bool.false_or, Bool.or_false, Bool.and_self, Bool.or_self, Bool.not_true, Bool.not_false]) (fF)
     iterate 4 refine S0 ?_ (e := fun _ h_ => by simp only [sH, ↓sP, sA, tyS, simprocAttr, h7_37, h7_40, h7_44, h7_47]; exact AX h_)
     refine hlex_cases 52 rfl (fun h7_52 => ?_) (fun h7_52 => ?_)
     ·
      iterate 8 refine S0 ?_ (e := fun _ h_ => by simp only [sH, ↓sP, sA, tyS, simprocAttr, h7_37, h7_40, h7_44, h7_47, h7_52]; exact AX h_)
      simp only [sE, ↓reduceIte, simprocAttr]
      exact key false _ _ _ (by simp only [alZ, puZ, h7_37, h7_40, h7_44, h7_47, h7_52, Bool.and_true, Bool.and_false, Bool.true_and, Bool.false_and, Bool.or_true, Bool.true_or, Bool.false_or, Bool.or_false, Bool.and_self, Bool.or_self, Bool.not_true, Bool.not_false]) (fF)
     iterate 4 refine S0 ?_ (e := fun _ h_ => by simp only [sH, ↓sP, sA, tyS, simprocAttr, h7_37, h7_40, h7_44, h7_47, h7_52]; exact AX h_)
     refine hlex_cases 56 rfl (fun h7_56 => ?_) (fun h7_56 => ?_)
     ·
      iterate 4 refine S0 ?_ (e := fun _ h_ => by simp only [sH, ↓sP, sA, tyS, simprocAttr, h7_37, h7_40, h7_44, h7_47, h7_52, h7_56]; exact AX h_)
      simp only [sE, ↓reduceIte, simprocAttr]
      exact key false _ _ _ (by simp only [alZ, puZ, h7_37, h7_40, h7_44, h7_47, h7_52, h7_56, Bool.and_true, Bool.and_false, Bool.true_and, Bool.false_and, Bool.or_true, Bool.true_or, Bool.false_or, Bool.or_false, Bool.and_self, Bool.or_self, Bool.not_true, Bool.not_false]) (fF)
     iterate 4 refine S0 ?_ (e := fun _ h_ => by simp only [sH, ↓sP, sA, tyS, simprocAttr, h7_37, h7_40, h7_44, h7_47, h7_52, h7_56]; exact AX h_)
     refine hlex_cases 60 rfl (fun h7_60 => ?_) (fun h7_60 => ?_)
     ·
      simp only [h7_60]
      simp only [sE, ↓reduceIte, simprocAttr]
      exact key false _ _ _ (by simp only [alZ, puZ, h7_37, h7_40, h7_44, h7_47, h7_52, h7_56, h7_60, Bool.and_true, Bool.and_false, Bool.true_and, Bool.false_and, Bool.or_true, Bool.true_or, Bool.false_or, Bool.or_false, Bool.and_self, Bool.or_self, Bool.not_true, Bool.not_false]) (fF)
     simp only [h7_60]
     simp only [sE, ↓reduceIte, simprocAttr]
     exact key true _ _ _ (by simp only [alZ, puZ, h7_37, h7_40, h7_44, h7_47, h7_52, h7_56, h7_60, Bool.and_true, Bool.and_false, Bool.true_and, Bool.false_and, Bool.or_true, Bool.true_or, Bool.false_or, Bool.or_false, Bool.and_self, Bool.or_self, Bool.not_true, Bool.not_false]) (fF)
    iterate 9 refine S0 ?_ (e := fun _ h_ => by simp only [sH, ↓sP, sA, tyS, simprocAttr, h7_37, h7_40, h7_44]; exact AX h_)
    refine hlex_cases 52 rfl (fun h7_52 => ?_) (fun h7_52 => ?_)
    ·
     iterate 8 refine S0 ?_ (e := fun _ h_ => by simp only [sH, ↓sP, sA, tyS, simprocAttr, h7_37, h7_40, h7_44, h7_52]; exact AX h_)
     simp only [sE, ↓reduceIte, simprocAttr]
     exact key false _ _ _ (by simp only [alZ, puZ, h7_37, h7_40, h7_44, h7_52, Bool.and_true, Bool.and_false, Bool.true_and, Bool.false_and, Bool.or_true, Bool.true_or, Bool.false_or, Bool.or_false, Bool.and_self, Bool.or_self, Bool.not_true, Bool.not_false]) (fF)
    iterate 4 refine S0 ?_ (e := fun _ h_ => by simp only [sH, ↓sP, sA, tyS, simprocAttr, h7_37, h7_40, h7_44, h7_52]; exact AX h_)
    refine hlex_cases 56 rfl (fun h7_56 => ?_) (fun h7_56 => ?_)
    ·
     iterate 4 refine S0 ?_ (e := fun _ h_ => by simp only [sH, ↓sP, sA, tyS, simprocAttr, h7_37, h7_40, h7_44, h7_52, h7_56]; exact AX h_)
     simp only [sE, ↓reduceIte, simprocAttr]
     exact key false _ _ _ (by simp only [alZ, puZ, h7_37, h7_40, h7_44, h7_52, h7_56, Bool.and_true, Bool.and_false, Bool.true_and, Bool.false_and, Bool.or_true, Bool.true_or, Bool.false_or, Bool.or_false, Bool.and_self, Bool.or_self, Bool.not_true, Bool.not_false]) (fF)
    iterate 4 refine S0 ?_ (e := fun _ h_ => by simp only [sH, ↓sP, sA, tyS, simprocAttr, h7_37, h7_40, h7_44, h7_52, h7_56]; exact AX h_)
    refine hlex_cases 60 rfl (fun h7_60 => ?_) (fun h7_60 => ?_)
    ·
     simp only [h7_60]
     simp only [sE, ↓reduceIte, simprocAttr]
     exact key false _ _ _ (by simp only [alZ, puZ, h7_37, h7_40, h7_44, h7_52, h7_56, h7_60, Bool.and_true, Bool.and_false, Bool.true_and, Bool.false_and, Bool.or_true, Bool.true_or, Bool.false_or, Bool.or_false, Bool.and_self, Bool.or_self, Bool.not_true, Bool.not_false]) (fF)
    simp only [h7_60]
    simp only [sE, ↓reduceIte, simprocAttr]
    exact key true _ _ _ (by simp only [alZ, puZ, h7_37, h7_40, h7_44, h7_52, h7_56, h7_60, Bool.and_true, Bool.and_false, Bool.true_and, Bool.false_and, Bool.or_true, Bool.true_or, Bool.false_or, Bool.or_false, Bool.and_self, Bool.or_self, Bool.not_true, Bool.not_false]) (fF)
   iterate 7 refine S0 ?_ (e := fun _ h_ => by simp only [sH, ↓sP, sA, tyS, simprocAttr, h7_37]; exact AX h_)
   refine hlex_cases 44 rfl (fun h7_44 => ?_) (fun h7_44 => ?_)
   ·
    iterate 5 refine S0 ?_ (e := fun _ h_ => by simp only [sH, ↓sP, sA, tyS, simprocAttr, h7_37, h7_44]; exact AX h_)
    refine hlex_cases 47 rfl (fun h7_47 => ?_) (fun h7_47 => ?_)
    ·
     iterate 12 refine S0 ?_ (e := fun _ h_ => by simp only [sH, ↓sP, sA, tyS, simprocAttr, h7_37, h7_44, h7_47]; exact AX h_)
     simp only [sE, ↓reduceIte, simprocAttr]
     exact key false _ _ _ (by simp only [alZ, puZ, h7_37, h7_44, h7_47, Bool.and_true, Bool.and_false, Bool.true_and, Bool.false_and, Bool.or_true, Bool.true_or, Bool.false_or, Bool.or_false, Bool.and_self, Bool.or_self, Bool.not_true, Bool.not_false]) (fF)
    iterate 4 refine S0 ?_ (e := fun _ h_ => by simp only [sH, ↓sP, sA, tyS, simprocAttr, h7_37, h7_44, h7_47]; exact AX h_)
    refine hlex_cases 52 rfl (fun h7_52 => ?_) (fun h7_52 => ?_)
    ·
     iterate 8 refine S0 ?_ (e := fun _ h_ => by simp only [sH, ↓sP, sA, tyS, simprocAttr, h7_37, h7_44, h7_47, h7_52]; exact AX h_)
     simp only [sE, ↓reduceIte, simprocAttr]
     exact key false _ _ _ (by simp only [alZ, puZ, h7_37, h7_44, h7_47, h7_52, Bool.and_true, Bool.and_false, Bool.true_and, Bool.false_and, Bool.or_true, Bool.true_or, Bool.false_or, Bool.or_false, Bool.and_self, Bool.or_self, Bool.not_true, Bool.not_false]) (fF)
    iterate 4 refine S0 ?_ (e := fun _ h_ => by simp only [sH, ↓sP, sA, tyS, simprocAttr, h7_37, h7_44, h7_47, h7_52]; exact AX h_)
    refine hlex_cases 56 rfl (fun h7_56 => ?_) (fun h7_56 => ?_)
    ·
     iterate 4 refine S0 ?_ (e := fun _ h_ => by simp only [sH, ↓sP, sA, tyS, simprocAttr, h7_37, h7_44, h7_47, h7_52, h7_56]; exact AX h_)
     simp only [sE, ↓reduceIte, simprocAttr]
     exact key false _ _ _ (by simp only [alZ, puZ, h7_37, h7_44, h7_47, h7_52, h7_56, Bool.and_true, Bool.and_false, Bool.true_and, Bool.false_and, Bool.or_true, Bool.true_or, Bool.false_or, Bool.or_false, Bool.and_self, Bool.or_self, Bool.not_true, Bool.not_false]) (fF)
    iterate 4 refine S0 ?_ (e := fun _ h_ => by simp only [sH, ↓sP, sA, tyS, simprocAttr, h7_37, h7_44, h7_47, h7_52, h7_56]; exact AX h_)
    refine hlex_cases 60 rfl (fun h7_60 => ?_) (fun h7_60 => ?_)
    ·
     simp only [h7_60]
     simp only [sE, ↓reduceIte, simprocAttr]
     exact key false _ _ _ (by simp only [alZ, puZ, h7_37, h7_44, h7_47, h7_52, h7_56, h7_60, Bool.and_true, Bool.and_false, Bool.true_and, Bool.false_and, Bool.or_true, Bool.true_or, Bool.false_or, Bool.or_false, Bool.and_self, Bool.or_self, Bool.not_true, Bool.not_false]) (fF)
    simp only [h7_60]
    simp only [sE, ↓reduceIte, simprocAttr]
    exact key true _ _ _ (by simp only [alZ, puZ, h7_37, h7_44, h7_47, h7_52, h7_56, h7_60, Bool.and_true, Bool.and_false, Bool.true_and, Bool.false_and, Bool.or_true, Bool.true_or, Bool.false_or, Bool.or_false, Bool.and_self, Bool.or_self, Bool.not_true, Bool.not_false]) (fF)
   iterate 9 refine S0 ?_ (e := fun _ h_ => by simp only [sH, ↓sP, sA, tyS, simprocAttr, h7_37, h7_44]; exact AX h_)
   refine hlex_cases 52 rfl (fun h7_52 => ?_) (fun h7_52 => ?_)
   ·
    iterate 8 refine S0 ?_ (e := fun _ h_ => by simp only [sH, ↓sP, sA, tyS, simprocAttr, h7_37, h7_44, h7_52]; exact AX h_)
    simp only [sE, ↓reduceIte, simprocAttr]
    exact key false _ _ _ (by simp only [alZ, puZ, h7_37, h7_44, h7_52, Bool.and_true, Bool.and_false, Bool.true_and, Bool.false_and, Bool.or_true, Bool.true_or, Bool.false_or, Bool.or_false, Bool.and_self, Bool.or_self, Bool.not_true, Bool.not_false]) (fF)
   iterate 4 refine S0 ?_ (e := fun _ h_ => by simp only [sH, ↓sP, sA, tyS, simprocAttr, h7_37, h7_44, h7_52]; exact AX h_)
   refine hlex_cases 56 rfl (fun h7_56 => ?_) (fun h7_56 => ?_)
   ·
    iterate 4 refine S0 ?_ (e := fun _ h_ => by simp only [sH, ↓sP, sA, tyS, simprocAttr, h7_37, h7_44, h7_52, h7_56]; exact AX h_)
    simp only [sE, ↓reduceIte, simprocAttr]
    exact key false _ _ _ (by simp only [alZ, puZ, h7_37, h7_44, h7_52, h7_56, Bool.and_true, Bool.and_false, Bool.true_and, Bool.false_and, Bool.or_true, Bool.true_or, Bool.false_or, Bool.or_false, Bool.and_self, Bool.or_self, Bool.not_true, Bool.not_false]) (fF)
   iterate 4 refine S0 ?_ (e := fun _ h_ => by simp only [sH, ↓sP, sA, tyS, simprocAttr, h7_37, h7_44, h7_52, h7_56]; exact AX h_)
   refine hlex_cases 60 rfl (fun h7_60 => ?_) (fun h7_60 => ?_)
   ·
    simp only [h7_60]
    simp only [sE, ↓reduceIte, simprocAttr]
    exact key false _ _ _ (by simp only [alZ, puZ, h7_37, h7_44, h7_52, h7_56, h7_60, Bool.and_true, Bool.and_false, Bool.true_and, Bool.false_and, Bool.or_true, Bool.true_or, Bool.false_or, Bool.or_false, Bool.and_self, Bool.or_self, Bool.not_true, Bool.not_false]) (fF)
   simp only [h7_60]
   simp only [sE, ↓reduceIte, simprocAttr]
   exact key true _ _ _ (by simp only [alZ, puZ, h7_37, h7_44, h7_52, h7_56, h7_60, Bool.and_true, Bool.and_false, Bool.true_and, Bool.false_and, Bool.or_true, Bool.true_or, Bool.false_or, Bool.or_false, Bool.and_self, Bool.or_self, Bool.not_true, Bool.not_false]) (fF)
  refine hw_exit ?_
  simp only [↓sP, sA, tyS, simprocAttr]
  clear hK K
  refine AX (hK _ _ _ ?_)
  clear hK K
  refine R0 ?_
  refine hw_ret ?_
  simp only [hpost, Tryz.results39, hresL, hres1, tupOf, ↓sP, sA, tyS, simprocAttr]
  have hei : i = s.length := by simp at hb; omega
  exact hret_pure [] (.bool true) rfl (by rw [nameB_ref hbad fun j h => h0 j (by omega) h])
 refine hw_region (by kernel_rfl) ?_
 simp only [sR, simprocAttr]
 iterate 3 refine S0 ?_ (e := fun _ h_ => by simp only [sH, ↓sP, sA, tyS, simprocAttr, ne_nil]; exact AX h_)
 refine hlex_cases 6 rfl (fun h1_6 => ?_) (fun h1_6 => ?_)
 ·
  iterate 19 refine S0 ?_ (e := fun _ h_ => by simp only [sH, ↓sP, sA, tyS, simprocAttr, ne_nil, h1_6]; exact AX h_)
  simp only [sE, ↓reduceIte, simprocAttr]
  exact key true _ _ _ (by simp only [badHead, gb, h1_6, Bool.and_true, Bool.and_false, Bool.true_and, Bool.false_and, Bool.or_true, Bool.true_or, Bool.false_or, Bool.or_false, Bool.and_self, Bool.or_self]) (fF)
 iterate 5 refine S0 ?_ (e := fun _ h_ => by simp only [sH, ↓sP, sA, tyS, simprocAttr, ne_nil, h1_6]; exact AX h_)
 refine hlex_cases 10 rfl (fun h1_10 => ?_) (fun h1_10 => ?_)
 ·
  iterate 14 refine S0 ?_ (e := fun _ h_ => by simp only [sH, ↓sP, sA, tyS, simprocAttr, ne_nil, h1_6, h1_10]; exact AX h_)
  simp only [sE, ↓reduceIte, simprocAttr]
  exact key true _ _ _ (by simp only [badHead, gb, h1_6, h1_10, Bool.and_true, Bool.and_false, Bool.true_and, Bool.false_and, Bool.or_true, Bool.true_or, Bool.false_or, Bool.or_false, Bool.and_self, Bool.or_self]) (fF)
 iterate 5 refine S0 ?_ (e := fun _ h_ => by simp only [sH, ↓sP, sA, tyS, simprocAttr, ne_nil, h1_6, h1_10]; exact AX h_)
 refine hlex_cases 15 rfl (fun h1_15 => ?_) (fun h1_15 => ?_)
 ·
  iterate 9 refine S0 ?_ (e := fun _ h_ => by simp only [sH, ↓sP, sA, tyS, simprocAttr, ne_nil, h1_6, h1_10, h1_15]; exact AX h_)
  simp only [sE, ↓reduceIte, simprocAttr]
  exact key true _ _ _ (by simp only [badHead, gb, h1_6, h1_10, h1_15, Bool.and_true, Bool.and_false, Bool.true_and, Bool.false_and, Bool.or_true, Bool.true_or, Bool.false_or, Bool.or_false, Bool.and_self, Bool.or_self]) (fF)
 iterate 5 refine S0 ?_ (e := fun _ h_ => by simp only [sH, ↓sP, sA, tyS, simprocAttr, ne_nil, h1_6, h1_10, h1_15]; exact AX h_)
 refine hlex_cases 20 rfl (fun h1_20 => ?_) (fun h1_20 => ?_)
 ·
  iterate 4 refine S0 ?_ (e := fun _ h_ => by simp only [sH, ↓sP, sA, tyS, simprocAttr, ne_nil, h1_6, h1_10, h1_15, h1_20]; exact AX h_)
  simp only [sE, ↓reduceIte, simprocAttr]
  exact key true _ _ _ (by simp only [badHead, gb, h1_6, h1_10, h1_15, h1_20, Bool.and_true, Bool.and_false, Bool.true_and, Bool.false_and, Bool.or_true, Bool.true_or, Bool.false_or, Bool.or_false, Bool.and_self, Bool.or_self]) (fF)
 iterate 4 refine S0 ?_ (e := fun _ h_ => by simp only [sH, ↓sP, sA, tyS, simprocAttr, ne_nil, h1_6, h1_10, h1_15, h1_20]; exact AX h_)
 refine hlex_cases 25 rfl (fun h1_25 => ?_) (fun h1_25 => ?_)
 ·
  simp only [h1_25]
  simp only [sE, ↓reduceIte, simprocAttr]
  exact key true _ _ _ (by simp only [badHead, gb, h1_6, h1_10, h1_15, h1_20, h1_25, Bool.and_true, Bool.and_false, Bool.true_and, Bool.false_and, Bool.or_true, Bool.true_or, Bool.false_or, Bool.or_false, Bool.and_self, Bool.or_self]) (fF)
 simp only [h1_25]
 simp only [sE, ↓reduceIte, simprocAttr]
 exact key false _ _ _ (by simp only [badHead, gb, h1_6, h1_10, h1_15, h1_20, h1_25, Bool.and_true, Bool.and_false, Bool.true_and, Bool.false_and, Bool.or_true, Bool.true_or, Bool.false_or, Bool.or_false, Bool.and_self, Bool.or_self]) (fF)


theorem rnames_ok (l : List Word) (hl : l.length < 2 ^ 40) (hw : ∀ w ∈ l, w.length < 2 ^ 63) : HPure Tryz.prog 86 [.slc (l.map .str)] (fun v => v = .bool (namesB l)) := by
 refine hfn_walk Tryz.func86 rfl (by kernel_rfl) (locOk_nil _) (Nat.le_of_ble_eq_true rfl) ?_
 refine R0 ?_
 refine hw_seq fun K hK => ?_
 refine R0 ?_
 refine hw_block ?_
 refine hw_loop (α := {i : Nat // i ≤ l.length ∧ ∀ w ∈ l.take i, nameB w = true}) (fun i => (fin [(0, .c (.slc (l.map .str))), (3, .c (.int .i64 i.1))], fob [])) 100 (fun i => l.length - i.1) ⟨0, by omega, by simp⟩ (fF) ?_
 rintro ⟨i, hi, h0⟩
 refine hw_seq fun K hK => ?_
 refine hw_seq fun K hK => Rg ?_
 iterate 4 refine S0 ?_
 refine T2 (hK _ _ _ ?_)
 clear hK K
 refine hw_cond (b := decide ((i : Int) < l.length)) rfl (fun hb => ?_) (fun hb => ?_)
 ·
  have hlt : i < l.length := by simpa using hb
  refine hw_skip ?_
  refine T0 (hK _ _ _ ?_)
  clear hK K
  refine hw_seq fun K hK => ?_
  refine hw_block ?_
  refine hw_seq fun K hK => Rg ?_
  iterate 4 refine S0 ?_ (e := fun _ h_ => by simp only [sH, ↓sP, sA, tyS, simprocAttr, Int.natCast_nonneg, Int.ofNat_lt, hlt, nth_map hlt]; exact AX h_)
  refine hlex_step (g := none) rfl rfl fun K' hK' => ?_
  simp only [sH, ↓sP, sA, tyS, simprocAttr, Int.natCast_nonneg, Int.ofNat_lt, hlt, nth_map hlt]
  refine call_pure (args := [_]) (rname_ok l[i] (hw _ (List.getElem_mem hlt))) ⟨rfl, rfl, rfl, rfl⟩ ?_
  rintro u rfl
  refine AX (hK' _ _ ?_)
  clear hK' K'
  refine S0 ?_ (e := fun _ h_ => by simp only [sH, ↓sP, sA, tyS, simprocAttr, Int.natCast_nonneg, Int.ofNat_lt, hlt, nth_map hlt]; exact AX h_)
  refine T2 (hK _ _ _ ?_)
  clear hK K
  refine hw_cond (b := !nameB l[i]) rfl (fun hb => ?_) (fun hb => ?_)
  ·
   refine R0 ?_
   refine hw_ret ?_
   simp only [hpost, Tryz.results86, hresL, hres1, tupOf, ↓sP, sA, tyS, simprocAttr]
   exact hret_pure [] (.bool false) rfl (by rw [namesB_eq, bad_one hlt (by simpa using hb)])
  refine hw_skip ?_
  refine T0 (hK _ _ _ ?_)
  clear hK K
  refine hw_region (by kernel_rfl) ?_
  simp only [↓sP, sA, tyS, simprocAttr, i64s i]
  refine ⟨⟨i + 1, hlt, fun w hw' => ?_⟩, fF, ?_⟩
  ·
   rw [List.take_succ_eq_append_getElem hlt, List.mem_append, List.mem_singleton] at hw'
   rcases hw' with hw' | rfl
   ·
    exact h0 w hw'
   simpa using hb
  show l.length - (i + 1) < l.length - i
  omega
 refine hw_exit ?_
 simp only [↓sP, sA, tyS, simprocAttr]
 clear hK K
 refine AX (hK _ _ _ ?_)
 clear hK K
 refine hw_seq fun K hK => Rg ?_
 refine S0 ?_
 refine hlex_step (g := none) rfl rfl fun K' hK' => ?_
 simp only [sH, ↓sP, sA, tyS, simprocAttr]
 refine call_pure (args := [_]) (ascending_ok l (by omega)) ⟨rfl, rfl, rfl, rfl⟩ ?_
 rintro u rfl
 refine AX (hK' _ _ ?_)
 clear hK' K'
 refine S0 ?_
 refine T2 (hK _ _ _ ?_)
 clear hK K
 refine hw_ret ?_
 simp only [hpost, Tryz.results86, hresL, hres1, tupOf, ↓sP, sA, tyS, simprocAttr]
 have hei : i = l.length := by simp at hb; omega
 subst hei
 refine hret_pure [] (.bool _) rfl ?_
 have : l.all nameB = true := by rw [List.all_eq_true]; simpa using h0
 unfold namesB; rw [this, Bool.true_and]


theorem names_ok (l : List Word) (hl : l.length < 2 ^ 40) (hw : ∀ w ∈ l, w.length < 2 ^ 63) : HPure Tryz.prog 79 [.slc (l.map .str)] (fun v => v = .bool (namesB l)) := by
 refine hfn_walk Tryz.func79 rfl (by kernel_rfl) (locOk_nil _) (Nat.le_of_ble_eq_true rfl) ?_
 refine R0 ?_
 refine hw_seq fun K hK => ?_
 refine R0 ?_
 refine hw_block ?_
 refine hw_loop (α := {i : Nat // i ≤ l.length ∧ GoodTo nameB slt l i}) (fun i => (fin [(0, .c (.slc (l.map .str))), (5, .c (.slc (l.map .str))), (6, .c (.int .i64 l.length)), (7, .c (.int .i64 i.1))], fob [])) 100 (fun i => l.length - i.1) ⟨0, by omega, GoodTo.zero⟩ (fF) ?_
 rintro ⟨i, hi, h0⟩
 refine R0 ?_
 refine hw_seq fun K hK => ?_
 refine hw_cond (b := decide ((i : Int) < l.length)) rfl (fun hb => ?_) (fun hb => ?_)
 ·
  have hlt : i < l.length := by simpa using hb
  have hi1 : i - 1 < l.length := by omega
  have hm : decide ((0 : Int) < (i : Int)) = true → IntKind.i64.wrap ((i : Int) - 1) = ((i - 1 : Nat) : Int) := fun h => by
   have : 0 < i := by simpa using h
   rw [IntWalk.i64_in _ (by omega)]; omega
  refine hw_skip ?_
  refine T0 (hK _ _ _ ?_)
  clear hK K
  refine hw_seq fun K hK => ?_
  refine hw_block ?_
  refine hw_seq fun K hK => Rg ?_
  iterate 5 refine S0 ?_ (e := fun _ h_ => by simp only [sH, ↓sP, sA, tyS, simprocAttr, Int.natCast_nonneg, Int.ofNat_lt, hlt, nth_map hlt]; exact AX h_)
  refine T2 (hK _ _ _ ?_)
  clear hK K
  refine hw_seq fun K hK => Rg ?_
  refine S0 ?_ (e := fun _ h_ => by simp only [sH, ↓sP, sA, tyS, simprocAttr, hm, Int.natCast_nonneg, Int.ofNat_lt, hi1, nth_map hi1]; exact AX h_)
  refine hlex_step (g := none) rfl rfl fun K' hK' => ?_
  simp only [sH, ↓sP, sA, tyS, simprocAttr, hm, Int.natCast_nonneg, Int.ofNat_lt, hi1, nth_map hi1]
  refine call_pure (args := [_]) (name_ok l[i] (hw _ (List.getElem_mem hlt))) ⟨rfl, rfl, rfl, rfl⟩ ?_
  rintro u rfl
  refine AX (hK' _ _ ?_)
  clear hK' K'
  iterate 2 refine S0 ?_ (e := fun _ h_ => by simp only [sH, ↓sP, sA, tyS, simprocAttr, hm, Int.natCast_nonneg, Int.ofNat_lt, hi1, nth_map hi1]; exact AX h_)
  refine hlex_cases 13 rfl (fun h4_13 => ?_) (fun h4_13 => ?_)
  ·
   iterate 3 refine S0 ?_ (e := fun _ h_ => by simp only [sH, ↓sP, sA, tyS, simprocAttr, hm, Int.natCast_nonneg, Int.ofNat_lt, hi1, nth_map hi1, h4_13]; exact AX h_)
   refine hlex_cases 17 rfl (fun h4_17 => ?_) (fun h4_17 => ?_)
   ·
    iterate 9 refine S0 ?_ (e := fun _ h_ => by simp only [sH, ↓sP, sA, tyS, simprocAttr, hm, Int.natCast_nonneg, Int.ofNat_lt, hi1, nth_map hi1, h4_13, h4_17]; exact AX h_)
    refine hlex_cases 25 rfl (fun h4_25 => ?_) (fun h4_25 => ?_)
    ·
     simp only [h4_25]
     refine T2 (hK _ _ _ ?_)
     clear hK K
     refine hw_cond (b := true) rfl (fun hb => ?_) (fun hb => ?_)
     ·
      refine R0 ?_
      refine hw_ret ?_
      simp only [hpost, Tryz.results79, hresL, hres1, tupOf, ↓sP, sA, tyS, simprocAttr]
      obtain ⟨j, rfl⟩ : ∃ j, i = j + 1 := ⟨i - 1, by simp at h4_17; omega⟩
      exact hret_pure [] (.bool false) rfl (by rw [namesB_eq, bad_two (i := j) hlt (by simpa using h4_25)])
     cases hb
    simp only [h4_25]
    refine T2 (hK _ _ _ ?_)
    clear hK K
    refine hw_cond (b := false) rfl (fun hb => ?_) (fun hb => ?_)
    ·
     cases hb
    refine hw_skip ?_
    refine T0 (hK _ _ _ ?_)
    clear hK K
    refine hw_region (by kernel_rfl) ?_
    simp only [↓sP, sA, tyS, simprocAttr, i64s i]
    obtain ⟨j, rfl⟩ : ∃ j, i = j + 1 := ⟨i - 1, by simp at h4_17; omega⟩
    refine ⟨⟨j + 1 + 1, hlt, h0.succ hlt h4_13 (by simpa using h4_25)⟩, fF, ?_⟩
    show l.length - (j + 1 + 1) < l.length - (j + 1)
    omega
   iterate 9 refine S0 ?_ (e := fun _ h_ => by simp only [sH, ↓sP, sA, tyS, simprocAttr, hm, Int.natCast_nonneg, Int.ofNat_lt, hi1, nth_map hi1, h4_13, h4_17]; exact AX h_)
   refine T2 (hK _ _ _ ?_)
   clear hK K
   refine hw_cond (b := false) rfl (fun hb => ?_) (fun hb => ?_)
   ·
    cases hb
   refine hw_skip ?_
   refine T0 (hK _ _ _ ?_)
   clear hK K
   refine hw_region (by kernel_rfl) ?_
   simp only [↓sP, sA, tyS, simprocAttr, i64s i]
   obtain rfl : i = 0 := by simp at h4_17; omega
   refine ⟨⟨1, hlt, GoodTo.one hlt h4_13⟩, fF, ?_⟩
   show l.length - 1 < l.length - 0
   omega
  iterate 12 refine S0 ?_ (e := fun _ h_ => by simp only [sH, ↓sP, sA, tyS, simprocAttr, hm, Int.natCast_nonneg, Int.ofNat_lt, hi1, nth_map hi1, h4_13]; exact AX h_)
  refine T2 (hK _ _ _ ?_)
  clear hK K
  refine hw_cond (b := true) rfl (fun hb => ?_) (fun hb => ?_)
  ·
   refine R0 ?_
   refine hw_ret ?_
   simp only [hpost, Tryz.results79, hresL, hres1, tupOf, ↓sP, sA, tyS, simprocAttr]
   exact hret_pure [] (.bool false) rfl (by rw [namesB_eq, bad_one hlt h4_13])
  cases hb
 refine hw_exit ?_
 simp only [↓sP, sA, tyS, simprocAttr]
 clear hK K
 refine AX (hK _ _ _ ?_)
 clear hK K
 refine R0 ?_
 refine hw_ret ?_
 simp only [hpost, Tryz.results79, hresL, hres1, tupOf, ↓sP, sA, tyS, simprocAttr]
 have hei : i = l.length := by simp at hb; omega
 subst hei
 exact hret_pure [] (.bool true) rfl (by rw [namesB_eq, h0.all])

end Go.Proofs.YtenbfeemmpjdhaaGreatDoor
