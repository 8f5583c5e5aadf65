/- Part of a proof: walks of functions of the program, by contracts, and the rules they use. By an AI agent. -/
import Derived.Test.YtenbfeemmpjdhaaGreatDoorPl11u
import Derived.Test.YtenbfeemmpjdhaaGreatDoorHyT3
import Derived.Test.YtenbfeemmpjdhaaGreatDoorHlZb
import Derived.Shelf.LaysM
import Derived.Shelf.Strconv.Itoa4
import Derived.Test.YtenbfeemmpjdhaaGreatDoorPlShb
set_option linter.unusedSimpArgs false
set_option linter.unusedVariables false
set_option linter.defProp false
namespace Go.Proofs.YtenbfeemmpjdhaaGreatDoor
open Go Go.Hl Go.Pl Go.RowKit Go.Shelf
set_option maxRecDepth 100000
set_option linter.unusedVariables false
set_option maxHeartbeats 4000000 in
theorem hex_walk (bs : List UInt8) (h0 : 0 < bs.length) (hl : bs.length < 2 ^ 40) (b off c : Nat) (w : World) (hc : ∀ j, j < bs.length → w.cell? ⟨b, off + j, none⟩ = some (.int .u8 (bs.getD j 0).toNat)) :
    Calls Tryz.prog 134 #[.slice (some ⟨b, off, none⟩) bs.length c] w fun e w' => e = .returned (.string ⟨(hexL bs).toArray⟩) ∧ Below w.heap.size w w' := by
  have hb : b < w.heap.size := by
    rcases Nat.lt_or_ge b w.heap.size with h' | h'
    · exact h'
    · have := hc 0 h0
      simp [World.cell?, Array.getElem?_eq_none h'] at this
  go_enter Tryz.func134, Tryz.ntmps134
  go_wp2
  go_loopw [8] (fun vi wr => ∃ (i : Nat), vi = .int .i64 i ∧ i ≤ bs.length ∧ Lib.IsBuilderF 189 5 w.heap.size w.heap.size (Lib.byteCells (hexL (bs.take i))) wr ∧ Below w.heap.size w wr) (fun vi _ => bs.length - (intOf vi).toNat)
  case atStart =>
    exact ⟨0, rfl, by omega, (Lib.IsBuilderF.of (Lib.fresh_isBuilder 189 5 w)), (Below.refl _ w).alloc (Nat.le_refl _) _⟩
  case round =>
    obtain ⟨i, rfl, hi, hI, hB⟩ := hrel
    have hsz : w.heap.size ≤ wr.heap.size := hB.size
    by_cases hlt : i < bs.length
    · have hcell : wr.cell? ⟨b, off + i, none⟩ = some (.int .u8 (bs[i].toNat)) := by
        have := hc i hlt
        simp only [World.cell?, hB.block b hb] at this ⊢
        simpa [hlt] using this
      have hx0 := bs[i].toNat_lt
      have hx1 : 0 ≤ (bs[i].toNat : Int) / 16 ∧ (bs[i].toNat : Int) / 16 < 16 := by omega
      have hx2 : 0 ≤ (bs[i].toNat : Int) % 16 ∧ (bs[i].toNat : Int) % 16 < 16 := by omega
      have hlen : (Lib.byteCells (hexL (bs.take i))).length + 1 ≤ 140737488355328 := by rw [Lib.byteCells_length, hexL_len, List.length_take]; omega
      go_wp2_with (go_at_call 165; refine (wb_k w.heap.size w.heap.size _ _ _ hI hlen hsz).mono ?_)
      rintro e W1 ⟨rfl, h1, b1, k1⟩
      have hsz1 : w.heap.size ≤ W1.heap.size := by have := b1.size; omega
      have e1 : ∀ (l : List UInt8) (x : UInt8), Lib.byteCells l ++ [Value.int .u8 x.toNat] = Lib.byteCells (l ++ [x]) := fun l x => by rw [Lib.byteCells_append]; rfl
      rw [e1] at h1
      have hlen1 : ∀ x : UInt8, (Lib.byteCells (hexL (bs.take i) ++ [x])).length + 1 ≤ 140737488355328 := fun x => by rw [Lib.byteCells_length, List.length_append, hexL_len, List.length_take]; simp; omega
      go_wp2_with (go_at_call 165; refine (wb_k w.heap.size w.heap.size _ _ _ (Or.inr h1) (hlen1 _) hsz1).mono ?_)
      rintro e W2 ⟨rfl, h2, b2, k2⟩
      rw [e1] at h2
      go_wp2
      go_roundw
      case rel =>
        refine ⟨i + 1, by simp, hlt, Or.inr ?_, (hB.trans b1).trans b2⟩
        rw [hexL_take hlt, hexB, hexLo, hexLo]
        have g1 : ∀ (n : Nat) (h : n < 16), (([48, 49, 50, 51, 52, 53, 54, 55, 56, 57, 97, 98, 99, 100, 101, 102] : List UInt8).getD n 0) = (⟨#[48, 49, 50, 51, 52, 53, 54, 55, 56, 57, 97, 98, 99, 100, 101, 102]⟩ : ByteArray)[n]'h := by decide
        rw [g1 _ (by omega), g1 _ (by omega)]
        simpa using h2
      case measure =>
        simp [intOf]
        omega
    · go_wp2_with (go_at_call 166; refine (Any.Builder_String_any_k bs166 bsx166 w.heap.size w.heap.size (hexL (bs.take i)) _ hI (by omega)).mono ?_)
      rintro e W1 ⟨rfl, _, b1, _⟩
      go_wp2
      go_ret
      have : i = bs.length := by omega
      subst this
      rw [List.take_length]
      exact ⟨rfl, hB.trans b1⟩

theorem hex_ok (bs : List UInt8) (h0 : 0 < bs.length) (hl : bs.length < 2 ^ 40) : HPure Tryz.prog 134 [.slc (bs.map u8)] (fun v => v = .str (hexL bs)) := by
  have hok : callOk Tryz.prog 134 = true := by kernel_rfl
  refine ⟨fnOk_of hok, fun w ρ X xs hS hA hX => Does.of hok ?_⟩
  simp only [List.map_cons, List.map_nil, repHV_cons, RepHV] at hA
  obtain ⟨x, zs, rfl, hx, rfl⟩ := hA
  have h1 := RepV.single hx rfl
  simp only [RepC, List.cons.injEq, and_true] at h1
  obtain ⟨a, cap, ys, sz, rfl, h2, _, h4, h5, h6⟩ := h1
  have hys : ys = bs.map fun b => Value.int .u8 b.toNat := by
    have key : ∀ (bs : List UInt8) (xs : List Value), RepL w (Owned ρ X) (bs.map u8) xs → xs = bs.map fun b => Value.int .u8 b.toNat := by
      intro bs
      induction bs with
      | nil => intro xs h; simpa [RepL] using h
      | cons b bs ih =>
        intro xs h
        simp only [List.map_cons, RepL, u8, RepC] at h
        obtain ⟨c1, c2, rfl, rfl, h7⟩ := h
        rw [ih c2 h7]
        rfl
    exact key bs ys h2
  subst hys
  simp only [List.length_map]
  cases a with
  | none =>
    have hz := h5 rfl
    simp only [List.length_map] at h4
    omega
  | some ad =>
    have hr := (h6 ad rfl).1
    have hspot : ad.spot = none := by
      have := hr 0 (Value.int .u8 bs[0].toNat) (by simp [h0])
      simp only [World.cell?] at this
      split at this
      · split at this
        · cases this
        · rename_i hh; simpa [Addr.add] using hh
      · cases this
    obtain ⟨b, off, spot⟩ := ad
    simp only at hspot
    subst hspot
    refine (hex_walk bs h0 hl b off cap w fun j hj => ?_).mono ?_
    · have := hr j (Value.int .u8 bs[j].toNat) (by simp [hj])
      have e : (⟨b, off, none⟩ : Addr).add j = ⟨b, off + j, none⟩ := by
        by_cases h0 : j = 0
        · subst h0; rfl
        · simp [Addr.add, h0]
      rw [e] at this
      rw [this]
      simp [hj]
    · rintro ex w' ⟨rfl, hb⟩
      have hs2 : Stay2 w (Hl.Own ρ) w' (Hl.Own ρ) := ⟨fun g hg _ => hb.block g hg, fun _ h => .inl h, hb.size, hb.os, hb.tape, hb.output⟩
      refine ⟨_, _, ρ, _, rfl, ⟨_, rfl, rfl, rfl⟩, ⟨?_, ⟨fun i o ho => by simp [none0] at ho, hS.none, hS.apart, hS.xb⟩, by simp [HV.men], fun i o ho => by simp [none0] at ho, hs2, Moves.refl _ _⟩⟩
      refine repV_single ?_ rfl rfl
      simp [RepC]
end Go.Proofs.YtenbfeemmpjdhaaGreatDoor

namespace Go.Proofs.YtenbfeemmpjdhaaGreatDoor
open Go Go.Hl Go.Pl
set_option maxRecDepth 10000
set_option maxHeartbeats 2000000
set_option linter.unusedSimpArgs false
set_option linter.unusedVariables false


theorem fmth_ok (h : Half) : HPure Tryz.prog 109 [hf h] (fun v => v = .str (fmtH h)) := by
 refine hfn_walk Tryz.func109 rfl (by kernel_rfl) (locOk_nil _) (Nat.le_of_ble_eq_true rfl) ?_
 refine R0 ?_
 refine hw_freeze 1 0 rfl rfl ?_
 refine hw_seq fun K hK => hw_region (by kernel_rfl) ?_
 simp only [sR, simprocAttr]
 refine S0 ?_ (e := fun K_ h_ => by simp only [sH, ↓sP, sA, tyS, simprocAttr, hf_us, cells_u8, h.2, denilL_u8, List.drop_zero, hf_take]; exact AX h_)
 refine hlex_step (g := none) rfl rfl fun K' hK' => ?_
 simp only [sH, ↓sP, sA, tyS, simprocAttr, hf_us, cells_u8, h.2, denilL_u8, List.drop_zero, hf_take]
 refine call_pure (args := [_]) (hex_ok h.1 (by rw [h.2]; omega) (by rw [h.2]; omega)) ⟨rfl, rfl, rfl, rfl⟩ ?_
 rintro u rfl
 refine AX (hK' _ _ ?_)
 clear hK' K'
 refine S0 ?_ (e := fun K_ h_ => by simp only [sH, ↓sP, sA, tyS, simprocAttr, hf_us, cells_u8, h.2, denilL_u8, List.drop_zero, hf_take]; exact AX h_)
 refine T2 (hK _ _ _ ?_)
 clear hK K
 refine hw_ret ?_
 simp only [hpost, Tryz.results109, hresL, hres1, tupOf, ↓sP, sA, tyS, simprocAttr]
 exact hret_pure [] (.str _) rfl rfl


theorem fmtd_ok (d : Dig) : HPure Tryz.prog 110 [dg d] (fun v => v = .str (fmtD d)) := by
 refine hfn_walk Tryz.func110 rfl (by kernel_rfl) (locOk_nil _) (Nat.le_of_ble_eq_true rfl) ?_
 refine R0 ?_
 refine hw_freeze 1 0 rfl rfl ?_
 have hle : 7 + (hexL d.1).length ≤ 9223372036854775807 := by rw [hexL_len, d.2]; omega
 refine hw_seq fun K hK => hw_region (by kernel_rfl) ?_
 simp only [sR, simprocAttr]
 refine S0 ?_ (e := fun K_ h_ => by simp only [sH, ↓sP, sA, tyS, simprocAttr, dg_us, cells_u8, d.2, denilL_u8, List.drop_zero, dg_take, hle]; exact AX h_)
 refine hlex_step (g := none) rfl rfl fun K' hK' => ?_
 simp only [sH, ↓sP, sA, tyS, simprocAttr, dg_us, cells_u8, d.2, denilL_u8, List.drop_zero, dg_take, hle]
 refine call_pure (args := [_]) (hex_ok d.1 (by rw [d.2]; omega) (by rw [d.2]; omega)) ⟨rfl, rfl, rfl, rfl⟩ ?_
 rintro u rfl
 refine AX (hK' _ _ ?_)
 clear hK' K'
 iterate 2 refine S0 ?_ (e := fun K_ h_ => by simp only [sH, ↓sP, sA, tyS, simprocAttr, dg_us, cells_u8, d.2, denilL_u8, List.drop_zero, dg_take, hle]; exact AX h_)
 refine T2 (hK _ _ _ ?_)
 clear hK K
 refine hw_ret ?_
 simp only [hpost, Tryz.results110, hresL, hres1, tupOf, ↓sP, sA, tyS, simprocAttr]
 exact hret_pure [] (.str _) rfl rfl


theorem hex1_ok (bs : List UInt8) (hl : bs.length < 2 ^ 40) : HPure Tryz.prog 75 [.slc (bs.map u8)] (fun v => v = .str (hexL bs)) := by
 refine hfn_walk Tryz.func75 rfl (by kernel_rfl) (locOk_nil _) (Nat.le_of_ble_eq_true rfl) ?_
 refine R0 ?_
 refine R0 ?_
 refine R0 ?_
 refine hw_seq fun K hK => ?_
 refine R0 ?_
 refine hw_block ?_
 refine hw_own 4 0 5 1 rfl rfl rfl rfl ?_
 refine hw_loop (α := {i : Nat // i ≤ bs.length}) (fun i => (fin [(0, .c (.slc (bs.map u8))), (3, .c (.str [48, 49, 50, 51, 52, 53, 54, 55, 56, 57, 97, 98, 99, 100, 101, 102])), (4, .own 16 (hexL (bs.take i.1)).length), (5, .c (.int .i64 i.1))], fob [(16, .row 5 1 ((hexL (bs.take i.1)).map u8))])) 100 (fun i => bs.length - i.1) ⟨0, by omega⟩ (fF) ?_
 rintro ⟨i, hi⟩
 have hle := hexL_len (bs.take i)
 rw [List.length_take] at hle
 refine hw_seq fun K hK => ?_
 refine hw_seq fun K hK => hw_region (by kernel_rfl) ?_
 simp only [sR, simprocAttr]
 iterate 4 refine S0 ?_
 refine T2 (hK _ _ _ ?_)
 clear hK K
 refine hw_cond (b := decide ((i : Int) < bs.length)) rfl (fun hb => ?_) (fun hb => ?_)
 ·
  have hlt : i < bs.length := by simpa using hb
  have hs := hexL_take hlt
  have h16 : ((bs[i].toNat / 16 : Nat) : Int) < 16 := by have := bs[i].toNat_lt; omega
  have h15 : ((bs[i].toNat % 16 : Nat) : Int) < 16 := by omega
  refine hw_skip ?_
  refine T0 (hK _ _ _ ?_)
  clear hK K
  refine hw_seq fun K hK => ?_
  refine hw_block ?_
  refine hw_draw2 mixed [(0, [], []), (1, [], []), (2, [], []), (3, [], []), (4, [], []), (5, [], []), (6, [], []), (7, [], []), (8, [], []), (9, [], []), (10, [], []), (11, [], []), (12, [], []), (13, [], []), (14, [], []), (15, [], []), (16, [], []), (17, [], [])] [0, 0, 0, 0, 12, 28, 60, 126, 0, 0, 0, 1536, 3584, 7680, 16128, 32766, 65535, 131071] (by kernel_rfl) (by kernel_rfl) (by kernel_rfl) (by kernel_rfl) rfl (by kernel_rfl) ?_
  iterate 18 refine W0 ?_ (e := fun K_ h_ => by simp only [sH, ↓sP, sA, tyS, simprocAttr, Int.natCast_nonneg, Int.ofNat_lt, hlt, nth_map hlt, u8, List.length_append, List.length_map, shr4, and15, h16, h15]; exact AX h_)
  refine T2 (hK _ _ _ ?_)
  clear hK K
  refine hw_region (by kernel_rfl) ?_
  simp only [↓sP, sA, tyS, simprocAttr, i64s i]
  refine ⟨⟨i + 1, hlt⟩, fits_fin (by omega) ?_ ?_, ?_⟩
  ·
   rw [hs, hexB]
   simp [FinOk, upd_at, fin_at, HV.men]
  ·
   rw [hs, hexB, List.map_append]
   exact ⟨rfl, by omega, trivial, trivial⟩
  show bs.length - (i + 1) < bs.length - i
  omega
 refine hw_exit ?_
 simp only [↓sP, sA, tyS, simprocAttr]
 clear hK K
 refine AX (hK _ _ _ ?_)
 clear hK K
 refine hw_close [16] (hw_fits (fr2 := fin [(4, .c (.slc ((hexL (bs.take i)).map u8)))]) (ob2 := fob []) (nx2 := 200) (fits_fin (by omega) (by simp [FinOk, clF_at, fin_at, finA_at, upd_at, fob_at, HV.close, HV.closeL, CV.denil, CV.denilL, denilL_u8, HV.men, HV.menL, HV.norm, HV.toC, HV.toCL]) (by simp [FobOk, clO_at, fob_at, upd_at, none0_at, gone, HO.close, HV.close, HV.closeL, HO.men, HV.men, HV.menL, HV.norm, HV.toC, HV.toCL])) ?_)
 refine R0 ?_ (e := fun K_ h_ => by simp only [↓sP, sA, tyS, simprocAttr, bytesC_u8]; exact AX h_)
 refine hw_ret ?_
 simp only [hpost, Tryz.results75, hresL, hres1, tupOf, ↓sP, sA, tyS, simprocAttr]
 have hei : i = bs.length := by simp at hb; omega
 subst hei
 exact hret_pure [] (.str (hexL bs)) (by rw [List.take_length]; rfl) rfl


theorem fmth1_ok (h : Half) : HPure Tryz.prog 28 [hf h] (fun v => v = .str (fmtH h)) := by
 refine hfn_walk Tryz.func28 rfl (by kernel_rfl) (locOk_nil _) (Nat.le_of_ble_eq_true rfl) ?_
 refine R0 ?_
 refine R0 ?_
 refine hw_seq fun K hK => ?_
 refine R0 ?_
 refine hw_block ?_
 refine hw_own 3 0 5 1 rfl rfl rfl rfl ?_
 refine hw_loop (α := {i : Nat // i ≤ 16}) (fun i => (fin [(1, .ptr 0 0), (3, .own 16 (h.1.take i.1).length), (4, .c (.int .i64 i.1))], fob [(0, .box 66 (.c (hf h))), (16, .row 5 1 ((h.1.take i.1).map u8))])) 100 (fun i => 16 - i.1) ⟨0, by omega⟩ (fF) ?_
 rintro ⟨i, hi⟩
 have hhl : h.1.length = 16 := h.2
 have hti : (h.1.take i).length = i := by simp; omega
 refine hw_seq fun K hK => ?_
 refine R0 ?_
 refine hw_cond (b := decide ((i : Int) < 16)) rfl (fun hb => ?_) (fun hb => ?_)
 ·
  have hlt : i < 16 := by simp at hb; omega
  have hlt' : (i : Int) < 16 := by omega
  have hlh : i < h.1.length := by rw [h.2]; exact hlt
  refine hw_skip ?_
  refine T0 (hK _ _ _ ?_)
  clear hK K
  refine hw_seq fun K hK => ?_
  refine hw_block ?_
  refine hw_region (by kernel_rfl) ?_
  simp only [sR, simprocAttr]
  iterate 7 refine S0 ?_ (e := fun K_ h_ => by simp only [sH, ↓sP, sA, tyS, simprocAttr, Int.natCast_nonneg, hlt', hf_get hlt, Nat.mul_one, u8, hti, List.length_append, List.length_map]; exact AX h_)
  refine T2 (hK _ _ _ ?_)
  clear hK K
  refine hw_region (by kernel_rfl) ?_
  simp only [↓sP, sA, tyS, simprocAttr, i64s i]
  refine ⟨⟨i + 1, hlt⟩, fits_fin (by omega) ?_ ?_, ?_⟩
  ·
   simp [FinOk, upd_at, fin_at, HV.men, hhl]
   omega
  ·
   simp only [List.take_succ_eq_append_getElem hlh, List.map_append]
   exact ⟨rfl, by omega, trivial, rfl, by omega, trivial, trivial⟩
  show 16 - (i + 1) < 16 - i
  omega
 refine hw_exit ?_
 simp only [↓sP, sA, tyS, simprocAttr]
 clear hK K
 refine AX (hK _ _ _ ?_)
 clear hK K
 have hei : i = 16 := by simp at hb; omega
 subst hei
 rw [List.take_of_length_le (by omega)]
 refine hw_close [16] (hw_fits (fr2 := fin [(3, .c (.slc (h.1.map u8)))]) (ob2 := fob []) (nx2 := 200) (fits_fin (by omega) (by simp [FinOk, clF_at, fin_at, finA_at, upd_at, fob_at, HV.close, HV.closeL, CV.denil, CV.denilL, denilL_u8, HV.men, HV.menL, HV.norm, HV.toC, HV.toCL]) (by simp [FobOk, clO_at, fob_at, upd_at, none0_at, gone, HO.close, HV.close, HV.closeL, HO.men, HV.men, HV.menL, HV.norm, HV.toC, HV.toCL])) ?_)
 refine hw_seq fun K hK => hw_region (by kernel_rfl) ?_
 simp only [sR, simprocAttr]
 refine S0 ?_ (e := fun K_ h_ => by simp only [sH, ↓sP, sA, tyS, simprocAttr, denilL_u8]; exact AX h_)
 refine hlex_step (g := none) rfl rfl fun K' hK' => ?_
 simp only [sH, ↓sP, sA, tyS, simprocAttr, denilL_u8]
 refine call_pure (args := [_]) (hex1_ok h.1 (by rw [h.2]; omega)) ⟨rfl, rfl, rfl, rfl⟩ ?_
 rintro u rfl
 refine AX (hK' _ _ ?_)
 clear hK' K'
 refine S0 ?_ (e := fun K_ h_ => by simp only [sH, ↓sP, sA, tyS, simprocAttr, denilL_u8]; exact AX h_)
 refine T2 (hK _ _ _ ?_)
 clear hK K
 refine hw_ret ?_
 simp only [hpost, Tryz.results28, hresL, hres1, tupOf, ↓sP, sA, tyS, simprocAttr]
 exact hret_pure [] (.str _) rfl rfl


theorem fmtd1_ok (d : Dig) : HPure Tryz.prog 29 [dg d] (fun v => v = .str (fmtD d)) := by
 refine hfn_walk Tryz.func29 rfl (by kernel_rfl) (locOk_nil _) (Nat.le_of_ble_eq_true rfl) ?_
 refine R0 ?_
 refine R0 ?_
 refine hw_seq fun K hK => ?_
 refine R0 ?_
 refine hw_block ?_
 refine hw_own 3 0 5 1 rfl rfl rfl rfl ?_
 refine hw_loop (α := {i : Nat // i ≤ 32}) (fun i => (fin [(1, .ptr 0 0), (3, .own 16 (d.1.take i.1).length), (4, .c (.int .i64 i.1))], fob [(0, .box 49 (.c (dg d))), (16, .row 5 1 ((d.1.take i.1).map u8))])) 100 (fun i => 32 - i.1) ⟨0, by omega⟩ (fF) ?_
 rintro ⟨i, hi⟩
 have hhl : d.1.length = 32 := d.2
 have hti : (d.1.take i).length = i := by simp; omega
 refine hw_seq fun K hK => ?_
 refine R0 ?_
 refine hw_cond (b := decide ((i : Int) < 32)) rfl (fun hb => ?_) (fun hb => ?_)
 ·
  have hlt : i < 32 := by simp at hb; omega
  have hlt' : (i : Int) < 32 := by omega
  have hlh : i < d.1.length := by rw [d.2]; exact hlt
  refine hw_skip ?_
  refine T0 (hK _ _ _ ?_)
  clear hK K
  refine hw_seq fun K hK => ?_
  refine hw_block ?_
  refine hw_region (by kernel_rfl) ?_
  simp only [sR, simprocAttr]
  iterate 7 refine S0 ?_ (e := fun K_ h_ => by simp only [sH, ↓sP, sA, tyS, simprocAttr, Int.natCast_nonneg, hlt', dg_get hlt, Nat.mul_one, u8, hti, List.length_append, List.length_map]; exact AX h_)
  refine T2 (hK _ _ _ ?_)
  clear hK K
  refine hw_region (by kernel_rfl) ?_
  simp only [↓sP, sA, tyS, simprocAttr, i64s i]
  refine ⟨⟨i + 1, hlt⟩, fits_fin (by omega) ?_ ?_, ?_⟩
  ·
   simp [FinOk, upd_at, fin_at, HV.men, hhl]
   omega
  ·
   simp only [List.take_succ_eq_append_getElem hlh, List.map_append]
   exact ⟨rfl, by omega, trivial, rfl, by omega, trivial, trivial⟩
  show 32 - (i + 1) < 32 - i
  omega
 refine hw_exit ?_
 simp only [↓sP, sA, tyS, simprocAttr]
 clear hK K
 refine AX (hK _ _ _ ?_)
 clear hK K
 have hei : i = 32 := by simp at hb; omega
 subst hei
 rw [List.take_of_length_le (by omega)]
 have hle : 7 + (hexL d.1).length ≤ 9223372036854775807 := by rw [hexL_len, d.2]; omega
 refine hw_close [16] (hw_fits (fr2 := fin [(3, .c (.slc (d.1.map u8)))]) (ob2 := fob []) (nx2 := 200) (fits_fin (by omega) (by simp [FinOk, clF_at, fin_at, finA_at, upd_at, fob_at, HV.close, HV.closeL, CV.denil, CV.denilL, denilL_u8, HV.men, HV.menL, HV.norm, HV.toC, HV.toCL]) (by simp [FobOk, clO_at, fob_at, upd_at, none0_at, gone, HO.close, HV.close, HV.closeL, HO.men, HV.men, HV.menL, HV.norm, HV.toC, HV.toCL])) ?_)
 refine hw_seq fun K hK => hw_region (by kernel_rfl) ?_
 simp only [sR, simprocAttr]
 refine S0 ?_ (e := fun K_ h_ => by simp only [sH, ↓sP, sA, tyS, simprocAttr, hle, denilL_u8]; exact AX h_)
 refine hlex_step (g := none) rfl rfl fun K' hK' => ?_
 simp only [sH, ↓sP, sA, tyS, simprocAttr, hle, denilL_u8]
 refine call_pure (args := [_]) (hex1_ok d.1 (by rw [d.2]; omega)) ⟨rfl, rfl, rfl, rfl⟩ ?_
 rintro u rfl
 refine AX (hK' _ _ ?_)
 clear hK' K'
 iterate 2 refine S0 ?_ (e := fun K_ h_ => by simp only [sH, ↓sP, sA, tyS, simprocAttr, hle, denilL_u8]; exact AX h_)
 refine T2 (hK _ _ _ ?_)
 clear hK K
 refine hw_ret ?_
 simp only [hpost, Tryz.results29, hresL, hres1, tupOf, ↓sP, sA, tyS, simprocAttr]
 exact hret_pure [] (.str _) rfl rfl

end Go.Proofs.YtenbfeemmpjdhaaGreatDoor

namespace Go.Proofs.YtenbfeemmpjdhaaGreatDoor
open Go Go.Hl Go.Pl Go.RowKit Go.Shelf
set_option maxRecDepth 100000

def fmt133_ren : Go.Shelf.Ren := ⟨fun | 173 => 133 | 246 => 164 | 283 => 184 | 284 => 185 | 285 => 186 | 286 => 187 | 129 => 148 | 317 => 193 | 318 => 194 | 319 => 195 | 320 => 196 | 337 => 199 | 338 => 200 | n => n, fun | 2 => 2 | 3 => 3 | 9 => 9 | 4 => 4 | 171 => 204 | 0 => 0 | 53 => 145 | 37 => 30 | 5 => 5 | 173 => 206 | 212 => 217 | 51 => 151 | 20 => 20 | 213 => 218 | 46 => 144 | 232 => 48 | 233 => 222 | n => n, fun | 17 => 3 | 18 => 4 | 19 => 5 | n => n⟩
theorem fmt133 : Go.Proofs.LaysM.n173 Tryz.prog fmt133_ren := {
  mixed := by kernel_rfl
  f129 := Tryz.func148.trans (congrArg some (by kernel_rfl))
  f173 := Tryz.func133.trans (congrArg some (by kernel_rfl))
  f246 := Tryz.func164.trans (congrArg some (by kernel_rfl))
  f283 := Tryz.func184.trans (congrArg some (by kernel_rfl))
  f284 := Tryz.func185.trans (congrArg some (by kernel_rfl))
  f285 := Tryz.func186.trans (congrArg some (by kernel_rfl))
  f286 := Tryz.func187.trans (congrArg some (by kernel_rfl))
  f317 := Tryz.func193.trans (congrArg some (by kernel_rfl))
  f318 := Tryz.func194.trans (congrArg some (by kernel_rfl))
  f319 := Tryz.func195.trans (congrArg some (by kernel_rfl))
  f320 := Tryz.func196.trans (congrArg some (by kernel_rfl))
  f337 := Tryz.func199.trans (congrArg some (by kernel_rfl))
  f338 := Tryz.func200.trans (congrArg some (by kernel_rfl))
  t0 := Tryz.underlying0
  a0 := Tryz.isAgg0
  z0 := Tryz.sizeOf0
  v0 := Tryz.zeroValue0
  t2 := Tryz.underlying2
  a2 := Tryz.isAgg2
  z2 := Tryz.sizeOf2
  v2 := Tryz.zeroValue2
  t3 := Tryz.underlying3
  a3 := Tryz.isAgg3
  z3 := Tryz.sizeOf3
  v3 := Tryz.zeroValue3
  t4 := Tryz.underlying4
  a4 := Tryz.isAgg4
  z4 := Tryz.sizeOf4
  v4 := Tryz.zeroValue4
  t5 := Tryz.underlying5
  a5 := Tryz.isAgg5
  z5 := Tryz.sizeOf5
  v5 := Tryz.zeroValue5
  t9 := Tryz.underlying9
  a9 := Tryz.isAgg9
  z9 := Tryz.sizeOf9
  v9 := Tryz.zeroValue9
  t20 := Tryz.underlying20
  a20 := Tryz.isAgg20
  z20 := Tryz.sizeOf20
  v20 := Tryz.zeroValue20
  t37 := Tryz.underlying30
  a37 := Tryz.isAgg30
  z37 := Tryz.sizeOf30
  v37 := Tryz.zeroValue30
  t46 := Tryz.underlying144
  a46 := Tryz.isAgg144
  z46 := Tryz.sizeOf144
  v46 := Tryz.zeroValue144
  t51 := Tryz.underlying151
  a51 := Tryz.isAgg151
  z51 := Tryz.sizeOf151
  v51 := Tryz.zeroValue151
  t53 := Tryz.underlying145
  a53 := Tryz.isAgg145
  z53 := Tryz.sizeOf145
  v53 := Tryz.zeroValue145
  t171 := Tryz.underlying204
  a171 := Tryz.isAgg204
  z171 := Tryz.sizeOf204
  v171 := Tryz.zeroValue204
  t173 := Tryz.underlying206
  a173 := Tryz.isAgg206
  z173 := Tryz.sizeOf206
  v173 := Tryz.zeroValue206
  t212 := Tryz.underlying217
  a212 := Tryz.isAgg217
  z212 := Tryz.sizeOf217
  v212 := Tryz.zeroValue217
  t213 := Tryz.underlying218
  a213 := Tryz.isAgg218
  z213 := Tryz.sizeOf218
  t232 := Tryz.underlying48
  a232 := Tryz.isAgg48
  z232 := Tryz.sizeOf48
  v232 := Tryz.zeroValue48
  t233 := Tryz.underlying222
  a233 := Tryz.isAgg222
  z233 := Tryz.sizeOf222
  v233 := Tryz.zeroValue222
  g17 := by kernel_rfl
  g18 := by kernel_rfl
  g19 := by kernel_rfl
  i0 := by kernel_rfl
  i2 := by kernel_rfl
  i3 := by kernel_rfl
  i4 := by kernel_rfl
  i5 := by kernel_rfl
  i9 := by kernel_rfl
  i20 := by kernel_rfl
  i37 := by kernel_rfl
  i46 := by kernel_rfl
  i51 := by kernel_rfl
  i53 := by kernel_rfl
  i171 := by kernel_rfl
  i173 := by kernel_rfl
  i212 := by kernel_rfl
  i232 := by kernel_rfl
  i233 := by kernel_rfl
  m17 := by kernel_rfl
  m18 := by kernel_rfl
  m19 := by kernel_rfl }

theorem pow10_g : Tryz.prog.globalNamed "internal/strconv.uint64pow10" = some 3 := by kernel_rfl
def tabs : Tabs := [(3, Lib.pow10Tab.map fun z => Value.int .u64 z)]
theorem fmtInt_ok (n : Int) (h : -9223372036854775808 ≤ n ∧ n ≤ 9223372036854775807) : HPureG Tryz.prog 133 tabs [.int .i64 n, .int .i64 10] (fun v => v = .str (numW n)) :=
  hpureg_tab (by kernel_rfl) pow10_g (List.mem_cons_self) (fun w hw => Any.strconv_FormatInt_10 fmt133 n h.1 h.2 w hw)
end Go.Proofs.YtenbfeemmpjdhaaGreatDoor

namespace Go.Proofs.YtenbfeemmpjdhaaGreatDoor
open Go Go.Hl Go.Pl
set_option maxRecDepth 10000
set_option maxHeartbeats 2000000
set_option linter.unusedSimpArgs false
set_option linter.unusedVariables false

theorem num2_ok (n : Int) (hn : -9223372036854775808 ≤ n ∧ n ≤ 9223372036854775807) : HPure Tryz.prog 74 [.int .i64 n] (fun v => v = .str (numW n)) := by
 refine hfn_walk Tryz.func74 rfl (by kernel_rfl) (locOk_nil _) (Nat.le_of_ble_eq_true rfl) ?_
 refine R0 ?_
 refine hw_seq fun K hK => ?_
 refine R0 ?_
 refine hw_cond (b := n == 0) rfl (fun hb => ?_) (fun hb => ?_)
 ·
  refine R0 ?_
  refine hw_ret ?_
  simp only [hpost, Tryz.results74, hresL, hres1, tupOf, ↓sP, sA, tyS, simprocAttr]
  exact hret_pure [] (.str [48]) rfl (by rw [show n = 0 from by simpa using hb, numW_zero])
 refine hw_skip ?_
 refine T0 (hK _ _ _ ?_)
 clear hK K
 have hne : n ≠ 0 := by simpa using hb
 clear hb
 refine hw_seq fun K hK => hw_region (by kernel_rfl) ?_
 simp only [sR, simprocAttr]
 iterate 4 refine S0 ?_
 refine T2 (hK _ _ _ ?_)
 clear hK K
 refine hw_seq fun K hK => ?_
 have key : ∀ (sg : Word) (u : Nat) fr ob nx, (u < 18446744073709551616 ∧ u ≠ 0 ∧ sg.length ≤ 1 ∧ numW n = sg ++ Lib.decDigits u) → Fits 0 fr ob (fin [(3, .c (.str sg)), (4, .c (.int .u64 u))]) (fob []) 600 → K fr ob nx := by
  rintro sg u fr ob nx ⟨hu, hu0, hsg, hnum⟩ hf
  refine hK _ _ _ (hw_fits hf ?_)
  clear hf hK K
  have hdl := decD_len hu
  refine R0 ?_
  refine hw_seq fun K hK => ?_
  refine hw_block ?_
  refine hw_loop (α := {y : Nat × Word // y.1 ≤ u ∧ (if y.1 = 0 then [] else Lib.decDigits y.1) ++ y.2 = Lib.decDigits u}) (fun y => (fin [(3, .c (.str sg)), (4, .c (.int .u64 y.1.1)), (5, .c (.str y.1.2))], fob [])) 100 (fun y => y.1.1) ⟨(u, []), by simp, by simp [hu0]⟩ (fF) ?_
  rintro ⟨⟨v, s⟩, hv, hs⟩
  simp only at hv hs ⊢
  have hsl : s.length ≤ 20 := by
   have := congrArg List.length hs
   rw [List.length_append] at this
   omega
  refine hw_seq fun K hK => ?_
  refine R0 ?_
  refine hw_cond (b := decide ((0 : Int) < v)) rfl (fun hb => ?_) (fun hb => ?_)
  ·
   have hv0 : v ≠ 0 := by simp at hb; omega
   clear hb
   have hv64 : v < 18446744073709551616 := by omega
   have h10 : ((10 : Int) = 0) ↔ False := by simp
   have hsl1 : [UInt8.ofNat (48 + v % 10)].length + s.length ≤ 9223372036854775807 := by simp; omega
   rw [if_neg hv0, dec_step hv0] at hs
   refine hw_skip ?_
   refine T0 (hK _ _ _ ?_)
   clear hK K
   refine hw_block ?_
   refine hw_seq fun K hK => hw_regionG (by kernel_rfl) ?_
   simp only [sR, simprocAttr]
   iterate 4 refine SG0 ?_ (e := fun K_ h_ => by simp only [sH, ↓sP, sA, tyS, simprocAttr, dig_byte, bytesC_one, h10, hsl1]; exact AX h_)
   refine hlexG_stepC (g := none) 124 rfl rfl fun K' hK' => ?_
   simp only [hop1C, mkId, sH, ↓sP, sA, tyS, simprocAttr, dig_byte, bytesC_one, h10, hsl1]
   repeat refine AI ?_
   refine closeK_mk (by first | rfl | simp) ?_
   try simp only [sH, ↓sP, sA, tyS, simprocAttr, dig_byte, bytesC_one, h10, hsl1]
   refine AX (hK' _ _ ?_)
   clear hK' K'
   iterate 4 refine SG0 ?_ (e := fun K_ h_ => by simp only [sH, ↓sP, sA, tyS, simprocAttr, dig_byte, bytesC_one, h10, hsl1]; exact AX h_)
   refine T2 (hK _ _ _ ?_)
   clear hK K
   refine hw_region (by kernel_rfl) ?_
   simp only [↓sP, sA, tyS, simprocAttr, quo_nat hv64, h10]
   refine ⟨⟨(v / 10, [UInt8.ofNat (48 + v % 10)] ++ s), by simp only; omega, by simp only; rw [← hs, List.append_assoc]⟩, fF, ?_⟩
   show v / 10 < v
   omega
  have hv0 : v = 0 := by simp at hb; omega
  clear hb
  subst hv0
  rw [if_pos rfl, List.nil_append] at hs
  subst hs
  have hle : sg.length + (Lib.decDigits u).length ≤ 9223372036854775807 := by omega
  refine hw_exit ?_
  simp only [↓sP, sA, tyS, simprocAttr]
  clear hK K
  refine AX (hK _ _ _ ?_)
  clear hK K
  refine hw_seq fun K hK => hw_region (by kernel_rfl) ?_
  simp only [sR, simprocAttr]
  iterate 4 refine S0 ?_ (e := fun K_ h_ => by simp only [sH, ↓sP, sA, tyS, simprocAttr, hle]; exact AX h_)
  refine T2 (hK _ _ _ ?_)
  clear hK K
  refine hw_ret ?_
  simp only [hpost, Tryz.results74, hresL, hres1, tupOf, ↓sP, sA, tyS, simprocAttr]
  exact hret_pure [] (.str _) rfl (by rw [hnum])
 refine R0 ?_
 refine hw_cond (b := decide (n < 0)) rfl (fun hb => ?_) (fun hb => ?_)
 ·
  have hlt : n < 0 := by simpa using hb
  refine hw_region (by kernel_rfl) ?_
  simp only [sR, simprocAttr]
  iterate 4 refine S0 ?_ (e := fun K_ h_ => by simp only [sH, ↓sP, sA, tyS, simprocAttr, neg_abs hlt hn.1]; exact AX h_)
  simp only [sE, ↓reduceIte, simprocAttr]
  first
   | exact key [45] n.natAbs _ _ _ ⟨by omega, by omega, by simp, numW_neg (by simpa using hb)⟩ (by rw [← neg_abs (by simpa using hb) hn.1]; exact fF)
   | (have h0 : 0 ≤ n := (by simp at hb; omega); exact key [] n.natAbs _ _ _ ⟨by omega, by omega, by simp, numW_pos h0⟩ (by rw [← pos_abs h0 hn.2]; exact fF))
 refine hw_skip ?_
 simp only [↓sP, sA, tyS, simprocAttr]
 first
  | exact key [45] n.natAbs _ _ _ ⟨by omega, by omega, by simp, numW_neg (by simpa using hb)⟩ (by rw [← neg_abs (by simpa using hb) hn.1]; exact fF)
  | (have h0 : 0 ≤ n := (by simp at hb; omega); exact key [] n.natAbs _ _ _ ⟨by omega, by omega, by simp, numW_pos h0⟩ (by rw [← pos_abs h0 hn.2]; exact fF))


theorem num11_ok (n : Int) (hn : -9223372036854775808 ≤ n ∧ n ≤ 9223372036854775807) : HPure Tryz.prog 27 [.int .i64 n] (fun v => v = .str (numW n)) := by
 refine hfn_walk Tryz.func27 rfl (by kernel_rfl) (locOk_nil _) (Nat.le_of_ble_eq_true rfl) ?_
 refine R0 ?_
 refine hw_seq fun K hK => hw_region (by kernel_rfl) ?_
 simp only [sR, simprocAttr]
 refine S0 ?_
 refine hlex_step (g := none) rfl rfl fun K' hK' => ?_
 simp only [sH, ↓sP, sA, tyS, simprocAttr]
 refine call_pure (args := [_]) (num2_ok n hn) ⟨rfl, rfl, rfl, rfl⟩ ?_
 rintro u rfl
 refine AX (hK' _ _ ?_)
 clear hK' K'
 refine S0 ?_
 refine T2 (hK _ _ _ ?_)
 clear hK K
 refine hw_ret ?_
 simp only [hpost, Tryz.results27, hresL, hres1, tupOf, ↓sP, sA, tyS, simprocAttr]
 exact hret_pure [] (.str _) rfl rfl


theorem num_ok (n : Int) (hn : -9223372036854775808 ≤ n ∧ n ≤ 9223372036854775807) : HPureG Tryz.prog 108 tabs [.int .i64 n] (fun v => v = .str (numW n)) := by
 refine hfn_walk (args := [.c (.int .i64 n)]) Tryz.func108 rfl (by kernel_rfl) (locOk_tab tabs [.int .i64 n]) (Nat.le_of_ble_eq_true rfl) ?_
 refine R0 ?_
 refine hw_seq fun K hK => hw_region (by kernel_rfl) ?_
 simp only [sR, simprocAttr]
 refine S0 ?_
 refine hlex_step (g := none) rfl rfl fun K' hK' => ?_
 simp only [sH, ↓sP, sA, tyS, simprocAttr]
 refine call_pureg (args := [_, _]) 0 (fmtInt_ok n hn) (tabOb_at _ 0) (by simp) ⟨rfl, rfl, rfl, rfl⟩ ?_
 rintro u rfl
 refine AX (hK' _ _ ?_)
 clear hK' K'
 refine S0 ?_
 refine T2 (hK _ _ _ ?_)
 clear hK K
 refine hw_ret ?_
 simp only [hpost, Tryz.results108, hresL, hres1, tupOf, ↓sP, sA, tyS, simprocAttr]
 exact hret_pureg [] (.str _) rfl (tabOb_at _ 0) (by simp) rfl

end Go.Proofs.YtenbfeemmpjdhaaGreatDoor

namespace Go.Proofs.YtenbfeemmpjdhaaGreatDoor
open Go Go.Hl Go.Pl
set_option maxRecDepth 10000
set_option maxHeartbeats 2000000
set_option linter.unusedSimpArgs false
set_option linter.unusedVariables false

def avC : Av → CV
 | .i n => .ifc 3 (.int .i64 n)
 | .l n => .ifc 2 (.int .i64 n)
 | .h x => .ifc 66 (hf x)
 | .d x => .ifc 49 (dg x)
 | .s w => .ifc 9 (.str w)
theorem avC_cells (x : Av) : (avC x).cells = 1 := by cases x <;> rfl
theorem avC_denil (x : Av) : (avC x).denil = avC x := by cases x <;> rfl
theorem avC_getAt (x : Av) : CV.getAt 0 1 false (avC x) = some (avC x) := by cases x <;> rfl

theorem word_i (n : Int) (hn : -9223372036854775808 ≤ n ∧ n ≤ 9223372036854775807) : HPureG Tryz.prog 70 tabs [avC (.i n)] (fun v => v = .str (Av.w (.i n))) := by
 refine hfn_walk (args := [.c (avC (.i n))]) Tryz.func70 rfl (by kernel_rfl) (locOk_tab tabs [avC (.i n)]) (Nat.le_of_ble_eq_true rfl) ?_
 unfold tabOb
 simp only [avC]
 refine R0 ?_
 refine hw_seq fun K hK => ?_
 refine R0 ?_
 refine hw_block ?_
 refine R0 ?_
 refine hw_cond (b := true) rfl (fun hb => ?_) (fun hb => ?_)
 ·
  refine R0 ?_
  refine hw_seq fun K hK => hw_region (by kernel_rfl) ?_
  simp only [sR, simprocAttr]
  refine S0 ?_
  refine hlex_step (g := none) rfl rfl fun K' hK' => ?_
  simp only [sH, ↓sP, sA, tyS, simprocAttr]
  refine call_pureg (args := [_]) 0 (num_ok n hn) rfl (by simp) ⟨rfl, rfl, rfl, rfl⟩ ?_
  rintro u rfl
  refine AX (hK' _ _ ?_)
  clear hK' K'
  refine S0 ?_
  refine T2 (hK _ _ _ ?_)
  clear hK K
  refine hw_ret ?_
  simp only [hpost, Tryz.results70, hresL, hres1, tupOf, ↓sP, sA, tyS, simprocAttr]
  exact hret_pureg [] (.str _) rfl rfl (by simp) rfl
 cases hb


theorem word_l (n : Int) (hn : -9223372036854775808 ≤ n ∧ n ≤ 9223372036854775807) : HPureG Tryz.prog 70 tabs [avC (.l n)] (fun v => v = .str (Av.w (.l n))) := by
 refine hfn_walk (args := [.c (avC (.l n))]) Tryz.func70 rfl (by kernel_rfl) (locOk_tab tabs [avC (.l n)]) (Nat.le_of_ble_eq_true rfl) ?_
 unfold tabOb
 simp only [avC]
 refine R0 ?_
 refine hw_seq fun K hK => ?_
 refine R0 ?_
 refine hw_block ?_
 refine R0 ?_
 refine hw_cond (b := false) rfl (fun hb => ?_) (fun hb => ?_)
 ·
  cases hb
 refine R0 ?_
 refine hw_cond (b := true) rfl (fun hb => ?_) (fun hb => ?_)
 ·
  refine R0 ?_
  refine hw_seq fun K hK => hw_region (by kernel_rfl) ?_
  simp only [sR, simprocAttr]
  refine S0 ?_
  refine hlex_step (g := none) rfl rfl fun K' hK' => ?_
  simp only [sH, ↓sP, sA, tyS, simprocAttr]
  refine call_pureg (args := [_]) 0 (num_ok n hn) rfl (by simp) ⟨rfl, rfl, rfl, rfl⟩ ?_
  rintro u rfl
  refine AX (hK' _ _ ?_)
  clear hK' K'
  refine S0 ?_
  refine T2 (hK _ _ _ ?_)
  clear hK K
  refine hw_ret ?_
  simp only [hpost, Tryz.results70, hresL, hres1, tupOf, ↓sP, sA, tyS, simprocAttr]
  exact hret_pureg [] (.str _) rfl rfl (by simp) rfl
 cases hb


theorem word_h (x : Half) : HPureG Tryz.prog 70 tabs [avC (.h x)] (fun v => v = .str (Av.w (.h x))) := by
 refine hfn_walk (args := [.c (avC (.h x))]) Tryz.func70 rfl (by kernel_rfl) (locOk_tab tabs [avC (.h x)]) (Nat.le_of_ble_eq_true rfl) ?_
 unfold tabOb
 simp only [avC]
 refine R0 ?_
 refine hw_seq fun K hK => ?_
 refine R0 ?_
 refine hw_block ?_
 refine R0 ?_
 refine hw_cond (b := false) rfl (fun hb => ?_) (fun hb => ?_)
 ·
  cases hb
 refine R0 ?_
 refine hw_cond (b := false) rfl (fun hb => ?_) (fun hb => ?_)
 ·
  cases hb
 refine R0 ?_
 refine hw_cond (b := true) rfl (fun hb => ?_) (fun hb => ?_)
 ·
  refine R0 ?_
  refine hw_seq fun K hK => hw_region (by kernel_rfl) ?_
  simp only [sR, simprocAttr]
  refine S0 ?_
  refine hlex_step (g := none) rfl rfl fun K' hK' => ?_
  simp only [sH, ↓sP, sA, tyS, simprocAttr]
  refine call_pure (args := [_]) (fmth_ok x) ⟨rfl, rfl, rfl, rfl⟩ ?_
  rintro u rfl
  refine AX (hK' _ _ ?_)
  clear hK' K'
  refine S0 ?_
  refine T2 (hK _ _ _ ?_)
  clear hK K
  refine hw_ret ?_
  simp only [hpost, Tryz.results70, hresL, hres1, tupOf, ↓sP, sA, tyS, simprocAttr]
  exact hret_pureg [] (.str _) rfl rfl (by simp) rfl
 cases hb


theorem word_d (x : Dig) : HPureG Tryz.prog 70 tabs [avC (.d x)] (fun v => v = .str (Av.w (.d x))) := by
 refine hfn_walk (args := [.c (avC (.d x))]) Tryz.func70 rfl (by kernel_rfl) (locOk_tab tabs [avC (.d x)]) (Nat.le_of_ble_eq_true rfl) ?_
 unfold tabOb
 simp only [avC]
 refine R0 ?_
 refine hw_seq fun K hK => ?_
 refine R0 ?_
 refine hw_block ?_
 refine R0 ?_
 refine hw_cond (b := false) rfl (fun hb => ?_) (fun hb => ?_)
 ·
  cases hb
 refine R0 ?_
 refine hw_cond (b := false) rfl (fun hb => ?_) (fun hb => ?_)
 ·
  cases hb
 refine R0 ?_
 refine hw_cond (b := false) rfl (fun hb => ?_) (fun hb => ?_)
 ·
  cases hb
 refine R0 ?_
 refine hw_cond (b := true) rfl (fun hb => ?_) (fun hb => ?_)
 ·
  refine R0 ?_
  refine hw_seq fun K hK => hw_region (by kernel_rfl) ?_
  simp only [sR, simprocAttr]
  refine S0 ?_
  refine hlex_step (g := none) rfl rfl fun K' hK' => ?_
  simp only [sH, ↓sP, sA, tyS, simprocAttr]
  refine call_pure (args := [_]) (fmtd_ok x) ⟨rfl, rfl, rfl, rfl⟩ ?_
  rintro u rfl
  refine AX (hK' _ _ ?_)
  clear hK' K'
  refine S0 ?_
  refine T2 (hK _ _ _ ?_)
  clear hK K
  refine hw_ret ?_
  simp only [hpost, Tryz.results70, hresL, hres1, tupOf, ↓sP, sA, tyS, simprocAttr]
  exact hret_pureg [] (.str _) rfl rfl (by simp) rfl
 cases hb


theorem word_s (w : Word) : HPureG Tryz.prog 70 tabs [avC (.s w)] (fun v => v = .str (Av.w (.s w))) := by
 refine hfn_walk (args := [.c (avC (.s w))]) Tryz.func70 rfl (by kernel_rfl) (locOk_tab tabs [avC (.s w)]) (Nat.le_of_ble_eq_true rfl) ?_
 unfold tabOb
 simp only [avC]
 refine R0 ?_
 refine hw_seq fun K hK => ?_
 refine R0 ?_
 refine hw_block ?_
 refine R0 ?_
 refine hw_cond (b := false) rfl (fun hb => ?_) (fun hb => ?_)
 ·
  cases hb
 refine R0 ?_
 refine hw_cond (b := false) rfl (fun hb => ?_) (fun hb => ?_)
 ·
  cases hb
 refine R0 ?_
 refine hw_cond (b := false) rfl (fun hb => ?_) (fun hb => ?_)
 ·
  cases hb
 refine R0 ?_
 refine hw_cond (b := false) rfl (fun hb => ?_) (fun hb => ?_)
 ·
  cases hb
 refine R0 ?_
 refine hw_cond (b := true) rfl (fun hb => ?_) (fun hb => ?_)
 ·
  refine R0 ?_
  refine R0 ?_
  refine hw_ret ?_
  simp only [hpost, Tryz.results70, hresL, hres1, tupOf, ↓sP, sA, tyS, simprocAttr]
  exact hret_pureg [] (.str _) rfl rfl (by simp) rfl
 cases hb


theorem trword_ok (x : Av) (hx : x.ok) : HPureG Tryz.prog 70 tabs [avC x] (fun v => v = .str x.w) := by
 cases x with
 | i n => exact word_i n hx
 | l n => exact word_l n hx
 | h x => exact word_h x
 | d x => exact word_d x
 | s w => exact word_s w

theorem line_ok (l : List Av) (hx : ∀ x ∈ l, x.ok) (hl : l.length < 2 ^ 40) : HPureG Tryz.prog 25 tabs [.slc (l.map avC)] (fun v => v = .slc ((l.map Av.w).map .str)) := by
 refine hfn_walk (args := [.c (.slc (l.map avC))]) Tryz.func25 rfl (by kernel_rfl) (locOk_tab tabs [.slc (l.map avC)]) (Nat.le_of_ble_eq_true rfl) ?_
 unfold tabOb
 refine R0 ?_
 refine R0 ?_
 refine hw_seq fun K hK => ?_
 refine R0 ?_
 refine hw_block ?_
 refine hw_own 3 0 9 1 rfl rfl rfl rfl ?_
 refine hw_loop (α := {i : Nat // i ≤ l.length}) (fun i => (fin [(3, .own 21 (l.take i.1).length), (6, .c (.slc (l.map avC))), (7, .c (.int .i64 l.length)), (8, .c (.int .i64 i.1))], fob [(0, .tab tabs), (21, .row 9 1 (((l.take i.1).map Av.w).map .str))])) 100 (fun i => l.length - i.1) ⟨0, by omega⟩ (fF) ?_
 rintro ⟨i, hi⟩
 have hti : (l.take i).length = i := by simp; omega
 refine R0 ?_
 refine hw_seq fun K hK => ?_
 refine hw_cond (b := decide ((i : Int) < l.length)) rfl (fun hb => ?_) (fun hb => ?_)
 ·
  have hlt : i < l.length := by simpa using hb
  clear hb
  have hxi := hx l[i] (List.getElem_mem hlt)
  refine hw_skip ?_
  refine T0 (hK _ _ _ ?_)
  clear hK K
  refine hw_seq fun K hK => ?_
  refine hw_block ?_
  refine R0 ?_ (e := fun K_ h_ => by simp only [↓sP, sA, tyS, simprocAttr, Int.natCast_nonneg, Int.ofNat_lt, hlt, nth_map hlt, avC_cells, avC_getAt, avC_denil]; exact AX h_)
  refine hw_region (by kernel_rfl) ?_
  simp only [sR, simprocAttr]
  iterate 2 refine S0 ?_ (e := fun K_ h_ => by simp only [sH, ↓sP, sA, tyS, simprocAttr, avC_denil, hti, List.length_append, List.length_map]; exact AX h_)
  refine hlex_step (g := none) rfl rfl fun K' hK' => ?_
  simp only [sH, ↓sP, sA, tyS, simprocAttr, avC_denil, hti, List.length_append, List.length_map]
  refine call_pureg (args := [_]) 0 (trword_ok l[i] hxi) rfl (by simp) ⟨rfl, rfl, rfl, rfl⟩ ?_
  rintro u rfl
  refine AX (hK' _ _ ?_)
  clear hK' K'
  iterate 3 refine S0 ?_ (e := fun K_ h_ => by simp only [sH, ↓sP, sA, tyS, simprocAttr, avC_denil, hti, List.length_append, List.length_map]; exact AX h_)
  refine T2 (hK _ _ _ ?_)
  clear hK K
  refine hw_region (by kernel_rfl) ?_
  simp only [↓sP, sA, tyS, simprocAttr, i64s i]
  refine ⟨⟨i + 1, hlt⟩, fits_fin (by omega) ?_ ?_, ?_⟩
  ·
   simp [FinOk, upd_at, fin_at, HV.men]
   omega
  ·
   simp only [List.take_succ_eq_append_getElem hlt, List.map_append]
   exact ⟨rfl, by omega, trivial, rfl, by omega, trivial, trivial⟩
  show l.length - (i + 1) < l.length - i
  omega
 refine hw_exit ?_
 simp only [↓sP, sA, tyS, simprocAttr]
 clear hK K
 refine AX (hK _ _ _ ?_)
 clear hK K
 refine R0 ?_
 refine hw_ret ?_
 simp only [hpost, Tryz.results25, hresL, hres1, tupOf, ↓sP, sA, tyS, simprocAttr]
 have hei : i = l.length := by simp at hb; omega
 subst hei
 refine hret_pureg [21] (.slc ((l.map Av.w).map .str)) ?_ rfl (by simp) rfl
 rw [List.take_length]
 simp [HV.close, fob_at, upd_at, HV.norm, HV.toC, HV.closeL, HV.toCL, CV.denil]

end Go.Proofs.YtenbfeemmpjdhaaGreatDoor

namespace Go.Proofs.YtenbfeemmpjdhaaGreatDoor
open Go Go.Hl Go.Pl
set_option maxRecDepth 10000
set_option maxHeartbeats 2000000
set_option linter.unusedSimpArgs false
set_option linter.unusedVariables false

theorem plain_ok (c : UInt8) : HPure Tryz.prog 111 [.int .u8 c.toNat] (fun v => v = .bool (plainB c)) := by
 refine hfn_walk Tryz.func111 rfl (by kernel_rfl) (locOk_nil _) (Nat.le_of_ble_eq_true rfl) ?_
 refine R0 ?_
 refine hw_seq fun K hK => hw_region (by kernel_rfl) ?_
 simp only [sR, simprocAttr]
 iterate 3 refine S0 ?_
 refine hlex_cases 4 rfl (fun h1_4 => ?_) (fun h1_4 => ?_)
 ·
  iterate 2 refine S0 ?_ (e := fun K_ h_ => by simp only [sH, ↓sP, sA, tyS, simprocAttr, h1_4]; exact AX h_)
  iterate 2 refine S0 ?_ (e := fun K_ h_ => by simp only [sH, ↓sP, sA, tyS, simprocAttr, h1_4]; exact AX h_)
  refine hlex_cases 7 rfl (fun h1_7 => ?_) (fun h1_7 => ?_)
  ·
   iterate 2 refine S0 ?_ (e := fun K_ h_ => by simp only [sH, ↓sP, sA, tyS, simprocAttr, h1_4, h1_7]; exact AX h_)
   iterate 2 refine S0 ?_ (e := fun K_ h_ => by simp only [sH, ↓sP, sA, tyS, simprocAttr, h1_4, h1_7]; exact AX h_)
   refine T2 (hK _ _ _ ?_)
   clear hK K
   refine hw_ret ?_
   simp only [hpost, Tryz.results111, hresL, hres1, tupOf, ↓sP, sA, tyS, simprocAttr]
   refine hret_pure [] (.bool _) rfl ?_
   simp [h1_4, h1_7, plainB]
   all_goals first | rfl | simp_all | omega
  iterate 2 refine S0 ?_ (e := fun K_ h_ => by simp only [sH, ↓sP, sA, tyS, simprocAttr, h1_4, h1_7]; exact AX h_)
  iterate 2 refine S0 ?_ (e := fun K_ h_ => by simp only [sH, ↓sP, sA, tyS, simprocAttr, h1_4, h1_7]; exact AX h_)
  refine T2 (hK _ _ _ ?_)
  clear hK K
  refine hw_ret ?_
  simp only [hpost, Tryz.results111, hresL, hres1, tupOf, ↓sP, sA, tyS, simprocAttr]
  refine hret_pure [] (.bool _) rfl ?_
  simp [h1_4, h1_7, plainB]
  all_goals first | rfl | simp_all | omega
 iterate 2 refine S0 ?_ (e := fun K_ h_ => by simp only [sH, ↓sP, sA, tyS, simprocAttr, h1_4]; exact AX h_)
 iterate 2 refine S0 ?_ (e := fun K_ h_ => by simp only [sH, ↓sP, sA, tyS, simprocAttr, h1_4]; exact AX h_)
 iterate 2 refine S0 ?_ (e := fun K_ h_ => by simp only [sH, ↓sP, sA, tyS, simprocAttr, h1_4]; exact AX h_)
 iterate 2 refine S0 ?_ (e := fun K_ h_ => by simp only [sH, ↓sP, sA, tyS, simprocAttr, h1_4]; exact AX h_)
 refine T2 (hK _ _ _ ?_)
 clear hK K
 refine hw_ret ?_
 simp only [hpost, Tryz.results111, hresL, hres1, tupOf, ↓sP, sA, tyS, simprocAttr]
 refine hret_pure [] (.bool _) rfl ?_
 simp [h1_4, plainB]
 all_goals first | rfl | simp_all | omega


theorem plain2_ok (c : UInt8) : HPure Tryz.prog 112 [.int .u8 c.toNat] (fun v => v = .bool (plainB c)) := by
 refine hfn_walk Tryz.func112 rfl (by kernel_rfl) (locOk_nil _) (Nat.le_of_ble_eq_true rfl) ?_
 refine R0 ?_
 refine hw_seq fun K hK => hw_region (by kernel_rfl) ?_
 simp only [sR, simprocAttr]
 iterate 3 refine S0 ?_
 refine hlex_cases 4 rfl (fun h1_4 => ?_) (fun h1_4 => ?_)
 ·
  iterate 2 refine S0 ?_ (e := fun K_ h_ => by simp only [sH, ↓sP, sA, tyS, simprocAttr, h1_4]; exact AX h_)
  iterate 2 refine S0 ?_ (e := fun K_ h_ => by simp only [sH, ↓sP, sA, tyS, simprocAttr, h1_4]; exact AX h_)
  refine hlex_cases 7 rfl (fun h1_7 => ?_) (fun h1_7 => ?_)
  ·
   iterate 2 refine S0 ?_ (e := fun K_ h_ => by simp only [sH, ↓sP, sA, tyS, simprocAttr, h1_4, h1_7]; exact AX h_)
   iterate 2 refine S0 ?_ (e := fun K_ h_ => by simp only [sH, ↓sP, sA, tyS, simprocAttr, h1_4, h1_7]; exact AX h_)
   refine T2 (hK _ _ _ ?_)
   clear hK K
   refine hw_ret ?_
   simp only [hpost, Tryz.results112, hresL, hres1, tupOf, ↓sP, sA, tyS, simprocAttr]
   refine hret_pure [] (.bool _) rfl ?_
   simp [h1_4, h1_7, plainB]
   all_goals first | rfl | simp_all | omega
  iterate 2 refine S0 ?_ (e := fun K_ h_ => by simp only [sH, ↓sP, sA, tyS, simprocAttr, h1_4, h1_7]; exact AX h_)
  iterate 2 refine S0 ?_ (e := fun K_ h_ => by simp only [sH, ↓sP, sA, tyS, simprocAttr, h1_4, h1_7]; exact AX h_)
  refine T2 (hK _ _ _ ?_)
  clear hK K
  refine hw_ret ?_
  simp only [hpost, Tryz.results112, hresL, hres1, tupOf, ↓sP, sA, tyS, simprocAttr]
  refine hret_pure [] (.bool _) rfl ?_
  simp [h1_4, h1_7, plainB]
  all_goals first | rfl | simp_all | omega
 iterate 2 refine S0 ?_ (e := fun K_ h_ => by simp only [sH, ↓sP, sA, tyS, simprocAttr, h1_4]; exact AX h_)
 iterate 2 refine S0 ?_ (e := fun K_ h_ => by simp only [sH, ↓sP, sA, tyS, simprocAttr, h1_4]; exact AX h_)
 iterate 2 refine S0 ?_ (e := fun K_ h_ => by simp only [sH, ↓sP, sA, tyS, simprocAttr, h1_4]; exact AX h_)
 iterate 2 refine S0 ?_ (e := fun K_ h_ => by simp only [sH, ↓sP, sA, tyS, simprocAttr, h1_4]; exact AX h_)
 refine T2 (hK _ _ _ ?_)
 clear hK K
 refine hw_ret ?_
 simp only [hpost, Tryz.results112, hresL, hres1, tupOf, ↓sP, sA, tyS, simprocAttr]
 refine hret_pure [] (.bool _) rfl ?_
 simp [h1_4, plainB]
 all_goals first | rfl | simp_all | omega


theorem size_ok (w : Word) (hl : w.length < 2 ^ 40) : HPure Tryz.prog 72 [.str w] (fun v => v = .int .i64 (sizeW w : Nat)) := by
 refine hfn_walk Tryz.func72 rfl (by kernel_rfl) (locOk_nil _) (Nat.le_of_ble_eq_true rfl) ?_
 refine R0 ?_
 refine R0 ?_
 refine hw_seq fun K hK => ?_
 refine R0 ?_
 refine hw_block ?_
 refine hw_loop (α := {i : Nat // i ≤ w.length}) (fun i => (fin [(0, .c (.str w)), (3, .c (.int .i64 (encBs (w.take i.1)).length)), (4, .c (.int .i64 i.1))], fob [])) 100 (fun i => w.length - i.1) ⟨0, by omega⟩ (fF) ?_
 rintro ⟨i, hi⟩
 have hle := encBs_take_le w i
 have hle3 := encBs_le w
 refine hw_seq fun K hK => ?_
 refine hw_seq fun K hK => hw_region (by kernel_rfl) ?_
 simp only [sR, simprocAttr]
 iterate 4 refine S0 ?_
 refine T2 (hK _ _ _ ?_)
 clear hK K
 refine hw_cond (b := decide ((i : Int) < w.length)) rfl (fun hb => ?_) (fun hb => ?_)
 ·
  have hlt : i < w.length := by simpa using hb
  have hgd : w.getD i 0 = w[i] := by simp [hlt]
  have hs := encBs_take hlt
  refine hw_skip ?_
  refine T0 (hK _ _ _ ?_)
  clear hK K
  refine hw_seq fun K hK => ?_
  refine hw_block ?_
  refine R0 ?_ (e := fun K_ h_ => by simp only [↓sP, sA, tyS, simprocAttr, IntWalk.i64_in _ (show -9223372036854775808 ≤ ((encBs (w.take i)).length : Int) + 1 ∧ ((encBs (w.take i)).length : Int) + 1 ≤ 9223372036854775807 by omega)]; exact AX h_)
  refine hw_seq fun K hK => hw_region (by kernel_rfl) ?_
  simp only [sR, simprocAttr]
  iterate 3 refine S0 ?_ (e := fun K_ h_ => by simp only [sH, ↓sP, sA, tyS, simprocAttr, Int.natCast_nonneg, Int.ofNat_lt, hlt, hgd]; exact AX h_)
  refine hlex_step (g := none) rfl rfl fun K' hK' => ?_
  simp only [sH, ↓sP, sA, tyS, simprocAttr, Int.natCast_nonneg, Int.ofNat_lt, hlt, hgd]
  refine call_pure (args := [_]) (plain_ok w[i]) ⟨rfl, rfl, rfl, rfl⟩ ?_
  rintro u rfl
  refine AX (hK' _ _ ?_)
  clear hK' K'
  refine S0 ?_ (e := fun K_ h_ => by simp only [sH, ↓sP, sA, tyS, simprocAttr, Int.natCast_nonneg, Int.ofNat_lt, hlt, hgd]; exact AX h_)
  refine T2 (hK _ _ _ ?_)
  clear hK K
  refine hw_cond (b := !plainB w[i]) rfl (fun hb => ?_) (fun hb => ?_)
  ·
   refine hw_region (by kernel_rfl) ?_
   simp only [↓sP, sA, tyS, simprocAttr, IntWalk.i64_in _ (show -9223372036854775808 ≤ ((encBs (w.take i)).length : Int) + 1 + 2 ∧ ((encBs (w.take i)).length : Int) + 1 + 2 ≤ 9223372036854775807 by omega)]
   refine AX (hK _ _ _ ?_)
   clear hK K
   refine hw_region (by kernel_rfl) ?_
   simp only [↓sP, sA, tyS, simprocAttr, i64s i]
   have hp : plainB w[i] = false := by simpa using hb
   have he : ((encBs (w.take i)).length : Int) + 1 + 2 = ((encBs (w.take (i + 1))).length : Int) := by
    rw [hs, List.length_append, encB, if_neg (by rw [hp]; simp)]; simp; omega
   simp only [he]
   refine ⟨⟨i + 1, hlt⟩, fF, ?_⟩
   show w.length - (i + 1) < w.length - i
   omega
  refine hw_skip ?_
  refine T0 (hK _ _ _ ?_)
  clear hK K
  refine hw_region (by kernel_rfl) ?_
  simp only [↓sP, sA, tyS, simprocAttr, i64s i]
  have hp : plainB w[i] = true := by simpa using hb
  have he : ((encBs (w.take i)).length : Int) + 1 = ((encBs (w.take (i + 1))).length : Int) := by
   rw [hs, List.length_append, encB, if_pos hp]; simp
  simp only [he]
  refine ⟨⟨i + 1, hlt⟩, fF, ?_⟩
  show w.length - (i + 1) < w.length - i
  omega
 refine hw_exit ?_
 simp only [↓sP, sA, tyS, simprocAttr]
 clear hK K
 refine AX (hK _ _ _ ?_)
 clear hK K
 refine R0 ?_ (e := fun K_ h_ => by simp only [↓sP, sA, tyS, simprocAttr, max1]; exact AX h_)
 refine hw_ret ?_
 simp only [hpost, Tryz.results72, hresL, hres1, tupOf, ↓sP, sA, tyS, simprocAttr]
 have hei : i = w.length := by simp at hb; omega
 subst hei
 exact hret_pure [] (.int .i64 (sizeW w : Nat)) (by rw [List.take_length]; rfl) rfl


theorem word_ok (w : Word) (hl : w.length < 2 ^ 40) : HPure Tryz.prog 73 [.str w] (fun v => v = .str (encW w)) := by
 refine hfn_walk Tryz.func73 rfl (by kernel_rfl) (locOk_nil _) (Nat.le_of_ble_eq_true rfl) ?_
 refine R0 ?_
 refine hw_seq fun K hK => ?_
 refine R0 ?_
 refine hw_cond (b := w == []) rfl (fun hb => ?_) (fun hb => ?_)
 ·
  refine R0 ?_
  refine hw_ret ?_
  simp only [hpost, Tryz.results73, hresL, hres1, tupOf, ↓sP, sA, tyS, simprocAttr]
  exact hret_pure [] (.str [126]) rfl (by rw [encW, if_pos (by simpa using hb)])
 refine hw_skip ?_
 refine T0 (hK _ _ _ ?_)
 clear hK K
 have hne : w ≠ [] := by simpa using hb
 have hz : (sizeW w : Int) ≤ 140737488355328 := by have := sizeW_le w; omega
 clear hb
 refine hw_seq fun K hK => hw_region (by kernel_rfl) ?_
 simp only [sR, simprocAttr]
 refine S0 ?_ (e := fun K_ h_ => by simp only [sH, ↓sP, sA, tyS, simprocAttr, Int.natCast_nonneg, hz, Int.mul_one]; exact AX h_)
 refine hlex_step (g := none) rfl rfl fun K' hK' => ?_
 simp only [sH, ↓sP, sA, tyS, simprocAttr, Int.natCast_nonneg, hz, Int.mul_one]
 refine call_pure (args := [_]) (size_ok w hl) ⟨rfl, rfl, rfl, rfl⟩ ?_
 rintro u rfl
 refine AX (hK' _ _ ?_)
 clear hK' K'
 iterate 2 refine S0 ?_ (e := fun K_ h_ => by simp only [sH, ↓sP, sA, tyS, simprocAttr, Int.natCast_nonneg, hz, Int.mul_one]; exact AX h_)
 refine T2 (hK _ _ _ ?_)
 clear hK K
 refine hw_seq fun K hK => ?_
 refine R0 ?_
 refine hw_block ?_
 refine hw_loop (α := {i : Nat // i ≤ w.length}) (fun i => (fin [(0, .c (.str w)), (3, .own 20 (encBs (w.take i.1)).length), (4, .c (.int .i64 i.1))], fob [(20, .row 5 1 ((encBs (w.take i.1)).map byteC))])) 100 (fun i => w.length - i.1) ⟨0, by omega⟩ (fF) ?_
 rintro ⟨i, hi⟩
 have hle := encBs_take_le w i
 have hle3 := encBs_le w
 refine hw_seq fun K hK => ?_
 refine hw_seq fun K hK => hw_region (by kernel_rfl) ?_
 simp only [sR, simprocAttr]
 iterate 4 refine S0 ?_
 refine T2 (hK _ _ _ ?_)
 clear hK K
 refine hw_cond (b := decide ((i : Int) < w.length)) rfl (fun hb => ?_) (fun hb => ?_)
 ·
  have hlt : i < w.length := by simpa using hb
  have hgd : w.getD i 0 = w[i] := by simp [hlt]
  have hs := encBs_take hlt
  refine hw_skip ?_
  refine T0 (hK _ _ _ ?_)
  clear hK K
  refine hw_seq fun K hK => ?_
  refine hw_block ?_
  refine hw_seq fun K hK => hw_region (by kernel_rfl) ?_
  simp only [sR, simprocAttr]
  iterate 3 refine S0 ?_ (e := fun K_ h_ => by simp only [sH, ↓sP, sA, tyS, simprocAttr, Int.natCast_nonneg, Int.ofNat_lt, hlt, hgd]; exact AX h_)
  refine hlex_step (g := none) rfl rfl fun K' hK' => ?_
  simp only [sH, ↓sP, sA, tyS, simprocAttr, Int.natCast_nonneg, Int.ofNat_lt, hlt, hgd]
  refine call_pure (args := [_]) (plain_ok w[i]) ⟨rfl, rfl, rfl, rfl⟩ ?_
  rintro u rfl
  refine AX (hK' _ _ ?_)
  clear hK' K'
  refine T2 (hK _ _ _ ?_)
  clear hK K
  refine hw_cond (b := plainB w[i]) rfl (fun hb => ?_) (fun hb => ?_)
  ·
   refine hw_region (by kernel_rfl) ?_
   simp only [sR, simprocAttr]
   iterate 7 refine S0 ?_ (e := fun K_ h_ => by simp only [sH, ↓sP, sA, tyS, simprocAttr, Int.natCast_nonneg, Int.ofNat_lt, hlt, hgd, List.length_append, List.length_map]; exact AX h_)
   refine T2 (hK _ _ _ ?_)
   clear hK K
   refine hw_region (by kernel_rfl) ?_
   simp only [↓sP, sA, tyS, simprocAttr, i64s i]
   refine ⟨⟨i + 1, hlt⟩, fits_fin (by omega) ?_ ?_, ?_⟩
   ·
    rw [hs, encB, if_pos hb]
    simp [FinOk, upd_at, fin_at, HV.men]
   ·
    rw [hs, encB, if_pos hb, List.map_append]
    exact ⟨rfl, by omega, trivial, trivial⟩
   show w.length - (i + 1) < w.length - i
   omega
  have h16 : ((w[i].toNat / 16 : Nat) : Int) < 16 := by have := w[i].toNat_lt; omega
  have h15 : ((w[i].toNat % 16 : Nat) : Int) < 16 := by omega
  refine hw_draw2 mixed [(0, [], []), (1, [], []), (2, [], []), (3, [], []), (4, [], []), (5, [], []), (6, [], []), (7, [], []), (8, [], []), (9, [], []), (10, [], []), (11, [], []), (12, [], []), (13, [], [])] [0, 0, 0, 6, 14, 30, 0, 0, 192, 448, 960, 2046, 4095, 8191] (by kernel_rfl) (by kernel_rfl) (by kernel_rfl) (by kernel_rfl) rfl (by kernel_rfl) ?_
  iterate 14 refine W0 ?_ (e := fun K_ h_ => by simp only [sH, ↓sP, sA, tyS, simprocAttr, Int.natCast_nonneg, Int.ofNat_lt, hlt, hgd, List.length_append, List.length_map, shr4, and15, h16, h15]; exact AX h_)
  refine T2 (hK _ _ _ ?_)
  clear hK K
  refine hw_region (by kernel_rfl) ?_
  simp only [↓sP, sA, tyS, simprocAttr, i64s i]
  refine ⟨⟨i + 1, hlt⟩, fits_fin (by omega) ?_ ?_, ?_⟩
  ·
   rw [hs, encB, if_neg (by rw [hb]; simp)]
   simp [FinOk, upd_at, fin_at, HV.men]
  ·
   rw [hs, encB, if_neg (by rw [hb]; simp), List.map_append]
   exact ⟨rfl, by omega, trivial, trivial⟩
  show w.length - (i + 1) < w.length - i
  omega
 refine hw_exit ?_
 simp only [↓sP, sA, tyS, simprocAttr]
 clear hK K
 refine AX (hK _ _ _ ?_)
 clear hK K
 refine hw_close [20] (hw_fits (fr2 := fin [(3, .c (.slc ((encBs (w.take i)).map byteC)))]) (ob2 := fob []) (nx2 := 200) (fits_fin (by omega) (by simp [FinOk, clF_at, fin_at, finA_at, upd_at, fob_at, HV.close, HV.closeL, CV.denil, CV.denilL, denilL_byte, HV.men, HV.menL, HV.norm, HV.toC, HV.toCL]) (by simp [FobOk, clO_at, fob_at, upd_at, none0_at, gone, HO.close, HV.close, HV.closeL, HO.men, HV.men, HV.menL, HV.norm, HV.toC, HV.toCL])) ?_)
 refine R0 ?_ (e := fun K_ h_ => by simp only [↓sP, sA, tyS, simprocAttr, bytesC_map]; exact AX h_)
 refine hw_ret ?_
 simp only [hpost, Tryz.results73, hresL, hres1, tupOf, ↓sP, sA, tyS, simprocAttr]
 have hei : i = w.length := by simp at hb; omega
 subst hei
 exact hret_pure [] (.str (encBs w)) (by rw [List.take_length]; rfl) (by rw [encW, if_neg hne])

end Go.Proofs.YtenbfeemmpjdhaaGreatDoor
