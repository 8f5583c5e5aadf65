/- Part of a proof: walks of functions of the program, by contracts, and the rules they use. By an AI agent. -/
import Derived.Test.YtenbfeemmpjdhaaGreatDoorPl02e
import Derived.Test.YtenbfeemmpjdhaaGreatDoorHyVf
import Derived.Test.YtenbfeemmpjdhaaGreatDoorHySb
import Derived.Test.YtenbfeemmpjdhaaGreatDoorHlBz
import Derived.Test.YtenbfeemmpjdhaaGreatDoorHlPa
import Derived.Test.YtenbfeemmpjdhaaGreatDoorPl11C
import Derived.Test.YtenbfeemmpjdhaaGreatDoorHyTk
import Derived.Test.YtenbfeemmpjdhaaGreatDoorHyTz
set_option linter.unusedSimpArgs false
set_option linter.unusedVariables false
set_option linter.defProp false
namespace Go.Proofs.YtenbfeemmpjdhaaGreatDoor
open Go Go.Hl Go.Pl
set_option maxRecDepth 10000
set_option maxHeartbeats 8000000

theorem qP (l0 : List aK) {ls : List (List aK)} {k : Nat} (h : k < ls.length) : nth (lsC l0 :: ls.map lsC) (k + 1) = .slc (ls[k].map .str) := by
 have := aW (f := lsC) (l := l0 :: ls) (i := k + 1) (by simpa using h)
 rw [List.map_cons] at this
 rw [this]; rfl

theorem bT2 (b : aK) (hl : b.length < 2 ^ 40) : cT Tryz.prog 21 [.slc (b.map u8)] (fun u v => u = (bX b).cv ∧ v = .int .i64 (cK b)) := by
 refine FW Tryz.func21 ?_
 refine R0 ?_
 refine aB fun K hK => Rg ?_
 have F := @denilL_u8
 refine SF ?_
 refine HS fun K' hK' => T6 ?_
 refine D1 (bR5 b hl) ?_
 rintro u v ⟨rfl, rfl⟩
 refine AX (hK' _ _ ?_)
 iterate 5 refine SF ?_
 refine T2 (hK _ _ _ ?_)
 clear hK K
 refine aB fun K hK => ?_
 refine R0 ?_
 refine aJ (b := eC b != 0) rfl (fun hb => ?_) (fun hb => ?_)
 ·
  refine aB fun K hK => Rg ?_
  iterate 4 refine S0 ?_
  refine T2 (hK _ _ _ ?_)
  clear hK K
  refine aD (RT Tryz.results21 ?_)
  have hE : cK b = eC b := by unfold cK; rw [if_pos (by simpa using hb)]
  have hO : bX b = rt0 := by unfold bX; rw [if_neg (by rw [hE]; simpa using hb)]
  exact aL [] rt0.cv (.int .i64 (eC b)) rfl ⟨by rw [hO], by rw [hE]⟩
 have hd0 : eC b = 0 := by simpa using hb
 clear hb
 obtain ⟨lines, hlines⟩ : ∃ lines, lines = iJ b := ⟨_, rfl⟩
 have hok := zX (b := b)
 have hlen := vJ (b := b)
 have hEn : eB lines = none → cK b = 2 := fun h => by unfold cK; rw [if_neg (by rw [hd0]; simp), ← hlines, h]
 have hOn : cK b ≠ 0 → bX b = rt0 := fun h => by unfold bX; rw [if_neg h]
 have hEs : ∀ x, eB lines = some x → cK b = if bJ x then 0 else 1 := fun x h => by unfold cK; rw [if_neg (by rw [hd0]; simp), ← hlines, h]
 have hOs : ∀ x, eB lines = some x → cK b = 0 → bX b = x := fun x h h0 => by unfold bX; rw [if_pos h0, ← hlines, h]; rfl
 rw [← hlines] at hok hlen ⊢
 clear hlines hd0
 refine aG ?_
 refine T0 (hK _ _ _ ?_)
 clear hK K
 refine aB fun K hK => ?_
 cases lines
 ·
  refine aB fun K hK => Rg ?_
  iterate 18 refine S0 ?_
  refine T2 (hK _ _ _ ?_)
  clear hK K
  refine CT rfl ?_
  refine R0 ?_
  refine aD (RT Tryz.results21 ?_)
  have hE := hEn rfl
  exact aL [] rt0.cv (.int .i64 2) rfl ⟨by rw [hOn (by rw [hE]; decide)], by rw [hE]⟩
 rename_i l0 ls
 have hw0 := hok l0 List.mem_cons_self
 have hl00 : 0 < l0.length := List.length_pos_iff.2 hw0.1
 refine aB fun K hK => Rg ?_
 have F := aI @List.map_cons.{0,0} (aI @fY (aI @lsC.eq_1 (aI (bP hl00) (aI @List.length_map.{0,0} @cO))))
 iterate 4 refine SF ?_
 refine aE 31 rfl (fun h4_31 => ?_) (fun h4_31 => ?_)
 ·
  have F := aI @List.map_cons.{0,0} (aI @fY (aI @lsC.eq_1 (aI (bP hl00) (aI @List.length_map.{0,0} (aI @cO h4_31)))))
  iterate 14 refine SF ?_
  refine T2 (hK _ _ _ ?_)
  clear hK K
  refine CT rfl ?_
  refine R0 ?_
  refine aD (RT Tryz.results21 ?_)
  exact absurd h4_31 (by simp; omega)
 have F := aI @List.map_cons.{0,0} (aI @fY (aI @lsC.eq_1 (aI (bP hl00) (aI @List.length_map.{0,0} (aI @cO h4_31)))))
 iterate 7 refine SF ?_
 refine aE 37 rfl (fun h4_37 => ?_) (fun h4_37 => ?_)
 ·
  have F := aI @List.map_cons.{0,0} (aI @fY (aI @lsC.eq_1 (aI (bP hl00) (aI @List.length_map.{0,0} (aI @cO (aI h4_31 h4_37))))))
  iterate 7 refine SF ?_
  refine T2 (hK _ _ _ ?_)
  clear hK K
  refine CT rfl ?_
  refine R0 ?_
  refine aD (RT Tryz.results21 ?_)
  have hE := hEn (show eB (l0 :: ls) = none by
   unfold eB
   simp only
   split
   ·
    rw [show iD l0 rt0 = none from by unfold iD; rw [if_neg (by simp at h4_37; omega)]]
   rfl)
  exact aL [] rt0.cv (.int .i64 2) rfl ⟨by rw [hOn (by rw [hE]; decide)], by rw [hE]⟩
 have F := aI @List.map_cons.{0,0} (aI @fY (aI @lsC.eq_1 (aI (bP hl00) (aI @List.length_map.{0,0} (aI @cO (aI h4_31 h4_37))))))
 iterate 7 refine SF ?_
 refine aE 45 rfl (fun h4_45 => ?_) (fun h4_45 => ?_)
 ·
  simp only [h4_45]
  refine T2 (hK _ _ _ ?_)
  clear hK K
  refine CT rfl ?_
  refine R0 ?_
  refine aD (RT Tryz.results21 ?_)
  have hE := hEn (vG (by simpa [mI] using h4_45))
  exact aL [] rt0.cv (.int .i64 2) rfl ⟨by rw [hOn (by rw [hE]; decide)], by rw [hE]⟩
 simp only [h4_45]
 refine T2 (hK _ _ _ ?_)
 clear hK K
 refine CF rfl ?_
 refine aG ?_
 refine T0 (hK _ _ _ ?_)
 clear hK K
 have hroot : wd l0 0 = mI := by simpa [mI] using h4_45
 have h3 : l0.length = 3 := by simp at h4_37; omega
 have i1 : 1 < l0.length := by omega
 have i2 : 2 < l0.length := by omega
 have z1 : (1 : Int) < l0.length := by omega
 have z2 : (2 : Int) < l0.length := by omega
 refine aB fun K hK => Rg ?_
 have F := aI @List.map_cons.{0,0} (aI @fY (aI @lsC.eq_1 (aI (bP i1) (aI z1 (aI @List.length_map.{0,0} @cO)))))
 iterate 5 refine SF ?_
 refine HS fun K' hK' => T6 ?_
 refine D1 (iC (wd l0 1)) ?_
 rintro u v ⟨rfl, rfl⟩
 refine AX (hK' _ _ ?_)
 iterate 5 refine SF ?_
 refine T2 (hK _ _ _ ?_)
 clear hK K
 refine aB fun K hK => Rg ?_
 have F := aI @List.map_cons.{0,0} (aI @fY (aI @lsC.eq_1 (aI (bP i2) (aI z2 (aI @List.length_map.{0,0} @cO)))))
 iterate 5 refine SF ?_
 refine HS fun K' hK' => T6 ?_
 refine D1 (iC (wd l0 2)) ?_
 rintro u v ⟨rfl, rfl⟩
 refine AX (hK' _ _ ?_)
 iterate 5 refine SF ?_
 refine T2 (hK _ _ _ ?_)
 clear hK K
 refine aB fun K hK => ?_
 refine aB fun K hK => Rg ?_
 iterate 3 refine S0 ?_
 refine aE 66 rfl (fun h8_66 => ?_) (fun h8_66 => ?_)
 ·
  have F := h8_66
  iterate 3 refine SF ?_
  refine aE 69 rfl (fun h8_69 => ?_) (fun h8_69 => ?_)
  ·
   simp only [h8_69]
   refine T2 (hK _ _ _ ?_)
   clear hK K
   refine CF rfl ?_
   refine aG ?_
   refine T0 (hK _ _ _ ?_)
   clear hK K
   obtain ⟨v1, hv1⟩ := Option.isSome_iff_exists.1 h8_66
   obtain ⟨e1, he1⟩ := Option.isSome_iff_exists.1 h8_69
   rw [hv1, he1]
   have hx1 : iD l0 rt0 = some ⟨v1, e1, [], [], []⟩ := by unfold iD; rw [if_pos h3, hv1, he1]; rfl
   obtain ⟨x1, hxx⟩ : ∃ x1 : Rt, x1 = ⟨v1, e1, [], [], []⟩ := ⟨_, rfl⟩
   rw [← hxx] at hx1
   have hrd1 : rRead 0 x1 := qO hx1 aP4
   have hinit : RSt ls x1 0 0 x1 := RSt.init (fun l h => hok l (List.mem_cons_of_mem _ h)) hrd1
   simp only [List.length_cons] at hlen
   refine aB fun K hK => Rg ?_
   have F := @Option.getD_some.{0}
   iterate 5 refine SF ?_
   refine T2 (hK _ _ _ ?_)
   clear hK K
   refine R0 ?_
   refine aB fun K hK => ?_
   have key0 : ∀ (k : Nat) (x : Rt) fr ob nx, RSt ls x1 k 1 x → Fits 0 fr ob (fin [(2, .ptr 0 0), (4, .c (.slc ((l0 :: ls).map lsC))), (10, .ptr 240 0), (11, .c (.int .i64 ((k + 1 : Nat) : Int)))]) (fob [(0, .box 26 (.c (.agg [.int .i64 0, .int .i64 0, .nils, .nils, .nils]))), (240, .box 26 (.agg [.c (.int .i64 x.v), .c (.int .i64 x.e), .own 252 x.q.length, .own 253 x.k.length, .own 254 x.x.length])), (252, .row 64 2 (x.q.map Qt.cv)), (253, .row 70 21 (x.k.map Ky.cv)), (254, .row 51 33 (x.x.map Rv.cv))]) 900 → K fr ob nx := by
    intro k x fr ob nx hst hf
    refine hK _ _ _ (bE hf ?_)
    clear hf hK K
    refine aB fun K hK => ?_
    have key1 : ∀ (k : Nat) (x : Rt) fr ob nx, RSt ls x1 k 2 x → Fits 0 fr ob (fin [(2, .ptr 0 0), (4, .c (.slc ((l0 :: ls).map lsC))), (10, .ptr 240 0), (11, .c (.int .i64 ((k + 1 : Nat) : Int)))]) (fob [(0, .box 26 (.c (.agg [.int .i64 0, .int .i64 0, .nils, .nils, .nils]))), (240, .box 26 (.agg [.c (.int .i64 x.v), .c (.int .i64 x.e), .own 252 x.q.length, .own 253 x.k.length, .own 254 x.x.length])), (252, .row 64 2 (x.q.map Qt.cv)), (253, .row 70 21 (x.k.map Ky.cv)), (254, .row 51 33 (x.x.map Rv.cv))]) 900 → K fr ob nx := by
     intro k x fr ob nx hst hf
     refine hK _ _ _ (bE hf ?_)
     clear hf hK K
     refine aB fun K hK => ?_
     have key2 : ∀ (k : Nat) (x : Rt) fr ob nx, RSt ls x1 k 3 x → Fits 0 fr ob (fin [(2, .ptr 0 0), (4, .c (.slc ((l0 :: ls).map lsC))), (10, .ptr 240 0), (11, .c (.int .i64 ((k + 1 : Nat) : Int)))]) (fob [(0, .box 26 (.c (.agg [.int .i64 0, .int .i64 0, .nils, .nils, .nils]))), (240, .box 26 (.agg [.c (.int .i64 x.v), .c (.int .i64 x.e), .own 252 x.q.length, .own 253 x.k.length, .own 254 x.x.length])), (252, .row 64 2 (x.q.map Qt.cv)), (253, .row 70 21 (x.k.map Ky.cv)), (254, .row 51 33 (x.x.map Rv.cv))]) 900 → K fr ob nx := by
      intro k x fr ob nx hst hf
      refine hK _ _ _ (bE hf ?_)
      clear hf hK K
      refine aB fun K hK => ?_
      refine aB fun K hK => Rg ?_
      have F := @List.length_map.{0,0}
      iterate 4 refine SF ?_
      refine T2 (hK _ _ _ ?_)
      clear hK K
      refine aJ (b := decide (((k + 1 : Nat) : Int) < ((ls.length + 1 : Nat) : Int))) rfl (fun hb => ?_) (fun hb => ?_)
      ·
       refine R0 ?_
       refine aD (RT Tryz.results21 ?_)
       have hE := hEn (by
        rcases hst.more (by simp at hb; omega) with h | ⟨l, r, h⟩
        ·
         exact gQ hroot hx1 h
        exact vH hroot hx1 h)
       exact aL [] rt0.cv (.int .i64 2) rfl ⟨by rw [hOn (by rw [hE]; decide)], by rw [hE]⟩
      refine aG ?_
      refine T0 (hK _ _ _ ?_)
      clear hK K
      refine aB fun K hK => ?_
      obtain ⟨hrun, hrd⟩ := hst.fin (by simp at hb; omega)
      clear hb
      have hrs := vI hroot hx1 hrun
      have hsz := hrd.sz (by omega)
      have hEx := hEs x hrs
      have hOx := hOs x hrs
      refine bT [252, 253, 254] (bE (fr2 := fin [(2, .ptr 0 0), (10, .ptr 240 0)]) (ob2 := fob [(0, .box 26 (.c rt0.cv)), (240, .box 26 (.c x.cv))]) (nx2 := 900) (aP (by omega) (by simp [aX, cB, fin_at, finA_at, upd_at, fob_at, HV.close, HV.closeL, CV.denil, CV.denilL, eZ, nC, HV.men, HV.menL, HV.norm, HV.toC, HV.toCL]) (by simp [bB, cC, fob_at, upd_at, none0_at, bU, rt0, Rt.cv, HO.close, HV.close, HV.closeL, CV.denil, CV.denilL, denilL_Qt, denilL_Ky, denilL_Rv, HO.men, HV.men, HV.menL, HV.norm, HV.toC, HV.toCL])) ?_)
      refine aB fun K hK => Rg ?_
      refine S0 ?_
      refine HS fun K' hK' => T5 ?_
      refine C1 (gP x hsz) ?_
      rintro u rfl
      refine AX (hK' _ _ ?_)
      refine S0 ?_
      refine T2 (hK _ _ _ ?_)
      clear hK K
      refine aJ (b := !(bJ x)) rfl (fun hb => ?_) (fun hb => ?_)
      ·
       refine R0 ?_
       refine aD (RT Tryz.results21 ?_)
       have hE : cK b = 1 := by rw [hEx, if_neg (by simpa using hb)]
       exact aL [] rt0.cv (.int .i64 1) rfl ⟨by rw [hOn (by rw [hE]; decide)], by rw [hE]⟩
      refine aG ?_
      refine T0 (hK _ _ _ ?_)
      clear hK K
      refine R0 ?_
      refine aD (RT Tryz.results21 ?_)
      have hE : cK b = 0 := by rw [hEx, if_pos (by simpa using hb)]
      refine aL [] x.cv (.int .i64 0) ?_ ⟨by rw [hOx hE], by rw [hE]⟩
      simp [HV.close, HV.closeL, HV.norm, HV.toC, HV.toCL, CV.denil, Rt.denil]
     refine aH ?_
     refine aS (α := {z : Nat × Rt // RSt ls x1 z.1 2 z.2}) (fun z => (fin [(2, .ptr 0 0), (4, .c (.slc ((l0 :: ls).map lsC))), (10, .ptr 240 0), (11, .c (.int .i64 ((z.1.1 + 1 : Nat) : Int)))], fob [(0, .box 26 (.c (.agg [.int .i64 0, .int .i64 0, .nils, .nils, .nils]))), (240, .box 26 (.agg [.c (.int .i64 z.1.2.v), .c (.int .i64 z.1.2.e), .own 252 z.1.2.q.length, .own 253 z.1.2.k.length, .own 254 z.1.2.x.length])), (252, .row 64 2 (z.1.2.q.map Qt.cv)), (253, .row 70 21 (z.1.2.k.map Ky.cv)), (254, .row 51 33 (z.1.2.x.map Rv.cv))])) 1000 (fun z => ls.length - z.1.1) ⟨(k, x), hst⟩ (fF) ?_
     rintro ⟨⟨k, x⟩, hst⟩
     simp only at hst ⊢
     have hkl := hst.1
     refine aB fun K hK => ?_
     refine aB fun K hK => Rg ?_
     have F := @List.length_map.{0,0}
     iterate 5 refine SF ?_
     refine aE 160 rfl (fun h24_160 => ?_) (fun h24_160 => ?_)
     ·
      have F := aI @List.length_map.{0,0} h24_160
      iterate 2 refine SF ?_
      refine aZ (g := some (161, true)) rfl rfl fun K' hK' => T6 ?_
      have hk : k < ls.length := by simp at h24_160; omega
      have hkn := qP l0 hk
      have hwk := hok ls[k] (List.mem_cons_of_mem _ (List.getElem_mem hk))
      have h0l : 0 < ls[k].length := List.length_pos_iff.2 hwk.1
      have w0 := bP h0l
      rw [hkn]
      refine AX (hK' _ _ ?_)
      iterate 5 refine SF ?_
      refine aE 167 rfl (fun h24_167 => ?_) (fun h24_167 => ?_)
      ·
       have F := aI @List.length_map.{0,0} (aI h24_160 h24_167)
       iterate 2 refine SF ?_
       refine aZ (g := some (169, true)) rfl rfl fun K' hK' => T6 ?_
       rw [hkn]
       refine AX (hK' _ _ ?_)
       refine SF ?_
       refine aZ (g := some (169, true)) rfl rfl fun K' hK' => T6 ?_
       rw [w0]
       refine AX (hK' _ _ ?_)
       iterate 3 refine SF ?_
       refine aE 176 rfl (fun h24_176 => ?_) (fun h24_176 => ?_)
       ·
        simp only [h24_176]
        refine T2 (hK _ _ _ ?_)
        clear hK K
        refine CT rfl ?_
        refine aG ?_
        refine T0 (hK _ _ _ ?_)
        clear hK K
        refine aH ?_
        have hw : wd ls[k] 0 = dO 2 := by simpa [dO] using h24_176
        have h3k : ls[k].length = 3 := by simp at h24_167; omega
        have i1 : 1 < ls[k].length := by omega
        have i2 : 2 < ls[k].length := by omega
        have z1 : (1 : Int) < ls[k].length := by omega
        have z2 : (2 : Int) < ls[k].length := by omega
        have hki : ((k + 1 : Nat) : Int) < ((ls.length + 1 : Nat) : Int) := by omega
        have hxl := hst.len (by omega) hk hw
        refine aB fun K hK => Rg ?_
        iterate 6 refine S0 ?_ (e := fun _ h_ => by simp only [sH, ↓sP, sA, tyS, simprocAttr, hki, hkn, CV.cells, z1, bP i1, List.length_map, dg_setAt]; exact AX h_)
        refine HS fun K' hK' => ?_
        simp only [sH, ↓sP, sA, tyS, simprocAttr, hki, hkn, CV.cells, z1, bP i1, List.length_map, dg_setAt]
        refine D1 (aO5 (wd ls[k] 1)) ?_
        rintro u v ⟨rfl, rfl⟩
        refine AX (hK' _ _ ?_)
        iterate 6 refine S0 ?_ (e := fun _ h_ => by simp only [sH, ↓sP, sA, tyS, simprocAttr, hki, hkn, CV.cells, z1, bP i1, List.length_map, dg_setAt]; exact AX h_)
        refine T2 (hK _ _ _ ?_)
        clear hK K
        refine aB fun K hK => Rg ?_
        iterate 6 refine S0 ?_ (e := fun _ h_ => by simp only [sH, ↓sP, sA, tyS, simprocAttr, hki, hkn, CV.cells, z2, bP i2, List.length_map]; exact AX h_)
        refine HS fun K' hK' => ?_
        simp only [sH, ↓sP, sA, tyS, simprocAttr, hki, hkn, CV.cells, z2, bP i2, List.length_map]
        refine D1 (iC (wd ls[k] 2)) ?_
        rintro u v ⟨rfl, rfl⟩
        refine AX (hK' _ _ ?_)
        iterate 5 refine S0 ?_ (e := fun _ h_ => by simp only [sH, ↓sP, sA, tyS, simprocAttr, hki, hkn, CV.cells, z2, bP i2, List.length_map]; exact AX h_)
        refine T2 (hK _ _ _ ?_)
        clear hK K
        refine aB fun K hK => ?_
        refine aB fun K hK => Rg ?_
        iterate 3 refine S0 ?_
        refine aE 198 rfl (fun h27_198 => ?_) (fun h27_198 => ?_)
        ·
         have F := h27_198
         iterate 3 refine SF ?_
         refine aE 201 rfl (fun h27_201 => ?_) (fun h27_201 => ?_)
         ·
          simp only [h27_201]
          refine T2 (hK _ _ _ ?_)
          clear hK K
          refine CF rfl ?_
          refine aG ?_
          refine T0 (hK _ _ _ ?_)
          clear hK K
          obtain ⟨d, hd⟩ := Option.isSome_iff_exists.1 h27_198
          obtain ⟨n, hn⟩ := Option.isSome_iff_exists.1 h27_201
          have hy : jB 2 ls[k] x = some { x with x := x.x ++ [⟨d, n⟩] } := by show mG ls[k] x = _; unfold mG; rw [if_pos h3k, hd, hn]
          rw [hd, hn]
          refine aB fun K hK => Rg ?_
          have F := aI @List.length_map.{0,0} (aI @List.length_append.{0} (aI @Option.getD_some.{0} @Rv.cells))
          iterate 9 refine SF ?_
          refine T2 (hK _ _ _ ?_)
          clear hK K
          refine aM (by kernel_rfl) ?_
          refine TQ (IntWalk.i64_in _ (show -9223372036854775808 ≤ ((k + 1 : Nat) : Int) + 1 ∧ ((k + 1 : Nat) : Int) + 1 ≤ 9223372036854775807 by omega)) ?_
          refine ⟨⟨(k + 1, { x with x := x.x ++ [⟨d, n⟩] }), hst.hit (by omega) hk hw hy⟩, fF, ?_⟩
          show ls.length - (k + 1) < ls.length - k
          omega
         simp only [h27_201]
         refine T2 (hK _ _ _ ?_)
         clear hK K
         refine CT rfl ?_
         refine R0 ?_
         refine aD (RT Tryz.results21 ?_)
         have hy : jB 2 ls[k] x = none := by
          show mG ls[k] x = none
          unfold mG
          rw [if_pos h3k]
          first
           | (rw [show kY (wd ls[k] 1) = none by simpa using h27_198])
           | (rw [show bL (wd ls[k] 2) = none by simpa using h27_201]; cases kY (wd ls[k] 1) <;> rfl)
         have hE := hEn (gQ hroot hx1 (hst.fail (by omega) hk hw hy))
         exact aL [] rt0.cv (.int .i64 2) rfl ⟨by rw [hOn (by rw [hE]; decide)], by rw [hE]⟩
        have F := h27_198
        iterate 3 refine SF ?_
        refine T2 (hK _ _ _ ?_)
        clear hK K
        refine CT rfl ?_
        refine R0 ?_
        refine aD (RT Tryz.results21 ?_)
        have hy : jB 2 ls[k] x = none := by
         show mG ls[k] x = none
         unfold mG
         rw [if_pos h3k]
         first
          | (rw [show kY (wd ls[k] 1) = none by simpa using h27_198])
          | (rw [show bL (wd ls[k] 2) = none by simpa using h27_201]; cases kY (wd ls[k] 1) <;> rfl)
        have hE := hEn (gQ hroot hx1 (hst.fail (by omega) hk hw hy))
        exact aL [] rt0.cv (.int .i64 2) rfl ⟨by rw [hOn (by rw [hE]; decide)], by rw [hE]⟩
       simp only [h24_176]
       refine T2 (hK _ _ _ ?_)
       clear hK K
       refine CF rfl ?_
       refine aR (T3 ?_)
       clear hK K
       exact key2 k x _ _ _ (hst.next (by omega) fun hk hw => absurd hw (by simpa [dO] using h24_176)) (fF)
      have F := aI @List.length_map.{0,0} (aI h24_160 h24_167)
      iterate 8 refine SF ?_
      refine T2 (hK _ _ _ ?_)
      clear hK K
      refine CF rfl ?_
      refine aR (T3 ?_)
      clear hK K
      exact key2 k x _ _ _ (hst.next (by omega) fun hk _ => yI (.inr rfl) (by simp at h24_167; omega) x) (fF)
     have F := aI @List.length_map.{0,0} h24_160
     iterate 16 refine SF ?_
     refine T2 (hK _ _ _ ?_)
     clear hK K
     refine CF rfl ?_
     refine aR (T3 ?_)
     clear hK K
     exact key2 k x _ _ _ (hst.next (by omega) fun hk => absurd hk (by simp at h24_160; omega)) (fF)
    refine aH ?_
    refine aS (α := {z : Nat × Rt // RSt ls x1 z.1 1 z.2}) (fun z => (fin [(2, .ptr 0 0), (4, .c (.slc ((l0 :: ls).map lsC))), (10, .ptr 240 0), (11, .c (.int .i64 ((z.1.1 + 1 : Nat) : Int)))], fob [(0, .box 26 (.c (.agg [.int .i64 0, .int .i64 0, .nils, .nils, .nils]))), (240, .box 26 (.agg [.c (.int .i64 z.1.2.v), .c (.int .i64 z.1.2.e), .own 252 z.1.2.q.length, .own 253 z.1.2.k.length, .own 254 z.1.2.x.length])), (252, .row 64 2 (z.1.2.q.map Qt.cv)), (253, .row 70 21 (z.1.2.k.map Ky.cv)), (254, .row 51 33 (z.1.2.x.map Rv.cv))])) 1000 (fun z => ls.length - z.1.1) ⟨(k, x), hst⟩ (fF) ?_
    rintro ⟨⟨k, x⟩, hst⟩
    simp only at hst ⊢
    have hkl := hst.1
    refine aB fun K hK => ?_
    refine aB fun K hK => Rg ?_
    have F := @List.length_map.{0,0}
    iterate 5 refine SF ?_
    refine aE 128 rfl (fun h18_128 => ?_) (fun h18_128 => ?_)
    ·
     have F := aI @List.length_map.{0,0} h18_128
     iterate 2 refine SF ?_
     refine aZ (g := some (129, true)) rfl rfl fun K' hK' => T6 ?_
     have hk : k < ls.length := by simp at h18_128; omega
     have hkn := qP l0 hk
     have hwk := hok ls[k] (List.mem_cons_of_mem _ (List.getElem_mem hk))
     have h0l : 0 < ls[k].length := List.length_pos_iff.2 hwk.1
     have w0 := bP h0l
     rw [hkn]
     refine AX (hK' _ _ ?_)
     refine SF ?_
     refine aZ (g := some (129, true)) rfl rfl fun K' hK' => T6 ?_
     rw [w0]
     refine AX (hK' _ _ ?_)
     iterate 3 refine SF ?_
     refine aE 136 rfl (fun h18_136 => ?_) (fun h18_136 => ?_)
     ·
      simp only [h18_136]
      refine T2 (hK _ _ _ ?_)
      clear hK K
      refine CT rfl ?_
      refine aG ?_
      refine T0 (hK _ _ _ ?_)
      clear hK K
      refine aH ?_
      have hw : wd ls[k] 0 = dO 1 := by simpa [dO] using h18_136
      have hki : ((k + 1 : Nat) : Int) < ((ls.length + 1 : Nat) : Int) := by omega
      have hxl := hst.len (by omega) hk hw
      refine aB fun K hK => Rg ?_
      iterate 4 refine S0 ?_ (e := fun _ h_ => by simp only [sH, ↓sP, sA, tyS, simprocAttr, hki, hkn, CV.cells, List.length_map, denilL_str]; exact AX h_)
      refine HS fun K' hK' => ?_
      simp only [sH, ↓sP, sA, tyS, simprocAttr, hki, hkn, CV.cells, List.length_map, denilL_str]
      refine D1 (aO6 ls[k] (by have := hwk.2.1; omega) h0l hw) ?_
      rintro u v ⟨y, ok, rfl, rfl, hy⟩
      have hy := hy x
      refine AX (hK' _ _ ?_)
      iterate 6 refine S0 ?_ (e := fun _ h_ => by simp only [sH, ↓sP, sA, tyS, simprocAttr, hki, hkn, CV.cells, List.length_map, denilL_str]; exact AX h_)
      refine T2 (hK _ _ _ ?_)
      clear hK K
      refine aB fun K hK => ?_
      refine R0 ?_
      refine aJ (b := !ok) rfl (fun hb => ?_) (fun hb => ?_)
      ·
       refine R0 ?_
       refine aD (RT Tryz.results21 ?_)
       have hok0 : ok = false := by simpa using hb
       rw [hok0] at hy
       have hE := hEn (gQ hroot hx1 (hst.fail (by omega) hk hw hy))
       exact aL [] rt0.cv (.int .i64 2) rfl ⟨by rw [hOn (by rw [hE]; decide)], by rw [hE]⟩
      refine aG ?_
      refine T0 (hK _ _ _ ?_)
      clear hK K
      have hok1 : ok = true := by simpa using hb
      rw [hok1] at hy
      refine aB fun K hK => Rg ?_
      have F := aI @List.length_map.{0,0} (aI @List.length_append.{0} @Ky.cells)
      iterate 7 refine SF ?_
      refine T2 (hK _ _ _ ?_)
      clear hK K
      refine aM (by kernel_rfl) ?_
      refine TQ (IntWalk.i64_in _ (show -9223372036854775808 ≤ ((k + 1 : Nat) : Int) + 1 ∧ ((k + 1 : Nat) : Int) + 1 ≤ 9223372036854775807 by omega)) ?_
      refine ⟨⟨(k + 1, { x with k := x.k ++ [y] }), hst.hit (by omega) hk hw hy⟩, fF, ?_⟩
      show ls.length - (k + 1) < ls.length - k
      omega
     simp only [h18_136]
     refine T2 (hK _ _ _ ?_)
     clear hK K
     refine CF rfl ?_
     refine aR (T3 ?_)
     clear hK K
     exact key1 k x _ _ _ (hst.next (by omega) fun hk hw => absurd hw (by simpa [dO] using h18_136)) (fF)
    have F := aI @List.length_map.{0,0} h18_128
    iterate 8 refine SF ?_
    refine T2 (hK _ _ _ ?_)
    clear hK K
    refine CF rfl ?_
    refine aR (T3 ?_)
    clear hK K
    exact key1 k x _ _ _ (hst.next (by omega) fun hk => absurd hk (by simp at h18_128; omega)) (fF)
   refine aH ?_
   refine gJ 240 2 64 2 rfl rfl rfl rfl ?_
   refine gJ 240 3 70 21 rfl rfl rfl rfl ?_
   refine gJ 240 4 51 33 rfl rfl rfl rfl ?_
   refine aS (α := {z : Nat × Rt // RSt ls x1 z.1 0 z.2}) (fun z => (fin [(2, .ptr 0 0), (4, .c (.slc ((l0 :: ls).map lsC))), (10, .ptr 240 0), (11, .c (.int .i64 ((z.1.1 + 1 : Nat) : Int)))], fob [(0, .box 26 (.c (.agg [.int .i64 0, .int .i64 0, .nils, .nils, .nils]))), (240, .box 26 (.agg [.c (.int .i64 z.1.2.v), .c (.int .i64 z.1.2.e), .own 252 z.1.2.q.length, .own 253 z.1.2.k.length, .own 254 z.1.2.x.length])), (252, .row 64 2 (z.1.2.q.map Qt.cv)), (253, .row 70 21 (z.1.2.k.map Ky.cv)), (254, .row 51 33 (z.1.2.x.map Rv.cv))])) 300 (fun z => ls.length - z.1.1) ⟨(0, x1), hinit⟩ (aP (by omega) (by simp [aX, fin_at, finA_at, upd_at, HV.men, HV.menL, HV.norm, HV.toC, HV.toCL, lsC]) (by simp [hxx, bB, fob_at, upd_at, none0_at, bU, HO.men, HV.men, HV.menL, HV.norm, HV.toC, HV.toCL])) ?_
   rintro ⟨⟨k, x⟩, hst⟩
   simp only at hst ⊢
   have hkl := hst.1
   refine aB fun K hK => ?_
   refine aB fun K hK => Rg ?_
   have F := @List.length_map.{0,0}
   iterate 5 refine SF ?_
   refine aE 79 rfl (fun h12_79 => ?_) (fun h12_79 => ?_)
   ·
    have F := aI @List.length_map.{0,0} h12_79
    iterate 2 refine SF ?_
    refine aZ (g := some (80, true)) rfl rfl fun K' hK' => T6 ?_
    have hk : k < ls.length := by simp at h12_79; omega
    have hkn := qP l0 hk
    have hwk := hok ls[k] (List.mem_cons_of_mem _ (List.getElem_mem hk))
    have h0l : 0 < ls[k].length := List.length_pos_iff.2 hwk.1
    have w0 := bP h0l
    rw [hkn]
    refine AX (hK' _ _ ?_)
    iterate 5 refine SF ?_
    refine aE 86 rfl (fun h12_86 => ?_) (fun h12_86 => ?_)
    ·
     have F := aI @List.length_map.{0,0} (aI h12_79 h12_86)
     iterate 2 refine SF ?_
     refine aZ (g := some (88, true)) rfl rfl fun K' hK' => T6 ?_
     rw [hkn]
     refine AX (hK' _ _ ?_)
     refine SF ?_
     refine aZ (g := some (88, true)) rfl rfl fun K' hK' => T6 ?_
     rw [w0]
     refine AX (hK' _ _ ?_)
     iterate 3 refine SF ?_
     refine aE 95 rfl (fun h12_95 => ?_) (fun h12_95 => ?_)
     ·
      simp only [h12_95]
      refine T2 (hK _ _ _ ?_)
      clear hK K
      refine CT rfl ?_
      refine aG ?_
      refine T0 (hK _ _ _ ?_)
      clear hK K
      refine aH ?_
      have hw : wd ls[k] 0 = dO 0 := by simpa [dO] using h12_95
      have h3k : ls[k].length = 3 := by simp at h12_86; omega
      have i1 : 1 < ls[k].length := by omega
      have i2 : 2 < ls[k].length := by omega
      have z1 : (1 : Int) < ls[k].length := by omega
      have z2 : (2 : Int) < ls[k].length := by omega
      have hki : ((k + 1 : Nat) : Int) < ((ls.length + 1 : Nat) : Int) := by omega
      have hxl := hst.len (by omega) hk hw
      refine aB fun K hK => Rg ?_
      iterate 6 refine S0 ?_ (e := fun _ h_ => by simp only [sH, ↓sP, sA, tyS, simprocAttr, hki, hkn, CV.cells, z2, bP i2, List.length_map]; exact AX h_)
      refine HS fun K' hK' => ?_
      simp only [sH, ↓sP, sA, tyS, simprocAttr, hki, hkn, CV.cells, z2, bP i2, List.length_map]
      refine D1 (iC (wd ls[k] 2)) ?_
      rintro u v ⟨rfl, rfl⟩
      refine AX (hK' _ _ ?_)
      iterate 5 refine S0 ?_ (e := fun _ h_ => by simp only [sH, ↓sP, sA, tyS, simprocAttr, hki, hkn, CV.cells, z2, bP i2, List.length_map]; exact AX h_)
      refine T2 (hK _ _ _ ?_)
      clear hK K
      refine aB fun K hK => ?_
      refine R0 ?_
      refine aJ (b := !(bL (wd ls[k] 2)).isSome) rfl (fun hb => ?_) (fun hb => ?_)
      ·
       refine R0 ?_
       refine aD (RT Tryz.results21 ?_)
       have hE := hEn (gQ hroot hx1 (hst.fail (by omega) hk hw (show fX ls[k] x = none by unfold fX; rw [if_pos h3k]; rw [show bL (wd ls[k] 2) = none by simpa using hb])))
       exact aL [] rt0.cv (.int .i64 2) rfl ⟨by rw [hOn (by rw [hE]; decide)], by rw [hE]⟩
      refine aG ?_
      refine T0 (hK _ _ _ ?_)
      clear hK K
      obtain ⟨n, hn⟩ := Option.isSome_iff_exists.1 (show (bL (wd ls[k] 2)).isSome = true by simpa using hb)
      have hy : jB 0 ls[k] x = some { x with q := x.q ++ [⟨wd ls[k] 1, n⟩] } := by show fX ls[k] x = _; unfold fX; rw [if_pos h3k, hn]
      rw [hn]
      refine aB fun K hK => DW [(0, [], []), (1, [], []), (2, [], []), (3, [], []), (4, [], []), (5, [], []), (6, [], []), (7, [], []), (8, [], []), (9, [], []), (10, [], []), (11, [], []), (12, [], []), (13, [], [])] [0, 1, 0, 0, 12, 28, 60, 124, 0, 508, 1020, 2047, 4095, 8191] ?_
      iterate 14 refine W0 ?_ (e := fun _ h_ => by simp only [sH, ↓sP, sA, tyS, simprocAttr, hki, hkn, CV.cells, z1, bP i1, List.length_map, List.length_append, Option.getD_some]; exact AX h_)
      refine T2 (hK _ _ _ ?_)
      clear hK K
      refine aM (by kernel_rfl) ?_
      refine TQ (IntWalk.i64_in _ (show -9223372036854775808 ≤ ((k + 1 : Nat) : Int) + 1 ∧ ((k + 1 : Nat) : Int) + 1 ≤ 9223372036854775807 by omega)) ?_
      refine ⟨⟨(k + 1, { x with q := x.q ++ [⟨wd ls[k] 1, n⟩] }), hst.hit (by omega) hk hw hy⟩, fF, ?_⟩
      show ls.length - (k + 1) < ls.length - k
      omega
     simp only [h12_95]
     refine T2 (hK _ _ _ ?_)
     clear hK K
     refine CF rfl ?_
     refine aR (T3 ?_)
     clear hK K
     exact key0 k x _ _ _ (hst.next (by omega) fun hk hw => absurd hw (by simpa [dO] using h12_95)) (fF)
    have F := aI @List.length_map.{0,0} (aI h12_79 h12_86)
    iterate 8 refine SF ?_
    refine T2 (hK _ _ _ ?_)
    clear hK K
    refine CF rfl ?_
    refine aR (T3 ?_)
    clear hK K
    exact key0 k x _ _ _ (hst.next (by omega) fun hk _ => yI (.inl rfl) (by simp at h12_86; omega) x) (fF)
   have F := aI @List.length_map.{0,0} h12_79
   iterate 16 refine SF ?_
   refine T2 (hK _ _ _ ?_)
   clear hK K
   refine CF rfl ?_
   refine aR (T3 ?_)
   clear hK K
   exact key0 k x _ _ _ (hst.next (by omega) fun hk => absurd hk (by simp at h12_79; omega)) (fF)
  simp only [h8_69]
  refine T2 (hK _ _ _ ?_)
  clear hK K
  refine CT rfl ?_
  refine R0 ?_
  refine aD (RT Tryz.results21 ?_)
  have hE := hEn (qN hroot (by unfold iD; rw [if_pos h3, show bL (wd l0 2) = none by simpa using h8_69]; cases bL (wd l0 1) <;> rfl))
  exact aL [] rt0.cv (.int .i64 2) rfl ⟨by rw [hOn (by rw [hE]; decide)], by rw [hE]⟩
 have F := h8_66
 iterate 3 refine SF ?_
 refine T2 (hK _ _ _ ?_)
 clear hK K
 refine CT rfl ?_
 refine R0 ?_
 refine aD (RT Tryz.results21 ?_)
 have hE := hEn (qN hroot (by unfold iD; rw [if_pos h3, show bL (wd l0 1) = none by simpa using h8_66]))
 exact aL [] rt0.cv (.int .i64 2) rfl ⟨by rw [hOn (by rw [hE]; decide)], by rw [hE]⟩

end Go.Proofs.YtenbfeemmpjdhaaGreatDoor

namespace Go.Proofs.YtenbfeemmpjdhaaGreatDoor
open Go Go.Hl Go.Pl
set_option maxRecDepth 10000
set_option maxHeartbeats 4000000

theorem bT3 (a b : Rt) (ha : a.x.length < 2 ^ 40) (hb' : b.x.length < 2 ^ 40) : aV Tryz.prog 54 [a.cv, b.cv] (fun v => v = .bool (jS a b)) := by
 refine FW Tryz.func54 ?_
 refine R0 ?_
 refine aB fun K hK => ?_
 refine aB fun K hK => Rg ?_
 iterate 4 refine S0 ?_
 refine T2 (hK _ _ _ ?_)
 clear hK K
 refine aH ?_
 refine aS (α := {i : Nat // i ≤ a.x.length ∧ ∀ x ∈ a.x.take i, (!iT b.x x.k || decide (x.t < iH b.x x.k)) = false}) (fun i => (fin [(3, .ptr 4 0), (10, .c (.slc (a.x.map Rv.cv))), (11, .c (.int .i64 a.x.length)), (12, .c (.int .i64 i.1))], fob [(4, .box 26 (.c b.cv))])) 100 (fun i => a.x.length - i.1) ⟨0, by omega, by simp⟩ (fF) ?_
 rintro ⟨i, hi, h0⟩
 refine R0 ?_
 refine aB fun K hK => ?_
 refine aJ (b := decide ((i : Int) < a.x.length)) rfl (fun hb => ?_) (fun hb => ?_)
 ·
  have hlt : i < a.x.length := by simpa using hb
  clear hb
  refine aG ?_
  refine T0 (hK _ _ _ ?_)
  clear hK K
  refine aB fun K hK => ?_
  refine aH ?_
  refine aB fun K hK => Rg ?_
  have F := aI @Int.natCast_nonneg (aI @Int.ofNat_lt (aI hlt (nM hlt)))
  iterate 4 refine SF ?_
  refine T2 (hK _ _ _ ?_)
  clear hK K
  refine aB fun K hK => Rg ?_
  iterate 3 refine S0 ?_
  refine HS fun K' hK' => T5 ?_
  refine D2 (uM b a.x[i].k hb') ?_
  rintro u v ⟨rfl, rfl⟩
  refine AX (hK' _ _ ?_)
  iterate 5 refine S0 ?_
  refine T2 (hK _ _ _ ?_)
  clear hK K
  refine aB fun K hK => Rg ?_
  iterate 3 refine S0 ?_
  refine aE 23 rfl (fun h5_23 => ?_) (fun h5_23 => ?_)
  ·
   have F := h5_23
   iterate 5 refine SF ?_
   refine aE 29 rfl (fun h5_29 => ?_) (fun h5_29 => ?_)
   ·
    simp only [h5_29]
    refine T2 (hK _ _ _ ?_)
    clear hK K
    refine CT rfl ?_
    refine R0 ?_
    refine aD (RT Tryz.results54 ?_)
    exact aC [] (.bool false) rfl (by rw [nD hlt (by simp only [h5_23, h5_29, Bool.not_false, Bool.not_true, Bool.true_or, Bool.or_true, Bool.false_or])])
   simp only [h5_29]
   refine T2 (hK _ _ _ ?_)
   clear hK K
   refine CF rfl ?_
   refine aG ?_
   refine T0 (hK _ _ _ ?_)
   clear hK K
   refine aM (by kernel_rfl) ?_
   refine TQ (bK i) ?_
   refine ⟨⟨i + 1, hlt, dL (p := fun x => (!iT b.x x.k || decide (x.t < iH b.x x.k))) hlt (by simp only [h5_23, h5_29]; rfl) h0⟩, fF, ?_⟩
   show a.x.length - (i + 1) < a.x.length - i
   omega
  have F := h5_23
  iterate 5 refine SF ?_
  refine T2 (hK _ _ _ ?_)
  clear hK K
  refine CT rfl ?_
  refine R0 ?_
  refine aD (RT Tryz.results54 ?_)
  exact aC [] (.bool false) rfl (by rw [nD hlt (by simp only [h5_23, Bool.not_false, Bool.not_true, Bool.true_or, Bool.or_true, Bool.false_or])])
 refine aR (T3 ?_)
 clear hK K
 refine AX (hK _ _ _ ?_)
 clear hK K
 refine R0 ?_
 refine aD (RT Tryz.results54 ?_)
 have hei : i = a.x.length := by simp at hb; omega
 subst hei
 rw [List.take_length] at h0
 exact aC [] (.bool true) rfl (by rw [aI9 h0])


theorem bA9 (r : Rt) (b : aK) (l : List Dig) (t : Int) (hr : rSz r) (hlb : b.length < 2 ^ 40) (hll : l.length < 2 ^ 40) : cT Tryz.prog 15 [r.cv, .slc (b.map u8), .slc (l.map dg), .int .i64 t] (fun u v => u = (jT r b l t).cv ∧ v = .int .i64 (eO r b l t)) := by
 refine FW Tryz.func15 ?_
 refine R0 ?_
 refine aB fun K hK => ?_
 refine aB fun K hK => Rg ?_
 refine S0 ?_
 refine HS fun K' hK' => T5 ?_
 refine C1 (mH r hr) ?_
 rintro u rfl
 refine AX (hK' _ _ ?_)
 refine S0 ?_
 refine T2 (hK _ _ _ ?_)
 clear hK K
 refine aJ (b := !(bJ r)) rfl (fun hb => ?_) (fun hb => ?_)
 ·
  refine R0 ?_
  refine aD (RT Tryz.results15 ?_)
  have hE : eO r b l t = 1 := by unfold eO; rw [if_pos (by simpa using hb)]
  exact aL [] rt0.cv (.int .i64 1) rfl ⟨by unfold jT; rw [if_neg (by rw [hE]; decide)], by rw [hE]⟩
 have h1 : ¬ bJ r = false := by simpa using hb
 clear hb
 refine aG ?_
 refine T0 (hK _ _ _ ?_)
 clear hK K
 refine aB fun K hK => Rg ?_
 have F := @denilL_u8
 refine SF ?_
 refine HS fun K' hK' => T6 ?_
 refine D1 (bT0 b hlb) ?_
 rintro u v ⟨rfl, rfl⟩
 refine AX (hK' _ _ ?_)
 iterate 6 refine SF ?_
 refine T2 (hK _ _ _ ?_)
 clear hK K
 refine aB fun K hK => ?_
 refine aH ?_
 refine R0 ?_
 refine aJ (b := cK b != 0) rfl (fun hb => ?_) (fun hb => ?_)
 ·
  refine aB fun K hK => Rg ?_
  iterate 4 refine S0 ?_
  refine T2 (hK _ _ _ ?_)
  clear hK K
  refine aD (RT Tryz.results15 ?_)
  have h2 : cK b ≠ 0 := by simpa using hb
  have hE : eO r b l t = cK b := by unfold eO; rw [if_neg h1, if_pos h2]
  exact aL [] rt0.cv (.int .i64 (cK b)) rfl ⟨by unfold jT; rw [if_neg (by rw [hE]; exact h2)], by rw [hE]⟩
 have h2 : ¬ cK b ≠ 0 := by simpa using hb
 clear hb
 have hy := vK b
 refine aB fun K hK => Rg ?_
 iterate 7 refine S0 ?_
 refine T2 (hK _ _ _ ?_)
 clear hK K
 refine aJ (b := (bX b).v != IntKind.i64.wrap (r.v + 1)) rfl (fun hb => ?_) (fun hb => ?_)
 ·
  refine R0 ?_
  refine aD (RT Tryz.results15 ?_)
  have hE : eO r b l t = 6 := by unfold eO; rw [if_neg h1, if_neg h2, if_pos (by simpa using hb)]
  exact aL [] rt0.cv (.int .i64 6) rfl ⟨by unfold jT; rw [if_neg (by rw [hE]; decide)], by rw [hE]⟩
 have h3 : ¬ (bX b).v ≠ IntKind.i64.wrap (r.v + 1) := by simpa using hb
 clear hb
 refine aB fun K hK => Rg ?_
 iterate 2 refine S0 ?_
 refine HS fun K' hK' => T5 ?_
 refine C2 (bT3 r (bX b) hr.2.2 hy.2.2) ?_
 rintro u rfl
 refine AX (hK' _ _ ?_)
 iterate 2 refine S0 ?_
 refine T2 (hK _ _ _ ?_)
 clear hK K
 refine aJ (b := !(jS r (bX b))) rfl (fun hb => ?_) (fun hb => ?_)
 ·
  refine R0 ?_
  refine aD (RT Tryz.results15 ?_)
  have hE : eO r b l t = 1 := by unfold eO; rw [if_neg h1, if_neg h2, if_neg h3, if_pos (by simpa using hb)]
  exact aL [] rt0.cv (.int .i64 1) rfl ⟨by unfold jT; rw [if_neg (by rw [hE]; decide)], by rw [hE]⟩
 have h4 : ¬ jS r (bX b) = false := by simpa using hb
 clear hb
 refine aB fun K hK => Rg ?_
 have F := @denilL_dg
 iterate 3 refine SF ?_
 refine HS fun K' hK' => T6 ?_
 refine C4 (qL r fE l t hr hll) ?_
 rintro u rfl
 refine AX (hK' _ _ ?_)
 iterate 2 refine SF ?_
 refine aE 44 rfl (fun h10_44 => ?_) (fun h10_44 => ?_)
 ·
  have F := aI @denilL_dg h10_44
  iterate 3 refine SF ?_
  refine aZ (g := some (46, false)) rfl rfl fun K' hK' => T6 ?_
  refine C4 (qL (bX b) fE l t hy hll) ?_
  rintro u rfl
  refine AX (hK' _ _ ?_)
  iterate 3 refine SF ?_
  refine aE 50 rfl (fun h10_50 => ?_) (fun h10_50 => ?_)
  ·
   simp only [h10_50]
   refine T2 (hK _ _ _ ?_)
   clear hK K
   refine CF rfl ?_
   refine aG ?_
   refine T0 (hK _ _ _ ?_)
   clear hK K
   refine R0 ?_
   refine aD (RT Tryz.results15 ?_)
   have hE : eO r b l t = 0 := by unfold eO; rw [if_neg h1, if_neg h2, if_neg h3, if_neg h4, if_pos (by simp only [h10_44, h10_50]; rfl)]
   refine aL [] (bX b).cv (.int .i64 0) ?_ ⟨by unfold jT; rw [if_pos hE], by rw [hE]⟩
   simp [HV.close, HV.closeL, HV.norm, HV.toC, HV.toCL, CV.denil, Rt.denil]
  simp only [h10_50]
  refine T2 (hK _ _ _ ?_)
  clear hK K
  refine CT rfl ?_
  refine R0 ?_
  refine aD (RT Tryz.results15 ?_)
  have hE : eO r b l t = 7 := by unfold eO; rw [if_neg h1, if_neg h2, if_neg h3, if_neg h4, if_neg (by simp only [h10_44, h10_50, Bool.and_false, Bool.false_and]; simp)]
  exact aL [] rt0.cv (.int .i64 7) rfl ⟨by unfold jT; rw [if_neg (by rw [hE]; decide)], by rw [hE]⟩
 have F := aI @denilL_dg h10_44
 iterate 7 refine SF ?_
 refine T2 (hK _ _ _ ?_)
 clear hK K
 refine CT rfl ?_
 refine R0 ?_
 refine aD (RT Tryz.results15 ?_)
 have hE : eO r b l t = 7 := by unfold eO; rw [if_neg h1, if_neg h2, if_neg h3, if_neg h4, if_neg (by simp only [h10_44, Bool.and_false, Bool.false_and]; simp)]
 exact aL [] rt0.cv (.int .i64 7) rfl ⟨by unfold jT; rw [if_neg (by rw [hE]; decide)], by rw [hE]⟩

end Go.Proofs.YtenbfeemmpjdhaaGreatDoor

namespace Go.Proofs.YtenbfeemmpjdhaaGreatDoor
open Go Go.Hl Go.Pl
set_option maxRecDepth 10000
set_option maxHeartbeats 4000000
attribute [local simp] tp

theorem bL0 (r : Rt) : aV Tryz.prog 24 [r.cv] (fun v => v = .bool (iW r)) := by
 refine FW Tryz.func24 ?_
 refine R0 ?_
 refine aB fun K hK => ?_
 refine aB fun K hK => Rg ?_
 iterate 5 refine S0 ?_
 refine aE 7 rfl (fun h1_7 => ?_) (fun h1_7 => ?_)
 ·
  have F := h1_7
  iterate 11 refine SF ?_
  refine T2 (hK _ _ _ ?_)
  clear hK K
  refine CT rfl ?_
  refine R0 ?_
  refine aD (RT Tryz.results24 ?_)
  exact aC [] (.bool false) rfl (by simp only [kR, h1_7, Bool.not_true, Bool.not_false, Bool.true_and, Bool.false_and, Bool.and_false])
 have F := h1_7
 iterate 6 refine SF ?_
 refine aE 12 rfl (fun h1_12 => ?_) (fun h1_12 => ?_)
 ·
  have F := aI h1_7 h1_12
  iterate 5 refine SF ?_
  refine T2 (hK _ _ _ ?_)
  clear hK K
  refine CT rfl ?_
  refine R0 ?_
  refine aD (RT Tryz.results24 ?_)
  exact aC [] (.bool false) rfl (by simp only [kR, h1_7, h1_12, Bool.not_true, Bool.not_false, Bool.true_and, Bool.false_and, Bool.and_false])
 have F := aI h1_7 h1_12
 iterate 5 refine SF ?_
 refine aE 18 rfl (fun h1_18 => ?_) (fun h1_18 => ?_)
 ·
  simp only [h1_18]
  refine T2 (hK _ _ _ ?_)
  clear hK K
  refine CT rfl ?_
  refine R0 ?_
  refine aD (RT Tryz.results24 ?_)
  exact aC [] (.bool false) rfl (by simp only [kR, h1_7, h1_12, h1_18, Bool.not_true, Bool.not_false, Bool.true_and, Bool.false_and, Bool.and_false])
 simp only [h1_18]
 refine T2 (hK _ _ _ ?_)
 clear hK K
 refine CF rfl ?_
 refine aG ?_
 refine T0 (hK _ _ _ ?_)
 clear hK K
 refine aB fun K hK => ?_
 refine R0 ?_
 refine aH ?_
 have hk50 : r.k.length ≤ 50 := by simp at h1_12; omega
 refine aS (α := {i : Nat // i ≤ r.k.length ∧ ∀ x ∈ r.k.take i, lV x = true}) (fun i => (fin [(1, .ptr 0 0), (3, .c (.int .i64 i.1))], fob [(0, .box 26 (.c r.cv))])) 100 (fun i => r.k.length - i.1) ⟨0, by omega, by simp⟩ (fF) ?_
 rintro ⟨i, hi, h0⟩
 refine aB fun K hK => ?_
 refine aB fun K hK => Rg ?_
 have F := aI h1_7 (aI h1_12 h1_18)
 iterate 5 refine SF ?_
 refine T2 (hK _ _ _ ?_)
 clear hK K
 refine aJ (b := decide ((i : Int) < r.k.length)) rfl (fun hb => ?_) (fun hb => ?_)
 ·
  have hlt : i < r.k.length := by simpa using hb
  refine aG ?_
  refine T0 (hK _ _ _ ?_)
  clear hK K
  refine aB fun K hK => ?_
  refine aH ?_
  refine aB fun K hK => Rg ?_
  have F := aI @Int.natCast_nonneg (aI @Int.ofNat_lt (aI hlt (aI (nM hlt) (aI h1_7 (aI h1_12 h1_18)))))
  iterate 9 refine SF ?_
  refine aE 34 rfl (fun h6_34 => ?_) (fun h6_34 => ?_)
  ·
   have F := aI @Int.natCast_nonneg (aI @Int.ofNat_lt (aI hlt (aI (nM hlt) (aI h1_7 (aI h1_12 (aI h1_18 h6_34))))))
   iterate 9 refine SF ?_
   refine T2 (hK _ _ _ ?_)
   clear hK K
   refine CT rfl ?_
   refine R0 ?_
   refine aD (RT Tryz.results24 ?_)
   exact aC [] (.bool false) rfl (by rw [xF hlt (by simp only [lW, h1_7, h1_12, h1_18, h6_34, Bool.not_true, Bool.not_false, Bool.true_and, Bool.false_and, Bool.and_false])])
  have F := aI @Int.natCast_nonneg (aI @Int.ofNat_lt (aI hlt (aI (nM hlt) (aI h1_7 (aI h1_12 (aI h1_18 h6_34))))))
  iterate 9 refine SF ?_
  refine aE 43 rfl (fun h6_43 => ?_) (fun h6_43 => ?_)
  ·
   simp only [h6_43]
   refine T2 (hK _ _ _ ?_)
   clear hK K
   refine CT rfl ?_
   refine R0 ?_
   refine aD (RT Tryz.results24 ?_)
   exact aC [] (.bool false) rfl (by rw [xF hlt (by simp only [lW, h1_7, h1_12, h1_18, h6_34, h6_43, Bool.not_true, Bool.not_false, Bool.true_and, Bool.false_and, Bool.and_false])])
  simp only [h6_43]
  refine T2 (hK _ _ _ ?_)
  clear hK K
  refine CF rfl ?_
  refine aG ?_
  refine T0 (hK _ _ _ ?_)
  clear hK K
  refine aM (by kernel_rfl) ?_
  refine TQ (bK i) ?_
  refine ⟨⟨i + 1, hlt, fun x hx => ?_⟩, fF, ?_⟩
  ·
   rw [List.take_succ_eq_append_getElem hlt, List.mem_append, List.mem_singleton] at hx
   rcases hx with hx | rfl
   ·
    exact h0 x hx
   simp only [lW, h1_7, h1_12, h1_18, h6_34, h6_43, Bool.not_false, Bool.true_and]
  show r.k.length - (i + 1) < r.k.length - i
  omega
 refine aR (T3 ?_)
 clear hK K
 refine AX (hK _ _ _ ?_)
 clear hK K
 refine R0 ?_
 refine aD (RT Tryz.results24 ?_)
 have hei : i = r.k.length := by simp at hb; omega
 subst hei
 rw [List.take_length] at h0
 exact aC [] (.bool true) rfl (by rw [kR, List.all_eq_true.2 h0, h1_7, h1_12, h1_18]; rfl)


theorem aJ0 (r : Rt) (d : Dig) (hr : rSz r) : cT Tryz.prog 123 [r.cv, dg d] (fun u v => u = ((fG r.k d).getD k0).cv ∧ v = .bool (fG r.k d).isSome) := by
 have hlk : r.k.length < 2 ^ 40 := hr.2.1.1
 refine FW Tryz.func123 ?_
 refine aB fun K hK => Rg ?_
 iterate 4 refine S0 ?_
 refine T2 (hK _ _ _ ?_)
 clear hK K
 refine aB fun K hK => ?_
 refine R0 ?_
 refine aH ?_
 refine aS (α := {i : Nat // i ≤ r.k.length ∧ ∀ x ∈ r.k.take i, (kid x == d) = false}) (fun i => (fin [(2, .ptr 0 0), (3, .ptr 4 0), (4, .ptr 8 0), (6, .c (.int .i64 i.1))], fob [(0, .box 26 (.c r.cv)), (4, .box 49 (.c (dg d))), (8, .box 70 (.c (.agg [Pk.cv ⟨0, zh⟩, .str [], .nils, .int .i64 0, .int .i64 0])))])) 100 (fun i => r.k.length - i.1) ⟨0, by omega, by simp⟩ (fF) ?_
 rintro ⟨i, hi, h0⟩
 refine aB fun K hK => ?_
 refine aB fun K hK => Rg ?_
 iterate 5 refine S0 ?_
 refine T2 (hK _ _ _ ?_)
 clear hK K
 refine aJ (b := decide ((i : Int) < r.k.length)) rfl (fun hb => ?_) (fun hb => ?_)
 ·
  have hlt : i < r.k.length := by simpa using hb
  refine aG ?_
  refine T0 (hK _ _ _ ?_)
  clear hK K
  refine aB fun K hK => ?_
  refine aH ?_
  refine aB fun K hK => DW [(0, [], []), (1, [], []), (2, [], []), (3, [], []), (4, [], []), (5, [], []), (7, [], []), (6, [], [7]), (8, [], [])] [0, 1, 0, 7, 15, 31, 63, 0, 255] ?_
  have F := aI @Int.natCast_nonneg (aI @Int.ofNat_lt (aI hlt (nM hlt)))
  iterate 7 refine WF ?_
  refine aN (g := none) rfl rfl fun K' hK' => T6 ?_
  refine C1 (qK r.k[i].p) ?_
  rintro u rfl
  refine AX (hK' _ _ ?_)
  refine WF ?_
  refine T2 (hK _ _ _ ?_)
  clear hK K
  refine aJ (b := kid r.k[i] == d) rfl (fun hb => ?_) (fun hb => ?_)
  ·
   refine aB fun K hK => Rg ?_
   iterate 7 refine SF ?_
   refine T2 (hK _ _ _ ?_)
   clear hK K
   refine aD (RT Tryz.results123 ?_)
   have hf : fG r.k d = some r.k[i] := oS (p := fun k => kid k == d) hlt hb h0
   refine aL [] r.k[i].cv (.bool true) ?_ ⟨by rw [hf]; rfl, by rw [hf]; rfl⟩
   simp [HV.close, HV.closeL, Ky.denil, CV.denil, HV.norm, HV.toC, HV.toCL]
  refine aG ?_
  refine T0 (hK _ _ _ ?_)
  clear hK K
  refine aM (by kernel_rfl) ?_
  refine TQ (bK i) ?_
  refine ⟨⟨i + 1, hlt, dL (p := fun k => kid k == d) hlt hb h0⟩, fF, ?_⟩
  show r.k.length - (i + 1) < r.k.length - i
  omega
 refine aR (T3 ?_)
 clear hK K
 refine AX (hK _ _ _ ?_)
 clear hK K
 refine R0 ?_
 refine aD (RT Tryz.results123 ?_)
 have hei : i = r.k.length := by simp at hb; omega
 subst hei
 rw [List.take_length] at h0
 have hf : fG r.k d = none := qA (p := fun k => kid k == d) h0
 refine aL [] k0.cv (.bool false) ?_ ⟨by rw [hf]; rfl, by rw [hf]; rfl⟩
 simp [HV.close, HV.closeL, CV.denil, CV.denilL, HV.norm, HV.toC, HV.toCL, Pk.denil, k0, Ky.cv]


theorem rG (r : Rt) (d : Dig) (hl : r.x.length < 2 ^ 40) : cT Tryz.prog 57 [r.cv, dg d] (fun u v => u = .int .i64 (iH r.x d) ∧ v = .bool (iT r.x d)) := by
 refine FW Tryz.func57 ?_
 refine aB fun K hK => Rg ?_
 iterate 4 refine S0 ?_
 refine T2 (hK _ _ _ ?_)
 clear hK K
 refine aB fun K hK => ?_
 refine R0 ?_
 refine aH ?_
 refine aS (α := {i : Nat // i ≤ r.x.length ∧ ∀ x ∈ r.x.take i, (x.k == d) = false}) (fun i => (fin [(2, .ptr 0 0), (3, .ptr 4 0), (6, .c (.int .i64 i.1))], fob [(0, .box 26 (.c r.cv)), (4, .box 49 (.c (dg d)))])) 100 (fun i => r.x.length - i.1) ⟨0, by omega, by simp⟩ (fF) ?_
 rintro ⟨i, hi, h0⟩
 refine aB fun K hK => ?_
 refine aB fun K hK => Rg ?_
 iterate 5 refine S0 ?_
 refine T2 (hK _ _ _ ?_)
 clear hK K
 refine aJ (b := decide ((i : Int) < r.x.length)) rfl (fun hb => ?_) (fun hb => ?_)
 ·
  have hlt : i < r.x.length := by simpa using hb
  refine aG ?_
  refine T0 (hK _ _ _ ?_)
  clear hK K
  refine aB fun K hK => ?_
  refine aH ?_
  refine aB fun K hK => QR ?_
  have F := aI @Int.natCast_nonneg (aI @Int.ofNat_lt (aI hlt (nM hlt)))
  iterate 8 refine SF ?_
  refine T2 (hK _ _ _ ?_)
  clear hK K
  refine aJ (b := r.x[i].k == d) rfl (fun hb => ?_) (fun hb => ?_)
  ·
   refine aB fun K hK => Rg ?_
   iterate 8 refine SF ?_
   refine T2 (hK _ _ _ ?_)
   clear hK K
   refine aD (RT Tryz.results57 ?_)
   exact aL [] (.int .i64 r.x[i].t) (.bool true) rfl ⟨by unfold iH; rw [oT hlt hb h0]; rfl, by unfold iT; rw [oT hlt hb h0]; rfl⟩
  refine aG ?_
  refine T0 (hK _ _ _ ?_)
  clear hK K
  refine aM (by kernel_rfl) ?_
  refine TQ (bK i) ?_
  refine ⟨⟨i + 1, hlt, dL (p := fun x => x.k == d) hlt hb h0⟩, fF, ?_⟩
  show r.x.length - (i + 1) < r.x.length - i
  omega
 refine aR (T3 ?_)
 clear hK K
 refine AX (hK _ _ _ ?_)
 clear hK K
 refine R0 ?_
 refine aD (RT Tryz.results57 ?_)
 have hei : i = r.x.length := by simp at hb; omega
 subst hei
 have hm := aD8 (l := r.x) (d := d) (by simpa using h0)
 exact aL [] (.int .i64 0) (.bool false) rfl ⟨by unfold iH; rw [hm]; rfl, by unfold iT; rw [hm]; rfl⟩


theorem bL1 (r : Rt) (d : Dig) (t : Int) (hr : rSz r) : aV Tryz.prog 124 [r.cv, dg d, .int .i64 t] (fun v => v = .bool (oY r d t)) := by
 refine FW Tryz.func124 ?_
 refine R0 ?_
 refine aB fun K hK => Rg ?_
 iterate 2 refine S0 ?_
 refine HS fun K' hK' => T5 ?_
 refine D2 (aJ0 r d hr) ?_
 rintro u v ⟨rfl, rfl⟩
 refine AX (hK' _ _ ?_)
 iterate 6 refine S0 ?_
 refine T2 (hK _ _ _ ?_)
 clear hK K
 refine aB fun K hK => Rg ?_
 iterate 2 refine S0 ?_
 refine HS fun K' hK' => T5 ?_
 refine D2 (rG r d hr.2.2) ?_
 rintro u v ⟨rfl, rfl⟩
 refine AX (hK' _ _ ?_)
 iterate 5 refine S0 ?_
 refine T2 (hK _ _ _ ?_)
 clear hK K
 refine aB fun K hK => Rg ?_
 iterate 2 refine S0 ?_
 refine aE 23 rfl (fun h3_23 => ?_) (fun h3_23 => ?_)
 ·
  have F := h3_23
  iterate 6 refine SF ?_
  refine aE 28 rfl (fun h3_28 => ?_) (fun h3_28 => ?_)
  ·
   have F := aI h3_23 h3_28
   iterate 6 refine SF ?_
   refine aE 34 rfl (fun h3_34 => ?_) (fun h3_34 => ?_)
   ·
    have F := aI h3_23 (aI h3_28 h3_34)
    iterate 6 refine SF ?_
    refine aE 40 rfl (fun h3_40 => ?_) (fun h3_40 => ?_)
    ·
     have F := aI h3_23 (aI h3_28 (aI h3_34 h3_40))
     iterate 2 refine SF ?_
     refine aE 43 rfl (fun h3_43 => ?_) (fun h3_43 => ?_)
     ·
      have F := aI h3_23 (aI h3_28 (aI h3_34 (aI h3_40 h3_43)))
      iterate 7 refine SF ?_
      refine aE 47 rfl (fun h3_47 => ?_) (fun h3_47 => ?_)
      ·
       simp only [h3_47]
       refine T2 (hK _ _ _ ?_)
       clear hK K
       refine aD (RT Tryz.results124 ?_)
       exact aC [] (.bool false) rfl (by simp only [eG, h3_23, h3_28, h3_34, h3_40, h3_43, h3_47, Bool.and_true, Bool.and_false, Bool.true_and, Bool.false_and, Bool.not_true, Bool.not_false])
      simp only [h3_47]
      refine T2 (hK _ _ _ ?_)
      clear hK K
      refine aD (RT Tryz.results124 ?_)
      exact aC [] (.bool true) rfl (by simp only [eG, h3_23, h3_28, h3_34, h3_40, h3_43, h3_47, Bool.and_true, Bool.and_false, Bool.true_and, Bool.false_and, Bool.not_true, Bool.not_false])
     have F := aI h3_23 (aI h3_28 (aI h3_34 (aI h3_40 h3_43)))
     iterate 7 refine SF ?_
     refine T2 (hK _ _ _ ?_)
     clear hK K
     refine aD (RT Tryz.results124 ?_)
     exact aC [] (.bool true) rfl (by simp only [eG, h3_23, h3_28, h3_34, h3_40, h3_43, Bool.and_true, Bool.and_false, Bool.true_and, Bool.false_and, Bool.not_true, Bool.not_false])
    have F := aI h3_23 (aI h3_28 (aI h3_34 h3_40))
    iterate 9 refine SF ?_
    refine T2 (hK _ _ _ ?_)
    clear hK K
    refine aD (RT Tryz.results124 ?_)
    exact aC [] (.bool false) rfl (by simp only [eG, h3_23, h3_28, h3_34, h3_40, Bool.and_true, Bool.and_false, Bool.true_and, Bool.false_and, Bool.not_true, Bool.not_false])
   have F := aI h3_23 (aI h3_28 h3_34)
   iterate 15 refine SF ?_
   refine T2 (hK _ _ _ ?_)
   clear hK K
   refine aD (RT Tryz.results124 ?_)
   exact aC [] (.bool false) rfl (by simp only [eG, h3_23, h3_28, h3_34, Bool.and_true, Bool.and_false, Bool.true_and, Bool.false_and, Bool.not_true, Bool.not_false])
  have F := aI h3_23 h3_28
  iterate 21 refine SF ?_
  refine T2 (hK _ _ _ ?_)
  clear hK K
  refine aD (RT Tryz.results124 ?_)
  exact aC [] (.bool false) rfl (by simp only [eG, h3_23, h3_28, Bool.and_true, Bool.and_false, Bool.true_and, Bool.false_and, Bool.not_true, Bool.not_false])
 have F := h3_23
 iterate 27 refine SF ?_
 refine T2 (hK _ _ _ ?_)
 clear hK K
 refine aD (RT Tryz.results124 ?_)
 exact aC [] (.bool false) rfl (by simp only [eG, h3_23, Bool.and_true, Bool.and_false, Bool.true_and, Bool.false_and, Bool.not_true, Bool.not_false])



theorem aJ1 (r : Rt) (role : aK) (l : List Dig) (t : Int) (hr : rSz r) (hl : l.length < 2 ^ 40) : aV Tryz.prog 96 [r.cv, .str role, .slc (l.map dg), .int .i64 t] (fun v => v = .slc ((fP r role l t).map .str)) := by
 refine FW Tryz.func96 ?_
 refine R0 ?_
 refine aB fun K hK => ?_
 refine aB fun K hK => Rg ?_
 refine S0 ?_
 refine HS fun K' hK' => T5 ?_
 refine C1 (gP r hr) ?_
 rintro u rfl
 refine AX (hK' _ _ ?_)
 refine S0 ?_
 refine T2 (hK _ _ _ ?_)
 clear hK K
 refine aJ (b := !bJ r) rfl (fun hb => ?_) (fun hb => ?_)
 ·
  refine R0 ?_
  refine aD (RT Tryz.results96 ?_)
  exact aC [] (.slc []) rfl (by unfold fP; rw [if_neg (by simpa using hb)]; rfl)
 refine aG ?_
 refine T0 (hK _ _ _ ?_)
 clear hK K
 refine R0 ?_
 refine aB fun K hK => ?_
 refine R0 ?_
 refine aH ?_
 have hv : bJ r = true := by simpa using hb
 clear hb
 refine bT [] ?_
 refine aS (α := {i : Nat // i ≤ l.length}) (fun i => (fin [(1, .c (.str role)), (2, .c (.slc (l.map dg))), (3, .c (.int .i64 t)), (4, .ptr 0 0), (9, .c (.slc ((rvL r role t (l.take i.1)).map .str))), (10, .c (.int .i64 i.1))], fob [(0, .box 26 (.c r.cv))])) 100 (fun i => l.length - i.1) ⟨0, by omega⟩ (aP (by omega) (by simp [aX, cB, fin_at, finA_at, upd_at, fob_at, HV.close, CV.denil, denilL_str, denilL_dg, HV.men, HV.menL, HV.norm, HV.toC, HV.toCL, rvL]) (by simp [bB, cC, fob_at, upd_at, none0_at, bU, HO.close, HV.close, HO.men, HV.men, HV.menL, HV.norm, HV.toC, HV.toCL, Rt.denil])) ?_
 rintro ⟨i, hi⟩
 have hrl := bO0 r role t (l.take i)
 have hti : (l.take i).length = i := by simp; omega
 refine aB fun K hK => ?_
 refine aB fun K hK => Rg ?_
 iterate 4 refine S0 ?_
 refine T2 (hK _ _ _ ?_)
 clear hK K
 refine aJ (b := decide ((i : Int) < l.length)) rfl (fun hb => ?_) (fun hb => ?_)
 ·
  have hlt : i < l.length := by simpa using hb
  refine aG ?_
  refine T0 (hK _ _ _ ?_)
  clear hK K
  refine aB fun K hK => ?_
  have key : ∀ (m : List aK) fr ob nx, m = rvL r role t (l.take (i + 1)) → Fits 0 fr ob (fin [(1, .c (.str role)), (2, .c (.slc (l.map dg))), (3, .c (.int .i64 t)), (4, .ptr 0 0), (9, .c (.slc (m.map .str))), (10, .c (.int .i64 i))]) (fob [(0, .box 26 (.c r.cv))]) 500 → K fr ob nx := by
   rintro m fr ob nx rfl hf
   refine hK _ _ _ (bE hf ?_)
   clear hf hK K
   refine aM (by kernel_rfl) ?_
   refine TQ (bK i) ?_
   refine ⟨⟨i + 1, hlt⟩, fF, ?_⟩
   show l.length - (i + 1) < l.length - i
   omega
  refine aH ?_
  refine aB fun K hK => DW [(0, [], []), (1, [], []), (2, [], []), (3, [], []), (4, [], []), (9, [], []), (5, [9], [9]), (6, [9], []), (7, [9], []), (8, [9], []), (10, [], [8]), (11, [], [])] [0, 0, 0, 6, 14, 31, 63, 127, 127, 0, 767, 2047] ?_
  have F := aI @Int.natCast_nonneg (aI @Int.ofNat_lt (aI hlt (nM hlt)))
  iterate 6 refine WF ?_
  refine aN (g := none) rfl rfl fun K' hK' => T6 ?_
  refine D2 (aJ0 r l[i] hr) ?_
  rintro u v ⟨rfl, rfl⟩
  refine AX (hK' _ _ ?_)
  iterate 5 refine WF ?_
  refine T2 (hK _ _ _ ?_)
  clear hK K
  refine aB fun K hK => DW [(0, [], []), (1, [], []), (2, [], []), (3, [], []), (4, [], []), (5, [], []), (6, [], []), (7, [], []), (8, [], []), (9, [], []), (10, [], []), (11, [], []), (12, [], [])] [0, 1, 0, 7, 15, 31, 31, 31, 223, 479, 31, 2047, 4095] ?_
  iterate 3 refine WF ?_
  refine aN (g := none) rfl rfl fun K' hK' => T6 ?_
  refine C2 (aN5 ((fG r.k l[i]).getD k0).rs role (by have := cB7 hr l[i]; omega)) ?_
  rintro u rfl
  refine AX (hK' _ _ ?_)
  refine WF ?_
  refine bD 34 rfl (fun h8_34 => ?_) (fun h8_34 => ?_)
  ·
   have F := aI @Int.natCast_nonneg (aI @Int.ofNat_lt (aI hlt (aI (nM hlt) h8_34)))
   iterate 6 refine WF ?_
   refine aN (g := some (35, true)) rfl rfl fun K' hK' => T6 ?_
   refine C3 (bL1 r l[i] t hr) ?_
   rintro u rfl
   refine AX (hK' _ _ ?_)
   refine WF ?_
   refine bD 42 rfl (fun h8_42 => ?_) (fun h8_42 => ?_)
   ·
    simp only [h8_42]
    refine T2 (hK _ _ _ ?_)
    clear hK K
    refine CT rfl ?_
    refine Rg ?_
    have F := aI h8_34 h8_42
    iterate 3 refine SF ?_
    refine HS fun K' hK' => T6 ?_
    refine C2 (bG9 (rvL r role t (l.take i)) ((fG r.k l[i]).getD k0).o (by omega)) ?_
    rintro u rfl
    refine AX (hK' _ _ ?_)
    refine SF ?_
    refine T4 ?_
    exact key (kV (rvL r role t (l.take i)) ((fG r.k l[i]).getD k0).o) _ _ _ (by rw [uE hlt]; simp only [eY, fK, h8_34, h8_42, Bool.and_true, if_true]) (fF)
   simp only [h8_42]
   refine T2 (hK _ _ _ ?_)
   clear hK K
   refine CF rfl ?_
   refine aG (T3 ?_)
   exact key (rvL r role t (l.take i)) _ _ _ (by rw [uE hlt]; simp only [eY, fK, h8_34, h8_42, Bool.and_false, Bool.and_true, Bool.false_eq_true, if_false]) (fF)
  have F := aI @Int.natCast_nonneg (aI @Int.ofNat_lt (aI hlt (aI (nM hlt) h8_34)))
  iterate 8 refine WF ?_
  refine T2 (hK _ _ _ ?_)
  clear hK K
  refine CF rfl ?_
  refine aG (T3 ?_)
  exact key (rvL r role t (l.take i)) _ _ _ (by rw [uE hlt]; simp only [eY, fK, h8_34, Bool.false_and, Bool.false_eq_true, if_false]) (fF)
 refine aR (T3 ?_)
 clear hK K
 refine AX (hK _ _ _ ?_)
 clear hK K
 refine R0 ?_
 refine aD (RT Tryz.results96 ?_)
 have hei : i = l.length := by simp at hb; omega
 subst hei
 rw [List.take_length]
 exact aC [] (.slc ((rvL r role t l).map .str)) (eA (by simp only [CV.denil, denilL_str])) (by rw [bX4 hv])


theorem bL2 (r : Rt) (w : aK) (hr : rSz r) : aV Tryz.prog 95 [r.cv, .str w] (fun v => v = .int .i64 (oP r w)) := by
 refine FW Tryz.func95 ?_
 refine R0 ?_
 refine aB fun K hK => ?_
 refine aB fun K hK => Rg ?_
 refine S0 ?_
 refine HS fun K' hK' => T5 ?_
 refine C1 (gP r hr) ?_
 rintro u rfl
 refine AX (hK' _ _ ?_)
 refine S0 ?_
 refine T2 (hK _ _ _ ?_)
 clear hK K
 refine aJ (b := !bJ r) rfl (fun hb => ?_) (fun hb => ?_)
 ·
  refine R0 ?_
  refine aD (RT Tryz.results95 ?_)
  exact aC [] (.int .i64 0) rfl (by unfold oP; rw [if_neg (by simpa using hb)])
 refine aG ?_
 refine T0 (hK _ _ _ ?_)
 clear hK K
 refine aB fun K hK => Rg ?_
 iterate 2 refine S0 ?_
 refine HS fun K' hK' => T5 ?_
 refine C2 (aF8 r w hr.1.1) ?_
 rintro u rfl
 refine AX (hK' _ _ ?_)
 refine S0 ?_
 refine T2 (hK _ _ _ ?_)
 clear hK K
 refine aD (RT Tryz.results95 ?_)
 exact aC [] (.int .i64 _) rfl (by unfold oP; rw [if_pos (by simpa using hb)])


theorem vL (r : Rt) (role : aK) (l : List Dig) (t : Int) (hr : rSz r) (hl : l.length < 2 ^ 40) : aV Tryz.prog 58 [r.cv, .str role, .slc (l.map dg), .int .i64 t] (fun v => v = .bool (gY r role l t)) := by
 refine FW Tryz.func58 ?_
 refine R0 ?_
 refine aB fun K hK => Rg ?_
 iterate 2 refine S0 ?_
 refine HS fun K' hK' => T5 ?_
 refine C2 (bL2 r role hr) ?_
 rintro u rfl
 refine AX (hK' _ _ ?_)
 refine S0 ?_
 refine T2 (hK _ _ _ ?_)
 clear hK K
 refine aB fun K hK => Rg ?_
 have F := @denilL_dg
 iterate 3 refine SF ?_
 refine aE 14 rfl (fun h2_14 => ?_) (fun h2_14 => ?_)
 ·
  have F := aI @denilL_dg h2_14
  iterate 4 refine SF ?_
  refine aZ (g := some (15, true)) rfl rfl fun K' hK' => T6 ?_
  refine C4 (aJ1 r role l t hr hl) ?_
  rintro u rfl
  refine AX (hK' _ _ ?_)
  iterate 5 refine SF ?_
  refine aE 23 rfl (fun h2_23 => ?_) (fun h2_23 => ?_)
  ·
   simp only [h2_23]
   refine T2 (hK _ _ _ ?_)
   clear hK K
   refine aD (RT Tryz.results58 ?_)
   exact aC [] (.bool true) rfl (by simp only [gY, h2_14, h2_23, Bool.and_true, Bool.and_false, Bool.true_and, Bool.false_and])
  simp only [h2_23]
  refine T2 (hK _ _ _ ?_)
  clear hK K
  refine aD (RT Tryz.results58 ?_)
  exact aC [] (.bool false) rfl (by simp only [gY, h2_14, h2_23, Bool.and_true, Bool.and_false, Bool.true_and, Bool.false_and])
 have F := aI @denilL_dg h2_14
 iterate 10 refine SF ?_
 refine T2 (hK _ _ _ ?_)
 clear hK K
 refine aD (RT Tryz.results58 ?_)
 exact aC [] (.bool false) rfl (by simp only [gY, h2_14, Bool.and_true, Bool.and_false, Bool.true_and, Bool.false_and])


theorem cE0 (x y : Pk) (K : CV → Prop) : eP Tryz.prog .eql 68 (.c x.cv) (.c y.cv) K = K (.bool (aW7 x y)) := bO1 (by kernel_rfl) ty68 ty3 ty66 ty5 (by kernel_rfl) (by kernel_rfl) (by kernel_rfl) x y K

theorem aP7 (k : Ky) (hl : k.rs.length < 2 ^ 40) : aV Tryz.prog 59 [k.cv, k.cv] (fun v => v = .bool true) := by
 refine FW Tryz.func59 ?_
 refine R0 ?_
 refine aB fun K hK => Rg ?_
 have F := aI @cE0 (aI @aW8 @beq_self_eq_true.{0})
 iterate 31 refine SF ?_
 refine aZ (g := some (31, true)) rfl rfl fun K' hK' => T6 ?_
 refine C2 (bO8 k.rs k.rs (by omega)) ?_
 rintro u rfl
 refine AX (hK' _ _ ?_)
 iterate 2 refine SF ?_
 refine T2 (hK _ _ _ ?_)
 clear hK K
 refine aD (RT Tryz.results59 ?_)
 exact aC [] (.bool true) rfl rfl

end Go.Proofs.YtenbfeemmpjdhaaGreatDoor
