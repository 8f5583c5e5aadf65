/- Part of a proof: walks of functions of the program, by contracts, and the rules they use. By an AI agent. -/
import Derived.Test.YtlldglbooaefhaaDoorHvV1
import Derived.Test.YtlldglbooaefhaaDoorPl03e
import Derived.Test.YtlldglbooaefhaaDoorHlCl
import Derived.Test.YtlldglbooaefhaaDoorPl28c
set_option linter.unusedSimpArgs false
set_option linter.unusedVariables false
set_option linter.defProp false
namespace Go.Proofs.YtlldglbooaefhaaDoor
open Go Go.Hl Go.Pl
set_option maxRecDepth 10000
set_option maxHeartbeats 16000000

theorem cO (ps : List Pt) (s : aE) (k i : Nat) : nxt ps s k i i = mD ps s (k + 1) i := by simp [nxt]

theorem aJ1 (p s : aE) : cH Tryd.prog 50 [.str p, .str s] (fun v => v = .bool (lE p s)) := by
 refine FW Tryd.func50 ?_
 refine R0 ?_
 refine aC fun K hK => Rg ?_
 refine S0 ?_
 refine HS rfl rfl fun K' hK' => T5 ?_
 refine D1 (aI6 p) ?_
 rintro u v ⟨rfl, rfl⟩
 refine AX (hK' _ _ ?_)
 clear hK' K'
 iterate 5 refine S0 ?_
 refine T2 (hK _ _ _ ?_)
 clear hK K
 refine aC fun K hK => ?_
 cases hpv : gL p
 ·
  refine aC fun K hK => Rg ?_
  iterate 7 refine S0 ?_ (e := fun _ h_ => by simp only [sH, ↓sP, sA, tyS, simprocAttr, Option.isSome_none, Bool.not_false]; exact AX h_)
  refine T2 (hK _ _ _ ?_)
  clear hK K
  refine CT rfl ?_
  refine R0 ?_
  refine aF (RT Tryd.results50 ?_)
  exact aM [] (.bool false) rfl (by rw [aI8 hpv])
 by_cases hs : jR s = true
 ·
  rename_i ps
  have hs200 := bA0 hs
  obtain ⟨hpl, hpk⟩ := aZ9 hpv
  have hmv := aJ0 hpv hs
  clear hpv
  refine aC fun K hK => Rg ?_
  iterate 4 refine S0 ?_ (e := fun _ h_ => by simp only [sH, ↓sP, sA, tyS, simprocAttr, Option.isSome_some, Bool.not_true, hs, Option.getD_some]; exact AX h_)
  refine aW (g := some (20, false)) rfl rfl fun K' hK' => ?_
  simp only [sH, ↓sP, sA, tyS, simprocAttr, Option.isSome_some, Bool.not_true, hs, Option.getD_some]
  refine C1 (aU0 s) ?_
  rintro u rfl
  refine AX (hK' _ _ ?_)
  clear hK' K'
  iterate 2 refine S0 ?_ (e := fun _ h_ => by simp only [sH, ↓sP, sA, tyS, simprocAttr, Option.isSome_some, Bool.not_true, hs, Option.getD_some]; exact AX h_)
  refine T2 (hK _ _ _ ?_)
  clear hK K
  refine CF rfl ?_
  refine aJ ?_
  refine T0 (hK _ _ _ ?_)
  clear hK K
  have hwn : IntKind.i64.wrap ((s.length : Int) + 1) = (((s.length + 1 : Nat)) : Int) := by rw [IntWalk.i64_in _ (by omega)]; rfl
  have hn0 : (((s.length + 1 : Nat) : Int) = 0) = False := by simp; omega
  have hzn : (0 : Int) < ((s.length + 1 : Nat) : Int) := by omega
  have hrep := bA1 (s.length + 1)
  refine aC fun K hK => Rg ?_
  have F := aI hwn (aI hn0 (aI hrep @Int.toNat_natCast))
  iterate 5 refine SF ?_
  refine T2 (hK _ _ _ ?_)
  clear hK K
  refine R0 ?_ (e := fun _ h_ => by simp only [↓sP, sA, tyS, simprocAttr, hzn, aT, aU (Nat.succ_pos s.length), Int.toNat_zero]; exact AX h_)
  refine aC fun K hK => ?_
  refine R0 ?_
  refine aK ?_
  have hr0 : (bX (s.length + 1) (fun _ => false)).set 0 (.bool true) = bX (s.length + 1) (mD ps s 0) := (bA2 (ps := ps) (s := s)).trans bJ7
  refine fD [72] (bU (fr2 := fin [(1, .c (.str s)), (7, .c (.slc (bX (s.length + 1) (mD ps s 0)))), (31, .c (.slc (ps.map Pt.cv))), (32, .c (.int .i64 ps.length)), (33, .c (.int .i64 0))]) (ob2 := fob []) (nx2 := 90) (aN (by omega) (by simp [bB, jY, fin_at, finA_at, upd_at, fob_at, HV.close, HV.closeL, CV.denil, CV.denilL, gW, denilL_Pt, hr0, HV.men, HV.menL, HV.norm, HV.toC, HV.toCL, aT]) (by simp [bA, jZ, fob_at, upd_at, none0_at, cB, HO.close, HV.close, HV.closeL, HO.men, HV.men, HV.menL, HV.norm, HV.toC, HV.toCL])) ?_)
  refine bO (α := {k : Nat // k ≤ ps.length}) (fun k => (fin [(1, .c (.str s)), (7, .c (.slc (bX (s.length + 1) (mD ps s k.1)))), (31, .c (.slc (ps.map Pt.cv))), (32, .c (.int .i64 ps.length)), (33, .c (.int .i64 k.1))], fob [])) 100 (fun k => ps.length - k.1) ⟨0, by omega⟩ (fF) ?_
  rintro ⟨k, hk⟩
  refine R0 ?_
  refine aC fun K hK => ?_
  refine aG (b := decide ((k : Int) < ps.length)) rfl (fun hb => ?_) (fun hb => ?_)
  ·
   have hlt : k < ps.length := by simpa using hb
   clear hb
   have hk3 := hpk _ (List.getElem_mem hlt)
   have hprt := bS5 hlt
   refine aJ ?_
   refine T0 (hK _ _ _ ?_)
   clear hK K
   refine aC fun K hK => ?_
   refine aK ?_
   refine aC fun K hK => Rg ?_
   clear F
   have F := aI @Int.natCast_nonneg (aI @Int.ofNat_lt (aI hlt (aI @List.length_map.{0,0} (aI (nM hlt) (aI @Pt.cells (aI @Pt.isAgg (aI @Pt.getAll @Pt.setAll)))))))
   iterate 4 refine SF ?_
   refine T2 (hK _ _ _ ?_)
   clear hK K
   by_cases h0 : ps[k].k = 0
   ·
    have hlong : ps[k].long = false := by simp [Pt.long, h0]
    refine aC fun K hK => Rg ?_
    clear F
    have F := aI @Pt.cells (aI @Pt.isAgg @Pt.getAll)
    refine SF ?_
    refine HS rfl rfl fun K' hK' => T6 ?_
    refine fZ (largs := [.c ps[k].cv]) [] (aZ7 ps[k] h0) rfl trivial (by simp) (by simp) ⟨rfl, rfl, rfl, rfl⟩ trivial (by simp [HV.menL, HV.men]) ?_
    rintro r os ⟨rfl, rfl⟩
    simp only [HV.ren, HV.renL, jJ, HO.ren, sub, List.length_nil, Nat.not_lt_zero, if_false, Nat.sub_zero, Nat.add_zero]
    refine AX (hK' _ _ ?_)
    clear hK' K'
    refine SF ?_
    refine T2 (hK _ _ _ ?_)
    clear hK K
    refine aC fun K hK => Rg ?_
    clear F
    have F := aI hwn (aI hn0 (aI hrep @Int.toNat_natCast))
    iterate 5 refine SF ?_
    refine T2 (hK _ _ _ ?_)
    clear hK K
    refine aC fun K hK => ?_
    have key : ∀ fr ob nx, Fits 0 fr ob (fin [(1, .c (.str s)), (7, .c (.slc (bX (s.length + 1) (mD ps s k)))), (9, .ptr 112 0), (10, .clo 80 [.ptr 124 0]), (11, .own 144 (s.length + 1)), (31, .c (.slc (ps.map Pt.cv))), (32, .c (.int .i64 ps.length)), (33, .c (.int .i64 k))]) (fob [(112, .box 120 (.c ps[k].cv)), (124, .box 120 (.c ps[k].cv)), (144, .row 4 1 (bX (s.length + 1) (nxt ps s k 0)))]) 250 → K fr ob nx := by
     rintro fr ob nx hf
     refine hK _ _ _ (bU hf ?_)
     clear hf hK K
     refine aC fun K hK => ?_
     refine R0 ?_
     refine aK ?_
     refine bO (α := {i : Nat // i ≤ s.length}) (fun i => (fin [(1, .c (.str s)), (7, .c (.slc (bX (s.length + 1) (mD ps s k)))), (9, .ptr 112 0), (10, .clo 80 [.ptr 124 0]), (11, .own 144 (s.length + 1)), (31, .c (.slc (ps.map Pt.cv))), (32, .c (.int .i64 ps.length)), (33, .c (.int .i64 k)), (53, .c (.int .i64 s.length)), (54, .c (.int .i64 i.1))], fob [(112, .box 120 (.c ps[k].cv)), (124, .box 120 (.c ps[k].cv)), (144, .row 4 1 (bX (s.length + 1) (nxt ps s k i.1)))])) 300 (fun i => s.length - i.1) ⟨0, by omega⟩ (fF) ?_
     rintro ⟨i, hi⟩
     refine R0 ?_
     refine aC fun K hK => ?_
     refine aG (b := decide ((i : Int) < s.length)) rfl (fun hb => ?_) (fun hb => ?_)
     ·
      have hil : i < s.length := by simpa using hb
      clear hb
      have hgd : s.getD i 0 = s[i] := by simp [hil]
      have hiN : i + 1 < s.length + 1 := by omega
      have hiN0 : i < s.length + 1 := by omega
      have hw1 : IntKind.i64.wrap ((i : Int) + 1) = ((i + 1 : Nat) : Int) := by rw [IntWalk.i64_in _ (by omega)]; rfl
      refine aJ ?_
      refine T0 (hK _ _ _ ?_)
      clear hK K
      refine aC fun K hK => ?_
      refine aK ?_
      refine R0 ?_
      refine aK ?_
      refine aC fun K hK => Rg ?_
      clear F
      have F := aI @Pt.cells (aI @Pt.isAgg (aI @Pt.getAll hlong))
      refine SF ?_
      refine HS rfl rfl fun K' hK' => T6 ?_
      refine C1 (eS ps[k] hk3) ?_
      rintro u rfl
      refine AX (hK' _ _ ?_)
      clear hK' K'
      refine SF ?_
      refine T2 (hK _ _ _ ?_)
      clear hK K
      refine CF rfl ?_
      by_cases ha : mD ps s k i = true
      ·
       have htk : ps[k].takes s[i] = (s[i] == ps[k].c) := by simp [Pt.takes, h0]
       have hs1 : (bX (s.length + 1) (nxt ps s k i)).set (i + 1) (.bool (s[i] == ps[k].c)) = bX (s.length + 1) (nxt ps s k (i + 1)) := fJ (by rw [oJ, hprt, hlong, hgd]; simp [ha, htk])
       refine Rg ?_
       iterate 12 refine S0 ?_ (e := fun _ h_ => by simp only [sH, ↓sP, sA, tyS, simprocAttr, Int.natCast_nonneg, Int.ofNat_lt, hiN, hiN0, hil, hgd, hw1, aT, aU hiN, aU hiN0, cO, Int.toNat_natCast, ha]; exact AX h_)
       refine aW (g := some (64, true)) rfl rfl fun K' hK' => ?_
       simp only [sH, ↓sP, sA, tyS, simprocAttr, Int.natCast_nonneg, Int.ofNat_lt, hiN, hiN0, hil, hgd, hw1, aT, aU hiN, aU hiN0, cO, Int.toNat_natCast, ha]
       refine bE2 (args := [_]) (bS4 ps[k] s[i]) rfl (by simp) ⟨rfl, rfl, rfl, rfl⟩ ?_
       rintro u rfl
       refine AX (hK' _ _ ?_)
       clear hK' K'
       iterate 3 refine S0 ?_ (e := fun _ h_ => by simp only [sH, ↓sP, sA, tyS, simprocAttr, Int.natCast_nonneg, Int.ofNat_lt, hiN, hiN0, hil, hgd, hw1, aT, aU hiN, aU hiN0, cO, Int.toNat_natCast, ha]; exact AX h_)
       refine T2 (hK _ _ _ ?_)
       clear hK K
       refine aL (by kernel_rfl) ?_
       refine TQ hw1 ?_
       refine ⟨⟨i + 1, hil⟩, aN (by omega) (by simp [bB, fin_at, finA_at, upd_at, HV.men, HV.menL, HV.norm, HV.toC, HV.toCL, aT]) (by simp [bA, fob_at, upd_at, none0_at, cB, HO.men, HV.men, HV.menL, HV.norm, HV.toC, HV.toCL, hs1]), ?_⟩
       show s.length - (i + 1) < s.length - i
       omega
      have ha : mD ps s k i = false := by simpa using ha
      have htk : ps[k].takes s[i] = (s[i] == ps[k].c) := by simp [Pt.takes, h0]
      have hs1 : (bX (s.length + 1) (nxt ps s k i)).set (i + 1) (.bool false) = bX (s.length + 1) (nxt ps s k (i + 1)) := fJ (by rw [oJ, hprt, hlong, hgd]; simp [ha, htk])
      refine Rg ?_
      iterate 16 refine S0 ?_ (e := fun _ h_ => by simp only [sH, ↓sP, sA, tyS, simprocAttr, Int.natCast_nonneg, Int.ofNat_lt, hiN, hiN0, hil, hgd, hw1, aT, aU hiN, aU hiN0, cO, Int.toNat_natCast, ha]; exact AX h_)
      refine T2 (hK _ _ _ ?_)
      clear hK K
      refine aL (by kernel_rfl) ?_
      refine TQ hw1 ?_
      refine ⟨⟨i + 1, hil⟩, aN (by omega) (by simp [bB, fin_at, finA_at, upd_at, HV.men, HV.menL, HV.norm, HV.toC, HV.toCL, aT]) (by simp [bA, fob_at, upd_at, none0_at, cB, HO.men, HV.men, HV.menL, HV.norm, HV.toC, HV.toCL, hs1]), ?_⟩
      show s.length - (i + 1) < s.length - i
      omega
     refine bD (T3 ?_)
     clear hK K
     refine AX (hK _ _ _ ?_)
     clear hK K
     refine aL (by kernel_rfl) ?_
     refine T0 (hK _ _ _ ?_)
     clear hK K
     have hei : i = s.length := by simp at hb; omega
     subst hei
     have hra := tN (ps := ps) (s := s) (k := k)
     refine fD [144] (bU (fr2 := fin [(1, .c (.str s)), (7, .c (.slc (bX (s.length + 1) (mD ps s (k + 1))))), (31, .c (.slc (ps.map Pt.cv))), (32, .c (.int .i64 ps.length)), (33, .c (.int .i64 k))]) (ob2 := fob []) (nx2 := 900) (aN (by omega) (by simp [bB, jY, fin_at, finA_at, upd_at, fob_at, HV.close, HV.closeL, CV.denil, CV.denilL, gW, denilL_Pt, hra, HV.men, HV.menL, HV.norm, HV.toC, HV.toCL, aT]) (by simp [bA, jZ, fob_at, upd_at, none0_at, cB, HO.close, HV.close, HV.closeL, HO.men, HV.men, HV.menL, HV.norm, HV.toC, HV.toCL])) ?_)
     refine aL (by kernel_rfl) ?_
     refine TQ (lO k) ?_
     refine ⟨⟨k + 1, hlt⟩, fF, ?_⟩
     show ps.length - (k + 1) < ps.length - k
     omega
    by_cases hm : mD ps s k 0 = true
    ·
     have hz : (bX (s.length + 1) (fun _ => false)).set 0 (.bool false) = bX (s.length + 1) (nxt ps s k 0) := gX (by rw [hm, hprt, hlong]; rfl)
     refine Rg ?_
     iterate 6 refine S0 ?_ (e := fun _ h_ => by simp only [sH, ↓sP, sA, tyS, simprocAttr, hzn, aT, aU (Nat.succ_pos s.length), Int.toNat_zero, hm, hlong, Pt.cells, Pt.isAgg, Pt.getAll]; exact AX h_)
     refine aW (g := some (47, true)) rfl rfl fun K' hK' => ?_
     simp only [sH, ↓sP, sA, tyS, simprocAttr, hzn, aT, aU (Nat.succ_pos s.length), Int.toNat_zero, hm, hlong, Pt.cells, Pt.isAgg, Pt.getAll]
     refine C1 (eS ps[k] hk3) ?_
     rintro u rfl
     refine AX (hK' _ _ ?_)
     clear hK' K'
     iterate 3 refine S0 ?_ (e := fun _ h_ => by simp only [sH, ↓sP, sA, tyS, simprocAttr, hzn, aT, aU (Nat.succ_pos s.length), Int.toNat_zero, hm, hlong, Pt.cells, Pt.isAgg, Pt.getAll]; exact AX h_)
     refine T4 ?_
     exact key _ _ _ (aN (by omega) (by simp [bB, fin_at, finA_at, upd_at, HV.men, HV.menL, HV.norm, HV.toC, HV.toCL, aT]) (by simp [bA, fob_at, upd_at, none0_at, cB, HO.men, HV.men, HV.menL, HV.norm, HV.toC, HV.toCL, hz]))
    have hm0 : mD ps s k 0 = false := by simpa using hm
    have hz : (bX (s.length + 1) (fun _ => false)).set 0 (.bool false) = bX (s.length + 1) (nxt ps s k 0) := gX (by rw [hm0]; rfl)
    refine Rg ?_
    iterate 10 refine S0 ?_ (e := fun _ h_ => by simp only [sH, ↓sP, sA, tyS, simprocAttr, hzn, aT, aU (Nat.succ_pos s.length), Int.toNat_zero, hm0, Pt.cells, Pt.isAgg, Pt.getAll]; exact AX h_)
    refine T4 ?_
    exact key _ _ _ (aN (by omega) (by simp [bB, fin_at, finA_at, upd_at, HV.men, HV.menL, HV.norm, HV.toC, HV.toCL, aT]) (by simp [bA, fob_at, upd_at, none0_at, cB, HO.men, HV.men, HV.menL, HV.norm, HV.toC, HV.toCL, hz]))
   by_cases h3 : ps[k].k = 3
   ·
    have hlong : ps[k].long = true := by simp [Pt.long, h3]
    refine aC fun K hK => Rg ?_
    clear F
    have F := aI @Pt.cells (aI @Pt.isAgg @Pt.getAll)
    refine SF ?_
    refine HS rfl rfl fun K' hK' => T6 ?_
    refine C1 (aZ8 ps[k] h3) ?_
    rintro u rfl
    refine AX (hK' _ _ ?_)
    clear hK' K'
    refine SF ?_
    refine T2 (hK _ _ _ ?_)
    clear hK K
    refine aC fun K hK => Rg ?_
    clear F
    have F := aI hwn (aI hn0 (aI hrep @Int.toNat_natCast))
    iterate 5 refine SF ?_
    refine T2 (hK _ _ _ ?_)
    clear hK K
    refine aC fun K hK => ?_
    have key : ∀ fr ob nx, Fits 0 fr ob (fin [(1, .c (.str s)), (7, .c (.slc (bX (s.length + 1) (mD ps s k)))), (9, .ptr 112 0), (10, .c (.fn 81)), (11, .own 144 (s.length + 1)), (31, .c (.slc (ps.map Pt.cv))), (32, .c (.int .i64 ps.length)), (33, .c (.int .i64 k))]) (fob [(112, .box 120 (.c ps[k].cv)), (144, .row 4 1 (bX (s.length + 1) (nxt ps s k 0)))]) 250 → K fr ob nx := by
     rintro fr ob nx hf
     refine hK _ _ _ (bU hf ?_)
     clear hf hK K
     refine aC fun K hK => ?_
     refine R0 ?_
     refine aK ?_
     refine bO (α := {i : Nat // i ≤ s.length}) (fun i => (fin [(1, .c (.str s)), (7, .c (.slc (bX (s.length + 1) (mD ps s k)))), (9, .ptr 112 0), (10, .c (.fn 81)), (11, .own 144 (s.length + 1)), (31, .c (.slc (ps.map Pt.cv))), (32, .c (.int .i64 ps.length)), (33, .c (.int .i64 k)), (53, .c (.int .i64 s.length)), (54, .c (.int .i64 i.1))], fob [(112, .box 120 (.c ps[k].cv)), (144, .row 4 1 (bX (s.length + 1) (nxt ps s k i.1)))])) 300 (fun i => s.length - i.1) ⟨0, by omega⟩ (fF) ?_
     rintro ⟨i, hi⟩
     refine R0 ?_
     refine aC fun K hK => ?_
     refine aG (b := decide ((i : Int) < s.length)) rfl (fun hb => ?_) (fun hb => ?_)
     ·
      have hil : i < s.length := by simpa using hb
      clear hb
      have hgd : s.getD i 0 = s[i] := by simp [hil]
      have hiN : i + 1 < s.length + 1 := by omega
      have hiN0 : i < s.length + 1 := by omega
      have hw1 : IntKind.i64.wrap ((i : Int) + 1) = ((i + 1 : Nat) : Int) := by rw [IntWalk.i64_in _ (by omega)]; rfl
      refine aJ ?_
      refine T0 (hK _ _ _ ?_)
      clear hK K
      refine aC fun K hK => ?_
      refine aK ?_
      refine R0 ?_
      refine aK ?_
      refine aC fun K hK => Rg ?_
      clear F
      have F := aI @Pt.cells (aI @Pt.isAgg (aI @Pt.getAll hlong))
      refine SF ?_
      refine HS rfl rfl fun K' hK' => T6 ?_
      refine C1 (eS ps[k] hk3) ?_
      rintro u rfl
      refine AX (hK' _ _ ?_)
      clear hK' K'
      refine SF ?_
      refine T2 (hK _ _ _ ?_)
      clear hK K
      refine CT rfl ?_
      by_cases ha : mD ps s k (i + 1) = true
      ·
       have htk : ps[k].takes s[i] = true := by simp [Pt.takes, h3]
       have hs1 : (bX (s.length + 1) (nxt ps s k i)).set (i + 1) (.bool true) = bX (s.length + 1) (nxt ps s k (i + 1)) := fJ (by rw [oJ, hprt, hlong, hgd]; simp [ha, htk])
       refine Rg ?_
       iterate 23 refine S0 ?_ (e := fun _ h_ => by simp only [sH, ↓sP, sA, tyS, simprocAttr, Int.natCast_nonneg, Int.ofNat_lt, hiN, hiN0, hil, hgd, hw1, aT, aU hiN, aU hiN0, cO, Int.toNat_natCast, ha]; exact AX h_)
       refine T2 (hK _ _ _ ?_)
       clear hK K
       refine aL (by kernel_rfl) ?_
       refine TQ hw1 ?_
       refine ⟨⟨i + 1, hil⟩, aN (by omega) (by simp [bB, fin_at, finA_at, upd_at, HV.men, HV.menL, HV.norm, HV.toC, HV.toCL, aT]) (by simp [bA, fob_at, upd_at, none0_at, cB, HO.men, HV.men, HV.menL, HV.norm, HV.toC, HV.toCL, hs1]), ?_⟩
       show s.length - (i + 1) < s.length - i
       omega
      by_cases hn : mD ps s (k + 1) i = true
      ·
       have ha : mD ps s k (i + 1) = false := by simpa using ha
       have htk : ps[k].takes s[i] = true := by simp [Pt.takes, h3]
       have hs1 : (bX (s.length + 1) (nxt ps s k i)).set (i + 1) (.bool true) = bX (s.length + 1) (nxt ps s k (i + 1)) := fJ (by rw [oJ, hprt, hlong, hgd]; simp [ha, hn, htk])
       refine Rg ?_
       iterate 18 refine S0 ?_ (e := fun _ h_ => by simp only [sH, ↓sP, sA, tyS, simprocAttr, Int.natCast_nonneg, Int.ofNat_lt, hiN, hiN0, hil, hgd, hw1, aT, aU hiN, aU hiN0, cO, Int.toNat_natCast, ha, hn]; exact AX h_)
       refine aW (g := some (88, true)) rfl rfl fun K' hK' => ?_
       simp only [sH, ↓sP, sA, tyS, simprocAttr, Int.natCast_nonneg, Int.ofNat_lt, hiN, hiN0, hil, hgd, hw1, aT, aU hiN, aU hiN0, cO, Int.toNat_natCast, ha, hn]
       refine C1 (bR0 s[i]) ?_
       rintro u rfl
       refine AX (hK' _ _ ?_)
       clear hK' K'
       iterate 4 refine S0 ?_ (e := fun _ h_ => by simp only [sH, ↓sP, sA, tyS, simprocAttr, Int.natCast_nonneg, Int.ofNat_lt, hiN, hiN0, hil, hgd, hw1, aT, aU hiN, aU hiN0, cO, Int.toNat_natCast, ha, hn]; exact AX h_)
       refine T2 (hK _ _ _ ?_)
       clear hK K
       refine aL (by kernel_rfl) ?_
       refine TQ hw1 ?_
       refine ⟨⟨i + 1, hil⟩, aN (by omega) (by simp [bB, fin_at, finA_at, upd_at, HV.men, HV.menL, HV.norm, HV.toC, HV.toCL, aT]) (by simp [bA, fob_at, upd_at, none0_at, cB, HO.men, HV.men, HV.menL, HV.norm, HV.toC, HV.toCL, hs1]), ?_⟩
       show s.length - (i + 1) < s.length - i
       omega
      have ha : mD ps s k (i + 1) = false := by simpa using ha
      have hn : mD ps s (k + 1) i = false := by simpa using hn
      have htk : ps[k].takes s[i] = true := by simp [Pt.takes, h3]
      have hs1 : (bX (s.length + 1) (nxt ps s k i)).set (i + 1) (.bool false) = bX (s.length + 1) (nxt ps s k (i + 1)) := fJ (by rw [oJ, hprt, hlong, hgd]; simp [ha, hn, htk])
      refine Rg ?_
      iterate 23 refine S0 ?_ (e := fun _ h_ => by simp only [sH, ↓sP, sA, tyS, simprocAttr, Int.natCast_nonneg, Int.ofNat_lt, hiN, hiN0, hil, hgd, hw1, aT, aU hiN, aU hiN0, cO, Int.toNat_natCast, ha, hn]; exact AX h_)
      refine T2 (hK _ _ _ ?_)
      clear hK K
      refine aL (by kernel_rfl) ?_
      refine TQ hw1 ?_
      refine ⟨⟨i + 1, hil⟩, aN (by omega) (by simp [bB, fin_at, finA_at, upd_at, HV.men, HV.menL, HV.norm, HV.toC, HV.toCL, aT]) (by simp [bA, fob_at, upd_at, none0_at, cB, HO.men, HV.men, HV.menL, HV.norm, HV.toC, HV.toCL, hs1]), ?_⟩
      show s.length - (i + 1) < s.length - i
      omega
     refine bD (T3 ?_)
     clear hK K
     refine AX (hK _ _ _ ?_)
     clear hK K
     refine aL (by kernel_rfl) ?_
     refine T0 (hK _ _ _ ?_)
     clear hK K
     have hei : i = s.length := by simp at hb; omega
     subst hei
     have hra := tN (ps := ps) (s := s) (k := k)
     refine fD [144] (bU (fr2 := fin [(1, .c (.str s)), (7, .c (.slc (bX (s.length + 1) (mD ps s (k + 1))))), (31, .c (.slc (ps.map Pt.cv))), (32, .c (.int .i64 ps.length)), (33, .c (.int .i64 k))]) (ob2 := fob []) (nx2 := 900) (aN (by omega) (by simp [bB, jY, fin_at, finA_at, upd_at, fob_at, HV.close, HV.closeL, CV.denil, CV.denilL, gW, denilL_Pt, hra, HV.men, HV.menL, HV.norm, HV.toC, HV.toCL, aT]) (by simp [bA, jZ, fob_at, upd_at, none0_at, cB, HO.close, HV.close, HV.closeL, HO.men, HV.men, HV.menL, HV.norm, HV.toC, HV.toCL])) ?_)
     refine aL (by kernel_rfl) ?_
     refine TQ (lO k) ?_
     refine ⟨⟨k + 1, hlt⟩, fF, ?_⟩
     show ps.length - (k + 1) < ps.length - k
     omega
    by_cases hm : mD ps s k 0 = true
    ·
     have hz : (bX (s.length + 1) (fun _ => false)).set 0 (.bool true) = bX (s.length + 1) (nxt ps s k 0) := gX (by rw [hm, hprt, hlong]; rfl)
     refine Rg ?_
     iterate 6 refine S0 ?_ (e := fun _ h_ => by simp only [sH, ↓sP, sA, tyS, simprocAttr, hzn, aT, aU (Nat.succ_pos s.length), Int.toNat_zero, hm, hlong, Pt.cells, Pt.isAgg, Pt.getAll]; exact AX h_)
     refine aW (g := some (47, true)) rfl rfl fun K' hK' => ?_
     simp only [sH, ↓sP, sA, tyS, simprocAttr, hzn, aT, aU (Nat.succ_pos s.length), Int.toNat_zero, hm, hlong, Pt.cells, Pt.isAgg, Pt.getAll]
     refine C1 (eS ps[k] hk3) ?_
     rintro u rfl
     refine AX (hK' _ _ ?_)
     clear hK' K'
     iterate 3 refine S0 ?_ (e := fun _ h_ => by simp only [sH, ↓sP, sA, tyS, simprocAttr, hzn, aT, aU (Nat.succ_pos s.length), Int.toNat_zero, hm, hlong, Pt.cells, Pt.isAgg, Pt.getAll]; exact AX h_)
     refine T4 ?_
     exact key _ _ _ (aN (by omega) (by simp [bB, fin_at, finA_at, upd_at, HV.men, HV.menL, HV.norm, HV.toC, HV.toCL, aT]) (by simp [bA, fob_at, upd_at, none0_at, cB, HO.men, HV.men, HV.menL, HV.norm, HV.toC, HV.toCL, hz]))
    have hm0 : mD ps s k 0 = false := by simpa using hm
    have hz : (bX (s.length + 1) (fun _ => false)).set 0 (.bool false) = bX (s.length + 1) (nxt ps s k 0) := gX (by rw [hm0]; rfl)
    refine Rg ?_
    iterate 10 refine S0 ?_ (e := fun _ h_ => by simp only [sH, ↓sP, sA, tyS, simprocAttr, hzn, aT, aU (Nat.succ_pos s.length), Int.toNat_zero, hm0, Pt.cells, Pt.isAgg, Pt.getAll]; exact AX h_)
    refine T4 ?_
    exact key _ _ _ (aN (by omega) (by simp [bB, fin_at, finA_at, upd_at, HV.men, HV.menL, HV.norm, HV.toC, HV.toCL, aT]) (by simp [bA, fob_at, upd_at, none0_at, cB, HO.men, HV.men, HV.menL, HV.norm, HV.toC, HV.toCL, hz]))
   by_cases h1 : ps[k].k = 1
   ·
    have hlong : ps[k].long = false := by simp [Pt.long, h1]
    refine aC fun K hK => Rg ?_
    clear F
    have F := aI @Pt.cells (aI @Pt.isAgg @Pt.getAll)
    refine SF ?_
    refine HS rfl rfl fun K' hK' => T6 ?_
    refine C1 (yO ps[k] (.inl h1)) ?_
    rintro u rfl
    refine AX (hK' _ _ ?_)
    clear hK' K'
    refine SF ?_
    refine T2 (hK _ _ _ ?_)
    clear hK K
    refine aC fun K hK => Rg ?_
    clear F
    have F := aI hwn (aI hn0 (aI hrep @Int.toNat_natCast))
    iterate 5 refine SF ?_
    refine T2 (hK _ _ _ ?_)
    clear hK K
    refine aC fun K hK => ?_
    have key : ∀ fr ob nx, Fits 0 fr ob (fin [(1, .c (.str s)), (7, .c (.slc (bX (s.length + 1) (mD ps s k)))), (9, .ptr 112 0), (10, .c (.fn 82)), (11, .own 144 (s.length + 1)), (31, .c (.slc (ps.map Pt.cv))), (32, .c (.int .i64 ps.length)), (33, .c (.int .i64 k))]) (fob [(112, .box 120 (.c ps[k].cv)), (144, .row 4 1 (bX (s.length + 1) (nxt ps s k 0)))]) 250 → K fr ob nx := by
     rintro fr ob nx hf
     refine hK _ _ _ (bU hf ?_)
     clear hf hK K
     refine aC fun K hK => ?_
     refine R0 ?_
     refine aK ?_
     refine bO (α := {i : Nat // i ≤ s.length}) (fun i => (fin [(1, .c (.str s)), (7, .c (.slc (bX (s.length + 1) (mD ps s k)))), (9, .ptr 112 0), (10, .c (.fn 82)), (11, .own 144 (s.length + 1)), (31, .c (.slc (ps.map Pt.cv))), (32, .c (.int .i64 ps.length)), (33, .c (.int .i64 k)), (53, .c (.int .i64 s.length)), (54, .c (.int .i64 i.1))], fob [(112, .box 120 (.c ps[k].cv)), (144, .row 4 1 (bX (s.length + 1) (nxt ps s k i.1)))])) 300 (fun i => s.length - i.1) ⟨0, by omega⟩ (fF) ?_
     rintro ⟨i, hi⟩
     refine R0 ?_
     refine aC fun K hK => ?_
     refine aG (b := decide ((i : Int) < s.length)) rfl (fun hb => ?_) (fun hb => ?_)
     ·
      have hil : i < s.length := by simpa using hb
      clear hb
      have hgd : s.getD i 0 = s[i] := by simp [hil]
      have hiN : i + 1 < s.length + 1 := by omega
      have hiN0 : i < s.length + 1 := by omega
      have hw1 : IntKind.i64.wrap ((i : Int) + 1) = ((i + 1 : Nat) : Int) := by rw [IntWalk.i64_in _ (by omega)]; rfl
      refine aJ ?_
      refine T0 (hK _ _ _ ?_)
      clear hK K
      refine aC fun K hK => ?_
      refine aK ?_
      refine R0 ?_
      refine aK ?_
      refine aC fun K hK => Rg ?_
      clear F
      have F := aI @Pt.cells (aI @Pt.isAgg (aI @Pt.getAll hlong))
      refine SF ?_
      refine HS rfl rfl fun K' hK' => T6 ?_
      refine C1 (eS ps[k] hk3) ?_
      rintro u rfl
      refine AX (hK' _ _ ?_)
      clear hK' K'
      refine SF ?_
      refine T2 (hK _ _ _ ?_)
      clear hK K
      refine CF rfl ?_
      by_cases ha : mD ps s k i = true
      ·
       have htk : ps[k].takes s[i] = (!(s[i] == 47)) := by simp [Pt.takes, h1]
       have hs1 : (bX (s.length + 1) (nxt ps s k i)).set (i + 1) (.bool (!(s[i] == 47))) = bX (s.length + 1) (nxt ps s k (i + 1)) := fJ (by rw [oJ, hprt, hlong, hgd]; simp [ha, htk])
       refine Rg ?_
       iterate 12 refine S0 ?_ (e := fun _ h_ => by simp only [sH, ↓sP, sA, tyS, simprocAttr, Int.natCast_nonneg, Int.ofNat_lt, hiN, hiN0, hil, hgd, hw1, aT, aU hiN, aU hiN0, cO, Int.toNat_natCast, ha]; exact AX h_)
       refine aW (g := some (64, true)) rfl rfl fun K' hK' => ?_
       simp only [sH, ↓sP, sA, tyS, simprocAttr, Int.natCast_nonneg, Int.ofNat_lt, hiN, hiN0, hil, hgd, hw1, aT, aU hiN, aU hiN0, cO, Int.toNat_natCast, ha]
       refine C1 (aT2 s[i]) ?_
       rintro u rfl
       refine AX (hK' _ _ ?_)
       clear hK' K'
       iterate 3 refine S0 ?_ (e := fun _ h_ => by simp only [sH, ↓sP, sA, tyS, simprocAttr, Int.natCast_nonneg, Int.ofNat_lt, hiN, hiN0, hil, hgd, hw1, aT, aU hiN, aU hiN0, cO, Int.toNat_natCast, ha]; exact AX h_)
       refine T2 (hK _ _ _ ?_)
       clear hK K
       refine aL (by kernel_rfl) ?_
       refine TQ hw1 ?_
       refine ⟨⟨i + 1, hil⟩, aN (by omega) (by simp [bB, fin_at, finA_at, upd_at, HV.men, HV.menL, HV.norm, HV.toC, HV.toCL, aT]) (by simp [bA, fob_at, upd_at, none0_at, cB, HO.men, HV.men, HV.menL, HV.norm, HV.toC, HV.toCL, hs1]), ?_⟩
       show s.length - (i + 1) < s.length - i
       omega
      have ha : mD ps s k i = false := by simpa using ha
      have htk : ps[k].takes s[i] = (!(s[i] == 47)) := by simp [Pt.takes, h1]
      have hs1 : (bX (s.length + 1) (nxt ps s k i)).set (i + 1) (.bool false) = bX (s.length + 1) (nxt ps s k (i + 1)) := fJ (by rw [oJ, hprt, hlong, hgd]; simp [ha, htk])
      refine Rg ?_
      iterate 16 refine S0 ?_ (e := fun _ h_ => by simp only [sH, ↓sP, sA, tyS, simprocAttr, Int.natCast_nonneg, Int.ofNat_lt, hiN, hiN0, hil, hgd, hw1, aT, aU hiN, aU hiN0, cO, Int.toNat_natCast, ha]; exact AX h_)
      refine T2 (hK _ _ _ ?_)
      clear hK K
      refine aL (by kernel_rfl) ?_
      refine TQ hw1 ?_
      refine ⟨⟨i + 1, hil⟩, aN (by omega) (by simp [bB, fin_at, finA_at, upd_at, HV.men, HV.menL, HV.norm, HV.toC, HV.toCL, aT]) (by simp [bA, fob_at, upd_at, none0_at, cB, HO.men, HV.men, HV.menL, HV.norm, HV.toC, HV.toCL, hs1]), ?_⟩
      show s.length - (i + 1) < s.length - i
      omega
     refine bD (T3 ?_)
     clear hK K
     refine AX (hK _ _ _ ?_)
     clear hK K
     refine aL (by kernel_rfl) ?_
     refine T0 (hK _ _ _ ?_)
     clear hK K
     have hei : i = s.length := by simp at hb; omega
     subst hei
     have hra := tN (ps := ps) (s := s) (k := k)
     refine fD [144] (bU (fr2 := fin [(1, .c (.str s)), (7, .c (.slc (bX (s.length + 1) (mD ps s (k + 1))))), (31, .c (.slc (ps.map Pt.cv))), (32, .c (.int .i64 ps.length)), (33, .c (.int .i64 k))]) (ob2 := fob []) (nx2 := 900) (aN (by omega) (by simp [bB, jY, fin_at, finA_at, upd_at, fob_at, HV.close, HV.closeL, CV.denil, CV.denilL, gW, denilL_Pt, hra, HV.men, HV.menL, HV.norm, HV.toC, HV.toCL, aT]) (by simp [bA, jZ, fob_at, upd_at, none0_at, cB, HO.close, HV.close, HV.closeL, HO.men, HV.men, HV.menL, HV.norm, HV.toC, HV.toCL])) ?_)
     refine aL (by kernel_rfl) ?_
     refine TQ (lO k) ?_
     refine ⟨⟨k + 1, hlt⟩, fF, ?_⟩
     show ps.length - (k + 1) < ps.length - k
     omega
    by_cases hm : mD ps s k 0 = true
    ·
     have hz : (bX (s.length + 1) (fun _ => false)).set 0 (.bool false) = bX (s.length + 1) (nxt ps s k 0) := gX (by rw [hm, hprt, hlong]; rfl)
     refine Rg ?_
     iterate 6 refine S0 ?_ (e := fun _ h_ => by simp only [sH, ↓sP, sA, tyS, simprocAttr, hzn, aT, aU (Nat.succ_pos s.length), Int.toNat_zero, hm, hlong, Pt.cells, Pt.isAgg, Pt.getAll]; exact AX h_)
     refine aW (g := some (47, true)) rfl rfl fun K' hK' => ?_
     simp only [sH, ↓sP, sA, tyS, simprocAttr, hzn, aT, aU (Nat.succ_pos s.length), Int.toNat_zero, hm, hlong, Pt.cells, Pt.isAgg, Pt.getAll]
     refine C1 (eS ps[k] hk3) ?_
     rintro u rfl
     refine AX (hK' _ _ ?_)
     clear hK' K'
     iterate 3 refine S0 ?_ (e := fun _ h_ => by simp only [sH, ↓sP, sA, tyS, simprocAttr, hzn, aT, aU (Nat.succ_pos s.length), Int.toNat_zero, hm, hlong, Pt.cells, Pt.isAgg, Pt.getAll]; exact AX h_)
     refine T4 ?_
     exact key _ _ _ (aN (by omega) (by simp [bB, fin_at, finA_at, upd_at, HV.men, HV.menL, HV.norm, HV.toC, HV.toCL, aT]) (by simp [bA, fob_at, upd_at, none0_at, cB, HO.men, HV.men, HV.menL, HV.norm, HV.toC, HV.toCL, hz]))
    have hm0 : mD ps s k 0 = false := by simpa using hm
    have hz : (bX (s.length + 1) (fun _ => false)).set 0 (.bool false) = bX (s.length + 1) (nxt ps s k 0) := gX (by rw [hm0]; rfl)
    refine Rg ?_
    iterate 10 refine S0 ?_ (e := fun _ h_ => by simp only [sH, ↓sP, sA, tyS, simprocAttr, hzn, aT, aU (Nat.succ_pos s.length), Int.toNat_zero, hm0, Pt.cells, Pt.isAgg, Pt.getAll]; exact AX h_)
    refine T4 ?_
    exact key _ _ _ (aN (by omega) (by simp [bB, fin_at, finA_at, upd_at, HV.men, HV.menL, HV.norm, HV.toC, HV.toCL, aT]) (by simp [bA, fob_at, upd_at, none0_at, cB, HO.men, HV.men, HV.menL, HV.norm, HV.toC, HV.toCL, hz]))
   have h2 : ps[k].k = 2 := by omega
   have hlong : ps[k].long = true := by simp [Pt.long, h2]
   refine aC fun K hK => Rg ?_
   clear F
   have F := aI @Pt.cells (aI @Pt.isAgg @Pt.getAll)
   refine SF ?_
   refine HS rfl rfl fun K' hK' => T6 ?_
   refine C1 (yO ps[k] (.inr h2)) ?_
   rintro u rfl
   refine AX (hK' _ _ ?_)
   clear hK' K'
   refine SF ?_
   refine T2 (hK _ _ _ ?_)
   clear hK K
   refine aC fun K hK => Rg ?_
   clear F
   have F := aI hwn (aI hn0 (aI hrep @Int.toNat_natCast))
   iterate 5 refine SF ?_
   refine T2 (hK _ _ _ ?_)
   clear hK K
   refine aC fun K hK => ?_
   have key : ∀ fr ob nx, Fits 0 fr ob (fin [(1, .c (.str s)), (7, .c (.slc (bX (s.length + 1) (mD ps s k)))), (9, .ptr 112 0), (10, .c (.fn 82)), (11, .own 144 (s.length + 1)), (31, .c (.slc (ps.map Pt.cv))), (32, .c (.int .i64 ps.length)), (33, .c (.int .i64 k))]) (fob [(112, .box 120 (.c ps[k].cv)), (144, .row 4 1 (bX (s.length + 1) (nxt ps s k 0)))]) 250 → K fr ob nx := by
    rintro fr ob nx hf
    refine hK _ _ _ (bU hf ?_)
    clear hf hK K
    refine aC fun K hK => ?_
    refine R0 ?_
    refine aK ?_
    refine bO (α := {i : Nat // i ≤ s.length}) (fun i => (fin [(1, .c (.str s)), (7, .c (.slc (bX (s.length + 1) (mD ps s k)))), (9, .ptr 112 0), (10, .c (.fn 82)), (11, .own 144 (s.length + 1)), (31, .c (.slc (ps.map Pt.cv))), (32, .c (.int .i64 ps.length)), (33, .c (.int .i64 k)), (53, .c (.int .i64 s.length)), (54, .c (.int .i64 i.1))], fob [(112, .box 120 (.c ps[k].cv)), (144, .row 4 1 (bX (s.length + 1) (nxt ps s k i.1)))])) 300 (fun i => s.length - i.1) ⟨0, by omega⟩ (fF) ?_
    rintro ⟨i, hi⟩
    refine R0 ?_
    refine aC fun K hK => ?_
    refine aG (b := decide ((i : Int) < s.length)) rfl (fun hb => ?_) (fun hb => ?_)
    ·
     have hil : i < s.length := by simpa using hb
     clear hb
     have hgd : s.getD i 0 = s[i] := by simp [hil]
     have hiN : i + 1 < s.length + 1 := by omega
     have hiN0 : i < s.length + 1 := by omega
     have hw1 : IntKind.i64.wrap ((i : Int) + 1) = ((i + 1 : Nat) : Int) := by rw [IntWalk.i64_in _ (by omega)]; rfl
     refine aJ ?_
     refine T0 (hK _ _ _ ?_)
     clear hK K
     refine aC fun K hK => ?_
     refine aK ?_
     refine R0 ?_
     refine aK ?_
     refine aC fun K hK => Rg ?_
     clear F
     have F := aI @Pt.cells (aI @Pt.isAgg (aI @Pt.getAll hlong))
     refine SF ?_
     refine HS rfl rfl fun K' hK' => T6 ?_
     refine C1 (eS ps[k] hk3) ?_
     rintro u rfl
     refine AX (hK' _ _ ?_)
     clear hK' K'
     refine SF ?_
     refine T2 (hK _ _ _ ?_)
     clear hK K
     refine CT rfl ?_
     by_cases ha : mD ps s k (i + 1) = true
     ·
      have htk : ps[k].takes s[i] = (!(s[i] == 47)) := by simp [Pt.takes, h2]
      have hs1 : (bX (s.length + 1) (nxt ps s k i)).set (i + 1) (.bool true) = bX (s.length + 1) (nxt ps s k (i + 1)) := fJ (by rw [oJ, hprt, hlong, hgd]; simp [ha, htk])
      refine Rg ?_
      iterate 23 refine S0 ?_ (e := fun _ h_ => by simp only [sH, ↓sP, sA, tyS, simprocAttr, Int.natCast_nonneg, Int.ofNat_lt, hiN, hiN0, hil, hgd, hw1, aT, aU hiN, aU hiN0, cO, Int.toNat_natCast, ha]; exact AX h_)
      refine T2 (hK _ _ _ ?_)
      clear hK K
      refine aL (by kernel_rfl) ?_
      refine TQ hw1 ?_
      refine ⟨⟨i + 1, hil⟩, aN (by omega) (by simp [bB, fin_at, finA_at, upd_at, HV.men, HV.menL, HV.norm, HV.toC, HV.toCL, aT]) (by simp [bA, fob_at, upd_at, none0_at, cB, HO.men, HV.men, HV.menL, HV.norm, HV.toC, HV.toCL, hs1]), ?_⟩
      show s.length - (i + 1) < s.length - i
      omega
     by_cases hn : mD ps s (k + 1) i = true
     ·
      have ha : mD ps s k (i + 1) = false := by simpa using ha
      have htk : ps[k].takes s[i] = (!(s[i] == 47)) := by simp [Pt.takes, h2]
      have hs1 : (bX (s.length + 1) (nxt ps s k i)).set (i + 1) (.bool (!(s[i] == 47))) = bX (s.length + 1) (nxt ps s k (i + 1)) := fJ (by rw [oJ, hprt, hlong, hgd]; simp [ha, hn, htk])
      refine Rg ?_
      iterate 18 refine S0 ?_ (e := fun _ h_ => by simp only [sH, ↓sP, sA, tyS, simprocAttr, Int.natCast_nonneg, Int.ofNat_lt, hiN, hiN0, hil, hgd, hw1, aT, aU hiN, aU hiN0, cO, Int.toNat_natCast, ha, hn]; exact AX h_)
      refine aW (g := some (88, true)) rfl rfl fun K' hK' => ?_
      simp only [sH, ↓sP, sA, tyS, simprocAttr, Int.natCast_nonneg, Int.ofNat_lt, hiN, hiN0, hil, hgd, hw1, aT, aU hiN, aU hiN0, cO, Int.toNat_natCast, ha, hn]
      refine C1 (aT2 s[i]) ?_
      rintro u rfl
      refine AX (hK' _ _ ?_)
      clear hK' K'
      iterate 4 refine S0 ?_ (e := fun _ h_ => by simp only [sH, ↓sP, sA, tyS, simprocAttr, Int.natCast_nonneg, Int.ofNat_lt, hiN, hiN0, hil, hgd, hw1, aT, aU hiN, aU hiN0, cO, Int.toNat_natCast, ha, hn]; exact AX h_)
      refine T2 (hK _ _ _ ?_)
      clear hK K
      refine aL (by kernel_rfl) ?_
      refine TQ hw1 ?_
      refine ⟨⟨i + 1, hil⟩, aN (by omega) (by simp [bB, fin_at, finA_at, upd_at, HV.men, HV.menL, HV.norm, HV.toC, HV.toCL, aT]) (by simp [bA, fob_at, upd_at, none0_at, cB, HO.men, HV.men, HV.menL, HV.norm, HV.toC, HV.toCL, hs1]), ?_⟩
      show s.length - (i + 1) < s.length - i
      omega
     have ha : mD ps s k (i + 1) = false := by simpa using ha
     have hn : mD ps s (k + 1) i = false := by simpa using hn
     have htk : ps[k].takes s[i] = (!(s[i] == 47)) := by simp [Pt.takes, h2]
     have hs1 : (bX (s.length + 1) (nxt ps s k i)).set (i + 1) (.bool false) = bX (s.length + 1) (nxt ps s k (i + 1)) := fJ (by rw [oJ, hprt, hlong, hgd]; simp [ha, hn, htk])
     refine Rg ?_
     iterate 23 refine S0 ?_ (e := fun _ h_ => by simp only [sH, ↓sP, sA, tyS, simprocAttr, Int.natCast_nonneg, Int.ofNat_lt, hiN, hiN0, hil, hgd, hw1, aT, aU hiN, aU hiN0, cO, Int.toNat_natCast, ha, hn]; exact AX h_)
     refine T2 (hK _ _ _ ?_)
     clear hK K
     refine aL (by kernel_rfl) ?_
     refine TQ hw1 ?_
     refine ⟨⟨i + 1, hil⟩, aN (by omega) (by simp [bB, fin_at, finA_at, upd_at, HV.men, HV.menL, HV.norm, HV.toC, HV.toCL, aT]) (by simp [bA, fob_at, upd_at, none0_at, cB, HO.men, HV.men, HV.menL, HV.norm, HV.toC, HV.toCL, hs1]), ?_⟩
     show s.length - (i + 1) < s.length - i
     omega
    refine bD (T3 ?_)
    clear hK K
    refine AX (hK _ _ _ ?_)
    clear hK K
    refine aL (by kernel_rfl) ?_
    refine T0 (hK _ _ _ ?_)
    clear hK K
    have hei : i = s.length := by simp at hb; omega
    subst hei
    have hra := tN (ps := ps) (s := s) (k := k)
    refine fD [144] (bU (fr2 := fin [(1, .c (.str s)), (7, .c (.slc (bX (s.length + 1) (mD ps s (k + 1))))), (31, .c (.slc (ps.map Pt.cv))), (32, .c (.int .i64 ps.length)), (33, .c (.int .i64 k))]) (ob2 := fob []) (nx2 := 900) (aN (by omega) (by simp [bB, jY, fin_at, finA_at, upd_at, fob_at, HV.close, HV.closeL, CV.denil, CV.denilL, gW, denilL_Pt, hra, HV.men, HV.menL, HV.norm, HV.toC, HV.toCL, aT]) (by simp [bA, jZ, fob_at, upd_at, none0_at, cB, HO.close, HV.close, HV.closeL, HO.men, HV.men, HV.menL, HV.norm, HV.toC, HV.toCL])) ?_)
    refine aL (by kernel_rfl) ?_
    refine TQ (lO k) ?_
    refine ⟨⟨k + 1, hlt⟩, fF, ?_⟩
    show ps.length - (k + 1) < ps.length - k
    omega
   by_cases hm : mD ps s k 0 = true
   ·
    have hz : (bX (s.length + 1) (fun _ => false)).set 0 (.bool true) = bX (s.length + 1) (nxt ps s k 0) := gX (by rw [hm, hprt, hlong]; rfl)
    refine Rg ?_
    iterate 6 refine S0 ?_ (e := fun _ h_ => by simp only [sH, ↓sP, sA, tyS, simprocAttr, hzn, aT, aU (Nat.succ_pos s.length), Int.toNat_zero, hm, hlong, Pt.cells, Pt.isAgg, Pt.getAll]; exact AX h_)
    refine aW (g := some (47, true)) rfl rfl fun K' hK' => ?_
    simp only [sH, ↓sP, sA, tyS, simprocAttr, hzn, aT, aU (Nat.succ_pos s.length), Int.toNat_zero, hm, hlong, Pt.cells, Pt.isAgg, Pt.getAll]
    refine C1 (eS ps[k] hk3) ?_
    rintro u rfl
    refine AX (hK' _ _ ?_)
    clear hK' K'
    iterate 3 refine S0 ?_ (e := fun _ h_ => by simp only [sH, ↓sP, sA, tyS, simprocAttr, hzn, aT, aU (Nat.succ_pos s.length), Int.toNat_zero, hm, hlong, Pt.cells, Pt.isAgg, Pt.getAll]; exact AX h_)
    refine T4 ?_
    exact key _ _ _ (aN (by omega) (by simp [bB, fin_at, finA_at, upd_at, HV.men, HV.menL, HV.norm, HV.toC, HV.toCL, aT]) (by simp [bA, fob_at, upd_at, none0_at, cB, HO.men, HV.men, HV.menL, HV.norm, HV.toC, HV.toCL, hz]))
   have hm0 : mD ps s k 0 = false := by simpa using hm
   have hz : (bX (s.length + 1) (fun _ => false)).set 0 (.bool false) = bX (s.length + 1) (nxt ps s k 0) := gX (by rw [hm0]; rfl)
   refine Rg ?_
   iterate 10 refine S0 ?_ (e := fun _ h_ => by simp only [sH, ↓sP, sA, tyS, simprocAttr, hzn, aT, aU (Nat.succ_pos s.length), Int.toNat_zero, hm0, Pt.cells, Pt.isAgg, Pt.getAll]; exact AX h_)
   refine T4 ?_
   exact key _ _ _ (aN (by omega) (by simp [bB, fin_at, finA_at, upd_at, HV.men, HV.menL, HV.norm, HV.toC, HV.toCL, aT]) (by simp [bA, fob_at, upd_at, none0_at, cB, HO.men, HV.men, HV.menL, HV.norm, HV.toC, HV.toCL, hz]))
  refine bD (T3 ?_)
  clear hK K
  refine AX (hK _ _ _ ?_)
  clear hK K
  have hek : k = ps.length := by simp at hb; omega
  subst hek
  refine aC fun K hK => Rg ?_
  iterate 6 refine S0 ?_ (e := fun _ h_ => by simp only [sH, ↓sP, sA, tyS, simprocAttr, Int.natCast_nonneg, Int.ofNat_lt, Nat.lt_succ_self, aT, aU (Nat.lt_succ_self s.length), Int.toNat_natCast]; exact AX h_)
  refine T2 (hK _ _ _ ?_)
  clear hK K
  refine aF (RT Tryd.results50 ?_)
  exact aM [] (.bool (mD ps s ps.length s.length)) rfl (by rw [hmv])
 rename_i ps
 have hs0 : jR s = false := by simpa using hs
 refine aC fun K hK => Rg ?_
 iterate 4 refine S0 ?_ (e := fun _ h_ => by simp only [sH, ↓sP, sA, tyS, simprocAttr, Option.isSome_some, Bool.not_true, hs0, Bool.not_false, Option.getD_some]; exact AX h_)
 refine aW (g := some (20, false)) rfl rfl fun K' hK' => ?_
 simp only [sH, ↓sP, sA, tyS, simprocAttr, Option.isSome_some, Bool.not_true, hs0, Bool.not_false, Option.getD_some]
 refine C1 (aU0 s) ?_
 rintro u rfl
 refine AX (hK' _ _ ?_)
 clear hK' K'
 iterate 2 refine S0 ?_ (e := fun _ h_ => by simp only [sH, ↓sP, sA, tyS, simprocAttr, Option.isSome_some, Bool.not_true, hs0, Bool.not_false, Option.getD_some]; exact AX h_)
 refine T2 (hK _ _ _ ?_)
 clear hK K
 refine CT rfl ?_
 refine R0 ?_
 refine aF (RT Tryd.results50 ?_)
 exact aM [] (.bool false) rfl (by rw [aI9 hs0])

end Go.Proofs.YtlldglbooaefhaaDoor

namespace Go.Pl
open Go Go.Hl
section
variable {ps : List Pt} {s : aE}
end
end Go.Pl

namespace Go.Proofs.YtlldglbooaefhaaDoor
open Go Go.Hl Go.Pl
set_option maxRecDepth 10000
set_option maxHeartbeats 16000000
set_option linter.unusedSimpArgs false
set_option linter.unusedVariables false

end Go.Proofs.YtlldglbooaefhaaDoor

namespace Go.Pl
open Go Go.Hl

theorem bJ8 {q : Rq} (h : (q.k == 1 || (q.k == 3 || q.k == 5)) = true) : eL q = (inB q.n 1 32 && gF q ⟨q.k, q.n, 0, []⟩) := by grind [eL, gF]
theorem aJ2 {q : Rq} (h : q.k = 4) : eL q = ((inB q.n 1 32 && inB q.m 0 32) && gF q ⟨q.k, q.n, q.m, []⟩) := by simp [eL, h, gF, Bool.and_assoc]
theorem bJ9 {q : Rq} (h : q.k = 2) : eL q = (eC q.t && gF q ⟨q.k, 0, 0, q.t⟩) := by simp [eL, h, gF]
theorem bK0 {q : Rq} (h : q.k = 6) : eL q = (inB q.n 1 10 && gF q ⟨q.k, q.n, 0, []⟩) := by simp [eL, h, gF]
theorem bK1 {q : Rq} (h : q.k = 7) : eL q = (inB q.n 0 aF2 && gF q ⟨q.k, q.n, 0, []⟩) := by simp [eL, h, gF]
theorem bK2 {q : Rq} (h : q.k = 8) : eL q = (true && gF q ⟨q.k, 0, 0, []⟩) := by simp [eL, h, gF]
theorem bS6 {q : Rq} (h : (q.k == 1 || (q.k == 3 || q.k == 5)) = false) (h4 : q.k ≠ 4) (h2 : q.k ≠ 2) (h6 : q.k ≠ 6) (h7 : q.k ≠ 7) (h8 : q.k ≠ 8) : eL q = false := by simp_all [eL, if_neg]
theorem oX {n : Nd} (h : n.k = 1) : bK n = (n.c == 0 && (n.n == 0 && eL n.q)) := by simp only [bK, if_pos h]
theorem yP {n : Nd} (h : (n.k == 2 || n.k == 3) = true) : bK n = ((inB n.c 1 60 && gF n.q rq0) && n.n == 0) := by
 have h' : n.k = 2 ∨ n.k = 3 := by simpa using h
 have h1 : n.k ≠ 1 := by omega
 simp_all [bK, if_neg, if_pos, Bool.and_assoc]
theorem oY {n : Nd} (h : n.k = 4) : bK n = ((inB n.c 1 60 && gF n.q rq0) && inB n.n 1 n.c) := by simp_all [bK, if_neg, if_pos, Bool.and_assoc]
theorem bK3 {n : Nd} (h1 : n.k ≠ 1) (h : (n.k == 2 || n.k == 3) = false) (h4 : n.k ≠ 4) : bK n = false := by simp_all [bK, if_neg]
structure ScSt (l : List Nd) (i : Nat) (m v : Int) : Prop where
 le : i ≤ l.length
 eq : pO l 1 0 = pO (l.drop i) m v
 m0 : 0 ≤ m
 m1 : m ≤ 1 + 60 * i
 v0 : 0 ≤ v
 v1 : v ≤ i
theorem ScSt.init (l : List Nd) : ScSt l 0 1 0 := ⟨by omega, rfl, by omega, by omega, by omega, by omega⟩
theorem ScSt.stop {l : List Nd} {i : Nat} {m v : Int} (h : ScSt l i m v) (hi : i < l.length) (hb : m = 0 ∨ bK l[i] = false) : dH l = false := by
 have : pO l 1 0 = none := by
  rw [h.eq, List.drop_eq_getElem_cons hi, pO]
  rcases hb with hb | hb
  ·
   rw [if_pos hb]
  ·
   grind
 simp [dH, this]
theorem ScSt.next {l : List Nd} {i : Nat} {m v : Int} (h : ScSt l i m v) (hi : i < l.length) (hm : m ≠ 0) (hb : bK l[i] = true) : ScSt l (i + 1) (m + (l[i].c - 1)) (if l[i].k = 1 then v + 1 else v) := by
 obtain ⟨c1, c2, _, _⟩ := cU hb
 have h0 := h.m0
 have h1 := h.m1
 have h2 := h.v0
 have h3 := h.v1
 refine ⟨hi, ?_, by omega, by omega, ?_, ?_⟩
 ·
  rw [h.eq, List.drop_eq_getElem_cons hi, pO, if_neg hm, if_pos hb]
 all_goals grind
theorem ScSt.fin {l : List Nd} {m v : Int} (h : ScSt l l.length m v) (h1 : 1 ≤ l.length) (h2 : l.length ≤ 60) : dH l = (m == 0 && decide (v ≤ 16)) := by
 have : pO l 1 0 = some (m, v) := by rw [h.eq, List.drop_length]; rfl
 grind [dH]
theorem sV {l : List Nd} (h : l.length < 1 ∨ 60 < l.length) : dH l = false := by grind [dH]
theorem oZ {l : List Nd} {i : Int} (h : dH l = false ∨ i < 0 ∨ (l.length : Int) ≤ i) : oS l i = [] := by
 unfold oS
 grind
theorem yQ {l : List Nd} (h : dH l = true) {i : Nat} (hi : i < l.length) : oS l i = eT l l[i].c.toNat (i + 1) := by simp_all [oS, if_pos, bH0]
theorem sW {l : List Nd} (h : dH l = false) : iN l = [] := by simp [iN, h]
theorem pA {l : List Nd} (h : dH l = true) : iN l = fT 0 l := by simp [iN, h]
theorem oL : ∀ {l : List Bool} {k : Nat}, k < l.length → cnt (l.take (k + 1)) = cnt (l.take k) + (if l.getD k false = true then 1 else 0)
 | x :: l, 0, _ => by cases x <;> simp [cnt]
 | x :: l, k + 1, h => by
  have h' : k < l.length := by simpa using h
  have e : ∀ m, cnt ((x :: l).take (m + 1)) = (if x = true then 1 else 0) + cnt (l.take m) := fun m => by grind [cnt]
  rw [e, e, oL h']
  grind
theorem aB0 {l : List Nd} {i : Nat} (h : i < l.length) : lv (l.take (i + 1)) = lv (l.take i) + (if l[i].k = 1 then 1 else 0) := by grind [List.take_succ_eq_append_getElem, gI, lv]
theorem vW (l : List Nd) (i : Nat) : lv (l.take i) ≤ i := by grind [bV9]
def bwL (l : List Nd) : List (List CV) := (List.range l.length).map fun j => [.int .i64 (l.length - 1 - j : Nat), (l.getD (l.length - 1 - j) nd0).cv]
theorem qH (l : List Nd) : (bwL l).length = l.length := by simp [bwL]
theorem bK4 {l : List Nd} {j : Nat} (h : j < (bwL l).length) (h2 : l.length - 1 - j < l.length) : (bwL l)[j] = [.int .i64 (l.length - 1 - j : Nat), (l[l.length - 1 - j]).cv] := by simp [bwL, h2]
end Go.Pl

namespace Go.Proofs.YtlldglbooaefhaaDoor
open Go Go.Hl Go.Pl
set_option maxRecDepth 10000
set_option maxHeartbeats 16000000

theorem co3 : Tryd.prog.cellsOf 3 = 1 := by kernel_rfl
theorem co2 : Tryd.prog.cellsOf 2 = 1 := by kernel_rfl
theorem co9 : Tryd.prog.cellsOf 9 = 1 := by kernel_rfl
theorem bW3 (n : Nat) (x : Rq) : CV.ofTy Tryd.prog (n + 2) 46 x.cv = true := by
 simp only [Rq.cv, CV.ofTyF, CV.ofTy, tyS, co2, co3, co9, CV.cells, beq_self_eq_true, Bool.and_true]
theorem aJ3 (x y : Rq) (K : CV → Prop) : jH Tryd.prog .eql 46 (.c x.cv) (.c y.cv) K = K (.bool (gF x y)) := by
 have ha : aQ6 Tryd.prog 46 = true := by kernel_rfl
 have h1 := bW3 6 x
 have h2 := bW3 6 y
 have e : CV.eqv (.agg [.int .i64 x.k, .int .i64 x.n, .int .i64 x.m, .str x.t]) (.agg [.int .i64 y.k, .int .i64 y.n, .int .i64 y.m, .str y.t]) = gF x y := by simp only [CV.eqv, CV.eqvL, gF, Bool.and_true]
 simp only [Rq.cv] at h1 h2 ⊢
 simp only [jH, ha, h1, h2, e, true_and]
theorem bK5 : CV.agg [.int .i64 0, .int .i64 0, .int .i64 0, .str []] = rq0.cv := rfl

theorem gN (n a b : Int) : cH Tryd.prog 34 [.int .i64 n, .int .i64 a, .int .i64 b] (fun v => v = .bool (inB n a b)) := by
 refine FW Tryd.func34 ?_
 refine R0 ?_
 refine aC fun K hK => Rg ?_
 iterate 4 refine S0 ?_
 refine aH 9 rfl (fun h1_9 => ?_) (fun h1_9 => ?_)
 ·
  have F := h1_9
  iterate 5 refine SF ?_
  refine T2 (hK _ _ _ ?_)
  clear hK K
  refine aF (RT Tryd.results34 ?_)
  exact aM [] (.bool _) rfl (by simp only [inB, h1_9, Bool.true_and, Bool.false_and])
 have F := h1_9
 iterate 5 refine SF ?_
 refine T2 (hK _ _ _ ?_)
 clear hK K
 refine aF (RT Tryd.results34 ?_)
 exact aM [] (.bool _) rfl (by simp only [inB, h1_9, Bool.true_and, Bool.false_and])

theorem aJ4 (q : Rq) (hn : q.t.length < 2 ^ 63) : cH Tryd.prog 61 [q.cv] (fun v => v = .bool (eL q)) := by
 refine FW Tryd.func61 ?_
 refine R0 ?_
 refine aC fun K hK => Rg ?_
 iterate 5 refine S0 ?_
 refine T2 (hK _ _ _ ?_)
 clear hK K
 refine R0 ?_
 refine aC fun K hK => ?_
 have key0 : ∀ (s : Bool) (u : Rq) fr ob nx, eL q = (s && gF q u) → Fits 0 fr ob (fin [(1, .ptr 0 0), (3, .ptr 20 0), (4, .c (.bool s))]) (fob [(0, .box 46 (.c q.cv)), (20, .box 46 (.c u.cv))]) 1000 → K fr ob nx := by
  rintro s u fr ob nx hq hf
  refine hK _ _ _ (bU hf ?_)
  clear hf hK K
  refine aC fun K hK => Rg ?_
  have F := @aJ3
  iterate 2 refine SF ?_
  refine aH 62 rfl (fun h18_62 => ?_) (fun h18_62 => ?_)
  ·
   have F := aI @aJ3 h18_62
   iterate 5 refine SF ?_
   refine T2 (hK _ _ _ ?_)
   clear hK K
   refine aF (RT Tryd.results61 ?_)
   exact aM [] (.bool _) rfl (by rw [hq, h18_62, Bool.true_and])
  have F := aI @aJ3 h18_62
  iterate 5 refine SF ?_
  refine T2 (hK _ _ _ ?_)
  clear hK K
  refine aF (RT Tryd.results61 ?_)
  exact aM [] (.bool false) rfl (by rw [hq, h18_62, Bool.false_and])
 refine R0 ?_
 refine aK ?_
 refine aC fun K hK => ?_
 have key : ∀ (b : Bool) fr ob nx, b = (q.k == 1 || (q.k == 3 || q.k == 5)) → Fits 0 fr ob (fin [(1, .ptr 0 0), (3, .ptr 20 0), (4, .c (.bool true)), (9, .c (.int .i64 q.k)), (10, .c (.bool b))]) (fob [(0, .box 46 (.c q.cv)), (20, .box 46 (.c (Rq.cv ⟨q.k, 0, 0, []⟩)))]) 300 → K fr ob nx := by
  rintro b fr ob nx rfl hf
  refine hK _ _ _ (bU hf ?_)
  clear hf hK K
  refine aG (b := _) rfl (fun hb => ?_) (fun hb => ?_)
  ·
   refine DW [(0, [], []), (1, [], []), (2, [], []), (3, [], []), (5, [], []), (4, [], [0, 1, 5]), (6, [], []), (7, [], [])] [0, 1, 0, 4, 12, 3, 63, 127] ?_
   iterate 5 refine W0 ?_
   refine cM (g := none) rfl rfl fun K' hK' => T5 ?_
   refine C3 (gN _ _ _) ?_
   rintro u rfl
   refine AX (hK' _ _ ?_)
   clear hK' K'
   iterate 2 refine W0 ?_
   refine T4 ?_
   exact key0 (inB q.n 1 32) ⟨q.k, q.n, 0, []⟩ _ _ _ (bJ8 hb) (fF)
  have h1 := hb
  refine R0 ?_
  refine aG (b := _) rfl (fun hb => ?_) (fun hb => ?_)
  ·
   refine DW [(0, [], []), (1, [], []), (2, [], []), (3, [], []), (4, [], []), (5, [], []), (12, [], []), (6, [], [0, 1, 2, 3, 12]), (7, [], []), (8, [], []), (9, [], []), (10, [], [0, 1, 2, 3, 12]), (11, [], []), (13, [], [2, 3, 11]), (14, [], []), (15, [], [11]), (16, [], [])] [0, 1, 0, 4, 0, 16, 48, 112, 240, 496, 1008, 2032, 3, 6131, 14335, 30719, 65535] ?_
   iterate 7 refine W0 ?_
   refine cM (g := none) rfl rfl fun K' hK' => T5 ?_
   refine C3 (gN _ _ _) ?_
   rintro u rfl
   refine AX (hK' _ _ ?_)
   clear hK' K'
   refine W0 ?_
   refine aA2 28 rfl (fun h10_28 => ?_) (fun h10_28 => ?_)
   ·
    have F := h10_28
    iterate 2 refine WF ?_
    refine cM (g := some (29, true)) rfl rfl fun K' hK' => T6 ?_
    refine C3 (gN _ _ _) ?_
    rintro u rfl
    refine AX (hK' _ _ ?_)
    clear hK' K'
    iterate 5 refine WF ?_
    refine T4 ?_
    exact key0 (inB q.m 0 32) ⟨q.k, q.n, q.m, []⟩ _ _ _ (by rw [aJ2 (by simpa using hb), h10_28, Bool.true_and]) (fF)
   have F := h10_28
   iterate 8 refine WF ?_
   refine T4 ?_
   exact key0 false ⟨q.k, q.n, q.m, []⟩ _ _ _ (by rw [aJ2 (by simpa using hb), h10_28]; rfl) (fF)
  have h2 := hb
  refine R0 ?_
  refine aG (b := _) rfl (fun hb => ?_) (fun hb => ?_)
  ·
   refine DW [(0, [], []), (1, [], []), (2, [], []), (3, [], []), (5, [], []), (4, [], [0, 1, 5]), (6, [], []), (7, [], [])] [0, 1, 0, 4, 12, 3, 63, 127] ?_
   iterate 5 refine W0 ?_
   refine cM (g := none) rfl rfl fun K' hK' => T5 ?_
   refine C1 (aA6 _ hn) ?_
   rintro u rfl
   refine AX (hK' _ _ ?_)
   clear hK' K'
   iterate 2 refine W0 ?_
   refine T4 ?_
   exact key0 (eC q.t) ⟨q.k, 0, 0, q.t⟩ _ _ _ (bJ9 (by simpa using hb)) (fF)
  have h3 := hb
  refine R0 ?_
  refine aG (b := _) rfl (fun hb => ?_) (fun hb => ?_)
  ·
   refine DW [(0, [], []), (1, [], []), (2, [], []), (3, [], []), (5, [], []), (4, [], [0, 1, 5]), (6, [], []), (7, [], [])] [0, 1, 0, 4, 12, 3, 63, 127] ?_
   iterate 5 refine W0 ?_
   refine cM (g := none) rfl rfl fun K' hK' => T5 ?_
   refine C3 (gN _ _ _) ?_
   rintro u rfl
   refine AX (hK' _ _ ?_)
   clear hK' K'
   iterate 2 refine W0 ?_
   refine T4 ?_
   exact key0 (inB q.n 1 10) ⟨q.k, q.n, 0, []⟩ _ _ _ (bK0 (by simpa using hb)) (fF)
  have h4 := hb
  refine R0 ?_
  refine aG (b := _) rfl (fun hb => ?_) (fun hb => ?_)
  ·
   refine DW [(0, [], []), (1, [], []), (2, [], []), (3, [], []), (5, [], []), (4, [], [0, 1, 5]), (6, [], []), (7, [], [])] [0, 1, 0, 4, 12, 3, 63, 127] ?_
   iterate 5 refine W0 ?_
   refine cM (g := none) rfl rfl fun K' hK' => T5 ?_
   refine C3 (gN _ _ _) ?_
   rintro u rfl
   refine AX (hK' _ _ ?_)
   clear hK' K'
   iterate 2 refine W0 ?_
   refine T4 ?_
   exact key0 (inB q.n 0 1099511627776) ⟨q.k, q.n, 0, []⟩ _ _ _ (bK1 (by simpa using hb)) (fF)
  have h5 := hb
  refine R0 ?_
  refine aG (b := _) rfl (fun hb => ?_) (fun hb => ?_)
  ·
   refine aJ (T3 ?_)
   exact key0 true ⟨q.k, 0, 0, []⟩ _ _ _ (bK2 (by simpa using hb)) (fF)
  refine R0 ?_
  refine aF (RT Tryd.results61 ?_)
  exact aM [] (.bool false) rfl (by rw [bS6 h1 (by simpa using h2) (by simpa using h3) (by simpa using h4) (by simpa using h5) (by simpa using hb)])
 refine R0 ?_
 refine aG (b := _) rfl (fun hb => ?_) (fun hb => ?_)
 ·
  refine aJ (T3 ?_)
  exact key (q.k == 1) _ _ _ (by rw [hb]; rfl) (fF)
 have h1 := hb
 refine R0 ?_
 refine aG (b := _) rfl (fun hb => ?_) (fun hb => ?_)
 ·
  refine aJ (T3 ?_)
  exact key (q.k == 3) _ _ _ (by rw [h1, hb]; rfl) (fF)
 have h1' := hb
 refine aL (by kernel_rfl) ?_
 simp only [↓sP, sA, tyS, simprocAttr]
 exact key (q.k == 5) _ _ _ (by rw [h1, h1']; rfl) (fF)


theorem bK6 (n : Nd) (hn : n.q.t.length < 2 ^ 63) : cH Tryd.prog 47 [n.cv] (fun v => v = .bool (bK n)) := by
 refine FW Tryd.func47 ?_
 refine R0 ?_
 refine aC fun K hK => ?_
 have key : ∀ (b : Bool) fr ob nx, b = (inB n.c 1 60 && gF n.q rq0) → Fits 0 fr ob (fin [(1, .ptr 0 0), (3, .c (.bool b))]) (fob [(0, .box 48 (.c n.cv))]) 100 → K fr ob nx := by
  rintro b fr ob nx rfl hf
  refine hK _ _ _ (bU hf ?_)
  clear hf hK K
  refine aC fun K hK => ?_
  refine R0 ?_
  refine aK ?_
  refine R0 ?_
  refine aG (b := _) rfl (fun hb => ?_) (fun hb => ?_)
  ·
   refine aC fun K hK => Rg ?_
   iterate 4 refine S0 ?_
   refine aH 24 rfl (fun h4_24 => ?_) (fun h4_24 => ?_)
   ·
    have F := h4_24
    iterate 5 refine SF ?_
    refine aH 28 rfl (fun h4_28 => ?_) (fun h4_28 => ?_)
    ·
     have F := aI h4_24 h4_28
     iterate 2 refine SF ?_
     refine aW (g := some (30, true)) rfl rfl fun K' hK' => T6 ?_
     refine C1 (aJ4 n.q hn) ?_
     rintro u rfl
     refine AX (hK' _ _ ?_)
     clear hK' K'
     iterate 2 refine SF ?_
     refine T2 (hK _ _ _ ?_)
     clear hK K
     refine aF (RT Tryd.results47 ?_)
     exact aM [] (.bool _) rfl (by rw [oX (by simpa using hb), h4_24, h4_28]; rfl)
    have F := aI h4_24 h4_28
    iterate 5 refine SF ?_
    refine T2 (hK _ _ _ ?_)
    clear hK K
    refine aF (RT Tryd.results47 ?_)
    exact aM [] (.bool _) rfl (by rw [oX (by simpa using hb), h4_24, h4_28]; rfl)
   have F := h4_24
   iterate 10 refine SF ?_
   refine T2 (hK _ _ _ ?_)
   clear hK K
   refine aF (RT Tryd.results47 ?_)
   exact aM [] (.bool _) rfl (by rw [oX (by simpa using hb), h4_24]; rfl)
  have h1 : n.k ≠ 1 := by simpa using hb
  refine aC fun K hK => ?_
  have key2 : ∀ (b : Bool) fr ob nx, b = (n.k == 2 || n.k == 3) → Fits 0 fr ob (fin [(1, .ptr 0 0), (3, .c (.bool (inB n.c 1 60 && gF n.q rq0))), (19, .c (.int .i64 n.k)), (35, .c (.bool b))]) (fob [(0, .box 48 (.c n.cv))]) 300 → K fr ob nx := by
   rintro b fr ob nx rfl hf
   refine hK _ _ _ (bU hf ?_)
   clear hf hK K
   refine aG (b := _) rfl (fun hb => ?_) (fun hb => ?_)
   ·
    refine aC fun K hK => Rg ?_
    iterate 2 refine S0 ?_
    refine aH 38 rfl (fun h7_38 => ?_) (fun h7_38 => ?_)
    ·
     have F := h7_38
     iterate 5 refine SF ?_
     refine T2 (hK _ _ _ ?_)
     clear hK K
     refine aF (RT Tryd.results47 ?_)
     exact aM [] (.bool _) rfl (by rw [yP hb, h7_38, Bool.true_and])
    have F := h7_38
    iterate 5 refine SF ?_
    refine T2 (hK _ _ _ ?_)
    clear hK K
    refine aF (RT Tryd.results47 ?_)
    exact aM [] (.bool _) rfl (by rw [yP hb, h7_38, Bool.false_and])
   have h2 := hb
   refine R0 ?_
   refine aG (b := _) rfl (fun hb => ?_) (fun hb => ?_)
   ·
    refine aC fun K hK => Rg ?_
    iterate 2 refine S0 ?_
    refine aH 46 rfl (fun h9_46 => ?_) (fun h9_46 => ?_)
    ·
     have F := h9_46
     iterate 5 refine SF ?_
     refine aH 50 rfl (fun h9_50 => ?_) (fun h9_50 => ?_)
     ·
      have F := aI h9_46 h9_50
      iterate 7 refine SF ?_
      refine T2 (hK _ _ _ ?_)
      clear hK K
      refine aF (RT Tryd.results47 ?_)
      exact aM [] (.bool _) rfl (by rw [oY (by simpa using hb), h9_46, inB, h9_50]; rfl)
     have F := aI h9_46 h9_50
     iterate 7 refine SF ?_
     refine T2 (hK _ _ _ ?_)
     clear hK K
     refine aF (RT Tryd.results47 ?_)
     exact aM [] (.bool _) rfl (by rw [oY (by simpa using hb), h9_46, inB, h9_50]; rfl)
    have F := h9_46
    iterate 12 refine SF ?_
    refine T2 (hK _ _ _ ?_)
    clear hK K
    refine aF (RT Tryd.results47 ?_)
    exact aM [] (.bool _) rfl (by rw [oY (by simpa using hb), h9_46, Bool.false_and])
   refine aJ ?_
   refine T0 (hK _ _ _ ?_)
   clear hK K
   refine R0 ?_
   refine aF (RT Tryd.results47 ?_)
   exact aM [] (.bool _) rfl (by rw [bK3 h1 h2 (by simpa using hb)])
  refine R0 ?_
  refine aG (b := _) rfl (fun hb => ?_) (fun hb => ?_)
  ·
   refine aJ (T3 ?_)
   exact key2 (n.k == 2) _ _ _ (by rw [hb]; rfl) (fF)
  have h2 := hb
  refine aL (by kernel_rfl) ?_
  simp only [↓sP, sA, tyS, simprocAttr]
  exact key2 (n.k == 3) _ _ _ (by rw [hb]; rfl) (fF)
 refine Rg ?_
 have F := aI @aJ3 @bK5
 iterate 4 refine SF ?_
 refine aH 6 rfl (fun h1_6 => ?_) (fun h1_6 => ?_)
 ·
  have F := aI @aJ3 (aI @bK5 h1_6)
  iterate 5 refine SF ?_
  refine aH 10 rfl (fun h1_10 => ?_) (fun h1_10 => ?_)
  ·
   have F := aI @aJ3 (aI @bK5 (aI h1_6 h1_10))
   iterate 6 refine SF ?_
   refine aH 16 rfl (fun h1_16 => ?_) (fun h1_16 => ?_)
   ·
    simp only [h1_16]
    refine T4 ?_
    exact key true _ _ _ (by first | (simp only [inB, rq0, h1_6, h1_10, h1_16, Bool.true_and, Bool.false_and, Bool.and_false, Bool.and_true]; done) | (simp only [inB, h1_6, h1_10, Bool.true_and]; exact Eq.symm h1_16)) (fF)
   simp only [h1_16]
   refine T4 ?_
   exact key false _ _ _ (by first | (simp only [inB, rq0, h1_6, h1_10, h1_16, Bool.true_and, Bool.false_and, Bool.and_false, Bool.and_true]; done) | (simp only [inB, h1_6, h1_10, Bool.true_and]; exact Eq.symm h1_16)) (fF)
  have F := aI @aJ3 (aI @bK5 (aI h1_6 h1_10))
  iterate 6 refine SF ?_
  refine T4 ?_
  exact key false _ _ _ (by first | (simp only [inB, rq0, h1_6, h1_10, Bool.true_and, Bool.false_and, Bool.and_false, Bool.and_true]; done) | (simp only [inB, h1_6, h1_10, Bool.true_and]; exact Eq.symm h1_16)) (fF)
 have F := aI @aJ3 (aI @bK5 h1_6)
 iterate 11 refine SF ?_
 refine T4 ?_
 exact key false _ _ _ (by first | (simp only [inB, rq0, h1_6, Bool.true_and, Bool.false_and, Bool.and_false, Bool.and_true]; done) | (simp only [inB, h1_6, h1_10, Bool.true_and]; exact Eq.symm h1_16)) (fF)


end Go.Proofs.YtlldglbooaefhaaDoor

namespace Go.Proofs.YtlldglbooaefhaaDoor
open Go Go.Hl Go.Pl
set_option maxRecDepth 10000
set_option maxHeartbeats 16000000

theorem dM (n : Int) (h : -4611686018427387904 ≤ n ∧ n ≤ 4611686018427387904) : IntKind.i64.wrap n = n := IntWalk.i64_in _ (by omega)

theorem tO (l : List Nd) (hn : ∀ n ∈ l, n.q.t.length < 2 ^ 63) : cH Tryd.prog 27 [.slc (l.map Nd.cv)] (fun v => v = .bool (dH l)) := by
 refine FW Tryd.func27 ?_
 refine R0 ?_
 refine aC fun K hK => ?_
 refine aC fun K hK => Rg ?_
 iterate 4 refine S0 ?_
 refine aH 9 rfl (fun h1_9 => ?_) (fun h1_9 => ?_)
 ·
  have F := h1_9
  iterate 4 refine SF ?_
  refine T2 (hK _ _ _ ?_)
  clear hK K
  refine CT rfl ?_
  refine R0 ?_
  refine aF (RT Tryd.results27 ?_)
  exact aM [] (.bool false) rfl (by rw [sV (.inl (by simp only [decide_eq_true_eq] at h1_9; omega))])
 have F := h1_9
 iterate 4 refine SF ?_
 refine aH 13 rfl (fun h1_13 => ?_) (fun h1_13 => ?_)
 ·
  simp only [h1_13]
  refine T2 (hK _ _ _ ?_)
  clear hK K
  refine CT rfl ?_
  refine R0 ?_
  refine aF (RT Tryd.results27 ?_)
  exact aM [] (.bool false) rfl (by rw [sV (.inr (by simp only [decide_eq_true_eq] at h1_13; omega))])
 simp only [h1_13]
 refine T2 (hK _ _ _ ?_)
 clear hK K
 refine CF rfl ?_
 refine aJ ?_
 refine T0 (hK _ _ _ ?_)
 clear hK K
 have hl1 : 1 ≤ l.length := by simp only [decide_eq_false_iff_not] at h1_9; omega
 have hl2 : l.length ≤ 60 := by simp only [decide_eq_false_iff_not] at h1_13; omega
 clear h1_9 h1_13
 refine R0 ?_
 refine aC fun K hK => ?_
 refine R0 ?_
 refine aK ?_
 refine bO (α := {y : Nat × Int × Int // ScSt l y.1 y.2.1 y.2.2}) (fun y => (fin [(3, .c (.int .i64 y.1.2.1)), (4, .c (.int .i64 y.1.2.2)), (15, .c (.slc (l.map Nd.cv))), (16, .c (.int .i64 l.length)), (17, .c (.int .i64 y.1.1))], fob [])) 200 (fun y => l.length - y.1.1) ⟨(0, 1, 0), ScSt.init l⟩ (fF) ?_
 rintro ⟨⟨i, m, v⟩, hst⟩
 simp only at hst
 have hi := hst.le
 have hm0 := hst.m0
 have hm1 := hst.m1
 have hv0 := hst.v0
 have hv1 := hst.v1
 refine R0 ?_
 refine aC fun K hK => ?_
 refine aG (b := decide ((i : Int) < l.length)) rfl (fun hb => ?_) (fun hb => ?_)
 ·
  have hlt : i < l.length := by simpa using hb
  clear hb
  refine aJ ?_
  refine T0 (hK _ _ _ ?_)
  clear hK K
  refine aC fun K hK => ?_
  refine aK ?_
  refine aC fun K hK => Rg ?_
  have F := aI @Int.natCast_nonneg (aI @Int.ofNat_lt (aI hlt (nM hlt)))
  iterate 4 refine SF ?_
  refine T2 (hK _ _ _ ?_)
  clear hK K
  refine aC fun K hK => ?_
  refine aC fun K hK => Rg ?_
  iterate 3 refine S0 ?_
  refine aH 22 rfl (fun h7_22 => ?_) (fun h7_22 => ?_)
  ·
   have F := h7_22
   iterate 4 refine SF ?_
   refine T2 (hK _ _ _ ?_)
   clear hK K
   refine CT rfl ?_
   refine R0 ?_
   refine aF (RT Tryd.results27 ?_)
   exact aM [] (.bool false) rfl (by rw [hst.stop hlt (.inl (by simpa using h7_22))])
  have F := h7_22
  refine SF ?_
  refine aW (g := some (23, false)) rfl rfl fun K' hK' => T6 ?_
  refine C1 (bK6 l[i] (hn _ (List.getElem_mem hlt))) ?_
  rintro u rfl
  refine AX (hK' _ _ ?_)
  clear hK' K'
  iterate 2 refine SF ?_
  refine aH 25 rfl (fun h7_25 => ?_) (fun h7_25 => ?_)
  ·
   simp only [h7_25]
   refine T2 (hK _ _ _ ?_)
   clear hK K
   refine CF rfl ?_
   refine aJ ?_
   refine T0 (hK _ _ _ ?_)
   clear hK K
   have hnb : bK l[i] = true := by simpa using h7_25
   have hm : m ≠ 0 := by simpa using h7_22
   obtain ⟨c1, c2, c3, c4⟩ := cU hnb
   have hnx := hst.next hlt hm hnb
   clear h7_22 h7_25
   refine aC fun K hK => Rg ?_
   iterate 6 refine S0 ?_ (e := fun _ h_ => by simp only [sH, ↓sP, sA, tyS, simprocAttr, dM (l[i].c - 1) (by omega), dM (m + (l[i].c - 1)) (by omega)]; exact AX h_)
   refine T2 (hK _ _ _ ?_)
   clear hK K
   refine R0 ?_
   refine aG (b := _) rfl (fun hb => ?_) (fun hb => ?_)
   ·
    refine aL (by kernel_rfl) ?_
    simp only [↓sP, sA, tyS, simprocAttr, dM (v + 1) (by omega)]
    refine AX (hK _ _ _ ?_)
    clear hK K
    refine aL (by kernel_rfl) ?_
    simp only [↓sP, sA, tyS, simprocAttr, dM ((i : Int) + 1) (by omega)]
    rw [if_pos (by simpa using hb)] at hnx
    refine ⟨⟨(i + 1, _, _), hnx⟩, fF, ?_⟩
    show l.length - (i + 1) < l.length - i
    omega
   refine aJ ?_
   refine T0 (hK _ _ _ ?_)
   clear hK K
   refine aL (by kernel_rfl) ?_
   simp only [↓sP, sA, tyS, simprocAttr, dM ((i : Int) + 1) (by omega)]
   rw [if_neg (by simpa using hb)] at hnx
   refine ⟨⟨(i + 1, _, _), hnx⟩, fF, ?_⟩
   show l.length - (i + 1) < l.length - i
   omega
  simp only [h7_25]
  refine T2 (hK _ _ _ ?_)
  clear hK K
  refine CT rfl ?_
  refine R0 ?_
  refine aF (RT Tryd.results27 ?_)
  exact aM [] (.bool false) rfl (by rw [hst.stop hlt (.inr (by simpa using h7_25))])
 refine bD (T3 ?_)
 clear hK K
 refine AX (hK _ _ _ ?_)
 clear hK K
 have hei : i = l.length := by simp only [decide_eq_false_iff_not] at hb; omega
 subst hei
 have hf := hst.fin hl1 hl2
 clear hb
 refine aC fun K hK => Rg ?_
 iterate 3 refine S0 ?_
 refine aH 40 rfl (fun h13_40 => ?_) (fun h13_40 => ?_)
 ·
  have F := h13_40
  iterate 4 refine SF ?_
  refine T2 (hK _ _ _ ?_)
  clear hK K
  refine aF (RT Tryd.results27 ?_)
  exact aM [] (.bool _) rfl (by rw [hf, h13_40, Bool.true_and])
 have F := h13_40
 iterate 4 refine SF ?_
 refine T2 (hK _ _ _ ?_)
 clear hK K
 refine aF (RT Tryd.results27 ?_)
 exact aM [] (.bool false) rfl (by rw [hf, h13_40, Bool.false_and])

end Go.Proofs.YtlldglbooaefhaaDoor
