/- HL: a function that is handed a box by its address and returns nothing. By an AI agent. -/
import Derived.Test.YtenbfeemmpjdhaaGreatDoorPl02e
import Derived.Test.YtenbfeemmpjdhaaGreatDoorHyU3
import Derived.Test.YtenbfeemmpjdhaaGreatDoorHySb
import Derived.Test.YtenbfeemmpjdhaaGreatDoorHlFl
import Derived.Test.YtenbfeemmpjdhaaGreatDoorPl11m
set_option linter.unusedSimpArgs false
set_option linter.unusedVariables false
set_option linter.defProp false
namespace Go.Proofs.YtenbfeemmpjdhaaGreatDoor
open Go Go.Hl Go.Pl
set_option maxRecDepth 10000
set_option maxHeartbeats 2000000

theorem bR5 (b : aK) (hl : b.length < 2 ^ 40) : cT Tryz.prog 65 [.slc (b.map u8)] (fun u v => u = .slc ((iJ b).map lsC) ∧ v = .int .i64 (eC b)) := by
 refine FW Tryz.func65 ?_
 refine R0 ?_
 refine aB fun K hK => ?_
 have F := @List.length_map.{0,0}
 refine RF ?_
 refine aJ (b := decide ((262144 : Int) < b.length)) rfl (fun hb => ?_) (fun hb => ?_)
 ·
  refine R0 ?_
  refine aD (RT Tryz.results65 ?_)
  have hE : eC b = 3 := by unfold eC; rw [if_pos (by simp at hb; omega)]
  refine aL [] (.slc []) (.int .i64 3) ?_ ⟨by simp only [iJ, hE]; rfl, by rw [hE]⟩
  simp [HV.close, HV.closeL, CV.denil, CV.denilL, HV.norm, HV.toC, HV.toCL]
 refine aG ?_
 refine T0 (hK _ _ _ ?_)
 clear hK K
 refine aB fun K hK => ?_
 have hle : ¬ 262144 < b.length := by simp at hb; omega
 clear hb
 refine RF ?_
 refine aJ (b := (b.length : Int) == 0) rfl (fun hb => ?_) (fun hb => ?_)
 ·
  refine R0 ?_
  refine aD (RT Tryz.results65 ?_)
  have hbe : b = [] := by simpa using hb
  subst hbe
  refine aL [] (.slc []) (.int .i64 0) ?_ ⟨rfl, rfl⟩
  simp [HV.close, HV.closeL, CV.denil, CV.denilL, HV.norm, HV.toC, HV.toCL]
 refine aG ?_
 refine T0 (hK _ _ _ ?_)
 clear hK K
 refine aB fun K hK => ?_
 have hne : b ≠ [] := by rintro rfl; simp at hb
 clear hb
 have hpos : 0 < b.length := List.length_pos_iff.2 hne
 have hlt1 : b.length - 1 < b.length := by omega
 have hwl : IntKind.i64.wrap ((b.length : Int) - 1) = ((b.length - 1 : Nat) : Int) := by rw [IntWalk.i64_in _ (by omega)]; omega
 refine aB fun K hK => Rg ?_
 have F := aI @List.length_map.{0,0} (aI hwl (aI @Int.natCast_nonneg (aI @Int.ofNat_lt (aI hlt1 (aI (nM hlt1) @u8.eq_1)))))
 iterate 7 refine SF ?_
 refine T2 (hK _ _ _ ?_)
 clear hK K
 refine aJ (b := ((b[b.length - 1]).toNat : Int) != 10) rfl (fun hb => ?_) (fun hb => ?_)
 ·
  refine R0 ?_
  refine aD (RT Tryz.results65 ?_)
  have hE : eC b = 2 := aY8 hle hne (by
   intro h
   rw [List.getD_eq_getElem?_getD, List.getElem?_eq_getElem hlt1] at h
   simp only [Option.getD_some] at h
   rw [h] at hb
   simp at hb)
  refine aL [] (.slc []) (.int .i64 2) ?_ ⟨by simp only [iJ, hE]; rfl, by rw [hE]⟩
  simp [HV.close, HV.closeL, CV.denil, CV.denilL, HV.norm, HV.toC, HV.toCL]
 refine aG ?_
 refine T0 (hK _ _ _ ?_)
 clear hK K
 have hl10 : b[b.length - 1] = 10 := by
  simp only [bne_eq_false_iff_eq] at hb
  exact UInt8.toNat_inj.1 (by show b[b.length - 1].toNat = 10; omega)
 clear hb
 obtain ⟨m, hm⟩ : ∃ m, b = m ++ [10] := ⟨b.dropLast, by rw [← hl10, ← List.getLast_eq_getElem hne]; exact (List.dropLast_concat_getLast hne).symm⟩
 have htk : List.take (b.length - 1) (b.map u8) = m.map u8 := by rw [hm]; simp
 have hbc : fN (m.map u8) = some m := bytesC_map m
 have hml : m.length + 1 = b.length := by rw [hm]; simp
 have hml3 : (m ++ [(10 : UInt8)]).length = m.length + 1 := by simp
 rw [hm] at hle
 refine aB fun K hK => Rg ?_
 have F := aI @List.length_map.{0,0} (aI hwl (aI @Int.natCast_nonneg (aI @Int.ofNat_le (aI @Nat.sub_le (aI @bO (aI @List.drop_zero.{0} (aI @Nat.sub_zero (aI htk hbc))))))))
 iterate 6 refine SF ?_
 refine HS fun K' hK' => T6 ?_
 refine C2 (aI2 m 10 (by omega)) ?_
 rintro u rfl
 refine AX (hK' _ _ ?_)
 refine SF ?_
 refine T2 (hK _ _ _ ?_)
 clear hK K
 obtain ⟨rows, hrows⟩ : ∃ rows, rows = aT 10 m := ⟨_, rfl⟩
 have hrl := dI 10 m
 have hrs := kS 10 m
 rw [← hrows] at hrl hrs ⊢
 have hE2 : rows.mapM unL = none → eC b = 2 := fun h => by rw [hm]; exact aY9 hle (by rw [← hrows]; exact h)
 refine R0 ?_
 refine aB fun K hK => ?_
 refine R0 ?_
 refine aH ?_
 refine eE 5 0 60 1 rfl rfl rfl rfl ?_
 refine aS (α := {i : Nat // i ≤ rows.length ∧ ∀ r ∈ rows.take i, (unL r).isSome = true}) (fun i => (fin [(4, .c (.slc (rows.map .str))), (5, .own 100 i.1), (6, .c (.int .i64 i.1))], fob [(100, .row 60 1 ((lsT rows i.1).map lsC))])) 200 (fun i => rows.length - i.1) ⟨0, by omega, by simp⟩ (by simp only [lsT, List.take_zero, List.map_nil]; exact fF) ?_
 rintro ⟨i, hi, hok⟩
 simp only
 have hlsl := aO4 hi
 refine aB fun K hK => ?_
 refine aB fun K hK => Rg ?_
 have F := @List.length_map.{0,0}
 iterate 4 refine SF ?_
 refine T2 (hK _ _ _ ?_)
 clear hK K
 refine aJ (b := decide ((i : Int) < rows.length)) rfl (fun hb => ?_) (fun hb => ?_)
 ·
  have hlt : i < rows.length := by simpa using hb
  clear hb
  obtain ⟨r, hr⟩ : ∃ r, r = rows[i] := ⟨_, rfl⟩
  have hrin : r ∈ rows := by rw [hr]; exact List.getElem_mem hlt
  have hrn := hrs r hrin
  have hnr : nth (rows.map CV.str) i = .str r := by rw [aW hlt, hr]
  refine aG ?_
  refine T0 (hK _ _ _ ?_)
  clear hK K
  refine aB fun K hK => ?_
  refine aH ?_
  refine aB fun K hK => Rg ?_
  have F := aI @Int.natCast_nonneg (aI @Int.ofNat_lt (aI hlt (aI hnr @List.length_map.{0,0})))
  iterate 4 refine SF ?_
  refine HS fun K' hK' => T6 ?_
  refine C2 (aI2 r 32 (by omega)) ?_
  rintro u rfl
  refine AX (hK' _ _ ?_)
  refine SF ?_
  refine T2 (hK _ _ _ ?_)
  clear hK K
  refine R0 ?_
  refine aB fun K hK => ?_
  refine R0 ?_
  refine aH ?_
  refine eE 8 0 9 1 rfl rfl rfl rfl ?_
  refine aS (α := {k : Nat // k ≤ (aT 32 r).length ∧ aG8 r k}) (fun k => (fin [(4, .c (.slc (rows.map .str))), (5, .own 100 i), (6, .c (.int .i64 i)), (7, .c (.slc ((aT 32 r).map .str))), (8, .own 248 k.1), (9, .c (.int .i64 k.1))], fob [(100, .row 60 1 ((lsT rows i).map lsC)), (248, .row 9 1 ((wsT r k.1).map .str))])) 300 (fun k => (aT 32 r).length - k.1) ⟨0, by omega, fun p hp => by simp at hp⟩ (by simp only [wsT, List.take_zero, List.map_nil]; exact fF) ?_
  rintro ⟨k, hk, hwo⟩
  simp only
  have hwl2 := nZ hk
  have hsl := dI 32 r
  refine aB fun K hK => ?_
  refine aB fun K hK => Rg ?_
  have F := @List.length_map.{0,0}
  iterate 4 refine SF ?_
  refine T2 (hK _ _ _ ?_)
  clear hK K
  refine aJ (b := decide ((k : Int) < (aT 32 r).length)) rfl (fun hb => ?_) (fun hb => ?_)
  ·
   have hkl : k < (aT 32 r).length := by simpa using hb
   clear hb
   obtain ⟨p, hp⟩ : ∃ p, p = (aT 32 r)[k] := ⟨_, rfl⟩
   have hpl := kS 32 r p (by rw [hp]; exact List.getElem_mem hkl)
   have hnp : nth ((aT 32 r).map CV.str) k = .str p := by rw [aW hkl, hp]
   refine aG ?_
   refine T0 (hK _ _ _ ?_)
   clear hK K
   refine aB fun K hK => ?_
   refine aH ?_
   refine aB fun K hK => Rg ?_
   have F := aI @Int.natCast_nonneg (aI @Int.ofNat_lt (aI hkl (aI hnp @List.length_map.{0,0})))
   iterate 4 refine SF ?_
   refine HS fun K' hK' => T6 ?_
   refine D1 (bR4 p (by omega)) ?_
   rintro u v ⟨rfl, rfl⟩
   refine AX (hK' _ _ ?_)
   iterate 5 refine SF ?_
   refine T2 (hK _ _ _ ?_)
   clear hK K
   refine aB fun K hK => ?_
   refine R0 ?_
   refine aJ (b := !(unW p).isSome) rfl (fun hb => ?_) (fun hb => ?_)
   ·
    refine R0 ?_
    refine aD (RT Tryz.results65 ?_)
    have hE := hE2 (mY hrin (bI8 hkl (by rw [← hp]; simpa using hb)))
    refine aL [] (.slc []) (.int .i64 2) ?_ ⟨by simp only [iJ, hE]; rfl, by rw [hE]⟩
    simp [HV.close, HV.closeL, CV.denil, CV.denilL, HV.norm, HV.toC, HV.toCL]
   refine aG ?_
   refine T0 (hK _ _ _ ?_)
   clear hK K
   refine Rg ?_
   have F := aI @List.length_append.{0} (aI @List.length_map.{0,0} hwl2)
   iterate 5 refine SF ?_
   refine T2 (hK _ _ _ ?_)
   clear hK K
   refine aM (by kernel_rfl) ?_
   refine TQ (bK k) ?_
   refine ⟨⟨k + 1, hkl, xN hkl hwo (by rw [← hp]; simpa using hb)⟩, aP (by omega) ?_ ?_, ?_⟩
   ·
    simp [aX, upd_at, fin_at, HV.men]
   ·
    simp only [aG9 hkl, ← hp, bB, List.map_append]
    exact ⟨rfl, by omega, trivial, rfl, by omega, trivial, trivial⟩
   show (aT 32 r).length - (k + 1) < (aT 32 r).length - k
   omega
  refine aR (T3 ?_)
  clear hK K
  refine AX (hK _ _ _ ?_)
  clear hK K
  have hke : k = (aT 32 r).length := by simp at hb; omega
  subst hke
  have hul := bQ7 hwo
  obtain ⟨ws, hws⟩ : ∃ ws, ws = wsT r (aT 32 r).length := ⟨_, rfl⟩
  rw [← hws] at hul hwl2 ⊢
  rw [← hwl2]
  refine bT [248] (bE (fr2 := fin [(4, .c (.slc (rows.map .str))), (5, .own 100 i), (6, .c (.int .i64 i)), (8, .c (.slc (ws.map .str)))]) (ob2 := fob [(100, .row 60 1 ((lsT rows i).map lsC))]) (nx2 := 400) (aP (by omega) (by simp [aX, cB, fin_at, finA_at, upd_at, fob_at, HV.close, HV.closeL, CV.denil, CV.denilL, denilL_str, HV.men, HV.menL, HV.norm, HV.toC, HV.toCL]) (by simp [bB, cC, fob_at, upd_at, none0_at, bU, HO.close, HV.close, HV.closeL, HO.men, HV.men, HV.menL, HV.norm, HV.toC, HV.toCL])) ?_)
  refine Rg ?_
  have F := aI @List.length_append.{0} (aI @List.length_map.{0,0} hlsl)
  iterate 5 refine SF ?_
  refine T2 (hK _ _ _ ?_)
  clear hK K
  refine aM (by kernel_rfl) ?_
  refine TQ (bK i) ?_
  have hok1 : ∀ x ∈ rows.take (i + 1), (unL x).isSome = true := by
   intro x hx
   rw [List.take_succ_eq_append_getElem hlt, List.mem_append, List.mem_singleton] at hx
   rcases hx with hx | rfl
   ·
    exact hok x hx
   rw [← hr, hul]; rfl
  refine ⟨⟨i + 1, hlt, hok1⟩, aP (by omega) ?_ ?_, ?_⟩
  ·
   simp [aX, upd_at, fin_at, HV.men]
  ·
   simp only [bI7 hlt, ← hr, hul, bB, List.map_append, Option.getD_some]
   exact ⟨rfl, by omega, trivial, trivial⟩
  show rows.length - (i + 1) < rows.length - i
  omega
 refine aR (T3 ?_)
 clear hK K
 refine AX (hK _ _ _ ?_)
 clear hK K
 refine aB fun K hK => ?_
 have hie : i = rows.length := by simp at hb; omega
 subst hie
 have hml2 := bQ8 hok
 have hlens := bI9 (rows := rows) (n := 2 ^ 39) (fun r hr => by have := hrs r hr; omega)
 obtain ⟨ls, hls⟩ : ∃ ls, ls = lsT rows rows.length := ⟨_, rfl⟩
 rw [← hls] at hml2 hlsl hlens ⊢
 rw [hrows] at hml2
 obtain ⟨hE0, hEn⟩ := bI6 hle hml2
 rw [← hm] at hE0 hEn
 rw [← hlsl]
 refine bT [100] (bE (fr2 := fin [(5, .c (.slc (ls.map lsC)))]) (ob2 := fob []) (nx2 := 300) (aP (by omega) (by simp [aX, cB, fin_at, finA_at, upd_at, fob_at, HV.close, HV.closeL, CV.denil, CV.denilL, eZ, HV.men, HV.menL, HV.norm, HV.toC, HV.toCL]) (by simp [bB, cC, fob_at, upd_at, none0_at, bU, HO.close, HV.close, HV.closeL, HO.men, HV.men, HV.menL, HV.norm, HV.toC, HV.toCL])) ?_)
 refine aB fun K hK => Rg ?_
 have F := @eZ
 refine SF ?_
 refine HS fun K' hK' => T6 ?_
 refine D1 (aT6 ls (by omega) (fun l hl => by have := hlens l hl; omega)) ?_
 rintro u v ⟨rfl, rfl⟩
 refine AX (hK' _ _ ?_)
 iterate 5 refine SF ?_
 refine T2 (hK _ _ _ ?_)
 clear hK K
 refine R0 ?_
 refine aJ (b := kW ls != 0) rfl (fun hb => ?_) (fun hb => ?_)
 ·
  refine R0 ?_
  refine aD (RT Tryz.results65 ?_)
  have hE := hEn (by simpa using hb)
  refine aL [] (.slc []) (.int .i64 2) ?_ ⟨by simp only [iJ, hE]; rfl, by rw [hE]⟩
  simp [HV.close, HV.closeL, CV.denil, CV.denilL, HV.norm, HV.toC, HV.toCL]
 refine aG ?_
 refine T0 (hK _ _ _ ?_)
 clear hK K
 refine R0 ?_
 refine aD (RT Tryz.results65 ?_)
 obtain ⟨hE, hO⟩ := hE0 (by simpa using hb)
 refine aL [] (.slc (ls.map lsC)) (.int .i64 0) ?_ ⟨by rw [hO], by rw [hE]⟩
 simp [HV.close, HV.closeL, CV.denil, CV.denilL, HV.norm, HV.toC, HV.toCL, eZ]

end Go.Proofs.YtenbfeemmpjdhaaGreatDoor

namespace Go.Proofs.YtenbfeemmpjdhaaGreatDoor
open Go Go.Hl Go.Pl
set_option maxRecDepth 10000
set_option maxHeartbeats 2000000
def tp (L : List Int) (a : Nat) : CV := .agg [.slc (L.map (.int .i64)), .int .i64 a]
attribute [local simp] tp

theorem bV (L : List Int) (a : Nat) (n : Int) (ha : a < 2 ^ 40) (hn : n < 2 ^ 40) : bM5 Tryz.prog 16 39 (tp L a) [.int .i64 n] (fun u v' => ∃ (x : Int) (a' : Nat), u = .int .i64 x ∧ v' = tp L a' ∧ a' ≤ a + 1 ∧ 0 ≤ x ∧ (n < 1 → x = 0) ∧ (1 ≤ n → x < n)) := by
 refine bS Tryz.func16 rfl (by kernel_rfl) (fT _ _ _) (Nat.le_of_ble_eq_true rfl) ?_
 refine R0 ?_
 refine aB fun K hK => ?_
 refine R0 ?_
 refine aJ (b := decide (n < 1)) rfl (fun hb => ?_) (fun hb => ?_)
 ·
  refine R0 ?_
  refine aD (RT Tryz.results16 ?_)
  refine jI [] (.int .i64 0) (tp L a) rfl rfl ?_ (by simp) ⟨0, a, rfl, rfl, by omega, by omega, fun _ => rfl, fun h => by omega⟩
  simp [HV.close, tp, CV.denil, CV.denilL, denilL_int, HV.norm, HV.toC]
 refine aG ?_
 refine T0 (hK _ _ _ ?_)
 clear hK K
 refine aB fun K hK => Rg ?_
 iterate 7 refine S0 ?_ (e := fun _ h_ => by simp only [sH, ↓sP, sA, tyS, simprocAttr, tp]; exact AX h_)
 refine T2 (hK _ _ _ ?_)
 clear hK K
 refine aB fun K hK => ?_
 have key : ∀ (v : Int) fr ob nx, Fits 1 fr ob (fin [(0, .ptr 0 0), (1, .c (.int .i64 n)), (5, .c (.int .i64 v))]) (fob [(0, .box 39 (.c (tp L a)))]) 300 → K fr ob nx := by
  intro v fr ob nx hf
  refine hK _ _ _ (bE hf ?_)
  clear hf hK K
  have hn1 : 1 ≤ n := by simp at hb; omega
  have e0 := Int.tmod_lt_of_pos v (b := n) (by omega)
  have e1 : -n < v.tmod n := Int.lt_tmod_of_pos v (by omega)
  refine aB fun K hK => Rg ?_
  iterate 8 refine S0 ?_ (e := fun _ h_ => by simp only [sH, ↓sP, sA, tyS, simprocAttr, tp]; exact AX h_)
  refine T2 (hK _ _ _ ?_)
  clear hK K
  refine aB fun K hK => Rg ?_
  iterate 8 refine S0 ?_ (e := fun _ h_ => by simp only [sH, ↓sP, sA, tyS, simprocAttr, tp]; exact AX h_)
  refine T2 (hK _ _ _ ?_)
  clear hK K
  refine aD (RT Tryz.results16 ?_)
  have e2 : IntKind.i64.wrap (v.tmod n + n) = v.tmod n + n := IntWalk.i64_in _ (by omega)
  have e3 : IntKind.i64.wrap ((a : Int) + 1) = ((a + 1 : Nat) : Int) := IntWalk.i64_in _ (by omega)
  refine jI [] (.int .i64 ((v.tmod n + n).tmod n)) (tp L (a + 1)) (by rw [e2]; rfl) rfl ?_ (by simp) ⟨_, a + 1, rfl, rfl, by omega, Int.tmod_nonneg _ (by omega), fun h => by omega, fun _ => Int.tmod_lt_of_pos _ (by omega)⟩
  simp [HV.close, HV.closeL, tp, CV.denil, CV.denilL, denilL_int, HV.norm, HV.toC, HV.toCL, e3]
 refine aB fun K hK => QR ?_
 iterate 10 refine S0 ?_ (e := fun _ h_ => by simp only [sH, ↓sP, sA, tyS, simprocAttr, tp]; exact AX h_)
 refine T2 (hK _ _ _ ?_)
 clear hK K
 refine aJ (b := decide ((a : Int) < L.length)) rfl (fun hb => ?_) (fun hb => ?_)
 ·
  refine QW ?_
  simp only [sR, simprocAttr]
  iterate 11 refine S0 ?_ (e := fun _ h_ => by simp only [sH, ↓sP, sA, tyS, simprocAttr, tp, Int.natCast_nonneg, (by simpa using hb : (a : Int) < L.length), aW (show a < L.length by simpa using hb)]; exact AX h_)
  refine T4 ?_
  exact key (L[a]'(by simpa using hb)) _ _ _ (fF)
 refine aG (T3 ?_)
 exact key (IntKind.i64.wrap (IntKind.i64.wrap (↑a * 7) + 3)) _ _ _ (fF)



theorem bK0 (a b : List UInt8) : aV Tryz.prog 135 [.slc (a.map u8), .slc (b.map u8)] (fun v => v = .int .i64 (nV a b)) :=
 aL2 (f := 135) (fn := Tryz.f135) Tryz.func135 (by kernel_rfl) (by kernel_rfl) (by kernel_rfl) (by kernel_rfl) a b

theorem bR6 (a b : List UInt8) : aV Tryz.prog 114 [.slc (a.map u8), .slc (b.map u8)] (fun v => v = .int .i64 (nV a b)) := by
 refine FW Tryz.func114 ?_
 refine R0 ?_
 refine aB fun K hK => Rg ?_
 have F := @denilL_u8
 iterate 2 refine SF ?_
 refine HS fun K' hK' => T6 ?_
 refine C2 (bK0 a b) ?_
 rintro u rfl
 refine AX (hK' _ _ ?_)
 refine SF ?_
 refine T2 (hK _ _ _ ?_)
 clear hK K
 refine aD (RT Tryz.results114 ?_)
 exact aC [] (.int .i64 _) rfl rfl


theorem aI4 (a b : Dig) : aV Tryz.prog 80 [dg a, dg b] (fun v => v = .int .i64 (nV a.1 b.1)) := by
 refine FW Tryz.func80 ?_
 refine R0 ?_
 refine eI 2 0 rfl rfl ?_
 refine eI 3 4 rfl rfl ?_
 refine aB fun K hK => DW [(0, [], []), (1, [], []), (2, [], []), (3, [], [])] [0, 0, 3, 7] ?_
 iterate 2 refine W0 ?_ (e := fun _ h_ => by simp only [sH, ↓sP, sA, tyS, simprocAttr, bD4, bO, a.2, b.2, denilL_u8, List.drop_zero, zI]; exact AX h_)
 refine aN (g := none) rfl rfl fun K' hK' => ?_
 simp only [sH, ↓sP, sA, tyS, simprocAttr, bD4, bO, a.2, b.2, denilL_u8, List.drop_zero, zI]
 refine C2 (bR6 a.1 b.1) ?_
 rintro u rfl
 refine AX (hK' _ _ ?_)
 refine W0 ?_ (e := fun _ h_ => by simp only [sH, ↓sP, sA, tyS, simprocAttr, bD4, bO, a.2, b.2, denilL_u8, List.drop_zero, zI]; exact AX h_)
 refine T2 (hK _ _ _ ?_)
 clear hK K
 refine aD (RT Tryz.results80 ?_)
 exact aC [] (.int .i64 _) rfl rfl


theorem vD (s : aK) (hl : s.length < 2 ^ 63) : aV Tryz.prog 39 [.str s] (fun v => v = .bool (dQ s)) := by
 refine FW Tryz.func39 ?_
 refine R0 ?_
 refine aB fun K hK => ?_
 refine aB fun K hK => ?_
 have key : ∀ (b : Bool) fr ob nx, b = eJ s → Fits 0 fr ob (fin [(0, .c (.str s)), (26, .c (.bool b))]) (fob []) 600 → K fr ob nx := by
  rintro b fr ob nx rfl hf
  refine hK _ _ _ (bE hf ?_)
  clear hf hK K
  refine aJ (b := eJ s) rfl (fun hb => ?_) (fun hb => ?_)
  ·
   refine R0 ?_
   refine aD (RT Tryz.results39 ?_)
   exact aC [] (.bool false) rfl (by rw [aL0 hb])
  refine aG ?_
  refine T0 (hK _ _ _ ?_)
  clear hK K
  refine aB fun K hK => ?_
  refine R0 ?_
  refine aH ?_
  have hbad := hb
  refine aS (α := {i : Nat // i ≤ s.length ∧ ∀ j (_ : j < i) (h : j < s.length), (alZ s[j] || puZ s[j]) = true}) (fun i => (fin [(0, .c (.str s)), (3, .c (.int .i64 i.1))], fob [])) 100 (fun i => s.length - i.1) ⟨0, by omega, fun j h => by omega⟩ (fF) ?_
  clear hb
  rintro ⟨i, hi, h0⟩
  refine aB fun K hK => ?_
  refine aB fun K hK => Rg ?_
  iterate 4 refine S0 ?_
  refine T2 (hK _ _ _ ?_)
  clear hK K
  refine aJ (b := decide ((i : Int) < s.length)) rfl (fun hb => ?_) (fun hb => ?_)
  ·
   have hlt : i < s.length := by simpa using hb
   have hgd : s.getD i 0 = s[i] := by simp [hlt]
   refine aG ?_
   refine T0 (hK _ _ _ ?_)
   clear hK K
   refine aB fun K hK => ?_
   refine aH ?_
   refine aB fun K hK => Rg ?_
   iterate 4 refine S0 ?_ (e := fun _ h_ => by simp only [sH, ↓sP, sA, tyS, simprocAttr, Int.natCast_nonneg, Int.ofNat_lt, hlt, hgd]; exact AX h_)
   refine T2 (hK _ _ _ ?_)
   clear hK K
   refine aB fun K hK => ?_
   have key : ∀ (b : Bool) fr ob nx, b = (!(alZ s[i] || puZ s[i])) → Fits 0 fr ob (fin [(0, .c (.str s)), (3, .c (.int .i64 i)), (62, .c (.bool b))]) (fob []) 600 → K fr ob nx := by
    rintro b fr ob nx rfl hf
    refine hK _ _ _ (bE hf ?_)
    clear hf hK K
    refine aJ (b := !(alZ s[i] || puZ s[i])) rfl (fun hb => ?_) (fun hb => ?_)
    ·
     refine R0 ?_
     refine aD (RT Tryz.results39 ?_)
     exact aC [] (.bool false) rfl (by rw [aL1 hlt (by simpa using hb)])
    refine aG ?_
    refine T0 (hK _ _ _ ?_)
    clear hK K
    refine aM (by kernel_rfl) ?_
    refine TQ (bK i) ?_
    refine ⟨⟨i + 1, hlt, fun j hj h' => ?_⟩, fF, ?_⟩
    ·
     rcases Nat.lt_or_ge j i with h1 | h1
     ·
      exact h0 j h1 h'
     have : j = i := by omega
     subst this
     rw [Bool.not_eq_false'] at hb
     exact hb
    show s.length - (i + 1) < s.length - i
    omega
   refine Rg ?_
   iterate 3 refine S0 ?_
   refine aE 37 rfl (fun h7_37 => ?_) (fun h7_37 => ?_)
   ·
    have F := h7_37
    iterate 4 refine SF ?_
    refine aE 40 rfl (fun h7_40 => ?_) (fun h7_40 => ?_)
    ·
     have F := aI h7_37 h7_40
     iterate 20 refine SF ?_
     refine T4 ?_
     exact key false _ _ _ (by simp only [alZ, puZ, h7_37, h7_40, Bool.and_true, Bool.and_false, Bool.true_and, Bool.false_and, Bool.or_true, Bool.true_or, Bool.false_or, Bool.or_false, Bool.and_self, Bool.or_self, Bool.not_true, Bool.not_false]) (fF)
    have F := aI h7_37 h7_40
    iterate 3 refine SF ?_
    refine aE 44 rfl (fun h7_44 => ?_) (fun h7_44 => ?_)
    ·
     have F := aI h7_37 (aI h7_40 h7_44)
     iterate 5 refine SF ?_
     refine aE 47 rfl (fun h7_47 => ?_) (fun h7_47 => ?_)
     ·
      have F := aI h7_37 (aI h7_40 (aI h7_44 h7_47))
      iterate 12 refine SF ?_
      refine T4 ?_
      exact key false _ _ _ (by simp only [alZ, puZ, h7_37, h7_40, h7_44, h7_47, Bool.and_true, Bool.and_false, Bool.true_and, Bool.false_and, Bool.or_true, Bool.true_or, Bool.false_or, Bool.or_false, Bool.and_self, Bool.or_self, Bool.not_true, Bool.not_false]) (fF)
     have F := aI h7_37 (aI h7_40 (aI h7_44 h7_47))
     iterate 4 refine SF ?_
     refine aE 52 rfl (fun h7_52 => ?_) (fun h7_52 => ?_)
     ·
      have F := aI h7_37 (aI h7_40 (aI h7_44 (aI h7_47 h7_52)))
      iterate 8 refine SF ?_
      refine T4 ?_
      exact key false _ _ _ (by simp only [alZ, puZ, h7_37, h7_40, h7_44, h7_47, h7_52, Bool.and_true, Bool.and_false, Bool.true_and, Bool.false_and, Bool.or_true, Bool.true_or, Bool.false_or, Bool.or_false, Bool.and_self, Bool.or_self, Bool.not_true, Bool.not_false]) (fF)
     have F := aI h7_37 (aI h7_40 (aI h7_44 (aI h7_47 h7_52)))
     iterate 4 refine SF ?_
     refine aE 56 rfl (fun h7_56 => ?_) (fun h7_56 => ?_)
     ·
      have F := aI h7_37 (aI h7_40 (aI h7_44 (aI h7_47 (aI h7_52 h7_56))))
      iterate 4 refine SF ?_
      refine T4 ?_
      exact key false _ _ _ (by simp only [alZ, puZ, h7_37, h7_40, h7_44, h7_47, h7_52, h7_56, Bool.and_true, Bool.and_false, Bool.true_and, Bool.false_and, Bool.or_true, Bool.true_or, Bool.false_or, Bool.or_false, Bool.and_self, Bool.or_self, Bool.not_true, Bool.not_false]) (fF)
     have F := aI h7_37 (aI h7_40 (aI h7_44 (aI h7_47 (aI h7_52 h7_56))))
     iterate 4 refine SF ?_
     refine aE 60 rfl (fun h7_60 => ?_) (fun h7_60 => ?_)
     ·
      simp only [h7_60]
      refine T4 ?_
      exact key false _ _ _ (by simp only [alZ, puZ, h7_37, h7_40, h7_44, h7_47, h7_52, h7_56, h7_60, Bool.and_true, Bool.and_false, Bool.true_and, Bool.false_and, Bool.or_true, Bool.true_or, Bool.false_or, Bool.or_false, Bool.and_self, Bool.or_self, Bool.not_true, Bool.not_false]) (fF)
     simp only [h7_60]
     refine T4 ?_
     exact key true _ _ _ (by simp only [alZ, puZ, h7_37, h7_40, h7_44, h7_47, h7_52, h7_56, h7_60, Bool.and_true, Bool.and_false, Bool.true_and, Bool.false_and, Bool.or_true, Bool.true_or, Bool.false_or, Bool.or_false, Bool.and_self, Bool.or_self, Bool.not_true, Bool.not_false]) (fF)
    have F := aI h7_37 (aI h7_40 h7_44)
    iterate 9 refine SF ?_
    refine aE 52 rfl (fun h7_52 => ?_) (fun h7_52 => ?_)
    ·
     have F := aI h7_37 (aI h7_40 (aI h7_44 h7_52))
     iterate 8 refine SF ?_
     refine T4 ?_
     exact key false _ _ _ (by simp only [alZ, puZ, h7_37, h7_40, h7_44, h7_52, Bool.and_true, Bool.and_false, Bool.true_and, Bool.false_and, Bool.or_true, Bool.true_or, Bool.false_or, Bool.or_false, Bool.and_self, Bool.or_self, Bool.not_true, Bool.not_false]) (fF)
    have F := aI h7_37 (aI h7_40 (aI h7_44 h7_52))
    iterate 4 refine SF ?_
    refine aE 56 rfl (fun h7_56 => ?_) (fun h7_56 => ?_)
    ·
     have F := aI h7_37 (aI h7_40 (aI h7_44 (aI h7_52 h7_56)))
     iterate 4 refine SF ?_
     refine T4 ?_
     exact key false _ _ _ (by simp only [alZ, puZ, h7_37, h7_40, h7_44, h7_52, h7_56, Bool.and_true, Bool.and_false, Bool.true_and, Bool.false_and, Bool.or_true, Bool.true_or, Bool.false_or, Bool.or_false, Bool.and_self, Bool.or_self, Bool.not_true, Bool.not_false]) (fF)
    have F := aI h7_37 (aI h7_40 (aI h7_44 (aI h7_52 h7_56)))
    iterate 4 refine SF ?_
    refine aE 60 rfl (fun h7_60 => ?_) (fun h7_60 => ?_)
    ·
     simp only [h7_60]
     refine T4 ?_
     exact key false _ _ _ (by simp only [alZ, puZ, h7_37, h7_40, h7_44, h7_52, h7_56, h7_60, Bool.and_true, Bool.and_false, Bool.true_and, Bool.false_and, Bool.or_true, Bool.true_or, Bool.false_or, Bool.or_false, Bool.and_self, Bool.or_self, Bool.not_true, Bool.not_false]) (fF)
    simp only [h7_60]
    refine T4 ?_
    exact key true _ _ _ (by simp only [alZ, puZ, h7_37, h7_40, h7_44, h7_52, h7_56, h7_60, Bool.and_true, Bool.and_false, Bool.true_and, Bool.false_and, Bool.or_true, Bool.true_or, Bool.false_or, Bool.or_false, Bool.and_self, Bool.or_self, Bool.not_true, Bool.not_false]) (fF)
   have F := h7_37
   iterate 7 refine SF ?_
   refine aE 44 rfl (fun h7_44 => ?_) (fun h7_44 => ?_)
   ·
    have F := aI h7_37 h7_44
    iterate 5 refine SF ?_
    refine aE 47 rfl (fun h7_47 => ?_) (fun h7_47 => ?_)
    ·
     have F := aI h7_37 (aI h7_44 h7_47)
     iterate 12 refine SF ?_
     refine T4 ?_
     exact key false _ _ _ (by simp only [alZ, puZ, h7_37, h7_44, h7_47, Bool.and_true, Bool.and_false, Bool.true_and, Bool.false_and, Bool.or_true, Bool.true_or, Bool.false_or, Bool.or_false, Bool.and_self, Bool.or_self, Bool.not_true, Bool.not_false]) (fF)
    have F := aI h7_37 (aI h7_44 h7_47)
    iterate 4 refine SF ?_
    refine aE 52 rfl (fun h7_52 => ?_) (fun h7_52 => ?_)
    ·
     have F := aI h7_37 (aI h7_44 (aI h7_47 h7_52))
     iterate 8 refine SF ?_
     refine T4 ?_
     exact key false _ _ _ (by simp only [alZ, puZ, h7_37, h7_44, h7_47, h7_52, Bool.and_true, Bool.and_false, Bool.true_and, Bool.false_and, Bool.or_true, Bool.true_or, Bool.false_or, Bool.or_false, Bool.and_self, Bool.or_self, Bool.not_true, Bool.not_false]) (fF)
    have F := aI h7_37 (aI h7_44 (aI h7_47 h7_52))
    iterate 4 refine SF ?_
    refine aE 56 rfl (fun h7_56 => ?_) (fun h7_56 => ?_)
    ·
     have F := aI h7_37 (aI h7_44 (aI h7_47 (aI h7_52 h7_56)))
     iterate 4 refine SF ?_
     refine T4 ?_
     exact key false _ _ _ (by simp only [alZ, puZ, h7_37, h7_44, h7_47, h7_52, h7_56, Bool.and_true, Bool.and_false, Bool.true_and, Bool.false_and, Bool.or_true, Bool.true_or, Bool.false_or, Bool.or_false, Bool.and_self, Bool.or_self, Bool.not_true, Bool.not_false]) (fF)
    have F := aI h7_37 (aI h7_44 (aI h7_47 (aI h7_52 h7_56)))
    iterate 4 refine SF ?_
    refine aE 60 rfl (fun h7_60 => ?_) (fun h7_60 => ?_)
    ·
     simp only [h7_60]
     refine T4 ?_
     exact key false _ _ _ (by simp only [alZ, puZ, h7_37, h7_44, h7_47, h7_52, h7_56, h7_60, Bool.and_true, Bool.and_false, Bool.true_and, Bool.false_and, Bool.or_true, Bool.true_or, Bool.false_or, Bool.or_false, Bool.and_self, Bool.or_self, Bool.not_true, Bool.not_false]) (fF)
    simp only [h7_60]
    refine T4 ?_
    exact key true _ _ _ (by simp only [alZ, puZ, h7_37, h7_44, h7_47, h7_52, h7_56, h7_60, Bool.and_true, Bool.and_false, Bool.true_and, Bool.false_and, Bool.or_true, Bool.true_or, Bool.false_or, Bool.or_false, Bool.and_self, Bool.or_self, Bool.not_true, Bool.not_false]) (fF)
   have F := aI h7_37 h7_44
   iterate 9 refine SF ?_
   refine aE 52 rfl (fun h7_52 => ?_) (fun h7_52 => ?_)
   ·
    have F := aI h7_37 (aI h7_44 h7_52)
    iterate 8 refine SF ?_
    refine T4 ?_
    exact key false _ _ _ (by simp only [alZ, puZ, h7_37, h7_44, h7_52, Bool.and_true, Bool.and_false, Bool.true_and, Bool.false_and, Bool.or_true, Bool.true_or, Bool.false_or, Bool.or_false, Bool.and_self, Bool.or_self, Bool.not_true, Bool.not_false]) (fF)
   have F := aI h7_37 (aI h7_44 h7_52)
   iterate 4 refine SF ?_
   refine aE 56 rfl (fun h7_56 => ?_) (fun h7_56 => ?_)
   ·
    have F := aI h7_37 (aI h7_44 (aI h7_52 h7_56))
    iterate 4 refine SF ?_
    refine T4 ?_
    exact key false _ _ _ (by simp only [alZ, puZ, h7_37, h7_44, h7_52, h7_56, Bool.and_true, Bool.and_false, Bool.true_and, Bool.false_and, Bool.or_true, Bool.true_or, Bool.false_or, Bool.or_false, Bool.and_self, Bool.or_self, Bool.not_true, Bool.not_false]) (fF)
   have F := aI h7_37 (aI h7_44 (aI h7_52 h7_56))
   iterate 4 refine SF ?_
   refine aE 60 rfl (fun h7_60 => ?_) (fun h7_60 => ?_)
   ·
    simp only [h7_60]
    refine T4 ?_
    exact key false _ _ _ (by simp only [alZ, puZ, h7_37, h7_44, h7_52, h7_56, h7_60, Bool.and_true, Bool.and_false, Bool.true_and, Bool.false_and, Bool.or_true, Bool.true_or, Bool.false_or, Bool.or_false, Bool.and_self, Bool.or_self, Bool.not_true, Bool.not_false]) (fF)
   simp only [h7_60]
   refine T4 ?_
   exact key true _ _ _ (by simp only [alZ, puZ, h7_37, h7_44, h7_52, h7_56, h7_60, Bool.and_true, Bool.and_false, Bool.true_and, Bool.false_and, Bool.or_true, Bool.true_or, Bool.false_or, Bool.or_false, Bool.and_self, Bool.or_self, Bool.not_true, Bool.not_false]) (fF)
  refine aR (T3 ?_)
  clear hK K
  refine AX (hK _ _ _ ?_)
  clear hK K
  refine R0 ?_
  refine aD (RT Tryz.results39 ?_)
  have hei : i = s.length := by simp at hb; omega
  exact aC [] (.bool true) rfl (by rw [aV7 hbad fun j h => h0 j (by omega) h])
 refine Rg ?_
 have F := @kQ
 iterate 3 refine SF ?_
 refine aE 6 rfl (fun h1_6 => ?_) (fun h1_6 => ?_)
 ·
  have F := aI @kQ h1_6
  iterate 19 refine SF ?_
  refine T4 ?_
  exact key true _ _ _ (by simp only [eJ, gb, h1_6, Bool.and_true, Bool.and_false, Bool.true_and, Bool.false_and, Bool.or_true, Bool.true_or, Bool.false_or, Bool.or_false, Bool.and_self, Bool.or_self]) (fF)
 have F := aI @kQ h1_6
 iterate 5 refine SF ?_
 refine aE 10 rfl (fun h1_10 => ?_) (fun h1_10 => ?_)
 ·
  have F := aI @kQ (aI h1_6 h1_10)
  iterate 14 refine SF ?_
  refine T4 ?_
  exact key true _ _ _ (by simp only [eJ, gb, h1_6, h1_10, Bool.and_true, Bool.and_false, Bool.true_and, Bool.false_and, Bool.or_true, Bool.true_or, Bool.false_or, Bool.or_false, Bool.and_self, Bool.or_self]) (fF)
 have F := aI @kQ (aI h1_6 h1_10)
 iterate 5 refine SF ?_
 refine aE 15 rfl (fun h1_15 => ?_) (fun h1_15 => ?_)
 ·
  have F := aI @kQ (aI h1_6 (aI h1_10 h1_15))
  iterate 9 refine SF ?_
  refine T4 ?_
  exact key true _ _ _ (by simp only [eJ, gb, h1_6, h1_10, h1_15, Bool.and_true, Bool.and_false, Bool.true_and, Bool.false_and, Bool.or_true, Bool.true_or, Bool.false_or, Bool.or_false, Bool.and_self, Bool.or_self]) (fF)
 have F := aI @kQ (aI h1_6 (aI h1_10 h1_15))
 iterate 5 refine SF ?_
 refine aE 20 rfl (fun h1_20 => ?_) (fun h1_20 => ?_)
 ·
  have F := aI @kQ (aI h1_6 (aI h1_10 (aI h1_15 h1_20)))
  iterate 4 refine SF ?_
  refine T4 ?_
  exact key true _ _ _ (by simp only [eJ, gb, h1_6, h1_10, h1_15, h1_20, Bool.and_true, Bool.and_false, Bool.true_and, Bool.false_and, Bool.or_true, Bool.true_or, Bool.false_or, Bool.or_false, Bool.and_self, Bool.or_self]) (fF)
 have F := aI @kQ (aI h1_6 (aI h1_10 (aI h1_15 h1_20)))
 iterate 4 refine SF ?_
 refine aE 25 rfl (fun h1_25 => ?_) (fun h1_25 => ?_)
 ·
  simp only [h1_25]
  refine T4 ?_
  exact key true _ _ _ (by simp only [eJ, gb, h1_6, h1_10, h1_15, h1_20, h1_25, Bool.and_true, Bool.and_false, Bool.true_and, Bool.false_and, Bool.or_true, Bool.true_or, Bool.false_or, Bool.or_false, Bool.and_self, Bool.or_self]) (fF)
 simp only [h1_25]
 refine T4 ?_
 exact key false _ _ _ (by simp only [eJ, gb, h1_6, h1_10, h1_15, h1_20, h1_25, Bool.and_true, Bool.and_false, Bool.true_and, Bool.false_and, Bool.or_true, Bool.true_or, Bool.false_or, Bool.or_false, Bool.and_self, Bool.or_self]) (fF)


theorem bA1 (l : List aK) (hl : l.length < 2 ^ 40) (hw : ∀ w ∈ l, w.length < 2 ^ 63) : aV Tryz.prog 86 [.slc (l.map .str)] (fun v => v = .bool (kK l)) := by
 refine FW Tryz.func86 ?_
 refine R0 ?_
 refine aB fun K hK => ?_
 refine R0 ?_
 refine aH ?_
 refine aS (α := {i : Nat // i ≤ l.length ∧ ∀ w ∈ l.take i, dQ w = true}) (fun i => (fin [(0, .c (.slc (l.map .str))), (3, .c (.int .i64 i.1))], fob [])) 100 (fun i => l.length - i.1) ⟨0, by omega, by simp⟩ (fF) ?_
 rintro ⟨i, hi, h0⟩
 refine aB fun K hK => ?_
 refine aB fun K hK => Rg ?_
 iterate 4 refine S0 ?_
 refine T2 (hK _ _ _ ?_)
 clear hK K
 refine aJ (b := decide ((i : Int) < l.length)) rfl (fun hb => ?_) (fun hb => ?_)
 ·
  have hlt : i < l.length := by simpa using hb
  refine aG ?_
  refine T0 (hK _ _ _ ?_)
  clear hK K
  refine aB fun K hK => ?_
  refine aH ?_
  refine aB fun K hK => Rg ?_
  have F := aI @Int.natCast_nonneg (aI @Int.ofNat_lt (aI hlt (nM hlt)))
  iterate 4 refine SF ?_
  refine HS fun K' hK' => T6 ?_
  refine C1 (vD l[i] (hw _ (List.getElem_mem hlt))) ?_
  rintro u rfl
  refine AX (hK' _ _ ?_)
  refine SF ?_
  refine T2 (hK _ _ _ ?_)
  clear hK K
  refine aJ (b := !dQ l[i]) rfl (fun hb => ?_) (fun hb => ?_)
  ·
   refine R0 ?_
   refine aD (RT Tryz.results86 ?_)
   exact aC [] (.bool false) rfl (by rw [mT, cV hlt (by simpa using hb)])
  refine aG ?_
  refine T0 (hK _ _ _ ?_)
  clear hK K
  refine aM (by kernel_rfl) ?_
  refine TQ (bK i) ?_
  refine ⟨⟨i + 1, hlt, fun w hw' => ?_⟩, fF, ?_⟩
  ·
   rw [List.take_succ_eq_append_getElem hlt, List.mem_append, List.mem_singleton] at hw'
   rcases hw' with hw' | rfl
   ·
    exact h0 w hw'
   simpa using hb
  show l.length - (i + 1) < l.length - i
  omega
 refine aR (T3 ?_)
 clear hK K
 refine AX (hK _ _ _ ?_)
 clear hK K
 refine aB fun K hK => Rg ?_
 refine S0 ?_
 refine HS fun K' hK' => T5 ?_
 refine C1 (zP l (by omega)) ?_
 rintro u rfl
 refine AX (hK' _ _ ?_)
 refine S0 ?_
 refine T2 (hK _ _ _ ?_)
 clear hK K
 refine aD (RT Tryz.results86 ?_)
 have hei : i = l.length := by simp at hb; omega
 subst hei
 refine aC [] (.bool _) rfl ?_
 have : l.all dQ = true := by rw [List.all_eq_true]; simpa using h0
 unfold kK; rw [this, Bool.true_and]


theorem bK1 (l : List aK) (hl : l.length < 2 ^ 40) (hw : ∀ w ∈ l, w.length < 2 ^ 63) : aV Tryz.prog 79 [.slc (l.map .str)] (fun v => v = .bool (kK l)) := by
 refine FW Tryz.func79 ?_
 refine R0 ?_
 refine aB fun K hK => ?_
 refine R0 ?_
 refine aH ?_
 refine aS (α := {i : Nat // i ≤ l.length ∧ GoodTo dQ slt l i}) (fun i => (fin [(0, .c (.slc (l.map .str))), (5, .c (.slc (l.map .str))), (6, .c (.int .i64 l.length)), (7, .c (.int .i64 i.1))], fob [])) 100 (fun i => l.length - i.1) ⟨0, by omega, GoodTo.zero⟩ (fF) ?_
 rintro ⟨i, hi, h0⟩
 refine R0 ?_
 refine aB fun K hK => ?_
 refine aJ (b := decide ((i : Int) < l.length)) rfl (fun hb => ?_) (fun hb => ?_)
 ·
  have hlt : i < l.length := by simpa using hb
  have hi1 : i - 1 < l.length := by omega
  have hm : decide ((0 : Int) < (i : Int)) = true → IntKind.i64.wrap ((i : Int) - 1) = ((i - 1 : Nat) : Int) := fun h => by
   have : 0 < i := by simpa using h
   rw [IntWalk.i64_in _ (by omega)]; omega
  refine aG ?_
  refine T0 (hK _ _ _ ?_)
  clear hK K
  refine aB fun K hK => ?_
  refine aH ?_
  refine aB fun K hK => Rg ?_
  have F := aI @Int.natCast_nonneg (aI @Int.ofNat_lt (aI hlt (nM hlt)))
  iterate 5 refine SF ?_
  refine T2 (hK _ _ _ ?_)
  clear hK K
  refine aB fun K hK => Rg ?_
  have F := aI hm (aI @Int.natCast_nonneg (aI @Int.ofNat_lt (aI hi1 (nM hi1))))
  refine SF ?_
  refine HS fun K' hK' => T6 ?_
  refine C1 (zQ l[i] (hw _ (List.getElem_mem hlt))) ?_
  rintro u rfl
  refine AX (hK' _ _ ?_)
  iterate 2 refine SF ?_
  refine aE 13 rfl (fun h4_13 => ?_) (fun h4_13 => ?_)
  ·
   have F := aI hm (aI @Int.natCast_nonneg (aI @Int.ofNat_lt (aI hi1 (aI (nM hi1) h4_13))))
   iterate 3 refine SF ?_
   refine aE 17 rfl (fun h4_17 => ?_) (fun h4_17 => ?_)
   ·
    have F := aI hm (aI @Int.natCast_nonneg (aI @Int.ofNat_lt (aI hi1 (aI (nM hi1) (aI h4_13 h4_17)))))
    iterate 9 refine SF ?_
    refine aE 25 rfl (fun h4_25 => ?_) (fun h4_25 => ?_)
    ·
     simp only [h4_25]
     refine T2 (hK _ _ _ ?_)
     clear hK K
     refine CT rfl ?_
     refine R0 ?_
     refine aD (RT Tryz.results79 ?_)
     obtain ⟨j, rfl⟩ : ∃ j, i = j + 1 := ⟨i - 1, by simp at h4_17; omega⟩
     exact aC [] (.bool false) rfl (by rw [mT, kP (i := j) hlt (by simpa using h4_25)])
    simp only [h4_25]
    refine T2 (hK _ _ _ ?_)
    clear hK K
    refine CF rfl ?_
    refine aG ?_
    refine T0 (hK _ _ _ ?_)
    clear hK K
    refine aM (by kernel_rfl) ?_
    refine TQ (bK i) ?_
    obtain ⟨j, rfl⟩ : ∃ j, i = j + 1 := ⟨i - 1, by simp at h4_17; omega⟩
    refine ⟨⟨j + 1 + 1, hlt, h0.succ hlt h4_13 (by simpa using h4_25)⟩, fF, ?_⟩
    show l.length - (j + 1 + 1) < l.length - (j + 1)
    omega
   have F := aI hm (aI @Int.natCast_nonneg (aI @Int.ofNat_lt (aI hi1 (aI (nM hi1) (aI h4_13 h4_17)))))
   iterate 9 refine SF ?_
   refine T2 (hK _ _ _ ?_)
   clear hK K
   refine CF rfl ?_
   refine aG ?_
   refine T0 (hK _ _ _ ?_)
   clear hK K
   refine aM (by kernel_rfl) ?_
   refine TQ (bK i) ?_
   obtain rfl : i = 0 := by simp at h4_17; omega
   refine ⟨⟨1, hlt, GoodTo.one hlt h4_13⟩, fF, ?_⟩
   show l.length - 1 < l.length - 0
   omega
  have F := aI hm (aI @Int.natCast_nonneg (aI @Int.ofNat_lt (aI hi1 (aI (nM hi1) h4_13))))
  iterate 12 refine SF ?_
  refine T2 (hK _ _ _ ?_)
  clear hK K
  refine CT rfl ?_
  refine R0 ?_
  refine aD (RT Tryz.results79 ?_)
  exact aC [] (.bool false) rfl (by rw [mT, cV hlt h4_13])
 refine aR (T3 ?_)
 clear hK K
 refine AX (hK _ _ _ ?_)
 clear hK K
 refine R0 ?_
 refine aD (RT Tryz.results79 ?_)
 have hei : i = l.length := by simp at hb; omega
 subst hei
 exact aC [] (.bool true) rfl (by rw [mT, h0.all])

end Go.Proofs.YtenbfeemmpjdhaaGreatDoor

namespace Go.Proofs.YtenbfeemmpjdhaaGreatDoor
open Go Go.Hl Go.Pl
set_option maxRecDepth 10000
set_option maxHeartbeats 4000000

theorem bA2 (l : List Qt) (hl : l.length < 2 ^ 40) (hw : ∀ q ∈ l, q.r.length < 2 ^ 63) : aV Tryz.prog 32 [.slc (l.map Qt.cv)] (fun v => v = .bool (dZ l)) := by
 refine FW Tryz.func32 ?_
 refine R0 ?_
 refine aB fun K hK => ?_
 refine R0 ?_
 refine aH ?_
 refine aS (α := {i : Nat // i ≤ l.length ∧ GoodTo kL (fun a b => slt a.r b.r) l i}) (fun i => (fin [(0, .c (.slc (l.map Qt.cv))), (5, .c (.slc (l.map Qt.cv))), (6, .c (.int .i64 l.length)), (7, .c (.int .i64 i.1))], fob [])) 100 (fun i => l.length - i.1) ⟨0, by omega, GoodTo.zero⟩ (fF) ?_
 rintro ⟨i, hi, h0⟩
 refine R0 ?_
 refine aB fun K hK => ?_
 refine aJ (b := decide ((i : Int) < l.length)) rfl (fun hb => ?_) (fun hb => ?_)
 ·
  have hlt : i < l.length := by simpa using hb
  have hi1 : i - 1 < l.length := by omega
  have hm : decide ((0 : Int) < (i : Int)) = true → IntKind.i64.wrap ((i : Int) - 1) = ((i - 1 : Nat) : Int) := fun h => by
   have : 0 < i := by simpa using h
   rw [IntWalk.i64_in _ (by omega)]; omega
  refine aG ?_
  refine T0 (hK _ _ _ ?_)
  clear hK K
  refine aB fun K hK => ?_
  refine aH ?_
  refine aB fun K hK => Rg ?_
  have F := aI @Int.natCast_nonneg (aI @Int.ofNat_lt (aI hlt (nM hlt)))
  iterate 6 refine SF ?_
  refine T2 (hK _ _ _ ?_)
  clear hK K
  refine aB fun K hK => DW [(0, [], []), (1, [], []), (2, [], []), (3, [], []), (4, [], []), (5, [], []), (6, [], []), (7, [], []), (8, [], []), (9, [], []), (10, [], []), (11, [], []), (12, [], []), (13, [], []), (14, [], []), (15, [], []), (16, [], []), (17, [], []), (18, [], []), (19, [], []), (20, [], []), (21, [], []), (22, [], []), (23, [], []), (24, [], []), (25, [], []), (26, [], []), (27, [], []), (28, [], [])] [0, 1, 3, 7, 15, 31, 63, 127, 255, 511, 1023, 2047, 4095, 8191, 16383, 32767, 65535, 131071, 262143, 262143, 786431, 2097151, 4194303, 8388607, 262143, 17039359, 67108863, 134217727, 268435455] ?_
  have F := aI hm (aI @Int.natCast_nonneg (aI @Int.ofNat_lt (aI hi1 (nM hi1))))
  iterate 2 refine WF ?_
  refine aN (g := none) rfl rfl fun K' hK' => T6 ?_
  refine C1 (zQ l[i].r (hw _ (List.getElem_mem hlt))) ?_
  rintro u rfl
  refine AX (hK' _ _ ?_)
  iterate 2 refine WF ?_
  refine bD 14 rfl (fun h4_14 => ?_) (fun h4_14 => ?_)
  ·
   have F := aI hm (aI @Int.natCast_nonneg (aI @Int.ofNat_lt (aI hi1 (aI (nM hi1) h4_14))))
   iterate 5 refine WF ?_
   refine bD 19 rfl (fun h4_19 => ?_) (fun h4_19 => ?_)
   ·
    have F := aI hm (aI @Int.natCast_nonneg (aI @Int.ofNat_lt (aI hi1 (aI (nM hi1) (aI h4_14 h4_19)))))
    iterate 19 refine WF ?_
    refine T2 (hK _ _ _ ?_)
    clear hK K
    refine CT rfl ?_
    refine R0 ?_
    refine aD (RT Tryz.results32 ?_)
    exact aC [] (.bool false) rfl (by rw [dB, cV hlt (by simp only [cY, h4_14, h4_19, Bool.not_true, Bool.not_false, Bool.false_and, Bool.and_false]), Bool.false_and])
   have F := aI hm (aI @Int.natCast_nonneg (aI @Int.ofNat_lt (aI hi1 (aI (nM hi1) (aI h4_14 h4_19)))))
   iterate 5 refine WF ?_
   refine bD 24 rfl (fun h4_24 => ?_) (fun h4_24 => ?_)
   ·
    have F := aI hm (aI @Int.natCast_nonneg (aI @Int.ofNat_lt (aI hi1 (aI (nM hi1) (aI h4_14 (aI h4_19 h4_24))))))
    iterate 14 refine WF ?_
    refine T2 (hK _ _ _ ?_)
    clear hK K
    refine CT rfl ?_
    refine R0 ?_
    refine aD (RT Tryz.results32 ?_)
    exact aC [] (.bool false) rfl (by rw [dB, cV hlt (by simp only [cY, h4_14, h4_19, h4_24, Bool.not_true, Bool.not_false, Bool.false_and, Bool.and_false]), Bool.false_and])
   have F := aI hm (aI @Int.natCast_nonneg (aI @Int.ofNat_lt (aI hi1 (aI (nM hi1) (aI h4_14 (aI h4_19 h4_24))))))
   iterate 3 refine WF ?_
   refine bD 28 rfl (fun h4_28 => ?_) (fun h4_28 => ?_)
   ·
    have F := aI hm (aI @Int.natCast_nonneg (aI @Int.ofNat_lt (aI hi1 (aI (nM hi1) (aI h4_14 (aI h4_19 (aI h4_24 h4_28)))))))
    iterate 11 refine WF ?_
    refine bD 38 rfl (fun h4_38 => ?_) (fun h4_38 => ?_)
    ·
     simp only [h4_38]
     refine T2 (hK _ _ _ ?_)
     clear hK K
     refine CT rfl ?_
     refine R0 ?_
     refine aD (RT Tryz.results32 ?_)
     obtain ⟨j, rfl⟩ : ∃ j, i = j + 1 := ⟨i - 1, by simp at h4_28; omega⟩
     exact aC [] (.bool false) rfl (by rw [dB, kP (i := j) hlt (by simpa using h4_38), Bool.false_and])
    simp only [h4_38]
    refine T2 (hK _ _ _ ?_)
    clear hK K
    refine CF rfl ?_
    refine aG ?_
    refine T0 (hK _ _ _ ?_)
    clear hK K
    refine aM (by kernel_rfl) ?_
    refine TQ (bK i) ?_
    obtain ⟨j, rfl⟩ : ∃ j, i = j + 1 := ⟨i - 1, by simp at h4_28; omega⟩
    refine ⟨⟨j + 1 + 1, hlt, h0.succ hlt (by simp only [cY, h4_14, h4_19, h4_24, h4_28, h4_38]; rfl) (by simpa using h4_38)⟩, fF, ?_⟩
    show l.length - (j + 1 + 1) < l.length - (j + 1)
    omega
   have F := aI hm (aI @Int.natCast_nonneg (aI @Int.ofNat_lt (aI hi1 (aI (nM hi1) (aI h4_14 (aI h4_19 (aI h4_24 h4_28)))))))
   iterate 11 refine WF ?_
   refine T2 (hK _ _ _ ?_)
   clear hK K
   refine CF rfl ?_
   refine aG ?_
   refine T0 (hK _ _ _ ?_)
   clear hK K
   refine aM (by kernel_rfl) ?_
   refine TQ (bK i) ?_
   obtain rfl : i = 0 := by simp at h4_28; omega
   refine ⟨⟨1, hlt, GoodTo.one hlt (by simp only [cY, h4_14, h4_19, h4_24, h4_28]; rfl)⟩, fF, ?_⟩
   show l.length - 1 < l.length - 0
   omega
  have F := aI hm (aI @Int.natCast_nonneg (aI @Int.ofNat_lt (aI hi1 (aI (nM hi1) h4_14))))
  iterate 24 refine WF ?_
  refine T2 (hK _ _ _ ?_)
  clear hK K
  refine CT rfl ?_
  refine R0 ?_
  refine aD (RT Tryz.results32 ?_)
  exact aC [] (.bool false) rfl (by rw [dB, cV hlt (by simp only [cY, h4_14, Bool.not_true, Bool.not_false, Bool.false_and, Bool.and_false]), Bool.false_and])
 refine aR (T3 ?_)
 clear hK K
 refine AX (hK _ _ _ ?_)
 clear hK K
 refine aB fun K hK => Rg ?_
 iterate 4 refine S0 ?_
 refine T2 (hK _ _ _ ?_)
 clear hK K
 refine aD (RT Tryz.results32 ?_)
 have hei : i = l.length := by simp at hb; omega
 subst hei
 refine aC [] (.bool _) rfl ?_
 rw [dB, h0.all, Bool.true_and]
 congr 1
 exact decide_eq_decide.2 (by omega)


theorem vE (l : List Rv) (hl : l.length < 2 ^ 40) : aV Tryz.prog 34 [.slc (l.map Rv.cv)] (fun v => v = .bool (gI l)) := by
 refine FW Tryz.func34 ?_
 refine R0 ?_
 refine aB fun K hK => ?_
 refine R0 ?_
 refine aH ?_
 refine aS (α := {i : Nat // i ≤ l.length ∧ GoodTo (fun x => inN x.t) (fun a b => dlt a.k b.k) l i}) (fun i => (fin [(0, .c (.slc (l.map Rv.cv))), (5, .c (.slc (l.map Rv.cv))), (6, .c (.int .i64 l.length)), (7, .c (.int .i64 i.1))], fob [])) 100 (fun i => l.length - i.1) ⟨0, by omega, GoodTo.zero⟩ (fF) ?_
 rintro ⟨i, hi, h0⟩
 refine R0 ?_
 refine aB fun K hK => ?_
 refine aJ (b := decide ((i : Int) < l.length)) rfl (fun hb => ?_) (fun hb => ?_)
 ·
  have hlt : i < l.length := by simpa using hb
  have hi1 : i - 1 < l.length := by omega
  have hm : decide ((0 : Int) < (i : Int)) = true → IntKind.i64.wrap ((i : Int) - 1) = ((i - 1 : Nat) : Int) := fun h => by
   have : 0 < i := by simpa using h
   rw [IntWalk.i64_in _ (by omega)]; omega
  refine aG ?_
  refine T0 (hK _ _ _ ?_)
  clear hK K
  refine aB fun K hK => ?_
  refine aH ?_
  refine aB fun K hK => Rg ?_
  have F := aI @Int.natCast_nonneg (aI @Int.ofNat_lt (aI hlt (nM hlt)))
  iterate 6 refine SF ?_
  refine T2 (hK _ _ _ ?_)
  clear hK K
  refine aB fun K hK => DW [(0, [], []), (1, [], []), (2, [], []), (3, [], []), (4, [], []), (5, [], []), (6, [], []), (7, [], []), (8, [], []), (9, [], []), (10, [], []), (11, [], []), (12, [], []), (13, [], []), (14, [], []), (15, [], []), (16, [], []), (17, [], []), (18, [], []), (19, [], [])] [0, 1, 3, 7, 15, 31, 63, 127, 255, 255, 767, 2047, 4095, 8191, 255, 16639, 65535, 131071, 262143, 524287] ?_
  have F := aI hm (aI @Int.natCast_nonneg (aI @Int.ofNat_lt (aI hi1 (nM hi1))))
  iterate 2 refine WF ?_
  refine aN (g := none) rfl rfl fun K' hK' => T6 ?_
  refine C2 (jN 0 l[i].t) ?_
  rintro u rfl
  refine AX (hK' _ _ ?_)
  iterate 2 refine WF ?_
  refine bD 14 rfl (fun h4_14 => ?_) (fun h4_14 => ?_)
  ·
   have F := aI hm (aI @Int.natCast_nonneg (aI @Int.ofNat_lt (aI hi1 (aI (nM hi1) h4_14))))
   iterate 3 refine WF ?_
   refine bD 18 rfl (fun h4_18 => ?_) (fun h4_18 => ?_)
   ·
    have F := aI hm (aI @Int.natCast_nonneg (aI @Int.ofNat_lt (aI hi1 (aI (nM hi1) (aI h4_14 h4_18)))))
    iterate 8 refine WF ?_
    refine aN (g := some (19, true)) rfl rfl fun K' hK' => T6 ?_
    refine C2 (aI4 l[i - 1].k l[i].k) ?_
    rintro u rfl
    refine AX (hK' _ _ ?_)
    iterate 3 refine WF ?_
    refine bD 29 rfl (fun h4_29 => ?_) (fun h4_29 => ?_)
    ·
     simp only [h4_29]
     refine T2 (hK _ _ _ ?_)
     clear hK K
     refine CT rfl ?_
     refine R0 ?_
     refine aD (RT Tryz.results34 ?_)
     obtain ⟨j, rfl⟩ : ∃ j, i = j + 1 := ⟨i - 1, by simp at h4_18; omega⟩
     exact aC [] (.bool false) rfl (by rw [gZ, kP (i := j) hlt (by rw [rW] at h4_29; simpa using h4_29), Bool.false_and])
    simp only [h4_29]
    refine T2 (hK _ _ _ ?_)
    clear hK K
    refine CF rfl ?_
    refine aG ?_
    refine T0 (hK _ _ _ ?_)
    clear hK K
    refine aM (by kernel_rfl) ?_
    refine TQ (bK i) ?_
    obtain ⟨j, rfl⟩ : ∃ j, i = j + 1 := ⟨i - 1, by simp at h4_18; omega⟩
    refine ⟨⟨j + 1 + 1, hlt, h0.succ hlt h4_14 (by rw [rW] at h4_29; simpa using h4_29)⟩, fF, ?_⟩
    show l.length - (j + 1 + 1) < l.length - (j + 1)
    omega
   have F := aI hm (aI @Int.natCast_nonneg (aI @Int.ofNat_lt (aI hi1 (aI (nM hi1) (aI h4_14 h4_18)))))
   iterate 12 refine WF ?_
   refine T2 (hK _ _ _ ?_)
   clear hK K
   refine CF rfl ?_
   refine aG ?_
   refine T0 (hK _ _ _ ?_)
   clear hK K
   refine aM (by kernel_rfl) ?_
   refine TQ (bK i) ?_
   obtain rfl : i = 0 := by simp at h4_18; omega
   refine ⟨⟨1, hlt, GoodTo.one hlt h4_14⟩, fF, ?_⟩
   show l.length - 1 < l.length - 0
   omega
  have F := aI hm (aI @Int.natCast_nonneg (aI @Int.ofNat_lt (aI hi1 (aI (nM hi1) h4_14))))
  iterate 15 refine WF ?_
  refine T2 (hK _ _ _ ?_)
  clear hK K
  refine CT rfl ?_
  refine R0 ?_
  refine aD (RT Tryz.results34 ?_)
  exact aC [] (.bool false) rfl (by rw [gZ, cV hlt h4_14, Bool.false_and])
 refine aR (T3 ?_)
 clear hK K
 refine AX (hK _ _ _ ?_)
 clear hK K
 refine aB fun K hK => Rg ?_
 iterate 4 refine S0 ?_
 refine T2 (hK _ _ _ ?_)
 clear hK K
 refine aD (RT Tryz.results34 ?_)
 have hei : i = l.length := by simp at hb; omega
 subst hei
 refine aC [] (.bool _) rfl ?_
 rw [gZ, h0.all, Bool.true_and]
 congr 1
 exact decide_eq_decide.2 (by omega)


theorem bR7 (k : Ky) (hk : kSz k) : aV Tryz.prog 40 [k.cv] (fun v => v = .bool (tL k)) := by
 refine FW Tryz.func40 ?_
 refine R0 ?_
 refine aB fun K hK => Rg ?_
 iterate 2 refine S0 ?_
 refine HS fun K' hK' => T5 ?_
 refine C1 (aN6 k.p) ?_
 rintro u rfl
 refine AX (hK' _ _ ?_)
 refine S0 ?_
 refine aE 5 rfl (fun h1_5 => ?_) (fun h1_5 => ?_)
 ·
  have F := h1_5
  iterate 2 refine SF ?_
  refine aZ (g := some (6, true)) rfl rfl fun K' hK' => T6 ?_
  refine C1 (vD k.o hk.1) ?_
  rintro u rfl
  refine AX (hK' _ _ ?_)
  iterate 2 refine SF ?_
  refine aE 9 rfl (fun h1_9 => ?_) (fun h1_9 => ?_)
  ·
   have F := aI h1_5 h1_9
   iterate 6 refine SF ?_
   refine aE 15 rfl (fun h1_15 => ?_) (fun h1_15 => ?_)
   ·
    have F := aI h1_5 (aI h1_9 h1_15)
    iterate 6 refine SF ?_
    refine aE 21 rfl (fun h1_21 => ?_) (fun h1_21 => ?_)
    ·
     have F := aI h1_5 (aI h1_9 (aI h1_15 h1_21))
     iterate 2 refine SF ?_
     refine aZ (g := some (23, true)) rfl rfl fun K' hK' => T6 ?_
     refine C1 (bA1 k.rs hk.2.1 hk.2.2) ?_
     rintro u rfl
     refine AX (hK' _ _ ?_)
     iterate 2 refine SF ?_
     refine aE 26 rfl (fun h1_26 => ?_) (fun h1_26 => ?_)
     ·
      have F := aI h1_5 (aI h1_9 (aI h1_15 (aI h1_21 h1_26)))
      iterate 5 refine SF ?_
      refine aE 31 rfl (fun h1_31 => ?_) (fun h1_31 => ?_)
      ·
       have F := aI h1_5 (aI h1_9 (aI h1_15 (aI h1_21 (aI h1_26 h1_31))))
       iterate 7 refine SF ?_
       refine aE 38 rfl (fun h1_38 => ?_) (fun h1_38 => ?_)
       ·
        have F := aI h1_5 (aI h1_9 (aI h1_15 (aI h1_21 (aI h1_26 (aI h1_31 h1_38)))))
        iterate 5 refine SF ?_
        refine aE 43 rfl (fun h1_43 => ?_) (fun h1_43 => ?_)
        ·
         simp only [h1_43]
         refine T2 (hK _ _ _ ?_)
         clear hK K
         refine aD (RT Tryz.results40 ?_)
         exact aC [] (.bool true) rfl (by simp only [fQ, dU, h1_5, h1_9, h1_15, h1_21, h1_26, h1_31, h1_38, h1_43, Bool.and_true, Bool.and_false, Bool.true_and, Bool.false_and]; try exact congrArg CV.bool h1_43.symm)
        simp only [h1_43]
        refine T2 (hK _ _ _ ?_)
        clear hK K
        refine aD (RT Tryz.results40 ?_)
        exact aC [] (.bool false) rfl (by simp only [fQ, dU, h1_5, h1_9, h1_15, h1_21, h1_26, h1_31, h1_38, h1_43, Bool.and_true, Bool.and_false, Bool.true_and, Bool.false_and]; try exact congrArg CV.bool h1_43.symm)
       have F := aI h1_5 (aI h1_9 (aI h1_15 (aI h1_21 (aI h1_26 (aI h1_31 h1_38)))))
       iterate 5 refine SF ?_
       refine T2 (hK _ _ _ ?_)
       clear hK K
       refine aD (RT Tryz.results40 ?_)
       exact aC [] (.bool false) rfl (by simp only [fQ, dU, h1_5, h1_9, h1_15, h1_21, h1_26, h1_31, h1_38, Bool.and_true, Bool.and_false, Bool.true_and, Bool.false_and]; try exact congrArg CV.bool h1_43.symm)
      have F := aI h1_5 (aI h1_9 (aI h1_15 (aI h1_21 (aI h1_26 h1_31))))
      iterate 12 refine SF ?_
      refine T2 (hK _ _ _ ?_)
      clear hK K
      refine aD (RT Tryz.results40 ?_)
      exact aC [] (.bool false) rfl (by simp only [fQ, dU, h1_5, h1_9, h1_15, h1_21, h1_26, h1_31, Bool.and_true, Bool.and_false, Bool.true_and, Bool.false_and]; try exact congrArg CV.bool h1_43.symm)
     have F := aI h1_5 (aI h1_9 (aI h1_15 (aI h1_21 h1_26)))
     iterate 17 refine SF ?_
     refine T2 (hK _ _ _ ?_)
     clear hK K
     refine aD (RT Tryz.results40 ?_)
     exact aC [] (.bool false) rfl (by simp only [fQ, dU, h1_5, h1_9, h1_15, h1_21, h1_26, Bool.and_true, Bool.and_false, Bool.true_and, Bool.false_and]; try exact congrArg CV.bool h1_43.symm)
    have F := aI h1_5 (aI h1_9 (aI h1_15 h1_21))
    iterate 22 refine SF ?_
    refine T2 (hK _ _ _ ?_)
    clear hK K
    refine aD (RT Tryz.results40 ?_)
    exact aC [] (.bool false) rfl (by simp only [fQ, dU, h1_5, h1_9, h1_15, h1_21, Bool.and_true, Bool.and_false, Bool.true_and, Bool.false_and]; try exact congrArg CV.bool h1_43.symm)
   have F := aI h1_5 (aI h1_9 h1_15)
   iterate 28 refine SF ?_
   refine T2 (hK _ _ _ ?_)
   clear hK K
   refine aD (RT Tryz.results40 ?_)
   exact aC [] (.bool false) rfl (by simp only [fQ, dU, h1_5, h1_9, h1_15, Bool.and_true, Bool.and_false, Bool.true_and, Bool.false_and]; try exact congrArg CV.bool h1_43.symm)
  have F := aI h1_5 h1_9
  iterate 34 refine SF ?_
  refine T2 (hK _ _ _ ?_)
  clear hK K
  refine aD (RT Tryz.results40 ?_)
  exact aC [] (.bool false) rfl (by simp only [fQ, dU, h1_5, h1_9, Bool.and_true, Bool.and_false, Bool.true_and, Bool.false_and]; try exact congrArg CV.bool h1_43.symm)
 have F := h1_5
 iterate 39 refine SF ?_
 refine T2 (hK _ _ _ ?_)
 clear hK K
 refine aD (RT Tryz.results40 ?_)
 exact aC [] (.bool false) rfl (by simp only [fQ, dU, h1_5, Bool.and_true, Bool.and_false, Bool.true_and, Bool.false_and]; try exact congrArg CV.bool h1_43.symm)


theorem bR8 (hid : ∀ p : Pk, aV Tryz.prog 81 [p.cv] (fun v => v = dg (pid p))) (l : List Ky) (hl : l.length < 2 ^ 40) (hw : ∀ k ∈ l, kSz k) : aV Tryz.prog 33 [.slc (l.map Ky.cv)] (fun v => v = .bool (gH l)) := by
 refine FW Tryz.func33 ?_
 refine R0 ?_
 refine aB fun K hK => ?_
 refine R0 ?_
 refine aH ?_
 refine aS (α := {i : Nat // i ≤ l.length ∧ GoodTo tL (fun a b => dlt (kid a) (kid b)) l i}) (fun i => (fin [(0, .c (.slc (l.map Ky.cv))), (5, .c (.slc (l.map Ky.cv))), (6, .c (.int .i64 l.length)), (7, .c (.int .i64 i.1))], fob [])) 100 (fun i => l.length - i.1) ⟨0, by omega, GoodTo.zero⟩ (fF) ?_
 rintro ⟨i, hi, h0⟩
 refine R0 ?_
 refine aB fun K hK => ?_
 refine aJ (b := decide ((i : Int) < l.length)) rfl (fun hb => ?_) (fun hb => ?_)
 ·
  have hlt : i < l.length := by simpa using hb
  have hi1 : i - 1 < l.length := by omega
  have hm : decide ((0 : Int) < (i : Int)) = true → IntKind.i64.wrap ((i : Int) - 1) = ((i - 1 : Nat) : Int) := fun h => by
   have : 0 < i := by simpa using h
   rw [IntWalk.i64_in _ (by omega)]; omega
  have hk := hw _ (List.getElem_mem hlt)
  refine aG ?_
  refine T0 (hK _ _ _ ?_)
  clear hK K
  refine aB fun K hK => ?_
  refine aH ?_
  refine aB fun K hK => Rg ?_
  have F := aI @Int.natCast_nonneg (aI @Int.ofNat_lt (aI hlt (nM hlt)))
  iterate 6 refine SF ?_
  refine T2 (hK _ _ _ ?_)
  clear hK K
  refine aB fun K hK => ?_
  refine aB fun K hK => Rg ?_
  iterate 2 refine S0 ?_
  refine HS fun K' hK' => T5 ?_
  refine C1 (aX5 l[i].p) ?_
  rintro u rfl
  refine AX (hK' _ _ ?_)
  iterate 2 refine S0 ?_
  refine aE 14 rfl (fun h4_14 => ?_) (fun h4_14 => ?_)
  ·
   have F := h4_14
   iterate 2 refine SF ?_
   refine aZ (g := some (16, false)) rfl rfl fun K' hK' => T6 ?_
   refine C1 (zQ l[i].o hk.1) ?_
   rintro u rfl
   refine AX (hK' _ _ ?_)
   iterate 3 refine SF ?_
   refine aE 19 rfl (fun h4_19 => ?_) (fun h4_19 => ?_)
   ·
    have F := aI h4_14 h4_19
    iterate 6 refine SF ?_
    refine aE 26 rfl (fun h4_26 => ?_) (fun h4_26 => ?_)
    ·
     have F := aI h4_14 (aI h4_19 h4_26)
     iterate 11 refine SF ?_
     refine T2 (hK _ _ _ ?_)
     clear hK K
     refine CT rfl ?_
     refine R0 ?_
     refine aD (RT Tryz.results33 ?_)
     exact aC [] (.bool false) rfl (by rw [dH, cV hlt (by simp only [dM, h4_14, h4_19, h4_26, Bool.not_true, Bool.not_false, Bool.false_and, Bool.and_false]), Bool.false_and])
    have F := aI h4_14 (aI h4_19 h4_26)
    iterate 6 refine SF ?_
    refine aE 32 rfl (fun h4_32 => ?_) (fun h4_32 => ?_)
    ·
     have F := aI h4_14 (aI h4_19 (aI h4_26 h4_32))
     iterate 5 refine SF ?_
     refine T2 (hK _ _ _ ?_)
     clear hK K
     refine CT rfl ?_
     refine R0 ?_
     refine aD (RT Tryz.results33 ?_)
     exact aC [] (.bool false) rfl (by rw [dH, cV hlt (by simp only [dM, h4_14, h4_19, h4_26, h4_32, Bool.not_true, Bool.not_false, Bool.false_and, Bool.and_false]), Bool.false_and])
    have F := aI h4_14 (aI h4_19 (aI h4_26 h4_32))
    iterate 2 refine SF ?_
    refine aZ (g := some (34, false)) rfl rfl fun K' hK' => T6 ?_
    refine C1 (bK1 l[i].rs hk.2.1 hk.2.2) ?_
    rintro u rfl
    refine AX (hK' _ _ ?_)
    iterate 2 refine SF ?_
    refine aE 37 rfl (fun h4_37 => ?_) (fun h4_37 => ?_)
    ·
     simp only [h4_37]
     refine T2 (hK _ _ _ ?_)
     clear hK K
     refine CF rfl ?_
     refine aG ?_
     refine T0 (hK _ _ _ ?_)
     clear hK K
     refine aB fun K hK => ?_
     refine aB fun K hK => Rg ?_
     have F := aI h4_14 (aI h4_19 (aI h4_26 (aI h4_32 h4_37)))
     iterate 2 refine SF ?_
     refine HS fun K' hK' => T6 ?_
     refine C2 (jN 0 l[i].fr) ?_
     rintro u rfl
     refine AX (hK' _ _ ?_)
     iterate 2 refine SF ?_
     refine aE 42 rfl (fun h6_42 => ?_) (fun h6_42 => ?_)
     ·
      have F := aI h4_14 (aI h4_19 (aI h4_26 (aI h4_32 (aI h4_37 h6_42))))
      iterate 2 refine SF ?_
      refine aZ (g := some (44, false)) rfl rfl fun K' hK' => T6 ?_
      refine C2 (jN 0 l[i].un) ?_
      rintro u rfl
      refine AX (hK' _ _ ?_)
      iterate 3 refine SF ?_
      refine aE 47 rfl (fun h6_47 => ?_) (fun h6_47 => ?_)
      ·
       have F := aI h4_14 (aI h4_19 (aI h4_26 (aI h4_32 (aI h4_37 (aI h6_42 h6_47)))))
       iterate 6 refine SF ?_
       refine aE 55 rfl (fun h6_55 => ?_) (fun h6_55 => ?_)
       ·
        simp only [h6_55]
        refine T2 (hK _ _ _ ?_)
        clear hK K
        refine CT rfl ?_
        refine R0 ?_
        refine aD (RT Tryz.results33 ?_)
        exact aC [] (.bool false) rfl (by rw [dH, cV hlt (by simp only [dM, h4_14, h4_19, h4_26, h4_32, h4_37, h6_42, h6_47, h6_55, Bool.not_true, Bool.not_false, Bool.false_and, Bool.and_false]), Bool.false_and])
       simp only [h6_55]
       refine T2 (hK _ _ _ ?_)
       clear hK K
       refine CF rfl ?_
       refine aG ?_
       refine T0 (hK _ _ _ ?_)
       clear hK K
       refine aB fun K hK => DW [(0, [], []), (1, [], []), (2, [], []), (3, [], []), (4, [], []), (5, [], []), (6, [], []), (7, [], []), (8, [], []), (10, [], []), (11, [], []), (9, [], [10, 11]), (12, [], []), (13, [], []), (14, [], []), (15, [], [])] [0, 1, 3, 7, 7, 23, 63, 127, 255, 511, 7, 1031, 4095, 8191, 16383, 32767] ?_
       have F := aI hm (aI @Int.natCast_nonneg (aI @Int.ofNat_lt (aI hi1 (aI (nM hi1) (aI h4_14 (aI h4_19 (aI h4_26 (aI h4_32 (aI h4_37 (aI h6_42 (aI h6_47 h6_55)))))))))))
       iterate 3 refine WF ?_
       refine bD 58 rfl (fun h8_58 => ?_) (fun h8_58 => ?_)
       ·
        have F := aI hm (aI @Int.natCast_nonneg (aI @Int.ofNat_lt (aI hi1 (aI (nM hi1) (aI h4_14 (aI h4_19 (aI h4_26 (aI h4_32 (aI h4_37 (aI h6_42 (aI h6_47 (aI h6_55 h8_58))))))))))))
        iterate 8 refine WF ?_
        refine aN (g := some (59, true)) rfl rfl fun K' hK' => T6 ?_
        refine C1 (hid l[i - 1].p) ?_
        rintro u rfl
        refine AX (hK' _ _ ?_)
        refine aN (g := some (59, true)) rfl rfl fun K' hK' => T6 ?_
        refine C1 (hid l[i].p) ?_
        rintro u rfl
        refine AX (hK' _ _ ?_)
        refine aN (g := some (59, true)) rfl rfl fun K' hK' => T6 ?_
        refine C2 (aI4 (pid l[i - 1].p) (pid l[i].p)) ?_
        rintro u rfl
        refine AX (hK' _ _ ?_)
        iterate 2 refine WF ?_
        refine bD 71 rfl (fun h8_71 => ?_) (fun h8_71 => ?_)
        ·
         simp only [h8_71]
         refine T2 (hK _ _ _ ?_)
         clear hK K
         refine CT rfl ?_
         refine R0 ?_
         refine aD (RT Tryz.results33 ?_)
         obtain ⟨j, rfl⟩ : ∃ j, i = j + 1 := ⟨i - 1, by simp at h8_58; omega⟩
         exact aC [] (.bool false) rfl (by rw [dH, kP (i := j) hlt (by rw [rW, Bool.not_eq_true'] at h8_71; exact h8_71), Bool.false_and])
        simp only [h8_71]
        refine T2 (hK _ _ _ ?_)
        clear hK K
        refine CF rfl ?_
        refine aG ?_
        refine T0 (hK _ _ _ ?_)
        clear hK K
        refine aM (by kernel_rfl) ?_
        refine TQ (bK i) ?_
        obtain ⟨j, rfl⟩ : ∃ j, i = j + 1 := ⟨i - 1, by simp at h8_58; omega⟩
        refine ⟨⟨j + 1 + 1, hlt, h0.succ hlt (by simp only [dM, h4_14, h4_19, h4_26, h4_32, h4_37, h6_42, h6_47, h6_55, h8_58, h8_71]; rfl) (by rw [rW, Bool.not_eq_false'] at h8_71; exact h8_71)⟩, fF, ?_⟩
        show l.length - (j + 1 + 1) < l.length - (j + 1)
        omega
       have F := aI hm (aI @Int.natCast_nonneg (aI @Int.ofNat_lt (aI hi1 (aI (nM hi1) (aI h4_14 (aI h4_19 (aI h4_26 (aI h4_32 (aI h4_37 (aI h6_42 (aI h6_47 (aI h6_55 h8_58))))))))))))
       iterate 13 refine WF ?_
       refine T2 (hK _ _ _ ?_)
       clear hK K
       refine CF rfl ?_
       refine aG ?_
       refine T0 (hK _ _ _ ?_)
       clear hK K
       refine aM (by kernel_rfl) ?_
       refine TQ (bK i) ?_
       obtain rfl : i = 0 := by simp at h8_58; omega
       refine ⟨⟨1, hlt, GoodTo.one hlt (by simp only [dM, h4_14, h4_19, h4_26, h4_32, h4_37, h6_42, h6_47, h6_55, h8_58]; rfl)⟩, fF, ?_⟩
       show l.length - 1 < l.length - 0
       omega
      have F := aI h4_14 (aI h4_19 (aI h4_26 (aI h4_32 (aI h4_37 (aI h6_42 h6_47)))))
      iterate 6 refine SF ?_
      refine T2 (hK _ _ _ ?_)
      clear hK K
      refine CT rfl ?_
      refine R0 ?_
      refine aD (RT Tryz.results33 ?_)
      exact aC [] (.bool false) rfl (by rw [dH, cV hlt (by simp only [dM, h4_14, h4_19, h4_26, h4_32, h4_37, h6_42, h6_47, Bool.not_true, Bool.not_false, Bool.false_and, Bool.and_false]), Bool.false_and])
     have F := aI h4_14 (aI h4_19 (aI h4_26 (aI h4_32 (aI h4_37 h6_42))))
     iterate 12 refine SF ?_
     refine T2 (hK _ _ _ ?_)
     clear hK K
     refine CT rfl ?_
     refine R0 ?_
     refine aD (RT Tryz.results33 ?_)
     exact aC [] (.bool false) rfl (by rw [dH, cV hlt (by simp only [dM, h4_14, h4_19, h4_26, h4_32, h4_37, h6_42, Bool.not_true, Bool.not_false, Bool.false_and, Bool.and_false]), Bool.false_and])
    simp only [h4_37]
    refine T2 (hK _ _ _ ?_)
    clear hK K
    refine CT rfl ?_
    refine R0 ?_
    refine aD (RT Tryz.results33 ?_)
    exact aC [] (.bool false) rfl (by rw [dH, cV hlt (by simp only [dM, h4_14, h4_19, h4_26, h4_32, h4_37, Bool.not_true, Bool.not_false, Bool.false_and, Bool.and_false]), Bool.false_and])
   have F := aI h4_14 h4_19
   iterate 17 refine SF ?_
   refine T2 (hK _ _ _ ?_)
   clear hK K
   refine CT rfl ?_
   refine R0 ?_
   refine aD (RT Tryz.results33 ?_)
   exact aC [] (.bool false) rfl (by rw [dH, cV hlt (by simp only [dM, h4_14, h4_19, Bool.not_true, Bool.not_false, Bool.false_and, Bool.and_false]), Bool.false_and])
  have F := h4_14
  iterate 23 refine SF ?_
  refine T2 (hK _ _ _ ?_)
  clear hK K
  refine CT rfl ?_
  refine R0 ?_
  refine aD (RT Tryz.results33 ?_)
  exact aC [] (.bool false) rfl (by rw [dH, cV hlt (by simp only [dM, h4_14, Bool.not_true, Bool.not_false, Bool.false_and, Bool.and_false]), Bool.false_and])
 refine aR (T3 ?_)
 clear hK K
 refine AX (hK _ _ _ ?_)
 clear hK K
 refine aB fun K hK => Rg ?_
 iterate 4 refine S0 ?_
 refine T2 (hK _ _ _ ?_)
 clear hK K
 refine aD (RT Tryz.results33 ?_)
 have hei : i = l.length := by simp at hb; omega
 subst hei
 refine aC [] (.bool _) rfl ?_
 rw [dH, h0.all, Bool.true_and]
 congr 1
 exact decide_eq_decide.2 (by omega)


theorem bR9 (l : List Dig) (d : Dig) (hl : l.length < 2 ^ 40) : aV Tryz.prog 53 [.slc (l.map dg), dg d] (fun v => ∃ l' : List Dig, v = .slc (l'.map dg) ∧ l'.length ≤ l.length + 1) := by
 refine FW Tryz.func53 ?_
 refine R0 ?_
 refine aB fun K hK => ?_
 refine aB fun K hK => Rg ?_
 iterate 2 refine S0 ?_
 refine HS fun K' hK' => T5 ?_
 refine C2 (bO9 l d hl) ?_
 rintro u rfl
 refine AX (hK' _ _ ?_)
 refine T2 (hK _ _ _ ?_)
 clear hK K
 refine aJ (b := l.contains d) rfl (fun hb => ?_) (fun hb => ?_)
 ·
  refine R0 ?_
  refine aD (RT Tryz.results53 ?_)
  exact aC [] (.slc (l.map dg)) (by simp [HV.close, CV.denil, denilL_dg, HV.norm, HV.toC]) ⟨l, rfl, by omega⟩
 refine aG ?_
 refine T0 (hK _ _ _ ?_)
 clear hK K
 refine R0 ?_
 refine R0 ?_
 refine aB fun K hK => ?_
 refine aH ?_
 refine eE 5 0 49 32 rfl rfl rfl rfl ?_
 refine aS (α := {i : Nat // i ≤ l.length}) (fun i => (fin [(0, .c (.slc (l.map dg))), (3, .ptr 0 0), (5, .own 28 i.1), (6, .c (.int .i64 i.1))], fob [(0, .box 49 (.c (dg d))), (28, .row 49 32 ((l.take i.1).map dg))])) 100 (fun i => l.length - i.1) ⟨0, by omega⟩ (fF) ?_
 rintro ⟨i, hi⟩
 have hti : (l.take i).length = i := by simp; omega
 have hlc : decide ((i : Int) < (l.length : Int)) = true → i < l.length := fun h => by simpa using h
 refine aB fun K hK => ?_
 by_cases hlt : i < l.length
 ·
  refine aB fun K hK => DW [(0, [], []), (1, [], []), (2, [], []), (3, [], []), (4, [], []), (5, [], []), (6, [], []), (7, [], []), (8, [], []), (9, [], []), (10, [], []), (11, [], [])] [0, 0, 2, 7, 15, 31, 31, 127, 255, 31, 1023, 2047] ?_
  have F := aI @Int.natCast_nonneg (aI @Int.ofNat_lt (aI hlt (nM hlt)))
  iterate 10 refine WF ?_
  refine aN (g := some (15, true)) rfl rfl fun K' hK' => T6 ?_
  refine C2 (pE l[i] d) ?_
  rintro u rfl
  refine AX (hK' _ _ ?_)
  refine WF ?_
  refine T2 (hK _ _ _ ?_)
  clear hK K
  refine aJ (b := dlt l[i] d) rfl (fun hb => ?_) (fun hb => ?_)
  ·
   refine aG ?_
   refine T0 (hK _ _ _ ?_)
   clear hK K
   refine aH ?_
   refine aB fun K hK => Rg ?_
   have F := aI @Int.natCast_nonneg (aI @Int.ofNat_lt (aI hlt (aI (nM hlt) (aI hti @List.length_append.{0}))))
   iterate 8 refine SF ?_
   refine T2 (hK _ _ _ ?_)
   clear hK K
   refine aM (by kernel_rfl) ?_
   refine TQ (bK i) ?_
   refine ⟨⟨i + 1, by omega⟩, aP (by omega) ?_ ?_, ?_⟩
   ·
    simp [aX, upd_at, fin_at, HV.men]
   ·
    refine ⟨rfl, by omega, trivial, ?_, by omega, trivial, trivial⟩
    simp only [List.take_succ_eq_append_getElem hlt, List.map_append]
    rfl
   show l.length - (i + 1) < l.length - i
   omega
  refine aR (T3 ?_)
  clear hK K
  refine AX (hK _ _ _ ?_)
  clear hK K
  refine aB fun K hK => DW [(0, [], []), (1, [], []), (2, [], []), (4, [2], []), (5, [2], []), (6, [2], []), (3, [], [4, 5, 6]), (7, [], []), (8, [], [])] [0, 0, 2, 7, 0, 0, 48, 127, 255] ?_
  iterate 9 refine W0 ?_ (e := fun _ h_ => by simp only [sH, ↓sP, sA, tyS, simprocAttr, hti, ← List.map_drop, ← List.map_take, aE1]; exact AX h_)
  refine T2 (hK _ _ _ ?_)
  clear hK K
  refine aD (RT Tryz.results53 ?_)
  refine aC [28] (.slc ((l.take i ++ d :: l.drop i).map dg)) ?_ ⟨_, rfl, ?_⟩
  ·
   simp [HV.close, upd_at, HV.norm, HV.toC, List.take_of_length_le]
  simp; omega
 refine aB fun K hK => DW [(0, [], []), (1, [], []), (2, [], []), (3, [], []), (4, [], []), (5, [], []), (6, [], []), (7, [], []), (8, [], []), (9, [], []), (10, [], []), (11, [], [])] [0, 0, 2, 7, 15, 31, 31, 127, 255, 31, 1023, 2047] ?_
 have F := aI @Int.ofNat_lt hlt
 iterate 12 refine WF ?_
 refine T2 (hK _ _ _ ?_)
 clear hK K
 refine aJ (b := _) rfl (fun hb => ?_) (fun hb => ?_)
 ·
  cases hb
 refine aR (T3 ?_)
 clear hK K
 refine AX (hK _ _ _ ?_)
 clear hK K
 refine aB fun K hK => DW [(0, [], []), (1, [], []), (2, [], []), (4, [2], []), (5, [2], []), (6, [2], []), (3, [], [4, 5, 6]), (7, [], []), (8, [], [])] [0, 0, 2, 7, 0, 0, 48, 127, 255] ?_
 iterate 9 refine W0 ?_ (e := fun _ h_ => by simp only [sH, ↓sP, sA, tyS, simprocAttr, hti, ← List.map_drop, ← List.map_take, aE1]; exact AX h_)
 refine T2 (hK _ _ _ ?_)
 clear hK K
 refine aD (RT Tryz.results53 ?_)
 refine aC [28] (.slc ((l.take i ++ d :: l.drop i).map dg)) ?_ ⟨_, rfl, ?_⟩
 ·
  simp [HV.close, upd_at, HV.norm, HV.toC, List.take_of_length_le]
 simp; omega

end Go.Proofs.YtenbfeemmpjdhaaGreatDoor

namespace Go.Hl
open Go

def bV0 (P : Program) (f : FuncId) (T : TypeId) (v : CV) (args : List CV) (R : CV → Prop) : Prop :=
 HFn P f (.ptr 0 0 :: args.map .c) 1 (fob [(0, .box T (.c v))]) (fun r ob' => ∃ v', r = .tup [] ∧ ob' = fob [(0, .box T (.c v'))] ∧ R v')
theorem bA3 {ob : Ob} {r w : HV} {T : TypeId} {R : CV → Prop} (cl : List Nat) (v' : CV) (h : (r.close ob cl).norm = .tup []) (hb : ob 0 = some (.box T w)) (hw : (w.close ob cl).norm = .c v') (h0 : 0 ∉ cl) (hR : R v') :
  rO 1 r ob (fun r ob' => ∃ v', r = .tup [] ∧ ob' = fob [(0, .box T (.c v'))] ∧ R v') := by
 refine ⟨cl, id, .tup [], fob [(0, .box T (.c v'))], ⟨v', rfl, rfl, hR⟩, by rw [h]; simp only [HV.ren, HV.renL], fun _ _ => rfl, fun _ _ _ _ h => h, by simp [HV.men, HV.menL], fun j o ho => ?_⟩
 by_cases e : j = 0
 ·
  subst e
  simp only [fob_at, if_true, Option.some.injEq] at ho
  subst ho
  refine ⟨by omega, by simp [HO.men, HV.men], h0, .box T w, hb, ?_⟩
  simp only [hw]
  rfl
 ·
  simp [fob_at, fob_nil, e] at ho

theorem yA {P : Program} {av : List Nat} {f : FuncId} {ob : Ob} {nid id : Nat} {K : HV → Ob → Prop} {T : TypeId} {v : CV} {args : List CV} {R : CV → Prop} (h : bV0 P f T v args R) (hid : ob id = some (.box T (.c v))) (hav : id ∉ av)
  (hfree : ob nid = none ∧ ob (nid + 1) = none ∧ ob (nid + 2) = none ∧ ob (nid + 3) = none) (hK : ∀ v', R v' → K (.tup []) (upd ob id (some (.box T (.c v'))))) :
  HCall P av f (.ptr id 0 :: args.map .c) ob nid K := by
 refine ⟨[id], .ptr 0 0 :: args.map .c, _, _, h, fT T v args, ⟨by simp, by simpa using hav⟩, ?_, fun j o hj => ?_, fun r lob' hR _ => ?_⟩
 ·
  simp only [HV.renL, HV.ren, HV.renL_c]
  rfl
 ·
  by_cases e : j = 0
  ·
   subst e
   simp only [fob_at, if_true, Option.some.injEq] at hj
   subst hj
   simpa [HO.ren, HV.ren] using hid
  ·
   simp [fob_at, fob_nil, e] at hj
 ·
  obtain ⟨v', rfl, rfl, hR⟩ := hR
  have e : bG ob [id] nid (fob [(0, .box T (.c v'))]) = upd ob id (some (.box T (.c v'))) := by
   funext i
   by_cases e : i = id
   ·
    subst e
    simp only [bG, aQ, List.findIdx?_cons, beq_self_eq_true, if_true, fob_at, Option.map_some]
    rfl
   ·
    have e' : (id == i) = false := by simp; exact fun h => e h.symm
    simp only [bG, List.findIdx?_cons, e', List.findIdx?_nil, Option.map_none, aU _ _ e]
    simp only [Bool.false_eq_true, if_false]
    split
    ·
     rename_i hr
     have h1 : [id].length + (i - nid) ≠ 0 := by simp
     rw [fob_at, if_neg h1, fob_nil]
     have : i = nid ∨ i = nid + 1 ∨ i = nid + 2 ∨ i = nid + 3 := by omega
     rcases this with rfl | rfl | rfl | rfl
     ·
      exact hfree.1.symm
     ·
      exact hfree.2.1.symm
     ·
      exact hfree.2.2.1.symm
     ·
      exact hfree.2.2.2.symm
    ·
     rfl
  rw [e]
  exact hK v' hR
end Go.Hl
