/- A root document out of the lines of a document, the reference's way (11.2), in plain Lean. By an AI agent. -/
import Derived.Test.YtenbfeemmpjdhaaGreatDoorPl02e
import Derived.Test.YtenbfeemmpjdhaaGreatDoorHyVf
import Derived.Test.YtenbfeemmpjdhaaGreatDoorHySb
import Derived.Test.YtenbfeemmpjdhaaGreatDoorHyTk
import Derived.Test.YtenbfeemmpjdhaaGreatDoorHlPa
import Derived.Test.YtenbfeemmpjdhaaGreatDoorHyTz
import Derived.Test.YtenbfeemmpjdhaaGreatDoorPl11m
import Derived.Test.YtenbfeemmpjdhaaGreatDoorHyU3
import Derived.Test.YtenbfeemmpjdhaaGreatDoorHlFl
set_option linter.unusedSimpArgs false
set_option linter.unusedVariables false
set_option linter.defProp false
namespace Go.Proofs.YtenbfeemmpjdhaaGreatDoor
open Go Go.Hl Go.Pl
set_option maxRecDepth 10000
set_option maxHeartbeats 4000000

theorem bS5 (l : List aK) (x : Rt) (hl : l.length < 2 ^ 40) : yC Tryz.prog 61 104 64 70 51 l x (iD l x) := by
 refine bS Tryz.func61 rfl (by kernel_rfl) (iF _ _ _ _ _ _) (Nat.le_of_ble_eq_true rfl) ?_
 unfold pOb
 refine R0 ?_
 refine aB fun K hK => ?_
 have F := @List.length_map.{0,0}
 refine RF ?_
 refine aJ (b := (l.length : Int) != 3) rfl (fun hb => ?_) (fun hb => ?_)
 ·
  refine R0 ?_
  refine aD (RT Tryz.results61 ?_)
  have hn : iD l x = none := by unfold iD; rw [if_neg (by simp at hb; omega)]
  exact cZ (y := x) (by rw [hn]; rfl) ⟨rfl, rfl, rfl, rfl⟩ (by rw [hn]; intro z hz; cases hz)
 refine aG ?_
 refine T0 (hK _ _ _ ?_)
 clear hK K
 have h3 : l.length = 3 := by simp at hb; omega
 clear hb
 have i1 : 1 < l.length := by omega
 have i2 : 2 < l.length := by omega
 refine aB fun K hK => Rg ?_
 have F := aI @List.length_map.{0,0} (aI h3 (bP i1))
 iterate 3 refine SF ?_
 refine HS fun K' hK' => T6 ?_
 refine D1 (kT (wd l 1)) ?_
 rintro u v ⟨rfl, rfl⟩
 refine AX (hK' _ _ ?_)
 iterate 5 refine SF ?_
 refine T2 (hK _ _ _ ?_)
 clear hK K
 refine aB fun K hK => Rg ?_
 have F := aI @List.length_map.{0,0} (aI h3 (bP i2))
 iterate 3 refine SF ?_
 refine HS fun K' hK' => T6 ?_
 refine D1 (kT (wd l 2)) ?_
 rintro u v ⟨rfl, rfl⟩
 refine AX (hK' _ _ ?_)
 iterate 5 refine SF ?_
 refine T2 (hK _ _ _ ?_)
 clear hK K
 cases h1 : bL (wd l 1)
 ·
  refine aB fun K hK => Rg ?_
  have F := aI @Option.getD_none.{0} @Option.getD_some.{0}
  iterate 12 refine SF ?_
  refine T2 (hK _ _ _ ?_)
  clear hK K
  refine aB fun K hK => Rg ?_
  have F := aI @Option.isSome_none.{0} @Option.isSome_some.{0}
  iterate 5 refine SF ?_
  refine T2 (hK _ _ _ ?_)
  clear hK K
  refine aD (RT Tryz.results61 ?_)
  have hn : iD l x = none := by unfold iD; rw [if_pos h3, h1]
  exact cZ (y := { x with v := 0, e := (bL (wd l 2)).getD 0 }) (by rw [hn]; rfl) ⟨by simp [upd_at, fob_at], by simp [upd_at, fob_at], by simp [upd_at, fob_at], by simp [upd_at, fob_at]⟩ (by rw [hn]; intro z hz; cases hz)
 refine aB fun K hK => Rg ?_
 have F := aI @Option.getD_none.{0} @Option.getD_some.{0}
 iterate 12 refine SF ?_
 refine T2 (hK _ _ _ ?_)
 clear hK K
 refine aB fun K hK => Rg ?_
 have F := aI @Option.isSome_none.{0} @Option.isSome_some.{0}
 iterate 5 refine SF ?_
 refine T2 (hK _ _ _ ?_)
 clear hK K
 refine aD (RT Tryz.results61 ?_)
 rename_i n1
 have hn : iD l x = (bL (wd l 2)).map fun n => { x with v := n1, e := n } := by unfold iD; rw [if_pos h3, h1]; cases bL (wd l 2) <;> rfl
 exact cZ (y := { x with v := n1, e := (bL (wd l 2)).getD 0 }) (by rw [hn, Option.isSome_map]) ⟨by simp [upd_at, fob_at], by simp [upd_at, fob_at], by simp [upd_at, fob_at], by simp [upd_at, fob_at]⟩ (by rw [hn]; intro z hz; cases h2 : bL (wd l 2) with | none => rw [h2] at hz; cases hz | some n => rw [h2] at hz; cases hz; rfl)


theorem bA5 (l : List aK) (x : Rt) (hl : l.length < 2 ^ 40) (hx : x.q.length < 2 ^ 40) : yC Tryz.prog 62 104 64 70 51 l x (fX l x) := by
 refine bS Tryz.func62 rfl (by kernel_rfl) (iF _ _ _ _ _ _) (Nat.le_of_ble_eq_true rfl) ?_
 unfold pOb
 refine R0 ?_
 refine aB fun K hK => ?_
 have F := @List.length_map.{0,0}
 refine RF ?_
 refine aJ (b := (l.length : Int) != 3) rfl (fun hb => ?_) (fun hb => ?_)
 ·
  refine R0 ?_
  refine aD (RT Tryz.results62 ?_)
  have hn : fX l x = none := by unfold fX; rw [if_neg (by simp at hb; omega)]
  exact cZ (y := x) (by rw [hn]; rfl) ⟨rfl, rfl, rfl, rfl⟩ (by rw [hn]; intro z hz; cases hz)
 refine aG ?_
 refine T0 (hK _ _ _ ?_)
 clear hK K
 have h3 : l.length = 3 := by simp at hb; omega
 clear hb
 have i1 : 1 < l.length := by omega
 have i2 : 2 < l.length := by omega
 refine aB fun K hK => Rg ?_
 have F := aI @List.length_map.{0,0} (aI h3 (bP i2))
 iterate 3 refine SF ?_
 refine HS fun K' hK' => T6 ?_
 refine D1 (kT (wd l 2)) ?_
 rintro u v ⟨rfl, rfl⟩
 refine AX (hK' _ _ ?_)
 iterate 5 refine SF ?_
 refine T2 (hK _ _ _ ?_)
 clear hK K
 refine aB fun K hK => DW [(0, [], []), (1, [], []), (2, [], []), (3, [], []), (4, [], []), (5, [], []), (6, [], []), (7, [], []), (8, [], []), (9, [], []), (10, [], []), (11, [], []), (12, [], [0]), (13, [], []), (14, [], []), (15, [], []), (16, [], [])] [0, 0, 2, 6, 14, 30, 0, 64, 192, 0, 960, 1984, 4094, 8191, 16383, 32767, 65535] ?_
 have F := aI @List.length_map.{0,0} (aI @List.length_append.{0} (aI h3 (bP i1)))
 iterate 17 refine WF ?_
 refine T2 (hK _ _ _ ?_)
 clear hK K
 refine R0 ?_
 refine aD (RT Tryz.results62 ?_)
 have hn : fX l x = (bL (wd l 2)).map fun n => { x with q := x.q ++ [⟨wd l 1, n⟩] } := by unfold fX; rw [if_pos h3]; cases bL (wd l 2) <;> rfl
 exact cZ (y := { x with q := x.q ++ [⟨wd l 1, (bL (wd l 2)).getD 0⟩] }) (by rw [hn, Option.isSome_map]) ⟨by simp [upd_at, fob_at], by simp [upd_at, fob_at, Qt.cv], by simp [upd_at, fob_at], by simp [upd_at, fob_at]⟩ (by rw [hn]; intro z hz; cases h2 : bL (wd l 2) with | none => rw [h2] at hz; cases hz | some n => rw [h2] at hz; cases hz; rfl)


theorem bS6 (l : List aK) (x : Rt) (hl : l.length < 2 ^ 40) (hw : ∀ w ∈ l, w.length < 2 ^ 40) (hx : x.x.length < 2 ^ 40) : yC Tryz.prog 64 104 64 70 51 l x (mG l x) := by
 refine bS Tryz.func64 rfl (by kernel_rfl) (iF _ _ _ _ _ _) (Nat.le_of_ble_eq_true rfl) ?_
 unfold pOb
 refine R0 ?_
 refine aB fun K hK => ?_
 have F := @List.length_map.{0,0}
 refine RF ?_
 refine aJ (b := (l.length : Int) != 3) rfl (fun hb => ?_) (fun hb => ?_)
 ·
  refine R0 ?_
  refine aD (RT Tryz.results64 ?_)
  have hn : mG l x = none := by unfold mG; rw [if_neg (by simp at hb; omega)]
  exact cZ (y := x) (by rw [hn]; rfl) ⟨rfl, rfl, rfl, rfl⟩ (by rw [hn]; intro z hz; cases hz)
 refine aG ?_
 refine T0 (hK _ _ _ ?_)
 clear hK K
 have h3 : l.length = 3 := by simp at hb; omega
 clear hb
 have i1 : 1 < l.length := by omega
 have i2 : 2 < l.length := by omega
 have hw1 : (wd l 1).length < 2 ^ 40 := hw _ (by unfold wd; rw [List.getD_eq_getElem?_getD, List.getElem?_eq_getElem i1]; exact List.getElem_mem i1)
 refine aB fun K hK => Rg ?_
 have F := aI @List.length_map.{0,0} (aI h3 (aI (bP i1) @dg_setAt))
 iterate 3 refine SF ?_
 refine HS fun K' hK' => T6 ?_
 refine D1 (aZ4 (wd l 1) hw1) ?_
 rintro u v ⟨rfl, rfl⟩
 refine AX (hK' _ _ ?_)
 iterate 6 refine SF ?_
 refine T2 (hK _ _ _ ?_)
 clear hK K
 refine aB fun K hK => Rg ?_
 have F := aI @List.length_map.{0,0} (aI h3 (bP i2))
 iterate 3 refine SF ?_
 refine HS fun K' hK' => T6 ?_
 refine D1 (kT (wd l 2)) ?_
 rintro u v ⟨rfl, rfl⟩
 refine AX (hK' _ _ ?_)
 iterate 5 refine SF ?_
 refine T2 (hK _ _ _ ?_)
 clear hK K
 cases h1 : kY (wd l 1)
 ·
  refine aB fun K hK => DW [(0, [], []), (1, [], []), (2, [], []), (3, [], []), (4, [], []), (5, [], []), (6, [], []), (7, [], []), (8, [], []), (9, [], []), (10, [], [0]), (11, [], []), (12, [], []), (13, [], []), (14, [], [])] [0, 0, 2, 6, 14, 30, 0, 0, 192, 448, 1022, 2047, 4095, 8191, 16383] ?_
  have F := aI @Option.getD_none.{0} (aI @Option.getD_some.{0} (aI @List.length_map.{0,0} @List.length_append.{0}))
  iterate 15 refine WF ?_
  refine T2 (hK _ _ _ ?_)
  clear hK K
  refine aB fun K hK => Rg ?_
  have F := aI @Option.isSome_none.{0} @Option.isSome_some.{0}
  iterate 5 refine SF ?_
  refine T2 (hK _ _ _ ?_)
  clear hK K
  refine aD (RT Tryz.results64 ?_)
  have hn : mG l x = none := by unfold mG; rw [if_pos h3, h1]
  exact cZ (y := { x with x := x.x ++ [⟨zdg, (bL (wd l 2)).getD 0⟩] }) (by rw [hn]; rfl) ⟨by simp [upd_at, fob_at], by simp [upd_at, fob_at], by simp [upd_at, fob_at], by simp [upd_at, fob_at, Rv.cv]⟩ (by rw [hn]; intro z hz; cases hz)
 refine aB fun K hK => DW [(0, [], []), (1, [], []), (2, [], []), (3, [], []), (4, [], []), (5, [], []), (6, [], []), (7, [], []), (8, [], []), (9, [], []), (10, [], [0]), (11, [], []), (12, [], []), (13, [], []), (14, [], [])] [0, 0, 2, 6, 14, 30, 0, 0, 192, 448, 1022, 2047, 4095, 8191, 16383] ?_
 have F := aI @Option.getD_none.{0} (aI @Option.getD_some.{0} (aI @List.length_map.{0,0} @List.length_append.{0}))
 iterate 15 refine WF ?_
 refine T2 (hK _ _ _ ?_)
 clear hK K
 refine aB fun K hK => Rg ?_
 have F := aI @Option.isSome_none.{0} @Option.isSome_some.{0}
 iterate 5 refine SF ?_
 refine T2 (hK _ _ _ ?_)
 clear hK K
 refine aD (RT Tryz.results64 ?_)
 rename_i d1
 have hn : mG l x = (bL (wd l 2)).map fun n => { x with x := x.x ++ [⟨d1, n⟩] } := by unfold mG; rw [if_pos h3, h1]; cases bL (wd l 2) <;> rfl
 exact cZ (y := { x with x := x.x ++ [⟨d1, (bL (wd l 2)).getD 0⟩] }) (by rw [hn, Option.isSome_map]) ⟨by simp [upd_at, fob_at], by simp [upd_at, fob_at], by simp [upd_at, fob_at], by simp [upd_at, fob_at, Rv.cv]⟩ (by rw [hn]; intro z hz; cases h2 : bL (wd l 2) with | none => rw [h2] at hz; cases hz | some n => rw [h2] at hz; cases hz; rfl)


theorem bS7 (l : List aK) (x : Rt) (hl : l.length < 2 ^ 40) (hw : ∀ w ∈ l, w.length < 2 ^ 40) (hx : x.k.length < 2 ^ 40) : yC Tryz.prog 63 104 64 70 51 l x (mF l x) := by
 refine bS Tryz.func63 rfl (by kernel_rfl) (iF _ _ _ _ _ _) (Nat.le_of_ble_eq_true rfl) ?_
 unfold pOb
 refine R0 ?_
 refine aB fun K hK => ?_
 have F := @List.length_map.{0,0}
 refine RF ?_
 refine aJ (b := decide ((l.length : Int) < 6)) rfl (fun hb => ?_) (fun hb => ?_)
 ·
  refine R0 ?_
  refine aD (RT Tryz.results63 ?_)
  have hn : mF l x = none := by unfold mF; rw [if_pos (by simp at hb; omega)]
  exact cZ (y := x) (by rw [hn]; rfl) ⟨rfl, rfl, rfl, rfl⟩ (by rw [hn]; intro z hz; cases hz)
 refine aG ?_
 refine T0 (hK _ _ _ ?_)
 clear hK K
 have h6 : ¬ l.length < 6 := by simp at hb; omega
 clear hb
 have i1 : 1 < l.length := by omega
 have i2 : 2 < l.length := by omega
 have i3 : 3 < l.length := by omega
 have i4 : 4 < l.length := by omega
 have i5 : 5 < l.length := by omega
 have i6 : 6 ≤ l.length := by omega
 have z1 : (1 : Int) < l.length := by omega
 have z2 : (2 : Int) < l.length := by omega
 have z3 : (3 : Int) < l.length := by omega
 have z4 : (4 : Int) < l.length := by omega
 have z5 : (5 : Int) < l.length := by omega
 have z6 : (6 : Int) ≤ l.length := by omega
 have hw2 : (wd l 2).length < 2 ^ 40 := hw _ (by unfold wd; rw [List.getD_eq_getElem?_getD, List.getElem?_eq_getElem i2]; exact List.getElem_mem i2)
 refine aB fun K hK => Rg ?_
 have F := aI @List.length_map.{0,0} (aI z1 (bP i1))
 iterate 3 refine SF ?_
 refine HS fun K' hK' => T6 ?_
 refine D1 (kT (wd l 1)) ?_
 rintro u v ⟨rfl, rfl⟩
 refine AX (hK' _ _ ?_)
 iterate 5 refine SF ?_
 refine T2 (hK _ _ _ ?_)
 clear hK K
 refine aB fun K hK => Rg ?_
 have F := aI @List.length_map.{0,0} (aI z2 (aI (bP i2) (aI @hf_setAt @zhf_eq)))
 iterate 3 refine SF ?_
 refine HS fun K' hK' => T6 ?_
 refine D1 (bJ5 (wd l 2) hw2) ?_
 rintro u v ⟨rfl, rfl⟩
 refine AX (hK' _ _ ?_)
 iterate 6 refine SF ?_
 refine T2 (hK _ _ _ ?_)
 clear hK K
 refine aB fun K hK => Rg ?_
 have F := aI @List.length_map.{0,0} (aI z4 (bP i4))
 iterate 3 refine SF ?_
 refine HS fun K' hK' => T6 ?_
 refine D1 (kT (wd l 4)) ?_
 rintro u v ⟨rfl, rfl⟩
 refine AX (hK' _ _ ?_)
 iterate 5 refine SF ?_
 refine T2 (hK _ _ _ ?_)
 clear hK K
 refine aB fun K hK => Rg ?_
 have F := aI @List.length_map.{0,0} (aI z5 (bP i5))
 iterate 3 refine SF ?_
 refine HS fun K' hK' => T6 ?_
 refine D1 (kT (wd l 5)) ?_
 rintro u v ⟨rfl, rfl⟩
 refine AX (hK' _ _ ?_)
 iterate 5 refine SF ?_
 refine T2 (hK _ _ _ ?_)
 clear hK K
 refine aB fun K hK => DW [(0, [], []), (1, [], []), (2, [], []), (3, [], []), (4, [], []), (5, [], []), (6, [], []), (7, [], []), (8, [], []), (9, [], []), (10, [], [])] [0, 0, 3, 0, 8, 24, 0, 0, 255, 0, 1023] ?_
 have F := aI @List.length_map.{0,0} (aI z3 (bP i3))
 iterate 2 refine WF ?_
 refine aN (g := none) rfl rfl fun K' hK' => T6 ?_
 rw [qD _ _ rfl rfl]
 refine AX (hK' _ _ ?_)
 iterate 8 refine WF ?_
 refine T2 (hK _ _ _ ?_)
 clear hK K
 have htk : List.take (l.length - 6) (List.drop 6 (l.map CV.str)) = (l.drop 6).map .str := by rw [List.map_drop, List.take_of_length_le (by simp)]
 refine aB fun K hK => Rg ?_
 have F := aI @List.length_map.{0,0} (aI z6 (aI i6 (aI htk @denilL_str)))
 iterate 2 refine SF ?_
 refine HS fun K' hK' => T6 ?_
 refine C1 (bK4 (l.drop 6) (by rw [List.length_drop]; omega)) ?_
 rintro u rfl
 refine AX (hK' _ _ ?_)
 iterate 2 refine SF ?_
 refine T2 (hK _ _ _ ?_)
 clear hK K
 refine aB fun K hK => DW [(0, [], []), (1, [], []), (2, [], []), (3, [], []), (4, [], []), (5, [], []), (6, [], []), (7, [], []), (8, [], [0]), (9, [], []), (10, [], []), (11, [], []), (12, [], [])] [0, 0, 2, 6, 14, 30, 0, 64, 254, 511, 1023, 2047, 4095] ?_
 have F := aI @List.length_map.{0,0} @List.length_append.{0}
 iterate 13 refine WF ?_
 refine T2 (hK _ _ _ ?_)
 clear hK K
 cases h1 : bL (wd l 1)
 ·
  refine aB fun K hK => Rg ?_
  have F := aI @Option.isSome_none.{0} (aI @Option.isSome_some.{0} (aI @Option.getD_none.{0} @Option.getD_some.{0}))
  iterate 11 refine SF ?_
  refine T2 (hK _ _ _ ?_)
  clear hK K
  refine aD (RT Tryz.results63 ?_)
  have hn : mF l x = none := by unfold mF; rw [if_neg h6, h1]
  exact cZ (y := { x with k := x.k ++ [⟨⟨(bL (wd l 1)).getD 0, (eK (wd l 2)).getD zh⟩, wd l 3, l.drop 6, (bL (wd l 4)).getD 0, (bL (wd l 5)).getD 0⟩] }) (by rw [hn]; rfl) ⟨by simp [upd_at, fob_at, h1], by simp [upd_at, fob_at, h1], by simp [upd_at, fob_at, Ky.cv, Pk.cv, h1], by simp [upd_at, fob_at, h1]⟩ (by rw [hn]; intro z hz; cases hz)
 cases h2 : eK (wd l 2)
 ·
  refine aB fun K hK => Rg ?_
  have F := aI @Option.isSome_none.{0} (aI @Option.isSome_some.{0} (aI @Option.getD_none.{0} @Option.getD_some.{0}))
  iterate 11 refine SF ?_
  refine T2 (hK _ _ _ ?_)
  clear hK K
  refine aD (RT Tryz.results63 ?_)
  have hn : mF l x = none := by unfold mF; rw [if_neg h6, h1, h2]
  exact cZ (y := { x with k := x.k ++ [⟨⟨(bL (wd l 1)).getD 0, (eK (wd l 2)).getD zh⟩, wd l 3, l.drop 6, (bL (wd l 4)).getD 0, (bL (wd l 5)).getD 0⟩] }) (by rw [hn]; rfl) ⟨by simp [upd_at, fob_at, h1, h2], by simp [upd_at, fob_at, h1, h2], by simp [upd_at, fob_at, Ky.cv, Pk.cv, h1, h2], by simp [upd_at, fob_at, h1, h2]⟩ (by rw [hn]; intro z hz; cases hz)
 cases h4 : bL (wd l 4)
 ·
  refine aB fun K hK => Rg ?_
  have F := aI @Option.isSome_none.{0} (aI @Option.isSome_some.{0} (aI @Option.getD_none.{0} @Option.getD_some.{0}))
  iterate 11 refine SF ?_
  refine T2 (hK _ _ _ ?_)
  clear hK K
  refine aD (RT Tryz.results63 ?_)
  have hn : mF l x = none := by unfold mF; rw [if_neg h6, h1, h2, h4]
  exact cZ (y := { x with k := x.k ++ [⟨⟨(bL (wd l 1)).getD 0, (eK (wd l 2)).getD zh⟩, wd l 3, l.drop 6, (bL (wd l 4)).getD 0, (bL (wd l 5)).getD 0⟩] }) (by rw [hn]; rfl) ⟨by simp [upd_at, fob_at, h1, h2, h4], by simp [upd_at, fob_at, h1, h2, h4], by simp [upd_at, fob_at, Ky.cv, Pk.cv, h1, h2, h4], by simp [upd_at, fob_at, h1, h2, h4]⟩ (by rw [hn]; intro z hz; cases hz)
 refine aB fun K hK => Rg ?_
 have F := aI @Option.isSome_none.{0} (aI @Option.isSome_some.{0} (aI @Option.getD_none.{0} @Option.getD_some.{0}))
 iterate 11 refine SF ?_
 refine T2 (hK _ _ _ ?_)
 clear hK K
 refine aD (RT Tryz.results63 ?_)
 rename_i n1 r1 n4
 have hn : mF l x = (bL (wd l 5)).map fun n => { x with k := x.k ++ [⟨⟨n1, r1⟩, wd l 3, l.drop 6, n4, n⟩] } := by unfold mF; rw [if_neg h6, h1, h2, h4]; cases bL (wd l 5) <;> rfl
 exact cZ (y := { x with k := x.k ++ [⟨⟨(bL (wd l 1)).getD 0, (eK (wd l 2)).getD zh⟩, wd l 3, l.drop 6, (bL (wd l 4)).getD 0, (bL (wd l 5)).getD 0⟩] }) (by rw [hn, Option.isSome_map]) ⟨by simp [upd_at, fob_at, h1, h2, h4], by simp [upd_at, fob_at, h1, h2, h4], by simp [upd_at, fob_at, Ky.cv, Pk.cv, h1, h2, h4], by simp [upd_at, fob_at, h1, h2, h4]⟩ (by rw [hn]; intro z hz; cases h5 : bL (wd l 5) with | none => rw [h5] at hz; cases hz | some n => rw [h5] at hz; cases hz; rw [h1, h2, h4]; rfl)

end Go.Proofs.YtenbfeemmpjdhaaGreatDoor

namespace Go.Pl
open Go Go.Hl

def mI : aK := [114, 111, 111, 116]
def dO (j : Nat) : aK := ([[113, 117, 111, 116, 97], [107, 101, 121], [114, 101, 118, 111, 107, 101, 100]] : List aK).getD j []
def jB (j : Nat) (l : List aK) (x : Rt) : Option Rt := if j = 0 then fX l x else if j = 1 then mF l x else mG l x
def qM (j : Nat) : List (List aK) → Rt → Option (List (List aK) × Rt)
 | [], x => some ([], x)
 | l :: ls, x => if wd l 0 = dO j then match jB j l x with | some y => qM j ls y | none => none else some (l :: ls, x)
def runA : Nat → Nat → List (List aK) → Rt → Option (List (List aK) × Rt)
 | 0, _, ls, x => some (ls, x)
 | n + 1, j, ls, x => match qM j ls x with | some (ls', y) => runA n (j + 1) ls' y | none => none
def rt0 : Rt := ⟨0, 0, [], [], []⟩
def eB (lines : List (List aK)) : Option Rt := match lines with
 | [] => none
 | l0 :: ls => if wd l0 0 = mI then match iD l0 rt0 with
   | some x => match runA 3 0 ls x with | some ([], y) => some y | _ => none
   | none => none
  else none

section
variable {l0 : List aK} {ls : List (List aK)} {x : Rt}
theorem vG (h : wd l0 0 ≠ mI) : eB (l0 :: ls) = none := by unfold eB; simp only; rw [if_neg h]
theorem qN (h : wd l0 0 = mI) (hn : iD l0 rt0 = none) : eB (l0 :: ls) = none := by unfold eB; simp only; rw [if_pos h, hn]
theorem gQ (h : wd l0 0 = mI) (hx : iD l0 rt0 = some x) (hr : runA 3 0 ls x = none) : eB (l0 :: ls) = none := by unfold eB; simp only; rw [if_pos h, hx]; simp only; rw [hr]
theorem vH {l : List aK} {ls' : List (List aK)} {y : Rt} (h : wd l0 0 = mI) (hx : iD l0 rt0 = some x) (hr : runA 3 0 ls x = some (l :: ls', y)) : eB (l0 :: ls) = none := by unfold eB; simp only; rw [if_pos h, hx]; simp only; rw [hr]
theorem vI {y : Rt} (h : wd l0 0 = mI) (hx : iD l0 rt0 = some x) (hr : runA 3 0 ls x = some ([], y)) : eB (l0 :: ls) = some y := by unfold eB; simp only; rw [if_pos h, hx]; simp only; rw [hr]
end
theorem aI8 {j : Nat} {l : List aK} {ls : List (List aK)} {x y : Rt} (h : wd l 0 = dO j) (hy : jB j l x = some y) : qM j (l :: ls) x = qM j ls y := by
 rw [qM, if_pos h, hy]
theorem yE {j : Nat} {l : List aK} {ls : List (List aK)} {x : Rt} (h : wd l 0 = dO j) (hy : jB j l x = none) : qM j (l :: ls) x = none := by
 rw [qM, if_pos h, hy]
theorem yF {j : Nat} {l : List aK} {ls : List (List aK)} {x : Rt} (h : wd l 0 ≠ dO j) : qM j (l :: ls) x = some (l :: ls, x) := by
 rw [qM, if_neg h]
theorem bK6 {n j : Nat} {l : List aK} {ls : List (List aK)} {x y : Rt} (h : wd l 0 = dO j) (hy : jB j l x = some y) : runA (n + 1) j (l :: ls) x = runA (n + 1) j ls y := by
 simp only [runA, aI8 h hy]
theorem bA6 {n j : Nat} {l : List aK} {ls : List (List aK)} {x : Rt} (h : wd l 0 = dO j) (hy : jB j l x = none) : runA (n + 1) j (l :: ls) x = none := by
 simp only [runA, yE h hy]
theorem bA7 {n j : Nat} {l : List aK} {ls : List (List aK)} {x : Rt} (h : wd l 0 ≠ dO j) : runA (n + 1) j (l :: ls) x = runA n (j + 1) (l :: ls) x := by
 simp only [runA, yF h]
theorem bK7 {n j : Nat} {x : Rt} : runA (n + 1) j [] x = runA n (j + 1) [] x := by
 simp only [runA, qM]

def wOk (l : List aK) : Prop := l ≠ [] ∧ l.length ≤ 120 ∧ ∀ w ∈ l, w.length ≤ 32768
theorem wOk.wd {l : List aK} (h : wOk l) (i : Nat) : (wd l i).length ≤ 32768 := by
 unfold Pl.wd
 rw [List.getD_eq_getElem?_getD]
 rcases Nat.lt_or_ge i l.length with h' | h'
 ·
  rw [List.getElem?_eq_getElem h']; exact h.2.2 _ (List.getElem_mem h')
 ·
  rw [List.getElem?_eq_none h']; simp
def rRead (m : Nat) (x : Rt) : Prop := x.q.length + x.k.length + x.x.length ≤ m ∧ (∀ q ∈ x.q, q.r.length ≤ 32768) ∧ ∀ k ∈ x.k, k.o.length ≤ 32768 ∧ k.rs.length ≤ 120 ∧ ∀ w ∈ k.rs, w.length ≤ 32768
theorem aP4 {v e : Int} : rRead 0 ⟨v, e, [], [], []⟩ := ⟨by simp, by simp, by simp⟩
theorem qO {l : List aK} {x y : Rt} {m : Nat} (h : iD l x = some y) (hx : rRead m x) : rRead m y := by
 unfold iD at h
 split at h
 ·
  split at h
  ·
   cases h; exact hx
  ·
   cases h
 ·
  cases h
theorem yG {j : Nat} {l : List aK} {x y : Rt} {m : Nat} (hl : wOk l) (h : jB j l x = some y) (hx : rRead m x) : rRead (m + 1) y := by
 obtain ⟨h1, h2, h3⟩ := hx
 unfold jB at h
 split at h
 ·
  unfold fX at h
  split at h
  ·
   split at h
   ·
    cases h
    refine ⟨by simp only [List.length_append, List.length_singleton]; omega, fun q hq => ?_, h3⟩
    rcases List.mem_append.1 hq with hq | hq
    ·
     exact h2 q hq
    ·
     simp only [List.mem_singleton] at hq; subst hq; exact hl.wd 1
   ·
    cases h
  ·
   cases h
 ·
  split at h
  ·
   unfold mF at h
   split at h
   ·
    cases h
   ·
    split at h
    ·
     cases h
     refine ⟨by simp only [List.length_append, List.length_singleton]; omega, h2, fun k hk => ?_⟩
     rcases List.mem_append.1 hk with hk | hk
     ·
      exact h3 k hk
     ·
      simp only [List.mem_singleton] at hk; subst hk
      exact ⟨hl.wd 3, by show (l.drop 6).length ≤ 120; rw [List.length_drop]; have := hl.2.1; omega, fun w hw => hl.2.2 w (List.mem_of_mem_drop hw)⟩
    ·
     cases h
  ·
   unfold mG at h
   split at h
   ·
    split at h
    ·
     cases h
     exact ⟨by simp only [List.length_append, List.length_singleton]; omega, h2, h3⟩
    ·
     cases h
   ·
    cases h
theorem rRead.sz {m : Nat} {x : Rt} (h : rRead m x) (hm : m ≤ 100000) : rSz x := by
 obtain ⟨h1, h2, h3⟩ := h
 refine ⟨⟨by omega, fun q hq => by have := h2 q hq; omega⟩, ⟨by omega, fun k hk => ?_⟩, by omega⟩
 obtain ⟨k1, k2, k3⟩ := h3 k hk
 exact ⟨by omega, by omega, fun w hw => by have := k3 w hw; omega⟩
def RtSt (ls0 : List (List aK)) (x0 : Rt) (j : Nat) (rest : List (List aK)) (x : Rt) : Prop :=
 j ≤ 3 ∧ runA 3 0 ls0 x0 = runA (3 - j) j rest x ∧ (∀ l ∈ rest, wOk l) ∧ rest.length ≤ ls0.length ∧ rRead (ls0.length - rest.length) x
section
variable {ls0 rest : List (List aK)} {x0 x : Rt} {j : Nat} {l : List aK}
theorem RtSt.init (h : ∀ l ∈ ls0, wOk l) (hx : rRead 0 x0) : RtSt ls0 x0 0 ls0 x0 := ⟨by omega, rfl, h, Nat.le_refl _, by rw [Nat.sub_self]; exact hx⟩
theorem RtSt.hit {y : Rt} (h : RtSt ls0 x0 j (l :: rest) x) (hj : j < 3) (hw : wd l 0 = dO j) (hy : jB j l x = some y) : RtSt ls0 x0 j rest y := by
 obtain ⟨h1, h2, h3, h4, h5⟩ := h
 obtain ⟨n, hn⟩ : ∃ n, 3 - j = n + 1 := ⟨2 - j, by omega⟩
 simp only [List.length_cons] at h4 h5
 refine ⟨h1, by rw [h2, hn, bK6 hw hy], fun l hl => h3 l (List.mem_cons_of_mem _ hl), by omega, ?_⟩
 have := yG (h3 l List.mem_cons_self) hy h5
 have e : ls0.length - (rest.length + 1) + 1 = ls0.length - rest.length := by omega
 rwa [e] at this
theorem RtSt.fail (h : RtSt ls0 x0 j (l :: rest) x) (hj : j < 3) (hw : wd l 0 = dO j) (hy : jB j l x = none) : runA 3 0 ls0 x0 = none := by
 obtain ⟨n, hn⟩ : ∃ n, 3 - j = n + 1 := ⟨2 - j, by omega⟩
 rw [h.2.1, hn, bA6 hw hy]
theorem RtSt.next (h : RtSt ls0 x0 j rest x) (hj : j < 3) (hw : ∀ l ls, rest = l :: ls → wd l 0 ≠ dO j) : RtSt ls0 x0 (j + 1) rest x := by
 obtain ⟨h1, h2, h3, h4, h5⟩ := h
 obtain ⟨n, hn⟩ : ∃ n, 3 - j = n + 1 := ⟨2 - j, by omega⟩
 have hn2 : 3 - (j + 1) = n := by omega
 refine ⟨by omega, ?_, h3, h4, h5⟩
 rw [h2, hn, hn2]
 cases rest with
 | nil => exact bK7
 | cons l ls => exact bA7 (hw l ls rfl)
theorem RtSt.fin (h : RtSt ls0 x0 3 rest x) : runA 3 0 ls0 x0 = some (rest, x) := by rw [h.2.1]; rfl
end
def cK (b : aK) : Int := if eC b ≠ 0 then eC b else match eB (iJ b) with | none => 2 | some x => if bJ x then 0 else 1
def bX (b : aK) : Rt := if cK b = 0 then (eB (iJ b)).getD rt0 else rt0
theorem zX {b : aK} : ∀ l ∈ iJ b, wOk l := by
 intro l hl
 unfold iJ at hl
 split at hl
 ·
  cases hv : fW b with
  | none => rw [hv] at hl; simp at hl
  | some ls =>
   rw [hv] at hl
   simp only [Option.getD_some] at hl
   unfold fW at hv
   split at hv
   ·
    cases hv; simp at hl
   ·
    split at hv
    ·
     have key : ∀ {rs : List aK} {ls : List (List aK)}, rs.mapM unR = some ls → ∀ l ∈ ls, okL l = true := by
      intro rs
      induction rs with
      | nil => intro ls h l hl; simp only [List.mapM_nil] at h; cases h; simp at hl
      | cons r rs ih =>
       intro ls h l hl
       rw [List.mapM_cons] at h
       cases hr : unR r with
       | none => rw [hr] at h; cases h
       | some a =>
        rw [hr] at h
        cases hm : rs.mapM unR with
        | none => rw [hm] at h; cases h
        | some m =>
         rw [hm] at h
         cases h
         rcases List.mem_cons.1 hl with rfl | hl
         ·
          unfold unR at hr
          split at hr
          ·
           split at hr
           ·
            rename_i hk; cases hr; exact hk
           ·
            cases hr
          ·
           cases hr
         ·
          exact ih hm l hl
     exact (rZ l).1 (key hv l hl)
    ·
     cases hv
 ·
  simp at hl
theorem vJ {b : aK} : (iJ b).length ≤ 1000 := by
 unfold iJ
 split
 ·
  rename_i h
  unfold eC at h
  split at h
  ·
   cases h
  ·
   cases hv : fW b with
   | none => simp
   | some ls =>
    rw [hv] at h
    simp only at h
    split at h
    ·
     cases h
    ·
     simp only [Option.getD_some]; omega
 ·
  simp
theorem aP5 {lines : List (List aK)} {y : Rt} (hl : ∀ l ∈ lines, wOk l) (h : eB lines = some y) : rRead lines.length y := by
 have keyS : ∀ {j : Nat} {ls : List (List aK)} {x : Rt} {ls' : List (List aK)} {y : Rt} {m : Nat}, (∀ l ∈ ls, wOk l) → rRead m x → qM j ls x = some (ls', y) → (∀ l ∈ ls', wOk l) ∧ ls'.length ≤ ls.length ∧ rRead (m + (ls.length - ls'.length)) y := by
  intro j ls
  induction ls with
  | nil => intro x ls' y m _ hx h; simp only [qM, Option.some.injEq, Prod.mk.injEq] at h; obtain ⟨rfl, rfl⟩ := h; exact ⟨by simp, by simp, by simpa using hx⟩
  | cons l ls ih =>
   intro x ls' y m hl hx h
   by_cases hw : wd l 0 = dO j
   ·
    cases hf : jB j l x with
    | none => rw [yE hw hf] at h; cases h
    | some z =>
     rw [aI8 hw hf] at h
     obtain ⟨h1, h2, h3⟩ := ih (fun l h => hl l (List.mem_cons_of_mem _ h)) (yG (hl l List.mem_cons_self) hf hx) h
     refine ⟨h1, by simp only [List.length_cons]; omega, ?_⟩
     have e : m + 1 + (ls.length - ls'.length) = m + ((l :: ls).length - ls'.length) := by simp only [List.length_cons]; omega
     rwa [e] at h3
   ·
    rw [yF hw] at h
    simp only [Option.some.injEq, Prod.mk.injEq] at h
    obtain ⟨rfl, rfl⟩ := h
    exact ⟨hl, Nat.le_refl _, by rw [Nat.sub_self]; exact hx⟩
 have keyA : ∀ {n j : Nat} {ls : List (List aK)} {x : Rt} {ls' : List (List aK)} {y : Rt} {m : Nat}, (∀ l ∈ ls, wOk l) → rRead m x → runA n j ls x = some (ls', y) → ls'.length ≤ ls.length ∧ rRead (m + (ls.length - ls'.length)) y := by
  intro n
  induction n with
  | zero => intro j ls x ls' y m _ hx h; simp only [runA, Option.some.injEq, Prod.mk.injEq] at h; obtain ⟨rfl, rfl⟩ := h; exact ⟨Nat.le_refl _, by rw [Nat.sub_self]; exact hx⟩
  | succ n ih =>
   intro j ls x ls' y m hl hx h
   simp only [runA] at h
   cases hs : qM j ls x with
   | none => rw [hs] at h; cases h
   | some p =>
    obtain ⟨ls1, z⟩ := p
    rw [hs] at h
    obtain ⟨h1, h2, h3⟩ := keyS hl hx hs
    obtain ⟨h4, h5⟩ := ih h1 h3 h
    refine ⟨by omega, ?_⟩
    have e : m + (ls.length - ls1.length) + (ls1.length - ls'.length) = m + (ls.length - ls'.length) := by omega
    rwa [e] at h5
 unfold eB at h
 cases lines with
 | nil => cases h
 | cons l0 ls =>
  simp only at h
  split at h
  ·
   cases hh : iD l0 rt0 with
   | none => rw [hh] at h; cases h
   | some x =>
    rw [hh] at h
    simp only at h
    split at h
    ·
     rename_i y' hy
     cases h
     have h1 := keyA (m := 0) (fun l h => hl l (List.mem_cons_of_mem _ h)) (qO hh aP4) hy
     obtain ⟨h2, h3, h4⟩ := h1.2
     exact ⟨by simp only [List.length_cons, List.length_nil] at h2 ⊢; omega, h3, h4⟩
    ·
     cases h
  ·
   cases h
end Go.Pl

namespace Go.Proofs.YtenbfeemmpjdhaaGreatDoor
open Go Go.Hl Go.Pl
set_option maxRecDepth 10000
set_option maxHeartbeats 4000000

theorem yH {l : List (List aK)} : (∀ a ∈ l.map lsC, a.cells = 1) ↔ True := iff_true_intro fun v h => by obtain ⟨d, _, rfl⟩ := List.mem_map.1 h; rfl
theorem fY (v : CV) (l : List CV) : nth (v :: l) 0 = v := rfl
def secC : List CV := [.agg [.str (dO 0), .fn 62], .agg [.str (dO 1), .fn 63], .agg [.str (dO 2), .fn 64]]
theorem bS8 {j : Nat} (h : j < 3) : nth secC j = .agg [.str (dO j), .fn (62 + j)] := by
 match j, h with
 | 0, _ => rfl
 | 1, _ => rfl
 | 2, _ => rfl
theorem bS9 (j : Nat) (hj : j < 3) (l : List aK) (x : Rt) (hl : l.length < 2 ^ 40) (hw : ∀ w ∈ l, w.length < 2 ^ 40) (hx : x.q.length + x.k.length + x.x.length < 2 ^ 40) : yC Tryz.prog (62 + j) 104 64 70 51 l x (jB j l x) := by
 match j, hj with
 | 0, _ => exact bA5 l x hl (by omega)
 | 1, _ => exact bS7 l x hl hw (by omega)
 | 2, _ => exact bS6 l x hl hw (by omega)

theorem bT0 (b : aK) (hl : b.length < 2 ^ 40) : cT Tryz.prog 20 [.slc (b.map u8)] (fun u v => u = (bX b).cv ∧ v = .int .i64 (cK b)) := by
 refine FW Tryz.func20 ?_
 refine R0 ?_
 refine aB fun K hK => Rg ?_
 have F := @denilL_u8
 refine SF ?_
 refine HS fun K' hK' => T6 ?_
 refine D1 (bY8 b hl) ?_
 rintro u v ⟨rfl, rfl⟩
 refine AX (hK' _ _ ?_)
 iterate 5 refine SF ?_
 refine T2 (hK _ _ _ ?_)
 clear hK K
 refine aB fun K hK => ?_
 refine R0 ?_
 refine aJ (b := eC b != 0) rfl (fun hb => ?_) (fun hb => ?_)
 ·
  refine aB fun K hK => Rg ?_
  iterate 4 refine S0 ?_
  refine T2 (hK _ _ _ ?_)
  clear hK K
  refine aD (RT Tryz.results20 ?_)
  have hE : cK b = eC b := by unfold cK; rw [if_pos (by simpa using hb)]
  have hO : bX b = rt0 := by unfold bX; rw [if_neg (by rw [hE]; simpa using hb)]
  exact aL [] rt0.cv (.int .i64 (eC b)) rfl ⟨by rw [hO], by rw [hE]⟩
 have hd0 : eC b = 0 := by simpa using hb
 clear hb
 obtain ⟨lines, hlines⟩ : ∃ lines, lines = iJ b := ⟨_, rfl⟩
 have hok := zX (b := b)
 have hlen := vJ (b := b)
 have hEn : eB lines = none → cK b = 2 := fun h => by unfold cK; rw [if_neg (by rw [hd0]; simp), ← hlines, h]
 have hOn : cK b ≠ 0 → bX b = rt0 := fun h => by unfold bX; rw [if_neg h]
 have hEs : ∀ x, eB lines = some x → cK b = if bJ x then 0 else 1 := fun x h => by unfold cK; rw [if_neg (by rw [hd0]; simp), ← hlines, h]
 have hOs : ∀ x, eB lines = some x → cK b = 0 → bX b = x := fun x h h0 => by unfold bX; rw [if_pos h0, ← hlines, h]; rfl
 rw [← hlines] at hok hlen ⊢
 clear hlines hd0
 refine aG ?_
 refine T0 (hK _ _ _ ?_)
 clear hK K
 refine aB fun K hK => ?_
 cases lines
 ·
  refine aB fun K hK => Rg ?_
  iterate 11 refine S0 ?_
  refine T2 (hK _ _ _ ?_)
  clear hK K
  refine CT rfl ?_
  refine R0 ?_
  refine aD (RT Tryz.results20 ?_)
  have hE := hEn rfl
  exact aL [] rt0.cv (.int .i64 2) rfl ⟨by rw [hOn (by rw [hE]; decide)], by rw [hE]⟩
 rename_i l0 ls
 have hw0 := hok l0 List.mem_cons_self
 have hl00 : 0 < l0.length := List.length_pos_iff.2 hw0.1
 have hz0 : (((ls.length + 1 : Nat) : Int) == 0) = false := by rw [beq_eq_false_iff_ne]; omega
 refine aB fun K hK => Rg ?_
 have F := aI @List.map_cons.{0,0} (aI hz0 (aI @fY (aI @lsC.eq_1 (aI (bP hl00) (aI @List.length_map.{0,0} @cO)))))
 iterate 11 refine SF ?_
 refine T2 (hK _ _ _ ?_)
 clear hK K
 refine aJ (b := wd l0 0 != mI) rfl (fun hb => ?_) (fun hb => ?_)
 ·
  refine R0 ?_
  refine aD (RT Tryz.results20 ?_)
  have hE := hEn (vG (by simpa using hb))
  exact aL [] rt0.cv (.int .i64 2) rfl ⟨by rw [hOn (by rw [hE]; decide)], by rw [hE]⟩
 refine aG ?_
 refine T0 (hK _ _ _ ?_)
 clear hK K
 have hroot : wd l0 0 = mI := by simpa using hb
 clear hb
 refine R0 ?_
 refine aB fun K hK => ?_
 refine bR0 88 rfl ?_
 refine gJ 88 2 64 2 rfl rfl rfl rfl ?_
 refine gJ 88 3 70 21 rfl rfl rfl rfl ?_
 refine gJ 88 4 51 33 rfl rfl rfl rfl ?_
 refine aB fun K hK => Rg ?_
 have F := aI @List.map_cons.{0,0} (aI @fY (aI @lsC.eq_1 (aI @List.length_map.{0,0} @cO)))
 iterate 3 refine SF ?_
 refine HS fun K' hK' => T6 ?_
 refine yD 88 92 93 94 (bS5 l0 rt0 (by have := hw0.2.1; omega)) ⟨rfl, rfl, rfl, rfl⟩ (by decide) (by simp) ⟨rfl, rfl, rfl, rfl⟩ ?_
 intro y hy
 unfold bK5
 refine AX (hK' _ _ ?_)
 refine SF ?_
 refine T2 (hK _ _ _ ?_)
 clear hK K
 refine aJ (b := !(iD l0 rt0).isSome) rfl (fun hb => ?_) (fun hb => ?_)
 ·
  refine R0 ?_
  refine aD (RT Tryz.results20 ?_)
  have hE := hEn (qN hroot (by simpa using hb))
  exact aL [] rt0.cv (.int .i64 2) rfl ⟨by rw [hOn (by rw [hE]; decide)], by rw [hE]⟩
 refine aG ?_
 refine T0 (hK _ _ _ ?_)
 clear hK K
 obtain ⟨x1, hx1⟩ := Option.isSome_iff_exists.1 (show (iD l0 rt0).isSome = true by simpa using hb)
 clear hb
 have := hy x1 hx1
 subst this
 have hrd1 := qO hx1 aP4
 have hz1 : (1 : Int) ≤ ((ls.length + 1 : Nat) : Int) := by omega
 have htk0 : List.take ls.length (ls.map lsC) = ls.map lsC := List.take_of_length_le (by simp)
 refine R0 ?_ (e := fun _ h_ => by simp only [↓sP, sA, tyS, simprocAttr, List.map_cons, List.length_cons, List.length_map, List.drop_succ_cons, List.drop_zero, Nat.add_sub_cancel, htk0, cO, yH, hz1, Int.le_refl, CV.cells]; exact AX h_)
 refine aB fun K hK => ?_
 refine aB fun K hK => eW (by kernel_rfl) ?_
 simp only [sR, simprocAttr]
 iterate 3 refine SG0 ?_
 refine fD (g := none) 139 rfl rfl fun K' hK' => ?_
 simp only [iN, lG, sH, ↓sP, sA, tyS, simprocAttr]
 repeat refine AI ?_
 refine dX (by first | rfl | simp) ?_
 try simp only [sH, ↓sP, sA, tyS, simprocAttr]
 refine AX (hK' _ _ ?_)
 iterate 2 refine SG0 ?_
 refine T2 (hK _ _ _ ?_)
 clear hK K
 refine aH ?_
 refine bT [] ?_
 refine aS (α := {z : Nat × List (List aK) × Rt // RtSt ls y z.1 z.2.1 z.2.2}) (fun z => (fin [(2, .ptr 0 0), (4, .c (.slc (z.1.2.1.map lsC))), (6, .ptr 88 0), (41, .c (.slc secC)), (42, .c (.int .i64 3)), (43, .c (.int .i64 z.1.1))], fob [(0, .box 26 (.c rt0.cv)), (88, .box 104 (.agg [.c (.int .i64 z.1.2.2.v), .c (.int .i64 z.1.2.2.e), .own 92 z.1.2.2.q.length, .own 93 z.1.2.2.k.length, .own 94 z.1.2.2.x.length])), (92, .row 64 2 (z.1.2.2.q.map Qt.cv)), (93, .row 70 21 (z.1.2.2.k.map Ky.cv)), (94, .row 51 33 (z.1.2.2.x.map Rv.cv))])) 300 (fun z => 3 - z.1.1) ⟨(0, ls, y), RtSt.init (fun l h => hok l (List.mem_cons_of_mem _ h)) hrd1⟩ (aP (by omega) (by simp [aX, cB, fin_at, finA_at, upd_at, fob_at, HV.close, HV.closeL, CV.denil, CV.denilL, eZ, nC, secC, dO, HV.men, HV.menL, HV.norm, HV.toC, HV.toCL]) (by simp [bB, cC, fob_at, upd_at, none0_at, bU, rt0, Rt.cv, HO.close, HV.close, HV.closeL, CV.denil, CV.denilL, HO.men, HV.men, HV.menL, HV.norm, HV.toC, HV.toCL])) ?_
 rintro ⟨⟨j, rest, x⟩, hst⟩
 simp only at hst
 refine R0 ?_
 refine aB fun K hK => ?_
 refine aJ (b := decide ((j : Int) < 3)) rfl (fun hb => ?_) (fun hb => ?_)
 ·
  have hj : j < 3 := by simp at hb; omega
  clear hb
  have hsec := bS8 hj
  have hsl : secC.length = 3 := rfl
  refine aG ?_
  refine T0 (hK _ _ _ ?_)
  clear hK K
  refine aB fun K hK => ?_
  refine aH ?_
  refine aB fun K hK => Rg ?_
  have F := aI hsl (aI hsec @Int.natCast_nonneg)
  iterate 4 refine SF ?_
  refine T2 (hK _ _ _ ?_)
  clear hK K
  refine aH ?_
  refine aS (α := {z : List (List aK) × Rt // RtSt ls y j z.1 z.2}) (fun z => (fin [(2, .ptr 0 0), (4, .c (.slc (z.1.1.map lsC))), (6, .ptr 88 0), (8, .ptr 312 0), (41, .c (.slc secC)), (42, .c (.int .i64 3)), (43, .c (.int .i64 j))], fob [(0, .box 26 (.c rt0.cv)), (88, .box 104 (.agg [.c (.int .i64 z.1.2.v), .c (.int .i64 z.1.2.e), .own 92 z.1.2.q.length, .own 93 z.1.2.k.length, .own 94 z.1.2.x.length])), (92, .row 64 2 (z.1.2.q.map Qt.cv)), (93, .row 70 21 (z.1.2.k.map Ky.cv)), (94, .row 51 33 (z.1.2.x.map Rv.cv)), (312, .box 109 (.c (.agg [.str (dO j), .fn (62 + j)])))])) 400 (fun z => z.1.1.length) ⟨(rest, x), hst⟩ (fF) ?_
  rintro ⟨⟨rest, x⟩, hst⟩
  simp only at hst
  have hrl := hst.2.2.2.1
  have hrd := hst.2.2.2.2.1
  refine aB fun K hK => ?_
  by_cases hre : rest = []
  ·
   subst hre
   refine aB fun K hK => QR ?_
   iterate 13 refine S0 ?_
   refine T2 (hK _ _ _ ?_)
   clear hK K
   refine CF rfl ?_
   refine aR (T3 ?_)
   clear hK K
   refine AX (hK _ _ _ ?_)
   clear hK K
   refine aM (by kernel_rfl) ?_
   refine TQ (bK j) ?_
   exact ⟨⟨(j + 1, [], x), hst.next hj (fun l ls h => by cases h)⟩, fF, (by show 3 - (j + 1) < 3 - j; omega)⟩
  obtain ⟨l, rest', rfl⟩ := List.exists_cons_of_ne_nil hre
  clear hre
  have hwl := hst.2.2.1 l List.mem_cons_self
  have hl0' : 0 < l.length := List.length_pos_iff.2 hwl.1
  have hzb : decide ((0 : Int) < ((rest'.length + 1 : Nat) : Int)) = true := decide_eq_true (by omega)
  have hzc : (1 : Int) ≤ ((rest'.length + 1 : Nat) : Int) := by omega
  have htk1 : List.take rest'.length (rest'.map lsC) = rest'.map lsC := List.take_of_length_le (by simp)
  refine aB fun K hK => QR ?_
  iterate 13 refine S0 ?_ (e := fun _ h_ => by simp only [sH, ↓sP, sA, tyS, simprocAttr, List.map_cons, List.length_cons, List.length_map, hzb, fY, lsC, bP hl0', cO, CV.cells]; exact AX h_)
  refine T2 (hK _ _ _ ?_)
  clear hK K
  refine aJ (b := wd l 0 == dO j) rfl (fun hb => ?_) (fun hb => ?_)
  ·
   have hws : wd l 0 = dO j := by simpa using hb
   clear hb
   refine aG ?_
   refine T0 (hK _ _ _ ?_)
   clear hK K
   refine aH ?_
   refine aB fun K hK => ?_
   refine aB fun K hK => DW [(0, [], []), (1, [], []), (2, [], []), (3, [], []), (4, [], []), (5, [], []), (6, [], [])] [0, 1, 0, 4, 12, 31, 63] ?_
   iterate 5 refine W0 ?_ (e := fun _ h_ => by simp only [sH, ↓sP, sA, tyS, simprocAttr, List.map_cons, List.length_cons, List.length_map, fY, lsC, cO, CV.cells]; exact AX h_)
   refine aN (g := none) rfl rfl fun K' hK' => ?_
   simp only [sH, ↓sP, sA, tyS, simprocAttr, List.map_cons, List.length_cons, List.length_map, fY, lsC, cO, CV.cells]
   refine yD 88 92 93 94 (bS9 j hj l x (by have := hwl.2.1; omega) (fun w hw => by have := hwl.2.2 w hw; omega) (by simp only [List.length_cons] at *; omega)) ⟨rfl, rfl, rfl, rfl⟩ (by decide) (by simp) ⟨rfl, rfl, rfl, rfl⟩ ?_
   intro y' hy'
   unfold bK5
   refine AX (hK' _ _ ?_)
   refine W0 ?_ (e := fun _ h_ => by simp only [sH, ↓sP, sA, tyS, simprocAttr, List.map_cons, List.length_cons, List.length_map, fY, lsC, cO, CV.cells]; exact AX h_)
   refine T2 (hK _ _ _ ?_)
   clear hK K
   refine aJ (b := !(jB j l x).isSome) rfl (fun hb => ?_) (fun hb => ?_)
   ·
    refine R0 ?_
    refine aD (RT Tryz.results20 ?_)
    have hE := hEn (gQ hroot hx1 (hst.fail hj hws (by simpa using hb)))
    exact aL [] rt0.cv (.int .i64 2) rfl ⟨by rw [hOn (by rw [hE]; decide)], by rw [hE]⟩
   refine aG ?_
   refine T0 (hK _ _ _ ?_)
   clear hK K
   obtain ⟨z, hz⟩ := Option.isSome_iff_exists.1 (show (jB j l x).isSome = true by simpa using hb)
   clear hb
   have := hy' z hz
   subst this
   refine aM (by kernel_rfl) ?_
   simp only [↓sP, sA, tyS, simprocAttr, List.map_cons, List.length_cons, List.length_map, List.drop_succ_cons, List.drop_zero, Nat.add_sub_cancel, htk1, cO, yH, hzc, Int.le_refl, CV.cells]
   exact ⟨⟨(rest', y'), hst.hit hj hws hz⟩, fF, Nat.lt_succ_self _⟩
  refine aR (T3 ?_)
  clear hK K
  refine AX (hK _ _ _ ?_)
  clear hK K
  refine aM (by kernel_rfl) ?_
  refine TQ (bK j) ?_
  exact ⟨⟨(j + 1, l :: rest', x), hst.next hj (fun l' ls' h => by cases h; simpa using hb)⟩, aP (by omega) (by simp [aX, fin_at, finA_at, upd_at, HV.men, HV.menL, HV.norm, HV.toC, HV.toCL, lsC]) (by simp [bB, fob_at, upd_at, none0_at, bU, HO.men, HV.men, HV.menL, HV.norm, HV.toC, HV.toCL]), (by show 3 - (j + 1) < 3 - j; omega)⟩
 refine aR (T3 ?_)
 clear hK K
 refine AX (hK _ _ _ ?_)
 clear hK K
 refine aB fun K hK => ?_
 have hj3 : j = 3 := by have := hst.1; simp at hb; omega
 subst hj3
 clear hb
 have hfin := hst.fin
 have hrd := hst.2.2.2.2
 have hrl := hst.2.2.2.1
 have F := @List.length_map.{0,0}
 refine RF ?_
 refine aJ (b := decide ((0 : Int) < rest.length)) rfl (fun hb => ?_) (fun hb => ?_)
 ·
  refine R0 ?_
  refine aD (RT Tryz.results20 ?_)
  have hE := hEn (by
   cases hr : rest with
   | nil => rw [hr] at hb; simp at hb
   | cons l ls' => rw [hr] at hfin; exact vH hroot hx1 hfin)
  exact aL [] rt0.cv (.int .i64 2) rfl ⟨by rw [hOn (by rw [hE]; decide)], by rw [hE]⟩
 refine aG ?_
 refine T0 (hK _ _ _ ?_)
 clear hK K
 refine aB fun K hK => ?_
 have hr0 : rest = [] := by simpa using hb
 subst hr0
 clear hb
 have hrs := vI hroot hx1 hfin
 have hsz := hrd.sz (by simp only [List.length_cons] at hlen; omega)
 have hEx := hEs x hrs
 have hOx := hOs x hrs
 refine bT [92, 93, 94] (bE (fr2 := fin [(2, .ptr 0 0), (6, .ptr 88 0)]) (ob2 := fob [(0, .box 26 (.c rt0.cv)), (88, .box 104 (.c x.cv))]) (nx2 := 500) (aP (by omega) (by simp [aX, cB, fin_at, finA_at, upd_at, fob_at, HV.close, HV.closeL, CV.denil, CV.denilL, eZ, nC, secC, dO, HV.men, HV.menL, HV.norm, HV.toC, HV.toCL]) (by simp [bB, cC, fob_at, upd_at, none0_at, bU, rt0, Rt.cv, HO.close, HV.close, HV.closeL, CV.denil, CV.denilL, denilL_Qt, denilL_Ky, denilL_Rv, HO.men, HV.men, HV.menL, HV.norm, HV.toC, HV.toCL])) ?_)
 refine aB fun K hK => Rg ?_
 iterate 2 refine S0 ?_
 refine HS fun K' hK' => T5 ?_
 refine C1 (mH x hsz) ?_
 rintro u rfl
 refine AX (hK' _ _ ?_)
 refine S0 ?_
 refine T2 (hK _ _ _ ?_)
 clear hK K
 refine aJ (b := !(bJ x)) rfl (fun hb => ?_) (fun hb => ?_)
 ·
  refine R0 ?_
  refine aD (RT Tryz.results20 ?_)
  have hE : cK b = 1 := by rw [hEx, if_neg (by simpa using hb)]
  exact aL [] rt0.cv (.int .i64 1) rfl ⟨by rw [hOn (by rw [hE]; decide)], by rw [hE]⟩
 refine aG ?_
 refine T0 (hK _ _ _ ?_)
 clear hK K
 refine aB fun K hK => Rg ?_
 iterate 4 refine S0 ?_
 refine T2 (hK _ _ _ ?_)
 clear hK K
 refine aD (RT Tryz.results20 ?_)
 have hE : cK b = 0 := by rw [hEx, if_pos (by simpa using hb)]
 refine aL [] x.cv (.int .i64 0) ?_ ⟨by rw [hOx hE], by rw [hE]⟩
 simp [HV.close, HV.closeL, HV.norm, HV.toC, HV.toCL, CV.denil, Rt.denil]

end Go.Proofs.YtenbfeemmpjdhaaGreatDoor

namespace Go.Pl
open Go Go.Hl

end Go.Pl

namespace Go.Pl
open Go Go.Hl

theorem aP6 {b : aK} (h : cK b = 0) : bJ (bX b) = true ∧ rSz (bX b) := by
 have hO : bX b = (eB (iJ b)).getD rt0 := by unfold bX; rw [if_pos h]
 unfold cK at h
 split at h
 ·
  rename_i h1; exact absurd h h1
 ·
  cases hv : eB (iJ b) with
  | none => rw [hv] at h; simp at h
  | some x =>
   rw [hv] at h hO
   simp only at h
   rw [hO]
   refine ⟨?_, (aP5 (fun l hl => zX l hl) hv).sz (by have := vJ (b := b); omega)⟩
   by_cases hx : bJ x = true
   ·
    exact hx
   ·
    rw [if_neg hx] at h; cases h
theorem vK (b : aK) : rSz (bX b) := by
 by_cases h : cK b = 0
 ·
  exact (aP6 h).2
 ·
  unfold bX; rw [if_neg h]; exact ⟨⟨by simp [rt0], by simp [rt0]⟩, ⟨by simp [rt0], by simp [rt0]⟩, by simp [rt0]⟩
def jS (a b : Rt) : Bool := a.x.all fun x => iT b.x x.k && decide (iH b.x x.k ≤ x.t)
theorem nD {a b : Rt} {i : Nat} (hi : i < a.x.length) (h : (!iT b.x a.x[i].k || decide (a.x[i].t < iH b.x a.x[i].k)) = true) : jS a b = false := by
 unfold jS
 rw [List.all_eq_false]
 refine ⟨a.x[i], List.getElem_mem hi, fun hc => ?_⟩
 simp only [Bool.and_eq_true, decide_eq_true_eq] at hc
 simp only [hc.1, Bool.not_true, Bool.false_or, decide_eq_true_eq] at h
 omega
theorem aI9 {a b : Rt} (h : ∀ x ∈ a.x, (!iT b.x x.k || decide (x.t < iH b.x x.k)) = false) : jS a b = true := by
 unfold jS
 rw [List.all_eq_true]
 intro x hx
 have := h x hx
 simp only [Bool.or_eq_false_iff, decide_eq_false_iff_not, Bool.not_eq_false'] at this
 simp only [this.1, Bool.true_and, decide_eq_true_eq]
 omega
def eO (r : Rt) (b : aK) (l : List Dig) (t : Int) : Int :=
 if bJ r = false then 1 else if cK b ≠ 0 then cK b else if (bX b).v ≠ IntKind.i64.wrap (r.v + 1) then 6 else if jS r (bX b) = false then 1
 else if gY r fE l t && gY (bX b) fE l t then 0 else 7
def jT (r : Rt) (b : aK) (l : List Dig) (t : Int) : Rt := if eO r b l t = 0 then bX b else rt0
theorem bA8 {l : List Rv} (h : gI l = true) {x : Rv} (hx : x ∈ l) : gB l x.k = some x.t := by
 have h1 : aK7 (l.map Rv.k) = true := by
  unfold gI at h
  simp only [Bool.and_eq_true] at h
  exact h.2.1
 have h2 : nR (l.map fun x => x.k.1) = true := by
  rw [lS, gD]
  rw [lT, gD] at h1
  exact h1
 have h3 : Asc (l.map fun x => x.k.1) := uC h2
 obtain ⟨i, hi, rfl⟩ := List.mem_iff_getElem.1 hx
 refine oT hi (by simp) fun y hy => ?_
 obtain ⟨j, hj, rfl⟩ := List.mem_take_iff_getElem.1 hy
 refine beq_eq_false_iff_ne.2 fun e => ?_
 have h4 := List.pairwise_iff_getElem.1 h3 j i (by simp; omega) (by simpa using hi) (by omega)
 simp only [List.getElem_map] at h4
 rw [e] at h4
 exact List.lt_irrefl _ h4
theorem bT1 {l : List Rv} {d : Dig} (h : iT l d = true) : ∃ x ∈ l, x.k = d ∧ x.t = iH l d := by
 unfold iT iH gB at *
 cases hf : l.find? (fun x => x.k == d) with
 | none => rw [hf] at h; simp at h
 | some x => exact ⟨x, List.mem_of_find?_eq_some hf, eq_of_beq (List.find?_some (p := fun x : Rv => x.k == d) hf), by simp⟩
def Gone (g : List Rv) (r : Rt) : Prop := ∀ x ∈ g, iT r.x x.k = true ∧ iH r.x x.k ≤ x.t ∧ 0 ≤ x.t ∧ x.t ≤ dU
theorem Gone.nil {r : Rt} : Gone [] r := fun x h => by cases h
theorem Gone.kept {g : List Rv} {a b : Rt} (h : Gone g a) (hk : jS a b = true) : Gone g b := by
 intro x hx
 obtain ⟨h1, h2, h3⟩ := h x hx
 obtain ⟨y, hy, hyk, hyt⟩ := bT1 h1
 unfold jS at hk
 have := List.all_eq_true.1 hk y hy
 simp only [Bool.and_eq_true, decide_eq_true_eq, hyk] at this
 exact ⟨this.1, by omega, h3⟩
theorem Gone.own {b : Rt} (h : bJ b = true) : Gone b.x b := by
 intro x hx
 have hr : gI b.x = true := by
  unfold bJ at h
  simp only [Bool.and_eq_true] at h
  exact h.2.2.2.2.1
 have hs := bA8 hr hx
 unfold gI at hr
 simp only [Bool.and_eq_true] at hr
 have hn := pN (List.all_eq_true.1 hr.1 x hx)
 unfold iT iH
 rw [hs]
 exact ⟨rfl, Int.le_refl _, hn⟩
theorem Gone.append {g h : List Rv} {r : Rt} (h1 : Gone g r) (h2 : Gone h r) : Gone (g ++ h) r := fun x hx => by
 rcases List.mem_append.1 hx with hx | hx
 ·
  exact h1 x hx
 ·
  exact h2 x hx
theorem Gone.not {g : List Rv} {r : Rt} (h : Gone g r) {x : Rv} (hx : x ∈ g) {n : Int} (hn : 0 ≤ n) : aS2 r x.k (x.t + n) = false := by
 obtain ⟨h1, h2, -⟩ := h x hx
 have e : decide (iH r.x x.k ≤ x.t + n) = true := decide_eq_true (by omega)
 unfold aS2
 rw [eG, h1, e]
 simp
theorem bK8 (r : Rt) : (aZ7 r).length ≤ 262144 := by
 unfold aZ7
 split
 ·
  unfold aG3
  split
  ·
   rename_i h
   unfold kW at h
   split at h
   ·
    cases h
   ·
    split at h
    ·
     rename_i l hl
     have := List.find?_some hl
     unfold okL at this
     rw [h] at this
     simp at this
    ·
     split at h
     ·
      cases h
     ·
      omega
  ·
   simp
 ·
  simp
end Go.Pl

namespace Go.Pl
open Go Go.Hl

def RSt (ls : List (List aK)) (x0 : Rt) (k j : Nat) (x : Rt) : Prop :=
 k ≤ ls.length ∧ (RtSt ls x0 j (ls.drop k) x ∨ (runA 3 0 ls x0 = none ∧ ∃ h : k < ls.length, ∃ j', j' < j ∧ j < 4 ∧ wd ls[k] 0 = dO j'))
theorem bK9 {i j : Nat} (hi : i < 3) (hj : j < 3) (h : dO i = dO j) : i = j := by
 have : ∀ i j : Fin 3, dO i.1 = dO j.1 → i = j := by decide
 exact congrArg Fin.val (this ⟨i, hi⟩ ⟨j, hj⟩ h)
section
variable {ls : List (List aK)} {x0 x y : Rt} {k j : Nat}
theorem RSt.init (h : ∀ l ∈ ls, wOk l) (hx : rRead 0 x0) : RSt ls x0 0 0 x0 := ⟨by omega, .inl (RtSt.init h hx)⟩
theorem RSt.at (h : RSt ls x0 k j x) (hj : j < 3) (hk : k < ls.length) (hw : wd ls[k] 0 = dO j) : RtSt ls x0 j (ls[k] :: ls.drop (k + 1)) x := by
 rcases h.2 with h1 | ⟨_, _, j', h2, _, h3⟩
 ·
  rwa [List.drop_eq_getElem_cons hk] at h1
 ·
  exact absurd (bK9 hj (by omega) (hw.symm.trans h3)) (by omega)
theorem RSt.hit (h : RSt ls x0 k j x) (hj : j < 3) (hk : k < ls.length) (hw : wd ls[k] 0 = dO j) (hy : jB j ls[k] x = some y) : RSt ls x0 (k + 1) j y :=
 ⟨hk, .inl ((h.at hj hk hw).hit hj hw hy)⟩
theorem RSt.fail (h : RSt ls x0 k j x) (hj : j < 3) (hk : k < ls.length) (hw : wd ls[k] 0 = dO j) (hy : jB j ls[k] x = none) : runA 3 0 ls x0 = none :=
 (h.at hj hk hw).fail hj hw hy
theorem RSt.next (h : RSt ls x0 k j x) (hj : j < 3) (hx : ∀ hk : k < ls.length, wd ls[k] 0 = dO j → jB j ls[k] x = none) : RSt ls x0 k (j + 1) x := by
 refine ⟨h.1, ?_⟩
 rcases h.2 with h1 | ⟨h1, hk, j', h2, _, h3⟩
 ·
  by_cases hk : k < ls.length
  ·
   by_cases hw : wd ls[k] 0 = dO j
   ·
    exact .inr ⟨h.fail hj hk hw (hx hk hw), hk, j, by omega, by omega, hw⟩
   ·
    refine .inl (h1.next hj fun l rest e => ?_)
    rw [List.drop_eq_getElem_cons hk] at e
    cases e; exact hw
  ·
   refine .inl (h1.next hj fun l rest e => ?_)
   rw [List.drop_eq_nil_of_le (by omega)] at e; cases e
 ·
  exact .inr ⟨h1, hk, j', by omega, by omega, h3⟩
theorem RSt.more (h : RSt ls x0 k 3 x) (hk : k < ls.length) : runA 3 0 ls x0 = none ∨ ∃ l r, runA 3 0 ls x0 = some (l :: r, x) := by
 rcases h.2 with h1 | ⟨h1, _⟩
 ·
  right
  have := h1.fin
  rw [List.drop_eq_getElem_cons hk] at this
  exact ⟨_, _, this⟩
 ·
  exact .inl h1
theorem RSt.fin (h : RSt ls x0 k 3 x) (hk : ¬ k < ls.length) : runA 3 0 ls x0 = some ([], x) ∧ rRead ls.length x := by
 rcases h.2 with h1 | ⟨_, h2, _⟩
 ·
  have := h1.fin
  have hr := h1.2.2.2.2
  rw [List.drop_eq_nil_of_le (by omega)] at this hr
  exact ⟨this, hr⟩
 ·
  exact absurd h2 hk
theorem RSt.len (h : RSt ls x0 k j x) (hj : j < 3) (hk : k < ls.length) (hw : wd ls[k] 0 = dO j) : x.q.length + x.k.length + x.x.length ≤ ls.length := by
 have := (h.at hj hk hw).2.2.2.2.1
 omega
end
theorem yI {j : Nat} (hj : j = 0 ∨ j = 2) {l : List aK} (h : l.length ≠ 3) (x : Rt) : jB j l x = none := by
 rcases hj with rfl | rfl
 ·
  show fX l x = none
  unfold fX; rw [if_neg h]
 ·
  show mG l x = none
  unfold mG; rw [if_neg h]
end Go.Pl
