/- Part of a proof: walks of functions of the program, by contracts, and the rules they use. By an AI agent. -/
import Derived.Test.YtenbfeemmpjdhaaGreatDoorPl02e
import Derived.Test.YtenbfeemmpjdhaaGreatDoorPl11v
import Derived.Test.YtenbfeemmpjdhaaGreatDoorHySb
import Derived.Test.YtenbfeemmpjdhaaGreatDoorHyTz
import Derived.Test.YtenbfeemmpjdhaaGreatDoorPl02g
import Derived.Test.YtenbfeemmpjdhaaGreatDoorHlIt
set_option linter.unusedSimpArgs false
set_option linter.unusedVariables false
set_option linter.defProp false
namespace Go.Proofs.YtenbfeemmpjdhaaGreatDoor
open Go Go.Hl Go.Pl
set_option maxRecDepth 10000
set_option maxHeartbeats 16000000

def hBs (s : aK) (i : Nat) : List UInt8 := (List.range i).map (hB s)
theorem aV8 (s : aK) (i : Nat) : (hBs s i).length = i := by simp [hBs]
theorem bM0 (s : aK) : hBs s 0 = [] := rfl
theorem bM1 (s : aK) (i : Nat) : hBs s (i + 1) = hBs s i ++ [hB s i] := by simp [hBs, List.range_succ]

theorem yU (c : UInt8) : aW Tryz.prog 132 [.int .u8 c.toNat] (fun v => v = .int .i64 (valL c : Nat)) := by
 refine FW Tryz.func132 ?_
 refine R0 ?_
 refine aB fun K hK => ?_
 refine aB fun K hK => Rg ?_
 iterate 3 refine S0 ?_
 refine aF 4 rfl (fun h1_4 => ?_) (fun h1_4 => ?_)
 ·
  have F := h1_4
  iterate 3 refine SF ?_
  refine aF 7 rfl (fun h1_7 => ?_) (fun h1_7 => ?_)
  ·
   simp only [h1_7]
   refine T2 (hK _ _ _ ?_)
   clear hK K
   refine CT rfl ?_
   have e1 : IntKind.u8.wrap ((c.toNat : Int) - 48) = ((c.toNat - 48 : Nat) : Int) := by simp at h1_4 h1_7; rw [IntWalk.u8_in _ (by omega)]; omega
   have e2 : IntKind.i64.wrap ((c.toNat - 48 : Nat) : Int) = ((c.toNat - 48 : Nat) : Int) := by have := c.toNat_lt; rw [IntWalk.i64_in _ (by omega)]
   refine aB fun K hK => Rg ?_
   have F := aI e1 (aI e2 (aI h1_4 h1_7))
   iterate 4 refine SF ?_
   refine T2 (hK _ _ _ ?_)
   clear hK K
   refine aD (RT Tryz.results132 ?_)
   refine aC [] _ rfl ?_
   simp only [decide_eq_true_eq, decide_eq_false_iff_not] at *
   refine congrArg (CV.int IntKind.i64) ?_
   unfold valL
   split <;> (try split) <;> omega
  simp only [h1_7]
  refine T2 (hK _ _ _ ?_)
  clear hK K
  refine CF rfl ?_
  refine aG ?_
  refine T0 (hK _ _ _ ?_)
  clear hK K
  refine aB fun K hK => ?_
  refine aB fun K hK => Rg ?_
  have F := aI h1_4 h1_7
  iterate 3 refine SF ?_
  refine aF 13 rfl (fun h3_13 => ?_) (fun h3_13 => ?_)
  ·
   have F := aI h1_4 (aI h1_7 h3_13)
   iterate 3 refine SF ?_
   refine aF 16 rfl (fun h3_16 => ?_) (fun h3_16 => ?_)
   ·
    simp only [h3_16]
    refine T2 (hK _ _ _ ?_)
    clear hK K
    refine CT rfl ?_
    have e1 : IntKind.u8.wrap ((c.toNat : Int) - 97) = ((c.toNat - 97 : Nat) : Int) := by simp at h3_13 h3_16; rw [IntWalk.u8_in _ (by omega)]; omega
    have e2 : IntKind.i64.wrap ((c.toNat - 97 : Nat) : Int) = ((c.toNat - 97 : Nat) : Int) := by have := c.toNat_lt; rw [IntWalk.i64_in _ (by omega)]
    have e3 : IntKind.i64.wrap (((c.toNat - 97 : Nat) : Int) + 10) = ((c.toNat - 97 + 10 : Nat) : Int) := by have := c.toNat_lt; rw [IntWalk.i64_in _ (by omega)]; omega
    refine aB fun K hK => Rg ?_
    have F := aI e1 (aI e2 (aI e3 (aI h1_4 (aI h1_7 (aI h3_13 h3_16)))))
    iterate 5 refine SF ?_
    refine T2 (hK _ _ _ ?_)
    clear hK K
    refine aD (RT Tryz.results132 ?_)
    refine aC [] _ rfl ?_
    simp only [decide_eq_true_eq, decide_eq_false_iff_not] at *
    refine congrArg (CV.int IntKind.i64) ?_
    unfold valL
    split <;> (try split) <;> omega
   simp only [h3_16]
   refine T2 (hK _ _ _ ?_)
   clear hK K
   refine CF rfl ?_
   refine aG ?_
   refine T0 (hK _ _ _ ?_)
   clear hK K
   refine R0 ?_
   refine aD (RT Tryz.results132 ?_)
   refine aC [] _ rfl ?_
   simp only [decide_eq_true_eq, decide_eq_false_iff_not] at *
   refine congrArg (CV.int IntKind.i64) ?_
   unfold valL
   split <;> (try split) <;> omega
  have F := aI h1_4 (aI h1_7 h3_13)
  iterate 3 refine SF ?_
  refine T2 (hK _ _ _ ?_)
  clear hK K
  refine CF rfl ?_
  refine aG ?_
  refine T0 (hK _ _ _ ?_)
  clear hK K
  refine R0 ?_
  refine aD (RT Tryz.results132 ?_)
  refine aC [] _ rfl ?_
  simp only [decide_eq_true_eq, decide_eq_false_iff_not] at *
  refine congrArg (CV.int IntKind.i64) ?_
  unfold valL
  split <;> (try split) <;> omega
 have F := h1_4
 iterate 3 refine SF ?_
 refine T2 (hK _ _ _ ?_)
 clear hK K
 refine CF rfl ?_
 refine aG ?_
 refine T0 (hK _ _ _ ?_)
 clear hK K
 refine aB fun K hK => ?_
 refine aB fun K hK => Rg ?_
 iterate 3 refine SF ?_
 refine aF 13 rfl (fun h3_13 => ?_) (fun h3_13 => ?_)
 ·
  have F := aI h1_4 h3_13
  iterate 3 refine SF ?_
  refine aF 16 rfl (fun h3_16 => ?_) (fun h3_16 => ?_)
  ·
   simp only [h3_16]
   refine T2 (hK _ _ _ ?_)
   clear hK K
   refine CT rfl ?_
   have e1 : IntKind.u8.wrap ((c.toNat : Int) - 97) = ((c.toNat - 97 : Nat) : Int) := by simp at h3_13 h3_16; rw [IntWalk.u8_in _ (by omega)]; omega
   have e2 : IntKind.i64.wrap ((c.toNat - 97 : Nat) : Int) = ((c.toNat - 97 : Nat) : Int) := by have := c.toNat_lt; rw [IntWalk.i64_in _ (by omega)]
   have e3 : IntKind.i64.wrap (((c.toNat - 97 : Nat) : Int) + 10) = ((c.toNat - 97 + 10 : Nat) : Int) := by have := c.toNat_lt; rw [IntWalk.i64_in _ (by omega)]; omega
   refine aB fun K hK => Rg ?_
   have F := aI e1 (aI e2 (aI e3 (aI h1_4 (aI h3_13 h3_16))))
   iterate 5 refine SF ?_
   refine T2 (hK _ _ _ ?_)
   clear hK K
   refine aD (RT Tryz.results132 ?_)
   refine aC [] _ rfl ?_
   simp only [decide_eq_true_eq, decide_eq_false_iff_not] at *
   refine congrArg (CV.int IntKind.i64) ?_
   unfold valL
   split <;> (try split) <;> omega
  simp only [h3_16]
  refine T2 (hK _ _ _ ?_)
  clear hK K
  refine CF rfl ?_
  refine aG ?_
  refine T0 (hK _ _ _ ?_)
  clear hK K
  refine R0 ?_
  refine aD (RT Tryz.results132 ?_)
  refine aC [] _ rfl ?_
  simp only [decide_eq_true_eq, decide_eq_false_iff_not] at *
  refine congrArg (CV.int IntKind.i64) ?_
  unfold valL
  split <;> (try split) <;> omega
 have F := aI h1_4 h3_13
 iterate 3 refine SF ?_
 refine T2 (hK _ _ _ ?_)
 clear hK K
 refine CF rfl ?_
 refine aG ?_
 refine T0 (hK _ _ _ ?_)
 clear hK K
 refine R0 ?_
 refine aD (RT Tryz.results132 ?_)
 refine aC [] _ rfl ?_
 simp only [decide_eq_true_eq, decide_eq_false_iff_not] at *
 refine congrArg (CV.int IntKind.i64) ?_
 unfold valL
 split <;> (try split) <;> omega


theorem yV (s : aK) (n : Nat) (hn : n < 1000) : dF Tryz.prog 107 [.str s, .int .i64 n] (fun u v => u = .slc (((bO s n).getD []).map u8) ∧ v = .bool (bO s n).isSome) := by
 have hw2 : IntKind.i64.wrap (2 * (n : Int)) = ((2 * n : Nat) : Int) := by rw [IntWalk.i64_in _ (by omega)]; omega
 refine FW Tryz.func107 ?_
 refine R0 ?_
 refine aB fun K hK => ?_
 refine aB fun K hK => Rg ?_
 have F := hw2
 iterate 5 refine SF ?_
 refine T2 (hK _ _ _ ?_)
 clear hK K
 refine aJ (b := (s.length : Int) != ((2 * n : Nat) : Int)) rfl (fun hb => ?_) (fun hb => ?_)
 ·
  refine R0 ?_
  refine aD (RT Tryz.results107 ?_)
  have hv : bO s n = none := oG (by simp at hb; omega)
  refine aM [] (.slc []) (.bool false) ?_ ⟨by rw [hv]; rfl, by rw [hv]; rfl⟩
  simp [HV.close, HV.closeL, CV.denil, CV.denilL, HV.norm, HV.toC, HV.toCL]
 refine aG ?_
 refine T0 (hK _ _ _ ?_)
 clear hK K
 have hlen : s.length = 2 * n := by simp at hb; omega
 clear hb
 refine R0 ?_
 refine aB fun K hK => ?_
 refine R0 ?_
 refine aH ?_
 refine fE 6 0 5 1 rfl rfl rfl rfl ?_
 refine aU (α := {i : Nat // i ≤ n ∧ ∀ j, j < i → hOk s j = true}) (fun i => (fin [(0, .c (.str s)), (1, .c (.int .i64 n)), (6, .own 36 i.1), (7, .c (.int .i64 i.1))], fob [(36, .row 5 1 ((hBs s i.1).map u8))])) 100 (fun i => n - i.1) ⟨0, by omega, fun j hj => absurd hj (by omega)⟩ (by simp only [bM0, List.map_nil]; exact fF) ?_
 rintro ⟨i, hi, hok⟩
 have hrl := aV8 s i
 refine aB fun K hK => ?_
 refine R0 ?_
 refine aJ (b := decide ((i : Int) < (n : Int))) rfl (fun hb => ?_) (fun hb => ?_)
 ·
  have hlt : i < n := by simp at hb; omega
  clear hb
  have hv2 : IntKind.i64.wrap (2 * (i : Int)) = ((2 * i : Nat) : Int) := by rw [IntWalk.i64_in _ (by omega)]; omega
  have hv3 : IntKind.i64.wrap (((2 * i : Nat) : Int) + 1) = ((2 * i + 1 : Nat) : Int) := by rw [IntWalk.i64_in _ (by omega)]; rfl
  have hgx : s.getD (2 * i) 0 = hX s i := rfl
  have hgy : s.getD (2 * i + 1) 0 = hY s i := rfl
  have hl1 : 2 * i < s.length := by omega
  have hl2 : 2 * i + 1 < s.length := by omega
  refine aG ?_
  refine T0 (hK _ _ _ ?_)
  clear hK K
  refine aB fun K hK => ?_
  refine aH ?_
  refine aB fun K hK => DW [(0, [], []), (1, [], []), (2, [], []), (3, [], []), (5, [], []), (6, [], []), (7, [], []), (8, [], []), (9, [], []), (4, [], [5, 6, 7, 8, 9]), (10, [], []), (11, [], []), (12, [], [])] [0, 0, 2, 7, 15, 0, 0, 64, 192, 480, 1023, 2047, 4095] ?_
  have F := aI @Int.natCast_nonneg (aI @Int.ofNat_lt (aI hv2 (aI hv3 (aI hgx (aI hgy (aI hl1 hl2))))))
  iterate 9 refine WF ?_
  refine aO (g := none) rfl rfl fun K' hK' => T6 ?_
  refine C1 (yU (hX s i)) ?_
  rintro u rfl
  refine AX (hK' _ _ ?_)
  clear hK' K'
  refine aO (g := none) rfl rfl fun K' hK' => T6 ?_
  refine C1 (yU (hY s i)) ?_
  rintro u rfl
  refine AX (hK' _ _ ?_)
  clear hK' K'
  iterate 2 refine WF ?_
  refine T2 (hK _ _ _ ?_)
  clear hK K
  refine aB fun K hK => ?_
  have hx := aV5 (hX s i)
  have hy := aV5 (hY s i)
  refine aB fun K hK => Rg ?_
  iterate 3 refine S0 ?_
  refine aF 32 rfl (fun h8_32 => ?_) (fun h8_32 => ?_)
  ·
   have F := h8_32
   iterate 3 refine SF ?_
   refine T2 (hK _ _ _ ?_)
   clear hK K
   refine CT rfl ?_
   refine R0 ?_
   refine aD (RT Tryz.results107 ?_)
   have hk : hOk s i = false := by simp at h8_32; simp [hOk]; omega
   have hv : bO s n = none := by
    unfold bO
    rw [if_neg]
    rintro ⟨_, h⟩
    have := List.all_eq_true.1 h i (List.mem_range.2 hlt)
    rw [hk] at this; cases this
   refine aM [] (.slc []) (.bool false) ?_ ⟨by rw [hv]; rfl, by rw [hv]; rfl⟩
   simp [HV.close, HV.closeL, CV.denil, CV.denilL, HV.norm, HV.toC, HV.toCL]
  have F := h8_32
  iterate 3 refine SF ?_
  refine aF 35 rfl (fun h8_35 => ?_) (fun h8_35 => ?_)
  ·
   simp only [h8_35]
   refine T2 (hK _ _ _ ?_)
   clear hK K
   refine CT rfl ?_
   refine R0 ?_
   refine aD (RT Tryz.results107 ?_)
   have hk : hOk s i = false := by simp at h8_35; simp [hOk]; omega
   have hv : bO s n = none := by
    unfold bO
    rw [if_neg]
    rintro ⟨_, h⟩
    have := List.all_eq_true.1 h i (List.mem_range.2 hlt)
    rw [hk] at this; cases this
   refine aM [] (.slc []) (.bool false) ?_ ⟨by rw [hv]; rfl, by rw [hv]; rfl⟩
   simp [HV.close, HV.closeL, CV.denil, CV.denilL, HV.norm, HV.toC, HV.toCL]
  simp only [h8_35]
  refine T2 (hK _ _ _ ?_)
  clear hK K
  refine CF rfl ?_
  refine aG ?_
  refine T0 (hK _ _ _ ?_)
  clear hK K
  have hx' : valL (hX s i) < 16 := by simp at h8_32; omega
  have hy' : valL (hY s i) < 16 := by simp at h8_35; omega
  have e1 : IntKind.i64.wrap (16 * ((valL (hX s i) : Nat) : Int)) = ((16 * valL (hX s i) : Nat) : Int) := by rw [IntWalk.i64_in _ (by omega)]; omega
  have e2 : IntKind.i64.wrap (((16 * valL (hX s i) : Nat) : Int) + ((valL (hY s i) : Nat) : Int)) = ((16 * valL (hX s i) + valL (hY s i) : Nat) : Int) := by rw [IntWalk.i64_in _ (by omega)]; omega
  have e3 : IntKind.u8.wrap ((16 * valL (hX s i) + valL (hY s i) : Nat) : Int) = ((hB s i).toNat : Int) := by rw [IntWalk.u8_in _ (by omega), bL6 hx' hy']
  refine Rg ?_
  have F := aI e1 (aI e2 (aI e3 (aI @Int.natCast_nonneg (aI @List.length_append.{0} (aI @List.length_map.{0,0} (aI hrl (aI h8_32 h8_35)))))))
  iterate 9 refine SF ?_
  refine T2 (hK _ _ _ ?_)
  clear hK K
  refine aL (by kernel_rfl) ?_
  refine TQ (bK i) ?_
  have hok' : ∀ j, j < i + 1 → hOk s j = true := fun j hj => by
   rcases Nat.lt_or_ge j i with h | h
   ·
    exact hok j h
   have : j = i := by omega
   subst this; simp [hOk, hx', hy']
  refine ⟨⟨i + 1, hlt, hok'⟩, aQ (by omega) ?_ ?_, ?_⟩
  ·
   simp [aY, upd_at, fin_at, HV.men]
  ·
   simp only [bC, bM1, List.map_append, List.map_cons, List.map_nil]
   exact ⟨rfl, by omega, trivial, trivial⟩
  show n - (i + 1) < n - i
  omega
 refine aS (T3 ?_)
 clear hK K
 refine AX (hK _ _ _ ?_)
 clear hK K
 refine R0 ?_
 refine aD (RT Tryz.results107 ?_)
 have hin : i = n := by simp at hb; omega
 subst hin
 have hv : bO s i = some (hBs s i) := by
  unfold bO
  rw [if_pos ⟨hlen, List.all_eq_true.2 fun j hj => hok j (List.mem_range.1 hj)⟩]; rfl
 refine aM [36] (.slc ((hBs s i).map u8)) (.bool true) ?_ ⟨by rw [hv]; rfl, by rw [hv]; rfl⟩
 simp [HV.close, HV.closeL, upd_at, fob_at, HV.norm, HV.toC, HV.toCL, CV.denil, aV8, List.take_of_length_le]


def iK (n : Nat) (l : List UInt8) (i : Nat) : List UInt8 := l.take i ++ List.replicate (n - i) 0
theorem vR (n : Nat) (l : List UInt8) : iK n l 0 = List.replicate n 0 := by simp [iK]
theorem yW {n : Nat} {l : List UInt8} {i : Nat} (h : i ≤ l.length) (hl : l.length ≤ n) : (iK n l i).length = n := by simp [iK]; omega
theorem yX {n : Nat} {l : List UInt8} {i : Nat} (h : i < l.length) (hl : l.length ≤ n) : (iK n l i).set i l[i] = iK n l (i + 1) := by
 unfold iK
 rw [List.set_append_right _ _ (by rw [List.length_take]; exact Nat.min_le_left _ _), List.take_succ_eq_append_getElem h, show n - i = n - (i + 1) + 1 from by omega, List.replicate_succ, List.append_assoc]
 simp [Nat.min_eq_left (Nat.le_of_lt h)]
theorem yY {n : Nat} {l : List UInt8} (hl : l.length = n) : iK n l l.length = l := by subst hl; simp [iK]
theorem yZ {s : aK} {n : Nat} : ((bO s n).getD []).length ≤ n := by
 cases h : bO s n with
 | none => simp
 | some l => simp [fB h]

theorem bC2 (s : aK) : dF Tryz.prog 106 [.str s] (fun u v => u = hf ((eK s).getD zh) ∧ v = .bool (eK s).isSome) := by
 refine FW Tryz.func106 ?_
 refine R0 ?_
 refine R0 ?_
 refine aB fun K hK => Rg ?_
 refine S0 ?_
 refine HS rfl rfl fun K' hK' => T5 ?_
 refine D2 (yV s 16 (by omega)) ?_
 rintro u v ⟨rfl, rfl⟩
 refine AX (hK' _ _ ?_)
 clear hK' K'
 iterate 5 refine S0 ?_
 refine T2 (hK _ _ _ ?_)
 clear hK K
 refine aB fun K hK => ?_
 obtain ⟨l, hl⟩ : ∃ l, l = (bO s 16).getD [] := ⟨_, rfl⟩
 have hll : l.length ≤ 16 := by rw [hl]; exact yZ
 rw [← hl]
 refine R0 ?_
 refine aH ?_
 refine aU (α := {i : Nat // i ≤ l.length}) (fun i => (fin [(2, .ptr 0 0), (4, .ptr 8 0), (5, .c (.slc (l.map u8))), (6, .c (.bool (bO s 16).isSome)), (7, .c (.int .i64 i.1))], fob [(0, .box 66 (.c zhf)), (8, .box 66 (.c (us (iK 16 l i.1))))])) 100 (fun i => l.length - i.1) ⟨0, by omega⟩ (aQ (by omega) (by simp [aY, fin_at, finA_at, upd_at, HV.men, HV.menL, HV.norm, HV.toC, HV.toCL]) (by simp only [bC, fob_at, upd_at, none0_at, vR]; exact ⟨rfl, by omega, trivial, rfl, by omega, trivial, trivial⟩)) ?_
 rintro ⟨i, hi⟩
 have hA := yW hi hll
 refine aB fun K hK => ?_
 refine aB fun K hK => Rg ?_
 iterate 4 refine S0 ?_
 refine T2 (hK _ _ _ ?_)
 clear hK K
 refine aJ (b := decide ((i : Int) < l.length)) rfl (fun hb => ?_) (fun hb => ?_)
 ·
  have hlt : i < l.length := by simpa using hb
  clear hb
  have hset := nB (l := iK 16 l i) (i := i) l[i] (by omega) (by omega)
  have hi16 : (i : Int) < 16 := by omega
  rw [yX hlt hll] at hset
  refine aG ?_
  refine T0 (hK _ _ _ ?_)
  clear hK K
  refine aB fun K hK => ?_
  refine aH ?_
  refine Rg ?_
  have F := aI @Int.natCast_nonneg (aI @Int.ofNat_lt (aI hlt (aI (nM hlt) (aI @u8.eq_1 (aI hset (aI @fG (aI @Nat.mul_one hi16)))))))
  iterate 7 refine SF ?_
  refine T2 (hK _ _ _ ?_)
  clear hK K
  refine aL (by kernel_rfl) ?_
  refine TQ (bK i) ?_
  refine ⟨⟨i + 1, hlt⟩, fF, ?_⟩
  show l.length - (i + 1) < l.length - i
  omega
 refine aS (T3 ?_)
 clear hK K
 refine AX (hK _ _ _ ?_)
 clear hK K
 have hil : i = l.length := by simp at hb; omega
 subst hil
 have hg := qU hA
 refine aB fun K hK => Rg ?_
 have F := aI @hf_setAt (aI @zhf_eq hg)
 iterate 4 refine SF ?_
 refine T2 (hK _ _ _ ?_)
 clear hK K
 refine aD (RT Tryz.results106 ?_)
 rw [hg]
 simp only [Option.map_some]
 cases hv : bO s 16 with
 | none =>
  rw [hv] at hl
  subst hl
  rw [vO hv]
  exact aM [] (hf zh) (.bool false) rfl ⟨rfl, rfl⟩
 | some m =>
  rw [hv] at hl
  obtain rfl : m = l := hl.symm
  have hm := fB hv
  rw [oH hv hm]
  refine aM [] (hf (⟨m, hm⟩ : iM)) (.bool true) ?_ ?_
  rotate_left
  ·
   exact ⟨rfl, rfl⟩
  rw [show us (iK 16 m m.length) = hf (⟨m, hm⟩ : iM) from by rw [yY hm]; rfl]
  simp [HV.close, HV.closeL, HV.norm, HV.toC, HV.toCL, CV.denil, hf_denil]


theorem aQ2 (s : aK) : dF Tryz.prog 68 [.str s] (fun u v => u = dg ((kE s).getD zdg) ∧ v = .bool (kE s).isSome) := by
 refine FW Tryz.func68 ?_
 refine R0 ?_
 refine R0 ?_
 refine aB fun K hK => ?_
 refine aB fun K hK => Rg ?_
 have F := aI @List.drop_zero.{0} @Nat.sub_zero
 iterate 4 refine SF ?_
 refine aF 10 rfl (fun h2_10 => ?_) (fun h2_10 => ?_)
 ·
  have F := aI @List.drop_zero.{0} (aI @Nat.sub_zero h2_10)
  iterate 4 refine SF ?_
  refine T2 (hK _ _ _ ?_)
  clear hK K
  refine CT rfl ?_
  refine R0 ?_
  refine aD (RT Tryz.results68 ?_)
  have hn : kE s = none := kF (fun _ => oG (by simp at h2_10 ⊢; omega))
  refine aM [] zd (.bool false) rfl ⟨by rw [hn]; rfl, by rw [hn]; rfl⟩
 have F := aI @List.drop_zero.{0} (aI @Nat.sub_zero h2_10)
 refine SF ?_
 refine bA (g := some (11, false)) rfl rfl fun K' hK' => T6 ?_
 refine ⟨by simp at h2_10; omega, ?_⟩
 refine AX (hK' _ _ ?_)
 clear hK' K'
 iterate 2 refine SF ?_
 refine aF 14 rfl (fun h2_14 => ?_) (fun h2_14 => ?_)
 ·
  simp only [h2_14]
  refine T2 (hK _ _ _ ?_)
  clear hK K
  refine CT rfl ?_
  refine R0 ?_
  refine aD (RT Tryz.results68 ?_)
  have hn : kE s = none := kF (fun hp => by
   unfold prefB at hp
   simp only [Bool.and_eq_true] at hp
   have : s.take 7 = shaW := eq_of_beq hp.2
   rw [this] at h2_14
   exact absurd h2_14 (by decide))
  refine aM [] zd (.bool false) rfl ⟨by rw [hn]; rfl, by rw [hn]; rfl⟩
 simp only [h2_14]
 refine T2 (hK _ _ _ ?_)
 clear hK K
 refine CF rfl ?_
 refine aG ?_
 refine T0 (hK _ _ _ ?_)
 clear hK K
 have hs : s.length = 71 := by simp at h2_10; omega
 have hp : prefB s shaW = true := by
  unfold prefB
  have e : s.take 7 = shaW := by simpa [shaW] using h2_14
  rw [show shaW.length = 7 from rfl, e, hs]; rfl
 have htd : List.take (s.length - 7) (List.drop 7 s) = List.drop 7 s := List.take_of_length_le (by simp)
 have h7 : (7 : Int) ≤ (s.length : Int) := by omega
 have h7' : 7 ≤ s.length := by omega
 refine aB fun K hK => Rg ?_
 have F := aI htd (aI h7 (aI h7' (aI @Int.natCast_nonneg (aI @Int.ofNat_le (aI h2_10 h2_14)))))
 iterate 2 refine SF ?_
 refine HS rfl rfl fun K' hK' => T6 ?_
 refine D2 (yV (s.drop 7) 32 (by omega)) ?_
 rintro u v ⟨rfl, rfl⟩
 refine AX (hK' _ _ ?_)
 clear hK' K'
 iterate 5 refine SF ?_
 refine T2 (hK _ _ _ ?_)
 clear hK K
 refine aB fun K hK => ?_
 obtain ⟨l, hl⟩ : ∃ l, l = (bO (s.drop 7) 32).getD [] := ⟨_, rfl⟩
 have hll : l.length ≤ 32 := by rw [hl]; exact yZ
 rw [← hl]
 refine R0 ?_
 refine aH ?_
 refine aU (α := {i : Nat // i ≤ l.length}) (fun i => (fin [(2, .ptr 0 0), (4, .ptr 8 0), (5, .c (.slc (l.map u8))), (6, .c (.bool (bO (s.drop 7) 32).isSome)), (7, .c (.int .i64 i.1))], fob [(0, .box 49 (.c zd)), (8, .box 49 (.c (us (iK 32 l i.1))))])) 200 (fun i => l.length - i.1) ⟨0, by omega⟩ (aQ (by omega) (by simp [aY, fin_at, finA_at, upd_at, HV.men, HV.menL, HV.norm, HV.toC, HV.toCL]) (by simp only [bC, fob_at, upd_at, none0_at, vR]; exact ⟨rfl, by omega, trivial, rfl, by omega, trivial, trivial⟩)) ?_
 rintro ⟨i, hi⟩
 have hA := yW hi hll
 refine aB fun K hK => ?_
 refine aB fun K hK => Rg ?_
 have F := aI h2_10 h2_14
 iterate 4 refine SF ?_
 refine T2 (hK _ _ _ ?_)
 clear hK K
 refine aJ (b := decide ((i : Int) < l.length)) rfl (fun hb => ?_) (fun hb => ?_)
 ·
  have hlt : i < l.length := by simpa using hb
  clear hb
  have hset := nB (l := iK 32 l i) (i := i) l[i] (by omega) (by omega)
  have hi16 : (i : Int) < 32 := by omega
  rw [yX hlt hll] at hset
  refine aG ?_
  refine T0 (hK _ _ _ ?_)
  clear hK K
  refine aB fun K hK => ?_
  refine aH ?_
  refine Rg ?_
  iterate 7 refine S0 ?_ (e := fun _ h_ => by simp only [sH, ↓sP, sA, tyS, simprocAttr, Int.natCast_nonneg, Int.ofNat_lt, hlt, aN hlt, u8, hset, fG, Nat.mul_one, hi16, h2_10, h2_14]; exact AX h_)
  refine T2 (hK _ _ _ ?_)
  clear hK K
  refine aL (by kernel_rfl) ?_
  refine TQ (bK i) ?_
  refine ⟨⟨i + 1, hlt⟩, fF, ?_⟩
  show l.length - (i + 1) < l.length - i
  omega
 refine aS (T3 ?_)
 clear hK K
 refine AX (hK _ _ _ ?_)
 clear hK K
 have hil : i = l.length := by simp at hb; omega
 subst hil
 have hg := qU hA
 refine aB fun K hK => Rg ?_
 have F := aI @dg_setAt (aI hg (aI h2_10 h2_14))
 iterate 4 refine SF ?_
 refine T2 (hK _ _ _ ?_)
 clear hK K
 refine aD (RT Tryz.results68 ?_)
 rw [hg]
 simp only [Option.map_some]
 cases hv : bO (s.drop 7) 32 with
 | none =>
  rw [hv] at hl
  subst hl
  rw [kF fun _ => hv]
  exact aM [] zd (.bool false) rfl ⟨rfl, rfl⟩
 | some m =>
  rw [hv] at hl
  obtain rfl : m = l := hl.symm
  have hm := fB hv
  rw [rF hp hv hm]
  refine aM [] (dg (⟨m, hm⟩ : Dig)) (.bool true) ?_ ?_
  rotate_left
  ·
   exact ⟨rfl, rfl⟩
  rw [show us (iK 32 m m.length) = dg (⟨m, hm⟩ : Dig) from by rw [yY hm]; rfl]
  simp [HV.close, HV.closeL, HV.norm, HV.toC, HV.toCL, CV.denil, dg_denil]


def bC3 (l : List aK) : Option Ky := match bJ (wd l 1), eK (wd l 2), bJ (wd l 4), bJ (wd l 5) with
 | some h, some r, some a, some b => some ⟨⟨h, r⟩, wd l 3, l.drop 6, a, b⟩
 | _, _, _, _ => none
theorem aD3 {l : List aK} (h : ¬ l.length < 6) (x : Rt) : lD l x = (bC3 l).map fun k => { x with k := x.k ++ [k] } := by
 unfold lD bC3
 rw [if_neg h]
 cases bJ (wd l 1) <;> cases eK (wd l 2) <;> cases bJ (wd l 4) <;> cases bJ (wd l 5) <;> rfl

theorem aQ3 (l : List aK) (hl : l.length < 2 ^ 40) (h0 : 0 < l.length) (hk : wd l 0 = [107, 101, 121]) : dF Tryz.prog 67 [.slc (l.map .str)] (fun u v => ∃ (k : Ky) (ok : Bool), u = k.cv ∧ v = .bool ok ∧ ∀ x, lD l x = if ok then some { x with k := x.k ++ [k] } else none) := by
 have z0 : (0 : Int) < l.length := by omega
 have w0 := bN h0
 refine FW Tryz.func67 ?_
 refine R0 ?_
 refine aB fun K hK => ?_
 refine aB fun K hK => Rg ?_
 have F := aI @List.length_map.{0,0} (aI z0 w0)
 iterate 4 refine SF ?_
 refine aF 15 rfl (fun h1_15 => ?_) (fun h1_15 => ?_)
 ·
  have F := aI @List.length_map.{0,0} (aI z0 (aI w0 h1_15))
  iterate 5 refine SF ?_
  refine T2 (hK _ _ _ ?_)
  clear hK K
  refine CT rfl ?_
  refine R0 ?_
  refine aD (RT Tryz.results67 ?_)
  exact aM [] (Ky.cv k0) (.bool false) rfl ⟨k0, false, rfl, rfl, fun x => by unfold lD; rw [if_pos (by simp at h1_15; omega)]; rfl⟩
 have F := aI @List.length_map.{0,0} (aI z0 (aI w0 h1_15))
 iterate 5 refine SF ?_
 refine aF 20 rfl (fun h1_20 => ?_) (fun h1_20 => ?_)
 ·
  simp only [h1_20]
  refine T2 (hK _ _ _ ?_)
  clear hK K
  refine CT rfl ?_
  refine R0 ?_
  refine aD (RT Tryz.results67 ?_)
  rw [hk] at h1_20
  exact absurd h1_20 (by decide)
 simp only [h1_20]
 refine T2 (hK _ _ _ ?_)
 clear hK K
 refine CF rfl ?_
 refine aG ?_
 refine T0 (hK _ _ _ ?_)
 clear hK K
 have h6 : ¬ l.length < 6 := by simp at h1_15; omega
 have i1 : 1 < l.length := by omega
 have i2 : 2 < l.length := by omega
 have i3 : 3 < l.length := by omega
 have i4 : 4 < l.length := by omega
 have i5 : 5 < l.length := by omega
 have i6 : 6 ≤ l.length := by omega
 have z1 : (1 : Int) < l.length := by omega
 have z2 : (2 : Int) < l.length := by omega
 have z3 : (3 : Int) < l.length := by omega
 have z4 : (4 : Int) < l.length := by omega
 have z5 : (5 : Int) < l.length := by omega
 have z6 : (6 : Int) ≤ l.length := by omega
 refine aB fun K hK => Rg ?_
 have F := aI @List.length_map.{0,0} (aI z1 (aI (bN i1) (aI h1_15 h1_20)))
 iterate 3 refine SF ?_
 refine HS rfl rfl fun K' hK' => T6 ?_
 refine D1 (iJ (wd l 1)) ?_
 rintro u v ⟨rfl, rfl⟩
 refine AX (hK' _ _ ?_)
 clear hK' K'
 iterate 5 refine SF ?_
 refine T2 (hK _ _ _ ?_)
 clear hK K
 refine aB fun K hK => Rg ?_
 have F := aI @List.length_map.{0,0} (aI z2 (aI (bN i2) (aI @hf_setAt (aI @zhf_eq (aI h1_15 h1_20)))))
 iterate 3 refine SF ?_
 refine HS rfl rfl fun K' hK' => T6 ?_
 refine D1 (bC2 (wd l 2)) ?_
 rintro u v ⟨rfl, rfl⟩
 refine AX (hK' _ _ ?_)
 clear hK' K'
 iterate 6 refine SF ?_
 refine T2 (hK _ _ _ ?_)
 clear hK K
 refine aB fun K hK => Rg ?_
 have F := aI @List.length_map.{0,0} (aI z4 (aI (bN i4) (aI h1_15 h1_20)))
 iterate 3 refine SF ?_
 refine HS rfl rfl fun K' hK' => T6 ?_
 refine D1 (iJ (wd l 4)) ?_
 rintro u v ⟨rfl, rfl⟩
 refine AX (hK' _ _ ?_)
 clear hK' K'
 iterate 5 refine SF ?_
 refine T2 (hK _ _ _ ?_)
 clear hK K
 refine aB fun K hK => Rg ?_
 have F := aI @List.length_map.{0,0} (aI z5 (aI (bN i5) (aI h1_15 h1_20)))
 iterate 3 refine SF ?_
 refine HS rfl rfl fun K' hK' => T6 ?_
 refine D1 (iJ (wd l 5)) ?_
 rintro u v ⟨rfl, rfl⟩
 have htk : List.take (l.length - 6) (List.drop 6 (l.map CV.str)) = (l.drop 6).map .str := by rw [List.map_drop, List.take_of_length_le (by simp)]
 refine AX (hK' _ _ ?_)
 clear hK' K'
 iterate 5 refine SF ?_
 refine T2 (hK _ _ _ ?_)
 clear hK K
 refine aB fun K hK => xL mixed [(0, [], []), (1, [], []), (2, [], []), (3, [], []), (4, [], []), (5, [], []), (6, [], []), (7, [6], []), (8, [6], []), (10, [6], []), (11, [6], []), (13, [6], []), (9, [13], [0, 1, 2, 3, 4, 5, 10, 11, 13]), (12, [13], []), (14, [], [])] [0, 0, 3, 0, 8, 24, 0, 0, 128, 448, 0, 0, 4095, 0, 16383] (by kernel_rfl) (by kernel_rfl) (by kernel_rfl) (by kernel_rfl) rfl (by kernel_rfl) ?_
 have F := aI @List.length_map.{0,0} (aI @List.length_drop.{0} (aI z3 (aI z6 (aI i6 (aI (bN i3) (aI htk (aI @denilL_str (aI h1_15 h1_20))))))))
 iterate 2 refine WGF ?_
 refine oZ (g := none) rfl rfl fun K' hK' => T6 ?_
 rw [qV _ _ rfl rfl]
 refine AX (hK' _ _ ?_)
 clear hK' K'
 iterate 9 refine WGF ?_
 refine wL (g := none) 216 rfl rfl fun K' hK' => ?_
 simp only [iS, lR, sH, ↓sP, sA, tyS, simprocAttr, List.length_map, List.length_drop, z3, z6, i6, bN i3, htk, denilL_str, h1_15, h1_20]
 repeat refine AI ?_
 refine eG (by first | rfl | simp) ?_
 try simp only [sH, ↓sP, sA, tyS, simprocAttr, List.length_map, List.length_drop, z3, z6, i6, bN i3, htk, denilL_str, h1_15, h1_20]
 refine AX (hK' _ _ ?_)
 clear hK' K'
 iterate 2 refine WGF ?_
 refine T2 (hK _ _ _ ?_)
 clear hK K
 cases h1 : bJ (wd l 1)
 ·
  have hd := fun h r a b => Ky.denil ⟨⟨h, r⟩, wd l 3, l.drop 6, a, b⟩
  simp only [Ky.cv, Pk.cv, CV.denil, CV.agg.injEq] at hd
  refine aB fun K hK => Rg ?_
  have F := aI @Option.isSome_none.{0} (aI @Option.isSome_some.{0} (aI h1_15 h1_20))
  iterate 13 refine SF ?_
  refine T2 (hK _ _ _ ?_)
  clear hK K
  refine aD (RT Tryz.results67 ?_)
  refine aM [] (Ky.cv ⟨⟨(bJ (wd l 1)).getD 0, (eK (wd l 2)).getD zh⟩, wd l 3, l.drop 6, (bJ (wd l 4)).getD 0, (bJ (wd l 5)).getD 0⟩) (.bool false) ?_ ?_
  ·
   simp [-List.map_drop, HV.close, HV.closeL, HV.norm, HV.toC, HV.toCL, CV.denil, Ky.cv, Pk.cv, hd, h1]
  refine ⟨_, _, rfl, rfl, fun x => ?_⟩
  rw [aD3 h6]
  unfold bC3
  rw [h1]
  rfl
 cases h2 : eK (wd l 2)
 ·
  have hd := fun h r a b => Ky.denil ⟨⟨h, r⟩, wd l 3, l.drop 6, a, b⟩
  simp only [Ky.cv, Pk.cv, CV.denil, CV.agg.injEq] at hd
  refine aB fun K hK => Rg ?_
  have F := aI @Option.isSome_none.{0} (aI @Option.isSome_some.{0} (aI h1_15 h1_20))
  iterate 13 refine SF ?_
  refine T2 (hK _ _ _ ?_)
  clear hK K
  refine aD (RT Tryz.results67 ?_)
  refine aM [] (Ky.cv ⟨⟨(bJ (wd l 1)).getD 0, (eK (wd l 2)).getD zh⟩, wd l 3, l.drop 6, (bJ (wd l 4)).getD 0, (bJ (wd l 5)).getD 0⟩) (.bool false) ?_ ?_
  ·
   simp [-List.map_drop, HV.close, HV.closeL, HV.norm, HV.toC, HV.toCL, CV.denil, Ky.cv, Pk.cv, hd, h1, h2]
  refine ⟨_, _, rfl, rfl, fun x => ?_⟩
  rw [aD3 h6]
  unfold bC3
  rw [h1, h2]
  rfl
 cases h4 : bJ (wd l 4)
 ·
  have hd := fun h r a b => Ky.denil ⟨⟨h, r⟩, wd l 3, l.drop 6, a, b⟩
  simp only [Ky.cv, Pk.cv, CV.denil, CV.agg.injEq] at hd
  refine aB fun K hK => Rg ?_
  have F := aI @Option.isSome_none.{0} (aI @Option.isSome_some.{0} (aI h1_15 h1_20))
  iterate 13 refine SF ?_
  refine T2 (hK _ _ _ ?_)
  clear hK K
  refine aD (RT Tryz.results67 ?_)
  refine aM [] (Ky.cv ⟨⟨(bJ (wd l 1)).getD 0, (eK (wd l 2)).getD zh⟩, wd l 3, l.drop 6, (bJ (wd l 4)).getD 0, (bJ (wd l 5)).getD 0⟩) (.bool false) ?_ ?_
  ·
   simp [-List.map_drop, HV.close, HV.closeL, HV.norm, HV.toC, HV.toCL, CV.denil, Ky.cv, Pk.cv, hd, h1, h2, h4]
  refine ⟨_, _, rfl, rfl, fun x => ?_⟩
  rw [aD3 h6]
  unfold bC3
  rw [h1, h2, h4]
  rfl
 have hd := fun h r a b => Ky.denil ⟨⟨h, r⟩, wd l 3, l.drop 6, a, b⟩
 simp only [Ky.cv, Pk.cv, CV.denil, CV.agg.injEq] at hd
 refine aB fun K hK => Rg ?_
 have F := aI @Option.isSome_none.{0} (aI @Option.isSome_some.{0} (aI h1_15 h1_20))
 iterate 13 refine SF ?_
 refine T2 (hK _ _ _ ?_)
 clear hK K
 refine aD (RT Tryz.results67 ?_)
 refine aM [] (Ky.cv ⟨⟨(bJ (wd l 1)).getD 0, (eK (wd l 2)).getD zh⟩, wd l 3, l.drop 6, (bJ (wd l 4)).getD 0, (bJ (wd l 5)).getD 0⟩) (.bool (bJ (wd l 5)).isSome) ?_ ?_
 ·
  simp [-List.map_drop, HV.close, HV.closeL, HV.norm, HV.toC, HV.toCL, CV.denil, Ky.cv, Pk.cv, hd, h1, h2, h4]
 refine ⟨_, _, rfl, rfl, fun x => ?_⟩
 rw [aD3 h6]
 unfold bC3
 rw [h1, h2, h4]
 cases bJ (wd l 5) <;> rfl

end Go.Proofs.YtenbfeemmpjdhaaGreatDoor

namespace Go.Proofs.YtenbfeemmpjdhaaGreatDoor
open Go Go.Hl Go.Pl
set_option maxRecDepth 10000
set_option maxHeartbeats 16000000

theorem bC4 (l : List UInt8) (c : UInt8) : aW Tryz.prog 182 [.str l, u8 c] (fun v => v = .int .i64 (Lib.countByte l c : Nat)) :=
 mY (f := 182) (fn := Tryz.f182) (e := Extern.BytealgCount.count) Tryz.func182 (by kernel_rfl) (by kernel_rfl) (by kernel_rfl) (by kernel_rfl) fun w ρ O xs h => by
  simp only [List.map_cons, List.map_nil, aX, RepHV] at h
  obtain ⟨x, l1, rfl, hx, y, l2, rfl, hy, rfl⟩ := h
  have h1 := RepV.single hx rfl
  have h2 := RepV.single hy rfl
  simp only [u8, RepC, List.cons.injEq, and_true] at h1 h2
  subst h1 h2
  refine ⟨_, _, rfl, dB _ _ _ _ _, ?_⟩
  have := Lib.run_countString (P := Tryz.prog) ⟨l.toArray⟩ (c.toNat : Int) w
  simpa using this

theorem aQ4 (l : List UInt8) (c : UInt8) : aW Tryz.prog 183 [.str l, .str [c]] (fun v => v = .int .i64 (dT l c)) := by
 refine FW Tryz.func183 ?_
 refine R0 ?_
 refine R0 ?_
 refine aB fun K hK => ?_
 refine aH ?_
 refine aB fun K hK => Rg ?_
 iterate 3 refine S0 ?_
 refine aF 18 rfl (fun h2_18 => ?_) (fun h2_18 => ?_)
 ·
  have F := h2_18
  iterate 5 refine SF ?_
  refine T2 (hK _ _ _ ?_)
  clear hK K
  refine CT rfl ?_
  refine R0 ?_
  refine aD (RT Tryz.results183 ?_)
  exact absurd h2_18 (by decide)
 have F := h2_18
 iterate 5 refine SF ?_
 refine aF 22 rfl (fun h2_22 => ?_) (fun h2_22 => ?_)
 ·
  simp only [h2_22]
  refine T2 (hK _ _ _ ?_)
  clear hK K
  refine CT rfl ?_
  refine R0 ?_
  refine aD (RT Tryz.results183 ?_)
  have hl : l = [c] := (eq_of_beq h2_22).symm
  subst hl
  exact aC [] (.int .i64 0) rfl (by simp [dT])
 simp only [h2_22]
 refine T2 (hK _ _ _ ?_)
 clear hK K
 refine CF rfl ?_
 refine R0 ?_
 refine aJ (b := (1 : Int) == 1) rfl (fun hb => ?_) (fun hb => ?_)
 ·
  refine aB fun K hK => Rg ?_
  have F := aI @List.getD_cons_zero.{0} (aI h2_18 h2_22)
  iterate 3 refine SF ?_
  refine HS rfl rfl fun K' hK' => T6 ?_
  refine C2 (bK6 l c) ?_
  rintro u rfl
  refine AX (hK' _ _ ?_)
  clear hK' K'
  refine SF ?_
  refine T2 (hK _ _ _ ?_)
  clear hK K
  refine aD (RT Tryz.results183 ?_)
  exact aC [] (.int .i64 (dT l c)) rfl rfl
 exact absurd hb (by decide)


theorem aL2 (l : List UInt8) (c : UInt8) : aW Tryz.prog 163 [.str l, .str [c]] (fun v => v = .int .i64 (dT l c)) := by
 refine FW Tryz.func163 ?_
 refine R0 ?_
 refine aB fun K hK => Rg ?_
 iterate 2 refine S0 ?_
 refine HS rfl rfl fun K' hK' => T5 ?_
 refine C2 (aQ4 l c) ?_
 rintro u rfl
 refine AX (hK' _ _ ?_)
 clear hK' K'
 refine S0 ?_
 refine T2 (hK _ _ _ ?_)
 clear hK K
 refine aD (RT Tryz.results163 ?_)
 exact aC [] (.int .i64 (dT l c)) rfl rfl


theorem aL3 (l : List UInt8) (c : UInt8) : aW Tryz.prog 162 [.str l, .str [c]] (fun v => v = .int .i64 (Lib.countByte l c : Nat)) := by
 refine FW Tryz.func162 ?_
 refine R0 ?_
 refine aB fun K hK => ?_
 refine R0 ?_
 refine aJ (b := (1 : Int) == 0) rfl (fun hb => ?_) (fun hb => ?_)
 ·
  exact absurd hb (by decide)
 refine aG ?_
 refine T0 (hK _ _ _ ?_)
 clear hK K
 refine aB fun K hK => ?_
 refine R0 ?_
 refine aJ (b := (1 : Int) == 1) rfl (fun hb => ?_) (fun hb => ?_)
 ·
  refine aB fun K hK => Rg ?_
  have F := @List.getD_cons_zero.{0}
  iterate 3 refine SF ?_
  refine HS rfl rfl fun K' hK' => T6 ?_
  refine C2 (bC4 l c) ?_
  rintro u rfl
  refine AX (hK' _ _ ?_)
  clear hK' K'
  refine SF ?_
  refine T2 (hK _ _ _ ?_)
  clear hK K
  refine aD (RT Tryz.results162 ?_)
  exact aC [] (.int .i64 _) rfl rfl
 exact absurd hb (by decide)


theorem aL4 (l : List UInt8) (c : UInt8) (hl : l.length < 2 ^ 40) : aW Tryz.prog 130 [.str l, .str [c], .int .i64 0, .int .i64 (-1)] (fun v => v = .slc ((aT c l).map .str)) := by
 refine FW Tryz.func130 ?_
 refine R0 ?_
 refine aB fun K hK => ?_
 refine R0 ?_
 refine aJ (b := (-1 : Int) == 0) rfl (fun hb => ?_) (fun hb => ?_)
 ·
  exact absurd hb (by decide)
 refine aG ?_
 refine T0 (hK _ _ _ ?_)
 clear hK K
 refine aB fun K hK => ?_
 refine R0 ?_
 refine aJ (b := [c] == []) rfl (fun hb => ?_) (fun hb => ?_)
 ·
  exact absurd hb (by simp)
 refine aG ?_
 refine T0 (hK _ _ _ ?_)
 clear hK K
 refine aB fun K hK => ?_
 refine R0 ?_
 refine aJ (b := decide ((-1 : Int) < 0)) rfl (fun hb => ?_) (fun hb => ?_)
 ·
  obtain ⟨n, hn⟩ : ∃ n, n = (aT c l).length := ⟨_, rfl⟩
  have hcount := qA c l
  have hlen := dO c l
  rw [← hn] at hcount hlen
  have hw0 : IntKind.i64.wrap ((Lib.countByte l c : Nat) + 1 : Int) = (n : Int) := by rw [IntWalk.i64_in _ (by omega)]; omega
  refine Rg ?_
  have F := hw0
  iterate 2 refine SF ?_
  refine HS rfl rfl fun K' hK' => T6 ?_
  refine C2 (aL3 l c) ?_
  rintro u rfl
  refine AX (hK' _ _ ?_)
  clear hK' K'
  iterate 2 refine SF ?_
  refine T2 (hK _ _ _ ?_)
  clear hK K
  have hw1 : IntKind.i64.wrap ((l.length : Int) + 1) = ((l.length + 1 : Nat) : Int) := by rw [IntWalk.i64_in _ (by omega)]; omega
  have hmin : (if ((l.length + 1 : Nat) : Int) < (n : Int) then ((l.length + 1 : Nat) : Int) else (n : Int)) = (n : Int) := by rw [if_neg (by omega)]
  refine aB fun K hK => Rg ?_
  have F := aI hw1 hmin
  iterate 6 refine SF ?_
  refine T2 (hK _ _ _ ?_)
  clear hK K
  have hn0 : ((n : Int) = 0) = False := by simp; omega
  have hrep : (List.replicate n (CV.str [])) = (List.replicate n ([] : aK)).map .str := by simp
  have F := aI hn0 (aI hrep @Int.toNat_natCast)
  refine RF ?_
  have hw2 : IntKind.i64.wrap ((n : Int) - 1) = ((n - 1 : Nat) : Int) := by rw [IntWalk.i64_in _ (by omega)]; omega
  have F := hw2
  refine RF ?_
  refine R0 ?_
  refine aB fun K hK => ?_
  refine aH ?_
  have hn1 : 1 ≤ n := by rw [hn]; exact List.length_pos_iff.2 (bX c l)
  refine aU (α := {y : Nat × aK × List aK // SplSt l c y.1 y.2.1 y.2.2}) (fun y => (fin [(0, .c (.str y.1.2.1)), (1, .c (.str [c])), (2, .c (.int .i64 0)), (3, .c (.int .i64 (n - 1 : Nat))), (9, .own 76 n), (10, .c (.int .i64 y.1.1))], fob [(76, .row 9 1 (y.1.2.2.map .str))])) 100 (fun y => y.1.2.1.length) ⟨(0, l, List.replicate n []), by rw [hn]; exact SplSt.init l c⟩ (fF) ?_
  rintro ⟨⟨i, rest, a⟩, hst⟩
  simp only at hst
  have hin : i < n := by rw [hn]; exact hst.2.2.2.1
  have hal : a.length = n := by rw [hn]; exact hst.1
  have hia : i < a.length := by omega
  have hna : nth (a.map CV.str) i = .str a[i] := aN hia
  have hrl := hst.2.2.2.2
  refine aB fun K hK => ?_
  refine R0 ?_
  refine aJ (b := decide ((i : Int) < ((n - 1 : Nat) : Int))) rfl (fun hb => ?_) (fun hb => ?_)
  ·
   have hi1 : i + 1 < n := by simp at hb; omega
   clear hb
   refine aG ?_
   refine T0 (hK _ _ _ ?_)
   clear hK K
   refine aH ?_
   refine aB fun K hK => Rg ?_
   iterate 2 refine S0 ?_
   refine HS rfl rfl fun K' hK' => T5 ?_
   refine C2 (aL2 rest c) ?_
   rintro u rfl
   refine AX (hK' _ _ ?_)
   clear hK' K'
   refine S0 ?_
   refine T2 (hK _ _ _ ?_)
   clear hK K
   refine aB fun K hK => ?_
   refine R0 ?_
   refine aJ (b := decide (dT rest c < 0)) rfl (fun hb => ?_) (fun hb => ?_)
   ·
    have := hst.last (by simpa using hb)
    omega
   obtain ⟨k, hk, hkl, _⟩ := fP (l := rest) (c := c) (by simpa using hb)
   obtain ⟨_, hnx⟩ := hst.next hk
   rw [hk]
   have hkl1 : k + 1 ≤ rest.length := hkl
   have hw3 : IntKind.i64.wrap ((k : Int) + 0) = (k : Int) := by rw [IntWalk.i64_in _ (by omega)]; omega
   have hw4 : IntKind.i64.wrap ((k : Int) + 1) = ((k + 1 : Nat) : Int) := by rw [IntWalk.i64_in _ (by omega)]; rfl
   have hw5 : IntKind.i64.wrap ((i : Int) + 1) = ((i + 1 : Nat) : Int) := by rw [IntWalk.i64_in _ (by omega)]; rfl
   have htd : List.take (rest.length - (k + 1)) (List.drop (k + 1) rest) = List.drop (k + 1) rest := List.take_of_length_le (by simp)
   refine aG ?_
   refine T0 (hK _ _ _ ?_)
   clear hK K
   refine aB fun K hK => Rg ?_
   iterate 9 refine S0 ?_ (e := fun _ h_ => by simp only [sH, ↓sP, sA, tyS, simprocAttr, Int.natCast_nonneg, Int.ofNat_le, Int.ofNat_lt, Nat.le_of_lt hkl, hw3, Nat.sub_zero, List.drop_zero, List.length_map, hal, hin, hna]; exact AX h_)
   refine T2 (hK _ _ _ ?_)
   clear hK K
   refine aB fun K hK => Rg ?_
   have F := aI @Int.natCast_nonneg (aI @Int.ofNat_le (aI hkl1 (aI hw4 htd)))
   iterate 7 refine SF ?_
   refine T2 (hK _ _ _ ?_)
   clear hK K
   refine aL (by kernel_rfl) ?_
   refine TQ hw5 ?_
   refine ⟨⟨(i + 1, rest.drop (k + 1), a.set i (rest.take k)), hnx⟩, aQ (by omega) ?_ ?_, ?_⟩
   ·
    simp [aY, upd_at, fin_at, HV.men]
   ·
    simp only [bC, List.map_set]
    exact ⟨rfl, by omega, trivial, trivial⟩
   show (rest.drop (k + 1)).length < rest.length
   simp; omega
  refine aS (T3 ?_)
  clear hK K
  refine AX (hK _ _ _ ?_)
  clear hK K
  have hi1 : i + 1 = n := by simp at hb; omega
  have hfin := hst.fin (by omega)
  have hw5 : IntKind.i64.wrap ((i : Int) + 1) = (n : Int) := by rw [IntWalk.i64_in _ (by omega)]; omega
  refine aB fun K hK => Rg ?_
  have F := aI @Int.natCast_nonneg (aI @Int.ofNat_lt (aI @List.length_map.{0,0} (aI hal (aI hin hna))))
  iterate 5 refine SF ?_
  refine T2 (hK _ _ _ ?_)
  clear hK K
  refine aB fun K hK => Rg ?_
  have F := aI @Int.natCast_nonneg (aI hw5 (aI @List.length_map.{0,0} (aI @List.length_set.{0} (aI hal @Int.le_refl))))
  iterate 5 refine SF ?_
  refine T2 (hK _ _ _ ?_)
  clear hK K
  refine aD (RT Tryz.results130 ?_)
  refine aC [76] (.slc ((aT c l).map .str)) ?_ rfl
  have hset : (a.map CV.str).set i (CV.str rest) = (aT c l).map .str := by rw [← List.map_set, hfin]
  have ht : List.take n ((aT c l).map CV.str) = (aT c l).map .str := List.take_of_length_le (by simp [hn])
  rw [hset]
  have hn0' : 0 < n := hn1
  simp [HV.close, upd_at, ← hn, HV.norm, HV.toC, CV.denil, denilL_str, ht, hn0']
 exact absurd hb (by decide)


theorem aL5 (l : List UInt8) (c : UInt8) (hl : l.length < 2 ^ 40) : aW Tryz.prog 104 [.str l, .str [c]] (fun v => v = .slc ((aT c l).map .str)) := by
 refine FW Tryz.func104 ?_
 refine R0 ?_
 refine aB fun K hK => Rg ?_
 iterate 2 refine S0 ?_
 refine HS rfl rfl fun K' hK' => T5 ?_
 refine C4 (aL4 l c hl) ?_
 rintro u rfl
 refine AX (hK' _ _ ?_)
 clear hK' K'
 refine S0 ?_
 refine T2 (hK _ _ _ ?_)
 clear hK K
 refine aD (RT Tryz.results104 ?_)
 exact aC [] (.slc ((aT c l).map .str)) (by simp [HV.close, HV.norm, HV.toC, CV.denil, denilL_str]) rfl

end Go.Proofs.YtenbfeemmpjdhaaGreatDoor

namespace Go.Proofs.YtenbfeemmpjdhaaGreatDoor
open Go Go.Hl Go.Pl
set_option maxRecDepth 10000
set_option maxHeartbeats 16000000

theorem bS9 (s : aK) (hl : s.length < 2 ^ 40) : dF Tryz.prog 105 [.str s] (fun u v => u = .str ((unW s).getD []) ∧ v = .bool (unW s).isSome) := by
 refine FW Tryz.func105 ?_
 refine R0 ?_
 refine aB fun K hK => ?_
 refine R0 ?_
 refine aJ (b := s == [126]) rfl (fun hb => ?_) (fun hb => ?_)
 ·
  refine R0 ?_
  refine aD (RT Tryz.results105 ?_)
  have hs : s = [126] := by simpa using hb
  subst hs
  exact aM [] (.str []) (.bool true) rfl ⟨rfl, rfl⟩
 refine aG ?_
 refine T0 (hK _ _ _ ?_)
 clear hK K
 refine aB fun K hK => ?_
 have hne : s ≠ [126] := by simpa using hb
 clear hb
 refine R0 ?_
 refine aJ (b := s == []) rfl (fun hb => ?_) (fun hb => ?_)
 ·
  refine R0 ?_
  refine aD (RT Tryz.results105 ?_)
  have hs : s = [] := by simpa using hb
  subst hs
  exact aM [] (.str []) (.bool false) rfl ⟨rfl, rfl⟩
 refine aG ?_
 refine T0 (hK _ _ _ ?_)
 clear hK K
 have hne0 : s ≠ [] := by simpa using hb
 clear hb
 refine R0 ?_
 refine aB fun K hK => ?_
 refine R0 ?_
 refine aH ?_
 refine fE 4 0 5 1 rfl rfl rfl rfl ?_
 refine aU (α := {y : Nat × aK // UnSt s y.1 y.2}) (fun y => (fin [(0, .c (.str s)), (4, .own 32 y.1.2.length), (5, .c (.int .i64 y.1.1))], fob [(32, .row 5 1 (y.1.2.map cU))])) 100 (fun y => s.length - y.1.1) ⟨(0, []), UnSt.init s⟩ (fF) ?_
 rintro ⟨⟨i, out⟩, hst⟩
 simp only at hst
 have hi := hst.1
 have ho := hst.2.2.2
 refine aB fun K hK => ?_
 refine aB fun K hK => Rg ?_
 iterate 4 refine S0 ?_
 refine T2 (hK _ _ _ ?_)
 clear hK K
 refine aJ (b := decide ((i : Int) < s.length)) rfl (fun hb => ?_) (fun hb => ?_)
 ·
  have hlt : i < s.length := by simpa using hb
  clear hb
  have hgd : s.getD i 0 = s[i] := by simp [hlt]
  refine aG ?_
  refine T0 (hK _ _ _ ?_)
  clear hK K
  refine aB fun K hK => ?_
  refine aH ?_
  refine aB fun K hK => ?_
  refine aB fun K hK => Rg ?_
  iterate 3 refine S0 ?_ (e := fun _ h_ => by simp only [sH, ↓sP, sA, tyS, simprocAttr, Int.natCast_nonneg, Int.ofNat_lt, hlt, hgd]; exact AX h_)
  refine HS rfl rfl fun K' hK' => ?_
  simp only [sH, ↓sP, sA, tyS, simprocAttr, Int.natCast_nonneg, Int.ofNat_lt, hlt, hgd]
  refine C1 (rA s[i]) ?_
  rintro u rfl
  refine AX (hK' _ _ ?_)
  clear hK' K'
  refine T2 (hK _ _ _ ?_)
  clear hK K
  refine aJ (b := bS s[i]) rfl (fun hb => ?_) (fun hb => ?_)
  ·
   refine aB fun K hK => Rg ?_
   iterate 7 refine S0 ?_ (e := fun _ h_ => by simp only [sH, ↓sP, sA, tyS, simprocAttr, Int.natCast_nonneg, Int.ofNat_lt, hlt, hgd, List.length_append, List.length_map]; exact AX h_)
   refine T2 (hK _ _ _ ?_)
   clear hK K
   refine aS (T3 ?_)
   clear hK K
   refine AX (hK _ _ _ ?_)
   clear hK K
   refine aL (by kernel_rfl) ?_
   refine TQ (bK i) ?_
   refine ⟨⟨(i + 1, out ++ [s[i]]), hst.plain hlt hb⟩, aQ (by omega) ?_ ?_, ?_⟩
   ·
    simp [aY, upd_at, fin_at, HV.men]
   ·
    simp only [bC, List.map_append]
    exact ⟨rfl, by omega, trivial, trivial⟩
   show s.length - (i + 1) < s.length - i
   omega
  refine aG ?_
  refine T0 (hK _ _ _ ?_)
  clear hK K
  refine aB fun K hK => ?_
  have hp : bS s[i] = false := hb
  clear hb
  have hw1 : IntKind.i64.wrap ((i : Int) + 1) = ((i + 1 : Nat) : Int) := by rw [IntWalk.i64_in _ (by omega)]; rfl
  have hw2 : IntKind.i64.wrap ((i : Int) + 2) = ((i + 2 : Nat) : Int) := by rw [IntWalk.i64_in _ (by omega)]; rfl
  have hw3 : IntKind.i64.wrap (((i + 2 : Nat) : Int) + 1) = ((i + 3 : Nat) : Int) := by rw [IntWalk.i64_in _ (by omega)]; rfl
  have hwd : IntKind.i64.wrap ((s.length : Int) - (i : Int)) = ((s.length - i : Nat) : Int) := by rw [IntWalk.i64_in _ (by omega)]; omega
  refine aB fun K hK => Rg ?_
  iterate 5 refine S0 ?_ (e := fun _ h_ => by simp only [sH, ↓sP, sA, tyS, simprocAttr, Int.natCast_nonneg, Int.ofNat_lt, hlt, hgd, hwd]; exact AX h_)
  refine aF 31 rfl (fun h11_31 => ?_) (fun h11_31 => ?_)
  ·
   iterate 6 refine S0 ?_ (e := fun _ h_ => by simp only [sH, ↓sP, sA, tyS, simprocAttr, Int.natCast_nonneg, Int.ofNat_lt, hlt, hgd, hwd, h11_31]; exact AX h_)
   refine T2 (hK _ _ _ ?_)
   clear hK K
   refine CT rfl ?_
   refine R0 ?_
   refine aD (RT Tryz.results105 ?_)
   have h37 : s[i] ≠ 37 := by rintro h; rw [h] at h11_31; simp at h11_31
   have hn := fA (hst.bad1 hlt hp (.inl h37)) hne
   exact aM [] (.str []) (.bool false) rfl ⟨by rw [hn]; rfl, by rw [hn]; rfl⟩
  iterate 6 refine S0 ?_ (e := fun _ h_ => by simp only [sH, ↓sP, sA, tyS, simprocAttr, Int.natCast_nonneg, Int.ofNat_lt, hlt, hgd, hwd, h11_31]; exact AX h_)
  refine aF 37 rfl (fun h11_37 => ?_) (fun h11_37 => ?_)
  ·
   simp only [h11_37]
   refine T2 (hK _ _ _ ?_)
   clear hK K
   refine CT rfl ?_
   refine R0 ?_
   refine aD (RT Tryz.results105 ?_)
   have hi2 : s.length ≤ i + 2 := by simp at h11_37; omega
   have hn := fA (hst.bad1 hlt hp (.inr hi2)) hne
   exact aM [] (.str []) (.bool false) rfl ⟨by rw [hn]; rfl, by rw [hn]; rfl⟩
  simp only [h11_37]
  refine T2 (hK _ _ _ ?_)
  clear hK K
  refine CF rfl ?_
  refine aG ?_
  refine T0 (hK _ _ _ ?_)
  clear hK K
  have h37 : s[i] = 37 := by
   simp only [bne_eq_false_iff_eq] at h11_31
   exact UInt8.toNat_inj.1 (by show s[i].toNat = 37; omega)
  have hi2 : i + 2 < s.length := by simp at h11_37; omega
  have hi1 : i + 1 < s.length := by omega
  have hg1 : s.getD (i + 1) 0 = s[i + 1] := by simp [hi1]
  have hg2 : s.getD (i + 2) 0 = s[i + 2] := by simp [hi2]
  refine aB fun K hK => DW [(0, [], []), (1, [], []), (2, [], []), (3, [], []), (5, [], []), (6, [], []), (7, [], []), (8, [], []), (4, [], [5, 6, 7, 8]), (9, [], []), (10, [], []), (11, [], [])] [0, 0, 2, 7, 15, 0, 0, 64, 224, 511, 1023, 2047] ?_
  have F := aI @Int.natCast_nonneg (aI @Int.ofNat_lt (aI hw1 (aI hw2 (aI hg1 (aI hg2 (aI hi1 (aI hi2 (aI h11_31 h11_37))))))))
  iterate 8 refine WF ?_
  refine aO (g := none) rfl rfl fun K' hK' => T6 ?_
  refine C1 (aK9 s[i + 1]) ?_
  rintro u rfl
  refine AX (hK' _ _ ?_)
  clear hK' K'
  refine aO (g := none) rfl rfl fun K' hK' => T6 ?_
  refine C1 (aK9 s[i + 2]) ?_
  rintro u rfl
  refine AX (hK' _ _ ?_)
  clear hK' K'
  iterate 2 refine WF ?_
  refine T2 (hK _ _ _ ?_)
  clear hK K
  refine aB fun K hK => ?_
  by_cases hx : valH s[i + 1] < 16
  ·
   by_cases hy : valH s[i + 2] < 16
   ·
    have hx0 : (((valH s[i + 1] : Nat) : Int) == 16) = false := by rw [beq_eq_false_iff_ne]; omega
    have hy0 : (((valH s[i + 2] : Nat) : Int) == 16) = false := by rw [beq_eq_false_iff_ne]; omega
    have e1 : IntKind.i64.wrap (16 * ((valH s[i + 1] : Nat) : Int)) = ((16 * valH s[i + 1] : Nat) : Int) := by rw [IntWalk.i64_in _ (by omega)]; omega
    have e2 : IntKind.i64.wrap (((16 * valH s[i + 1] : Nat) : Int) + ((valH s[i + 2] : Nat) : Int)) = ((16 * valH s[i + 1] + valH s[i + 2] : Nat) : Int) := by rw [IntWalk.i64_in _ (by omega)]; omega
    have e3 : IntKind.u8.wrap ((16 * valH s[i + 1] + valH s[i + 2] : Nat) : Int) = ((byteH s[i + 1] s[i + 2]).toNat : Int) := by rw [IntWalk.u8_in _ (by omega), rB hx hy]
    refine aB fun K hK => Rg ?_
    have F := aI hx0 (aI hy0 (aI e1 (aI e2 (aI e3 (aI h11_31 h11_37)))))
    iterate 12 refine SF ?_
    refine bA (g := some (55, false)) rfl rfl fun K' hK' => T6 ?_
    refine C1 (rA (byteH s[i + 1] s[i + 2])) ?_
    rintro u rfl
    refine AX (hK' _ _ ?_)
    clear hK' K'
    refine SF ?_
    refine T2 (hK _ _ _ ?_)
    clear hK K
    refine aJ (b := bS (byteH s[i + 1] s[i + 2])) rfl (fun hb => ?_) (fun hb => ?_)
    ·
     refine R0 ?_
     refine aD (RT Tryz.results105 ?_)
     have hn := fA (hst.bad2 hi2 h37 (by simp [okH, hx, hy, hb])) hne
     exact aM [] (.str []) (.bool false) rfl ⟨by rw [hn]; rfl, by rw [hn]; rfl⟩
    refine aG ?_
    refine T0 (hK _ _ _ ?_)
    clear hK K
    refine aB fun K hK => Rg ?_
    have F := aI @Int.natCast_nonneg (aI @List.length_append.{0} (aI @List.length_map.{0,0} (aI e1 (aI e2 (aI e3 (aI h11_31 h11_37))))))
    iterate 9 refine SF ?_
    refine T2 (hK _ _ _ ?_)
    clear hK K
    refine aL (by kernel_rfl) ?_
    refine TQ hw2 ?_
    refine AX (hK _ _ _ ?_)
    clear hK K
    refine aL (by kernel_rfl) ?_
    refine TQ hw3 ?_
    refine ⟨⟨(i + 3, out ++ [byteH s[i + 1] s[i + 2]]), hst.esc hi2 h37 (by simp [okH, hx, hy, hb])⟩, aQ (by omega) ?_ ?_, ?_⟩
    ·
     simp [aY, upd_at, fin_at, HV.men]
    ·
     simp only [bC, List.map_append]
     exact ⟨rfl, by omega, trivial, trivial⟩
    show s.length - (i + 3) < s.length - i
    omega
   have hx0 : (((valH s[i + 1] : Nat) : Int) == 16) = false := by rw [beq_eq_false_iff_ne]; omega
   have hy0 : (((valH s[i + 2] : Nat) : Int) == 16) = true := by have := aV4 s[i + 2]; rw [beq_iff_eq]; omega
   refine aB fun K hK => Rg ?_
   have F := aI hx0 (aI hy0 (aI h11_31 h11_37))
   iterate 14 refine SF ?_
   refine T2 (hK _ _ _ ?_)
   clear hK K
   refine CT rfl ?_
   refine R0 ?_
   refine aD (RT Tryz.results105 ?_)
   have hn := fA (hst.bad2 hi2 h37 (by simp [okH, hx, hy])) hne
   exact aM [] (.str []) (.bool false) rfl ⟨by rw [hn]; rfl, by rw [hn]; rfl⟩
  have hx0 : (((valH s[i + 1] : Nat) : Int) == 16) = true := by have := aV4 s[i + 1]; rw [beq_iff_eq]; omega
  refine aB fun K hK => Rg ?_
  have F := aI hx0 (aI h11_31 h11_37)
  iterate 14 refine SF ?_
  refine T2 (hK _ _ _ ?_)
  clear hK K
  refine CT rfl ?_
  refine R0 ?_
  refine aD (RT Tryz.results105 ?_)
  have hn := fA (hst.bad2 hi2 h37 (by simp [okH, hx])) hne
  exact aM [] (.str []) (.bool false) rfl ⟨by rw [hn]; rfl, by rw [hn]; rfl⟩
 refine aS (T3 ?_)
 clear hK K
 refine AX (hK _ _ _ ?_)
 clear hK K
 have hei : i = s.length := by simp at hb; omega
 have hfin := hst.fin hei hne
 have ho0 : out ≠ [] := fun h => hne0 (List.eq_nil_of_length_eq_zero (by have := hst.2.2.1 h; omega))
 rw [if_neg ho0] at hfin
 refine cM [32] (bF (fr2 := fin [(4, .c (.slc (out.map cU)))]) (ob2 := fob []) (nx2 := 200) (aQ (by omega) (by simp [aY, cQ, fin_at, finA_at, upd_at, fob_at, HV.close, HV.closeL, CV.denil, CV.denilL, dX, HV.men, HV.menL, HV.norm, HV.toC, HV.toCL]) (by simp [bC, cR, fob_at, upd_at, none0_at, bT, HO.close, HV.close, HV.closeL, HO.men, HV.men, HV.menL, HV.norm, HV.toC, HV.toCL])) ?_)
 refine aB fun K hK => Rg ?_
 have F := aI @bytesC_map @List.length_map.{0,0}
 iterate 4 refine SF ?_
 refine T2 (hK _ _ _ ?_)
 clear hK K
 refine aD (RT Tryz.results105 ?_)
 exact aM [] (.str out) (.bool true) rfl ⟨by rw [hfin]; rfl, by rw [hfin]; rfl⟩

end Go.Proofs.YtenbfeemmpjdhaaGreatDoor

namespace Go.Proofs.YtenbfeemmpjdhaaGreatDoor
open Go Go.Hl Go.Pl
set_option maxRecDepth 10000
set_option maxHeartbeats 16000000

theorem bW6 {α : Type} (l : List (List UInt8)) (j : Nat) (p : List UInt8) (r : List (List UInt8)) (h : l.drop j = p :: r) : ∃ hj : j < (l.map fun p => [CV.slc (p.map u8)]).length, (l.map fun p => [CV.slc (p.map u8)])[j] = [CV.slc (p.map u8)] ∧ l.drop (j + 1) = r := by
 have hj : j < l.length := by
  rcases Nat.lt_or_ge j l.length with h' | h'
  ·
   exact h'
  rw [List.drop_eq_nil_of_le h'] at h; cases h
 have h1 := List.drop_eq_getElem_cons hj
 rw [h1] at h
 cases h
 exact ⟨by simpa using hj, by simp, rfl⟩

theorem aQ5 (l : List UInt8) (c : UInt8) (hl : l.length < 2 ^ 40) : aP4 Tryz.prog 157 [(30, .slc [u8 c]), (30, .slc (l.map u8)), (3, .int .i64 0)] ((aT c l).map fun p => [.slc (p.map u8)]) := by
 refine bA1 Tryz.func157 rfl (by kernel_rfl) (Nat.le_of_ble_eq_true rfl) rfl fun L J hS hY => ?_
 have e0 : jB [(30, CV.slc [u8 c]), (30, .slc (l.map u8)), (3, .int .i64 0)] = fob [(0, .box 30 (.c (.slc [u8 c]))), (1, .box 30 (.c (.slc (l.map u8)))), (2, .box 3 (.c (.int .i64 0)))] := by
  funext i
  match i with
  | 0 => rfl
  | 1 => rfl
  | 2 => rfl
  | i + 3 => simp [jB, fob, upd]
 have e1 : gI (List.range [((30 : Nat), CV.slc [u8 c]), (30, .slc (l.map u8)), (3, .int .i64 0)].length) = [.ptr 0 0, .ptr 1 0, .ptr 2 0] := rfl
 rw [e0, e1]
 refine gS fun K hK => ?_
 refine gS fun K1 hK1 => vB hS rfl (aL (by kernel_rfl) ?_)
 simp only [sR, simprocAttr]
 have F := rI
 iterate 3 refine SF ?_
 simp only [sE, ↓reduceIte, simprocAttr, rI]
 refine hK1 _ _ _ _ _ ?_
 clear hK1 K1
 refine pN (b := false) rfl (fun hb => by cases hb) (fun _ => ?_)
 refine vC ?_
 simp only [sE, ↓reduceIte, simprocAttr, rI]
 refine hK _ _ _ _ _ ?_
 clear hK K
 refine gS fun K hK => ?_
 refine yC ?_
 refine bJ0 (α := {y : Nat × List UInt8 // (aT c l).drop y.1 = aT c y.2 ∧ y.2.length ≤ l.length}) hS (fun y => (fin [(0, .opq (.func (.yield L) #[] #[])), (1, .ptr 0 0), (2, .ptr 1 0), (3, .ptr 2 0)], fob [(0, .box 30 (.c (.slc [u8 c]))), (1, .box 30 (.c (.slc (y.1.2.map u8)))), (2, .box 3 (.c (.int .i64 0)))])) (fun y => y.1.1) 100 (fun y => y.1.2.length) ⟨(0, l), rfl, Nat.le_refl _⟩ rfl (fF) rfl ?_
 rintro ⟨⟨j, rest⟩, hsp, hle⟩
 simp only at hsp hle
 refine yC ?_
 refine gS fun K1 hK1 => vB hS rfl (aL (by kernel_rfl) ?_)
 simp only [sR, simprocAttr]
 iterate 2 refine SF ?_
 have F := aI rI @denilL_u8
 refine HS rfl rfl fun K' hK' => T6 ?_
 refine C2 (yM rest c) ?_
 rintro u rfl
 refine AX (hK' _ _ ?_)
 clear hK' K'
 have F := rI
 refine SF ?_
 simp only [sE, ↓reduceIte, simprocAttr, rI]
 refine hK1 _ _ _ _ _ ?_
 clear hK1 K1
 refine gS fun K1 hK1 => ?_
 refine gS fun K2 hK2 => vB hS rfl (aL (by kernel_rfl) ?_)
 simp only [sR, simprocAttr]
 iterate 2 refine SF ?_
 simp only [sE, ↓reduceIte, simprocAttr, rI]
 refine hK2 _ _ _ _ _ ?_
 clear hK2 K2
 refine pN (b := decide (dT rest c < 0)) rfl (fun hb => ?_) (fun hb => ?_)
 ·
  -- the last piece
  have hn : dT rest c < 0 := by simpa using hb
  rw [pW hn] at hsp
  obtain ⟨hj, hx, hd⟩ := bW6 (α := Nat) _ _ _ _ hsp
  refine bI9 ?_
  simp only [sE, ↓reduceIte, simprocAttr, rI]
  clear hK1 K1
  refine hK _ _ _ _ _ ?_
  clear hK K
  have htk : List.take rest.length (rest.map u8) = rest.map u8 := List.take_of_length_le (by simp)
  refine yE (l := L) 7 hS hY rfl (by kernel_rfl) (by decide) ?_
  simp only [sR, List.range', simprocAttr]
  have F := aI rI @List.length_map.{0,0}
  iterate 6 refine SF ?_
  refine S0 ?_ (e := fun _ h_ => by simp only [sH, ↓sP, sA, tyS, simprocAttr, rI, htk, List.length_map, ↓hslice3.eq_def, Int.natCast_nonneg, bG, List.drop_zero, Nat.sub_zero, Int.le_refl, Int.toNat_zero]; exact AX h_)
  rw [hlex]
  refine ⟨_, _, _, hj, rfl, rfl, rfl, rfl, rfl, ?_, ?_, ?_⟩
  ·
   rw [hx]; rfl
  ·
   simp only [sR, List.range', simprocAttr]
   rw [hlex]
   refine ⟨by simp, fun _ => ?_⟩
   have := List.drop_eq_nil_iff.1 hd
   simp only [List.length_map] at hj ⊢
   omega
  simp only [sR, List.range', simprocAttr]
  rw [hlex]
  exact ⟨by simp, fun h => by cases h⟩
 -- a piece
 have hn : ¬ dT rest c < 0 := by simpa using hb
 obtain ⟨k, hk, hkl, hsp2⟩ := fP hn
 rw [hk]
 rw [hsp2] at hsp
 obtain ⟨hj, hx, hd⟩ := bW6 (α := Nat) _ _ _ _ hsp
 have hkm : min k rest.length = k := by omega
 have ek : List.take k (rest.map u8) = (rest.take k).map u8 := List.map_take.symm
 have htk : List.take k ((rest.take k).map u8) = (rest.take k).map u8 := List.take_of_length_le (by simp; omega)
 have hw1 : IntKind.i64.wrap ((k : Int) + 1) = ((k + 1 : Nat) : Int) := by rw [IntWalk.i64_in _ (by omega)]; rfl
 have hkl1 : k + 1 ≤ rest.length := hkl
 have edr : List.take (rest.length - (k + 1)) (List.drop (k + 1) (rest.map u8)) = (rest.drop (k + 1)).map u8 := by rw [List.map_drop, List.take_of_length_le (by simp)]
 refine vC ?_
 simp only [sE, ↓reduceIte, simprocAttr, rI]
 refine hK1 _ _ _ _ _ ?_
 clear hK1 K1
 refine gS fun K1 hK1 => vB hS rfl (aL (by kernel_rfl) ?_)
 simp only [sR, simprocAttr]
 iterate 6 refine S0 ?_ (e := fun _ h_ => by simp only [sH, ↓sP, sA, tyS, simprocAttr, rI, ek, List.length_map, Int.natCast_nonneg, bG, Int.add_zero, Int.ofNat_le, Nat.le_of_lt hkl, List.drop_zero, Nat.sub_zero, show IntKind.i64.wrap (k : Int) = (k : Int) from IntWalk.i64_in _ (by omega)]; exact AX h_)
 simp only [sE, ↓reduceIte, simprocAttr, rI]
 refine hK1 _ _ _ _ _ ?_
 clear hK1 K1
 refine gS fun K1 hK1 => ?_
 refine gS fun K2 hK2 => yE (l := L) 7 hS hY rfl (by kernel_rfl) (by decide) ?_
 simp only [sR, List.range', simprocAttr]
 have F := aI rI (aI @List.length_map.{0,0} (aI @List.length_take.{0} hkm))
 iterate 6 refine SF ?_
 refine S0 ?_ (e := fun _ h_ => by simp only [sH, ↓sP, sA, tyS, simprocAttr, rI, htk, List.length_map, List.length_take, hkm, ↓hslice3.eq_def, Int.natCast_nonneg, bG, List.drop_zero, Nat.sub_zero, Int.le_refl, Int.toNat_zero]; exact AX h_)
 rw [hlex]
 refine ⟨_, _, _, hj, rfl, rfl, rfl, rfl, rfl, ?_, ?_, ?_⟩
 ·
  rw [hx]; rfl
 ·
  simp only [sR, List.range', simprocAttr]
  have F := rI
  refine SF ?_
  simp only [sE, ↓reduceIte, simprocAttr, rI]
  refine hK2 _ _ _ _ _ ?_
  clear hK2 K2
  refine pN (b := false) rfl (fun hb => by cases hb) (fun _ => ?_)
  refine vC ?_
  simp only [sE, ↓reduceIte, simprocAttr, rI]
  refine hK1 _ _ _ _ _ ?_
  clear hK1 K1
  refine vB hS rfl (aL (by kernel_rfl) ?_)
  simp only [sR, simprocAttr]
  have F := aI rI (aI edr (aI hw1 (aI @List.length_map.{0,0} (aI @Int.natCast_nonneg (aI @bG (aI @Int.ofNat_le (aI hkl1 @denilL_u8)))))))
  iterate 7 refine SF ?_
  simp only [sE, ↓reduceIte, simprocAttr, rI]
  refine ⟨⟨(j + 1, rest.drop (k + 1)), hd, by simp; omega⟩, fF, trivial, rfl, ?_⟩
  show (rest.drop (k + 1)).length < rest.length
  simp; omega
 simp only [sR, List.range', simprocAttr]
 have F := rI
 refine SF ?_
 simp only [sE, ↓reduceIte, simprocAttr, rI]
 refine hK2 _ _ _ _ _ ?_
 clear hK2 K2
 refine pN (b := true) rfl (fun _ => ?_) (fun hb => by cases hb)
 refine bR0 ?_
 simp only [sE, ↓reduceIte, simprocAttr, rI]
 exact ⟨by simp, fun h => by cases h⟩
end Go.Proofs.YtenbfeemmpjdhaaGreatDoor

namespace Go.Proofs.YtenbfeemmpjdhaaGreatDoor
open Go Go.Hl Go.Pl
set_option maxRecDepth 10000
set_option maxHeartbeats 16000000

theorem cA5 (s : aK) (hl : s.length < 2 ^ 40) : dF Tryz.prog 100 [.str s] (fun u v => u = .str ((unW s).getD []) ∧ v = .bool (unW s).isSome) := by
 refine FW Tryz.func100 ?_
 refine R0 ?_
 refine aB fun K hK => ?_
 refine R0 ?_
 refine aJ (b := s == [126]) rfl (fun hb => ?_) (fun hb => ?_)
 ·
  refine R0 ?_
  refine aD (RT Tryz.results100 ?_)
  have hs : s = [126] := by simpa using hb
  subst hs
  exact aM [] (.str []) (.bool true) rfl ⟨rfl, rfl⟩
 refine aG ?_
 refine T0 (hK _ _ _ ?_)
 clear hK K
 have hne : s ≠ [126] := by simpa using hb
 clear hb
 refine R0 ?_
 refine aB fun K hK => ?_
 refine R0 ?_
 refine aH ?_
 refine fE 4 0 5 1 rfl rfl rfl rfl ?_
 refine aU (α := {y : Nat × aK // UnSt s y.1 y.2}) (fun y => (fin [(0, .c (.str s)), (4, .own 24 y.1.2.length), (5, .c (.int .i64 y.1.1))], fob [(24, .row 5 1 (y.1.2.map cU))])) 100 (fun y => s.length - y.1.1) ⟨(0, []), UnSt.init s⟩ (fF) ?_
 rintro ⟨⟨i, out⟩, hst⟩
 simp only at hst
 have hi := hst.1
 have ho := hst.2.2.2
 refine aB fun K hK => ?_
 refine aB fun K hK => Rg ?_
 iterate 4 refine S0 ?_
 refine T2 (hK _ _ _ ?_)
 clear hK K
 refine aJ (b := decide ((i : Int) < s.length)) rfl (fun hb => ?_) (fun hb => ?_)
 ·
  have hlt : i < s.length := by simpa using hb
  clear hb
  have hgd : s.getD i 0 = s[i] := by simp [hlt]
  refine aG ?_
  refine T0 (hK _ _ _ ?_)
  clear hK K
  refine aB fun K hK => ?_
  refine aH ?_
  refine aB fun K hK => ?_
  refine aB fun K hK => Rg ?_
  iterate 3 refine S0 ?_ (e := fun _ h_ => by simp only [sH, ↓sP, sA, tyS, simprocAttr, Int.natCast_nonneg, Int.ofNat_lt, hlt, hgd]; exact AX h_)
  refine HS rfl rfl fun K' hK' => ?_
  simp only [sH, ↓sP, sA, tyS, simprocAttr, Int.natCast_nonneg, Int.ofNat_lt, hlt, hgd]
  refine C1 (pV s[i]) ?_
  rintro u rfl
  refine AX (hK' _ _ ?_)
  clear hK' K'
  refine T2 (hK _ _ _ ?_)
  clear hK K
  refine aJ (b := bS s[i]) rfl (fun hb => ?_) (fun hb => ?_)
  ·
   refine aB fun K hK => Rg ?_
   iterate 7 refine S0 ?_ (e := fun _ h_ => by simp only [sH, ↓sP, sA, tyS, simprocAttr, Int.natCast_nonneg, Int.ofNat_lt, hlt, hgd, List.length_append, List.length_map]; exact AX h_)
   refine T2 (hK _ _ _ ?_)
   clear hK K
   refine aS (T3 ?_)
   clear hK K
   refine AX (hK _ _ _ ?_)
   clear hK K
   refine aL (by kernel_rfl) ?_
   refine TQ (bK i) ?_
   refine ⟨⟨(i + 1, out ++ [s[i]]), hst.plain hlt hb⟩, aQ (by omega) ?_ ?_, ?_⟩
   ·
    simp [aY, upd_at, fin_at, HV.men]
   ·
    simp only [bC, List.map_append]
    exact ⟨rfl, by omega, trivial, trivial⟩
   show s.length - (i + 1) < s.length - i
   omega
  refine aG ?_
  refine T0 (hK _ _ _ ?_)
  clear hK K
  refine aB fun K hK => ?_
  have hp : bS s[i] = false := hb
  clear hb
  have hw1 : IntKind.i64.wrap ((i : Int) + 1) = ((i + 1 : Nat) : Int) := by rw [IntWalk.i64_in _ (by omega)]; rfl
  have hw2 : IntKind.i64.wrap ((i : Int) + 2) = ((i + 2 : Nat) : Int) := by rw [IntWalk.i64_in _ (by omega)]; rfl
  have hw3 : IntKind.i64.wrap (((i + 2 : Nat) : Int) + 1) = ((i + 3 : Nat) : Int) := by rw [IntWalk.i64_in _ (by omega)]; rfl
  refine aB fun K hK => Rg ?_
  iterate 5 refine S0 ?_ (e := fun _ h_ => by simp only [sH, ↓sP, sA, tyS, simprocAttr, Int.natCast_nonneg, Int.ofNat_lt, hlt, hgd, hw2]; exact AX h_)
  refine aF 29 rfl (fun h9_29 => ?_) (fun h9_29 => ?_)
  ·
   iterate 6 refine S0 ?_ (e := fun _ h_ => by simp only [sH, ↓sP, sA, tyS, simprocAttr, Int.natCast_nonneg, Int.ofNat_lt, hlt, hgd, hw2, h9_29]; exact AX h_)
   refine T2 (hK _ _ _ ?_)
   clear hK K
   refine CT rfl ?_
   refine R0 ?_
   refine aD (RT Tryz.results100 ?_)
   have h37 : s[i] ≠ 37 := by rintro h; rw [h] at h9_29; simp at h9_29
   have hn := fA (hst.bad1 hlt hp (.inl h37)) hne
   exact aM [] (.str []) (.bool false) rfl ⟨by rw [hn]; rfl, by rw [hn]; rfl⟩
  iterate 6 refine S0 ?_ (e := fun _ h_ => by simp only [sH, ↓sP, sA, tyS, simprocAttr, Int.natCast_nonneg, Int.ofNat_lt, hlt, hgd, hw2, h9_29]; exact AX h_)
  refine aF 35 rfl (fun h9_35 => ?_) (fun h9_35 => ?_)
  ·
   simp only [h9_35]
   refine T2 (hK _ _ _ ?_)
   clear hK K
   refine CT rfl ?_
   refine R0 ?_
   refine aD (RT Tryz.results100 ?_)
   have hi2 : s.length ≤ i + 2 := by simp at h9_35; omega
   have hn := fA (hst.bad1 hlt hp (.inr hi2)) hne
   exact aM [] (.str []) (.bool false) rfl ⟨by rw [hn]; rfl, by rw [hn]; rfl⟩
  simp only [h9_35]
  refine T2 (hK _ _ _ ?_)
  clear hK K
  refine CF rfl ?_
  refine aG ?_
  refine T0 (hK _ _ _ ?_)
  clear hK K
  have h37 : s[i] = 37 := by
   simp only [bne_eq_false_iff_eq] at h9_29
   exact UInt8.toNat_inj.1 (by show s[i].toNat = 37; omega)
  have hi2 : i + 2 < s.length := by simp at h9_35; omega
  have hi1 : i + 1 < s.length := by omega
  have hg1 : s.getD (i + 1) 0 = s[i + 1] := by simp [hi1]
  have hg2 : s.getD (i + 2) 0 = s[i + 2] := by simp [hi2]
  refine aB fun K hK => DW [(0, [], []), (1, [], []), (2, [], []), (3, [], []), (5, [], []), (6, [], []), (7, [], []), (8, [], []), (4, [], [5, 6, 7, 8]), (9, [], []), (10, [], []), (11, [], [])] [0, 0, 2, 7, 15, 0, 0, 64, 224, 511, 1023, 2047] ?_
  have F := aI @Int.natCast_nonneg (aI @Int.ofNat_lt (aI hw1 (aI hw2 (aI hg1 (aI hg2 (aI hi1 (aI hi2 (aI h9_29 h9_35))))))))
  iterate 8 refine WF ?_
  refine aO (g := none) rfl rfl fun K' hK' => T6 ?_
  refine C2 (pZ bR5 s[i + 1]) ?_
  rintro u rfl
  refine AX (hK' _ _ ?_)
  clear hK' K'
  refine aO (g := none) rfl rfl fun K' hK' => T6 ?_
  refine C2 (pZ bR5 s[i + 2]) ?_
  rintro u rfl
  refine AX (hK' _ _ ?_)
  clear hK' K'
  iterate 2 refine WF ?_
  refine T2 (hK _ _ _ ?_)
  clear hK K
  refine aB fun K hK => ?_
  by_cases hx : valH s[i + 1] < 16
  ·
   by_cases hy : valH s[i + 2] < 16
   ·
    rw [pX, pX, if_pos hx, if_pos hy]
    have hx0 : decide (((valH s[i + 1] : Nat) : Int) < 0) = false := by simp
    have hy0 : decide (((valH s[i + 2] : Nat) : Int) < 0) = false := by simp
    have e1 : IntKind.i64.wrap (16 * ((valH s[i + 1] : Nat) : Int)) = ((16 * valH s[i + 1] : Nat) : Int) := by rw [IntWalk.i64_in _ (by omega)]; omega
    have e2 : IntKind.i64.wrap (((16 * valH s[i + 1] : Nat) : Int) + ((valH s[i + 2] : Nat) : Int)) = ((16 * valH s[i + 1] + valH s[i + 2] : Nat) : Int) := by rw [IntWalk.i64_in _ (by omega)]; omega
    have e3 : IntKind.u8.wrap ((16 * valH s[i + 1] + valH s[i + 2] : Nat) : Int) = ((byteH s[i + 1] s[i + 2]).toNat : Int) := by rw [IntWalk.u8_in _ (by omega), rB hx hy]
    refine aB fun K hK => Rg ?_
    have F := aI hx0 (aI hy0 (aI e1 (aI e2 (aI e3 (aI h9_29 h9_35)))))
    iterate 12 refine SF ?_
    refine bA (g := some (53, false)) rfl rfl fun K' hK' => T6 ?_
    refine C1 (pV (byteH s[i + 1] s[i + 2])) ?_
    rintro u rfl
    refine AX (hK' _ _ ?_)
    clear hK' K'
    refine SF ?_
    refine T2 (hK _ _ _ ?_)
    clear hK K
    refine aJ (b := bS (byteH s[i + 1] s[i + 2])) rfl (fun hb => ?_) (fun hb => ?_)
    ·
     refine R0 ?_
     refine aD (RT Tryz.results100 ?_)
     have hn := fA (hst.bad2 hi2 h37 (by simp [okH, hx, hy, hb])) hne
     exact aM [] (.str []) (.bool false) rfl ⟨by rw [hn]; rfl, by rw [hn]; rfl⟩
    refine aG ?_
    refine T0 (hK _ _ _ ?_)
    clear hK K
    refine aB fun K hK => Rg ?_
    have F := aI @Int.natCast_nonneg (aI @List.length_append.{0} (aI @List.length_map.{0,0} (aI e1 (aI e2 (aI e3 (aI h9_29 h9_35))))))
    iterate 9 refine SF ?_
    refine T2 (hK _ _ _ ?_)
    clear hK K
    refine aL (by kernel_rfl) ?_
    refine TQ hw2 ?_
    refine AX (hK _ _ _ ?_)
    clear hK K
    refine aL (by kernel_rfl) ?_
    refine TQ hw3 ?_
    refine ⟨⟨(i + 3, out ++ [byteH s[i + 1] s[i + 2]]), hst.esc hi2 h37 (by simp [okH, hx, hy, hb])⟩, aQ (by omega) ?_ ?_, ?_⟩
    ·
     simp [aY, upd_at, fin_at, HV.men]
    ·
     simp only [bC, List.map_append]
     exact ⟨rfl, by omega, trivial, trivial⟩
    show s.length - (i + 3) < s.length - i
    omega
   rw [pX, pX, if_pos hx, if_neg hy]
   have hx0 : decide (((valH s[i + 1] : Nat) : Int) < 0) = false := by simp
   refine aB fun K hK => Rg ?_
   have F := aI hx0 (aI h9_29 h9_35)
   iterate 14 refine SF ?_
   refine T2 (hK _ _ _ ?_)
   clear hK K
   refine CT rfl ?_
   refine R0 ?_
   refine aD (RT Tryz.results100 ?_)
   have hn := fA (hst.bad2 hi2 h37 (by simp [okH, hx, hy])) hne
   exact aM [] (.str []) (.bool false) rfl ⟨by rw [hn]; rfl, by rw [hn]; rfl⟩
  rw [pX, if_neg hx]
  refine aB fun K hK => Rg ?_
  have F := aI h9_29 h9_35
  iterate 14 refine SF ?_
  refine T2 (hK _ _ _ ?_)
  clear hK K
  refine CT rfl ?_
  refine R0 ?_
  refine aD (RT Tryz.results100 ?_)
  have hn := fA (hst.bad2 hi2 h37 (by simp [okH, hx])) hne
  exact aM [] (.str []) (.bool false) rfl ⟨by rw [hn]; rfl, by rw [hn]; rfl⟩
 refine aS (T3 ?_)
 clear hK K
 refine AX (hK _ _ _ ?_)
 clear hK K
 have hei : i = s.length := by simp at hb; omega
 have hfin := hst.fin hei hne
 refine cM [24] (bF (fr2 := fin [(4, .c (.slc (out.map cU)))]) (ob2 := fob []) (nx2 := 200) (aQ (by omega) (by simp [aY, cQ, fin_at, finA_at, upd_at, fob_at, HV.close, HV.closeL, CV.denil, CV.denilL, dX, HV.men, HV.menL, HV.norm, HV.toC, HV.toCL]) (by simp [bC, cR, fob_at, upd_at, none0_at, bT, HO.close, HV.close, HV.closeL, HO.men, HV.men, HV.menL, HV.norm, HV.toC, HV.toCL])) ?_)
 refine aB fun K hK => Rg ?_
 have F := aI @bytesC_map @List.length_map.{0,0}
 iterate 7 refine SF ?_
 refine T2 (hK _ _ _ ?_)
 clear hK K
 refine aD (RT Tryz.results100 ?_)
 refine aM [] (.str out) (.bool (decide (0 < (out.length : Int)))) rfl ?_
 rw [hfin]
 by_cases ho0 : out = []
 ·
  subst ho0; simp
 have : 0 < out.length := List.length_pos_iff.2 ho0
 simp [ho0, this]

end Go.Proofs.YtenbfeemmpjdhaaGreatDoor
