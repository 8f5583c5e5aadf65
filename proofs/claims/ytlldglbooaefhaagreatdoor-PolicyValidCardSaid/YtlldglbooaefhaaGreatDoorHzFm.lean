/- strconv.FormatInt at base 10, at this seat: from the shelf. By an AI agent. -/
import Derived.Test.YtlldglbooaefhaaGreatDoorHzU1
import Derived.Test.YtlldglbooaefhaaGreatDoorHzTn
import Derived.Test.YtlldglbooaefhaaGreatDoorHzSb
import Derived.Test.YtlldglbooaefhaaGreatDoorHzT7
import Derived.Shelf.LaysM
import Derived.Shelf.Strconv.Itoa4
import Derived.Test.YtlldglbooaefhaaGreatDoorPl02e
import Derived.Test.YtlldglbooaefhaaGreatDoorHlTlaw
import Derived.Test.YtlldglbooaefhaaGreatDoorPl11v
set_option linter.unusedSimpArgs false
set_option linter.unusedVariables false
set_option linter.defProp false
namespace Go.Proofs.YtlldglbooaefhaaGreatDoor
open Go Go.Hl Go.Pl
set_option maxRecDepth 10000
set_option maxHeartbeats 16000000

theorem gQ {av : List Nat} {ob : Ob} {nid : Nat} {K : HV → Ob → Prop} {ls : List (List aG)} {a : Nat} (w : aG) {x : Int} {id idh ix : Nat} (hl : ls.length < 2 ^ 40) (h1 : ob id = some (.box 94 (.c (rdr ls a)))) (h2 : ob idh = some (.hrow 176 1 [.ptr ix 0])) (h3 : ob ix = some (.box 2 (.c (.int .i64 x))))
  (hn : [id, idh, ix].Nodup) (hav : ∀ s ∈ [id, idh, ix], s ∉ av) (hfree : Free4 ob nid)
  (hK : K (.c (.bool (fL ls a w).isSome)) (upd (upd (upd ob id (some (.box 94 (.c (rdr ls (if (fL ls a w).isSome then a + 1 else a)))))) idh (some (.hrow 176 1 [.ptr ix 0]))) ix (some (.box 2 (.c (.int .i64 ((fL ls a w).getD x))))))) :
  HCall Tryz.prog av 130 [.ptr id 0, .c (.str w), .own idh 1] ob nid K := by
 refine lL [id, idh, ix] (bN3 ls a w x hl) rfl ⟨h1, h2, h3, trivial⟩ hn hav hfree (by simp [gK, HO.men, HV.men, HV.menL]) (by simp [HV.menL, HV.men]) ?_
 rintro r os' ⟨rfl, rfl⟩
 exact hK
theorem aR5 {av : List Nat} {ob : Ob} {nid : Nat} {K : HV → Ob → Prop} {ls : List (List aG)} {a : Nat} (w : aG) {x y : Int} {id idh ix iy : Nat} (hl : ls.length < 2 ^ 40) (h1 : ob id = some (.box 94 (.c (rdr ls a)))) (h2 : ob idh = some (.hrow 176 1 [.ptr ix 0, .ptr iy 0])) (h3 : ob ix = some (.box 2 (.c (.int .i64 x)))) (h4 : ob iy = some (.box 2 (.c (.int .i64 y))))
  (hn : [id, idh, ix, iy].Nodup) (hav : ∀ s ∈ [id, idh, ix, iy], s ∉ av) (hfree : Free4 ob nid)
  (hK : ∀ x' y', (∀ n m, lV ls a w = some (n, m) → x' = n ∧ y' = m) → K (.c (.bool (lV ls a w).isSome)) (upd (upd (upd (upd ob id (some (.box 94 (.c (rdr ls (if (lV ls a w).isSome then a + 1 else a)))))) idh (some (.hrow 176 1 [.ptr ix 0, .ptr iy 0]))) ix (some (.box 2 (.c (.int .i64 x'))))) iy (some (.box 2 (.c (.int .i64 y')))))) :
  HCall Tryz.prog av 130 [.ptr id 0, .c (.str w), .own idh 2] ob nid K := by
 refine lL [id, idh, ix, iy] (bN4 ls a w x y hl) rfl ⟨h1, h2, h3, h4, trivial⟩ hn hav hfree (by simp [gK, HO.men, HV.men, HV.menL]) (by simp [HV.menL, HV.men]) ?_
 rintro r os' ⟨rfl, x', y', rfl, h⟩
 exact hK x' y' h

theorem aL8 (ls : List (List aG)) (a : Nat) (ha : ls.length < 2 ^ 40) : sZ Tryz.prog 128 94 (rdr ls a) [] (fun u x v' => u = ((jO ls a).getD rq0).cv ∧ x = .bool (jO ls a).isSome ∧ v' = rdr ls (if (jO ls a).isSome then a + 1 else a)) := by
 refine bY Tryz.func128 rfl (by kernel_rfl) (dW _ _ _) (Nat.le_of_ble_eq_true rfl) ?_
 refine R0 ?_
 refine R0 ?_
 refine aB fun K hK => ?_
 refine aK ?_
 refine aB fun K hK => bD (by kernel_rfl) ?_
 simp only [sR, simprocAttr]
 refine SG0 ?_
 refine bU (g := none) rfl rfl fun K' hK' => ?_
 simp only [sN, ↓hopH.eq_def, sH, ↓sP, sA, tyS, simprocAttr]
 refine AX (hK' _ _ ?_)
 clear hK' K'
 refine bI (g := none) rfl rfl fun K' hK' => T5 ?_
 refine gQ dA ha rfl rfl rfl (by decide) (by simp) ⟨rfl, rfl, rfl, rfl⟩ ?_
 refine AX (hK' _ _ ?_)
 clear hK' K'
 refine SG0 ?_
 refine T2 (hK _ _ _ ?_)
 clear hK K
 refine aH (b := (fL ls a dA).isSome) rfl (fun hb => ?_) (fun hb => ?_)
 ·
  obtain ⟨n, hn⟩ := Option.isSome_iff_exists.1 hb
  obtain ⟨hl, hl1, hl2, hl3⟩ := iW hn
  have hreq : jO ls a = some ⟨1, n, 0, []⟩ := by rw [fO hl, xF hl1 hl2, hl3]; rfl
  simp only [hn, Option.isSome_some, if_true, Option.getD_some]
  refine aB fun K hK => Rg ?_
  iterate 4 refine S0 ?_
  refine T2 (hK _ _ _ ?_)
  clear hK K
  refine aE (RT Tryz.results128 ?_)
  rw [hreq]
  exact bO [] (Rq.cv ⟨1, n, 0, []⟩) (.bool true) (rdr ls (a + 1)) rfl rfl (by simp [HV.close, HV.closeL, rdr, CV.denil, CV.denilL, aP, HV.norm, HV.toC, HV.toCL]) (by simp) ⟨rfl, rfl, rfl⟩
 have hwReleased : fL ls a dA = none := by simpa using hb
 simp only [hwReleased, Option.isSome_none, Bool.false_eq_true, if_false, Option.getD_none]
 clear hb
 refine aB fun K hK => Rg ?_
 refine S0 ?_
 refine HS rfl rfl fun K' hK' => T5 ?_
 refine eQ (args := [_, _]) (zL ls a 2 dT (by omega)) rfl (by simp) ⟨rfl, rfl, rfl, rfl⟩ ?_
 rintro u v' ⟨rfl, rfl⟩
 refine AX (hK' _ _ ?_)
 clear hK' K'
 refine S0 ?_
 refine T2 (hK _ _ _ ?_)
 clear hK K
 refine aH (b := isV ls a dT 2) rfl (fun hb => ?_) (fun hb => ?_)
 ·
  obtain ⟨hl, hl1, hl2⟩ := fN hb
  have hreq : jO ls a = some ⟨2, 0, 0, wd ls[a] 1⟩ := by rw [fO hl, aD3 hl1 hl2]
  have hw : IntKind.i64.wrap ((a : Int) + 1) = ((a + 1 : Nat) : Int) := IntWalk.i64_in _ (by omega)
  have hw2 : IntKind.i64.wrap (((a + 1 : Nat) : Int) - 1) = (a : Int) := by rw [IntWalk.i64_in _ (by omega)]; omega
  have h1 : 1 < ls[a].length := by omega
  refine aB fun K hK => Rg ?_
  iterate 8 refine S0 ?_ (e := fun _ h_ => by simp only [sH, ↓sP, sA, tyS, simprocAttr, rdr, hw]; exact AX h_)
  refine T2 (hK _ _ _ ?_)
  clear hK K
  refine aB fun K hK => DW [(0, [], []), (1, [], []), (2, [], []), (3, [], []), (4, [], []), (5, [], []), (6, [], []), (7, [], []), (8, [], []), (9, [], []), (10, [], []), (11, [], []), (12, [], []), (13, [], []), (14, [], []), (15, [], [])] [0, 1, 3, 7, 0, 16, 48, 112, 240, 511, 1023, 2047, 4095, 8191, 16383, 32767] ?_
  iterate 16 refine W0 ?_ (e := fun _ h_ => by simp only [sH, ↓sP, sA, tyS, simprocAttr, rdr, hw2, Int.natCast_nonneg, Int.ofNat_lt, hl, bN hl, lsC, vY h1, Int.one_nonneg, hl1]; exact AX h_)
  refine T2 (hK _ _ _ ?_)
  clear hK K
  refine aE (RT Tryz.results128 ?_)
  rw [hreq]
  exact bO [] (Rq.cv ⟨2, 0, 0, wd ls[a] 1⟩) (.bool true) (rdr ls (a + 1)) rfl rfl (by simp [HV.close, HV.closeL, rdr, CV.denil, CV.denilL, aP, HV.norm, HV.toC, HV.toCL]) (by simp) ⟨rfl, rfl, rfl⟩
 have hChained : isV ls a dT 2 = false := hb
 clear hb
 refine aB fun K hK => bD (by kernel_rfl) ?_
 simp only [sR, simprocAttr]
 refine SG0 ?_
 refine bU (g := none) rfl rfl fun K' hK' => ?_
 simp only [sN, ↓hopH.eq_def, sH, ↓sP, sA, tyS, simprocAttr]
 refine AX (hK' _ _ ?_)
 clear hK' K'
 refine bI (g := none) rfl rfl fun K' hK' => T5 ?_
 refine gQ dL ha rfl rfl rfl (by decide) (by simp) ⟨rfl, rfl, rfl, rfl⟩ ?_
 refine AX (hK' _ _ ?_)
 clear hK' K'
 refine SG0 ?_
 refine T2 (hK _ _ _ ?_)
 clear hK K
 refine aH (b := (fL ls a dL).isSome) rfl (fun hb => ?_) (fun hb => ?_)
 ·
  obtain ⟨n, hn⟩ := Option.isSome_iff_exists.1 hb
  obtain ⟨hl, hl1, hl2, hl3⟩ := iW hn
  have hreq : jO ls a = some ⟨3, n, 0, []⟩ := by rw [fO hl, xG hl1 hl2, hl3]; rfl
  simp only [hn, Option.isSome_some, if_true, Option.getD_some]
  refine aB fun K hK => Rg ?_
  iterate 4 refine S0 ?_
  refine T2 (hK _ _ _ ?_)
  clear hK K
  refine aE (RT Tryz.results128 ?_)
  rw [hreq]
  exact bO [] (Rq.cv ⟨3, n, 0, []⟩) (.bool true) (rdr ls (a + 1)) rfl rfl (by simp [HV.close, HV.closeL, rdr, CV.denil, CV.denilL, aP, HV.norm, HV.toC, HV.toCL]) (by simp) ⟨rfl, rfl, rfl⟩
 have hwApproved : fL ls a dL = none := by simpa using hb
 simp only [hwApproved, Option.isSome_none, Bool.false_eq_true, if_false, Option.getD_none]
 clear hb
 refine aB fun K hK => bD (by kernel_rfl) ?_
 simp only [sR, simprocAttr]
 refine SG0 ?_
 refine bU (g := none) rfl rfl fun K' hK' => ?_
 simp only [sN, ↓hopH.eq_def, sH, ↓sP, sA, tyS, simprocAttr]
 refine AX (hK' _ _ ?_)
 clear hK' K'
 refine bI (g := none) rfl rfl fun K' hK' => T5 ?_
 refine aR5 eX ha rfl rfl rfl rfl (by decide) (by simp) ⟨rfl, rfl, rfl, rfl⟩ ?_
 intro x1 y1 hxy
 refine AX (hK' _ _ ?_)
 clear hK' K'
 refine SG0 ?_
 refine T2 (hK _ _ _ ?_)
 clear hK K
 refine aH (b := (lV ls a eX).isSome) rfl (fun hb => ?_) (fun hb => ?_)
 ·
  obtain ⟨⟨n, m⟩, hn⟩ := Option.isSome_iff_exists.1 hb
  obtain ⟨hl, hl1, hl2, hl3, hl4⟩ := bC7 hn
  obtain ⟨rfl, rfl⟩ := hxy _ _ hn
  have hreq : jO ls a = some ⟨4, x1, y1, []⟩ := by rw [fO hl, aD4 hl1 hl2, hl3, hl4]
  simp only [hn, Option.isSome_some, if_true]
  refine aB fun K hK => Rg ?_
  iterate 5 refine S0 ?_
  refine T2 (hK _ _ _ ?_)
  clear hK K
  refine aE (RT Tryz.results128 ?_)
  rw [hreq]
  exact bO [] (Rq.cv ⟨4, x1, y1, []⟩) (.bool true) (rdr ls (a + 1)) rfl rfl (by simp [HV.close, HV.closeL, rdr, CV.denil, CV.denilL, aP, HV.norm, HV.toC, HV.toCL]) (by simp) ⟨rfl, rfl, rfl⟩
 have hRebuilt : lV ls a eX = none := by simpa using hb
 simp only [hRebuilt, Option.isSome_none, Bool.false_eq_true, if_false]
 clear hb
 refine aB fun K hK => bD (by kernel_rfl) ?_
 simp only [sR, simprocAttr]
 refine SG0 ?_
 refine bU (g := none) rfl rfl fun K' hK' => ?_
 simp only [sN, ↓hopH.eq_def, sH, ↓sP, sA, tyS, simprocAttr]
 refine AX (hK' _ _ ?_)
 clear hK' K'
 refine bI (g := none) rfl rfl fun K' hK' => T5 ?_
 refine gQ fM ha rfl rfl rfl (by decide) (by simp) ⟨rfl, rfl, rfl, rfl⟩ ?_
 refine AX (hK' _ _ ?_)
 clear hK' K'
 refine SG0 ?_
 refine T2 (hK _ _ _ ?_)
 clear hK K
 refine aH (b := (fL ls a fM).isSome) rfl (fun hb => ?_) (fun hb => ?_)
 ·
  obtain ⟨n, hn⟩ := Option.isSome_iff_exists.1 hb
  obtain ⟨hl, hl1, hl2, hl3⟩ := iW hn
  have hreq : jO ls a = some ⟨5, n, 0, []⟩ := by rw [fO hl, aL7 hl1 hl2, hl3]; rfl
  simp only [hn, Option.isSome_some, if_true, Option.getD_some]
  refine aB fun K hK => Rg ?_
  iterate 4 refine S0 ?_
  refine T2 (hK _ _ _ ?_)
  clear hK K
  refine aE (RT Tryz.results128 ?_)
  rw [hreq]
  exact bO [] (Rq.cv ⟨5, n, 0, []⟩) (.bool true) (rdr ls (a + 1)) rfl rfl (by simp [HV.close, HV.closeL, rdr, CV.denil, CV.denilL, aP, HV.norm, HV.toC, HV.toCL]) (by simp) ⟨rfl, rfl, rfl⟩
 have hwListed : fL ls a fM = none := by simpa using hb
 simp only [hwListed, Option.isSome_none, Bool.false_eq_true, if_false, Option.getD_none]
 clear hb
 refine aB fun K hK => bD (by kernel_rfl) ?_
 simp only [sR, simprocAttr]
 refine SG0 ?_
 refine bU (g := none) rfl rfl fun K' hK' => ?_
 simp only [sN, ↓hopH.eq_def, sH, ↓sP, sA, tyS, simprocAttr]
 refine AX (hK' _ _ ?_)
 clear hK' K'
 refine bI (g := none) rfl rfl fun K' hK' => T5 ?_
 refine gQ jG ha rfl rfl rfl (by decide) (by simp) ⟨rfl, rfl, rfl, rfl⟩ ?_
 refine AX (hK' _ _ ?_)
 clear hK' K'
 refine SG0 ?_
 refine T2 (hK _ _ _ ?_)
 clear hK K
 refine aH (b := (fL ls a jG).isSome) rfl (fun hb => ?_) (fun hb => ?_)
 ·
  obtain ⟨n, hn⟩ := Option.isSome_iff_exists.1 hb
  obtain ⟨hl, hl1, hl2, hl3⟩ := iW hn
  have hreq : jO ls a = some ⟨6, n, 0, []⟩ := by rw [fO hl, aR3 hl1 hl2, hl3]; rfl
  simp only [hn, Option.isSome_some, if_true, Option.getD_some]
  refine aB fun K hK => Rg ?_
  iterate 4 refine S0 ?_
  refine T2 (hK _ _ _ ?_)
  clear hK K
  refine aE (RT Tryz.results128 ?_)
  rw [hreq]
  exact bO [] (Rq.cv ⟨6, n, 0, []⟩) (.bool true) (rdr ls (a + 1)) rfl rfl (by simp [HV.close, HV.closeL, rdr, CV.denil, CV.denilL, aP, HV.norm, HV.toC, HV.toCL]) (by simp) ⟨rfl, rfl, rfl⟩
 have hwClean : fL ls a jG = none := by simpa using hb
 simp only [hwClean, Option.isSome_none, Bool.false_eq_true, if_false, Option.getD_none]
 clear hb
 refine aB fun K hK => bD (by kernel_rfl) ?_
 simp only [sR, simprocAttr]
 refine SG0 ?_
 refine bU (g := none) rfl rfl fun K' hK' => ?_
 simp only [sN, ↓hopH.eq_def, sH, ↓sP, sA, tyS, simprocAttr]
 refine AX (hK' _ _ ?_)
 clear hK' K'
 refine bI (g := none) rfl rfl fun K' hK' => T5 ?_
 refine gQ kJ ha rfl rfl rfl (by decide) (by simp) ⟨rfl, rfl, rfl, rfl⟩ ?_
 refine AX (hK' _ _ ?_)
 clear hK' K'
 refine SG0 ?_
 refine T2 (hK _ _ _ ?_)
 clear hK K
 refine aH (b := (fL ls a kJ).isSome) rfl (fun hb => ?_) (fun hb => ?_)
 ·
  obtain ⟨n, hn⟩ := Option.isSome_iff_exists.1 hb
  obtain ⟨hl, hl1, hl2, hl3⟩ := iW hn
  have hreq : jO ls a = some ⟨7, n, 0, []⟩ := by rw [fO hl, aR4 hl1 hl2, hl3]; rfl
  simp only [hn, Option.isSome_some, if_true, Option.getD_some]
  refine aB fun K hK => Rg ?_
  iterate 4 refine S0 ?_
  refine T2 (hK _ _ _ ?_)
  clear hK K
  refine aE (RT Tryz.results128 ?_)
  rw [hreq]
  exact bO [] (Rq.cv ⟨7, n, 0, []⟩) (.bool true) (rdr ls (a + 1)) rfl rfl (by simp [HV.close, HV.closeL, rdr, CV.denil, CV.denilL, aP, HV.norm, HV.toC, HV.toCL]) (by simp) ⟨rfl, rfl, rfl⟩
 have hwFresh : fL ls a kJ = none := by simpa using hb
 simp only [hwFresh, Option.isSome_none, Bool.false_eq_true, if_false, Option.getD_none]
 clear hb
 refine aB fun K hK => Rg ?_
 refine S0 ?_
 refine HS rfl rfl fun K' hK' => T5 ?_
 refine eQ (args := [_, _]) (nK ls a gX ha) rfl (by simp) ⟨rfl, rfl, rfl, rfl⟩ ?_
 rintro u v' ⟨rfl, rfl⟩
 refine AX (hK' _ _ ?_)
 clear hK' K'
 refine S0 ?_
 refine T2 (hK _ _ _ ?_)
 clear hK K
 refine aH (b := isV ls a gX 1) rfl (fun hb => ?_) (fun hb => ?_)
 ·
  obtain ⟨hl, hl1, hl2⟩ := fN hb
  have hreq : jO ls a = some ⟨8, 0, 0, []⟩ := by rw [fO hl, aD5 hl1 hl2]
  rw [hb]
  refine aB fun K hK => Rg ?_
  iterate 3 refine S0 ?_
  refine T2 (hK _ _ _ ?_)
  clear hK K
  refine aE (RT Tryz.results128 ?_)
  rw [hreq]
  exact bO [] (Rq.cv ⟨8, 0, 0, []⟩) (.bool true) (rdr ls (a + 1)) rfl rfl (by simp [HV.close, HV.closeL, rdr, CV.denil, CV.denilL, aP, HV.norm, HV.toC, HV.toCL]) (by simp) ⟨rfl, rfl, rfl⟩
 have hno : jO ls a = none := bC8 hwReleased hChained hwApproved hRebuilt hwListed hwClean hwFresh hb
 rw [hb]
 refine aJ ?_
 refine T0 (hK _ _ _ ?_)
 clear hK K
 refine aB fun K hK => Rg ?_
 iterate 3 refine S0 ?_
 refine T2 (hK _ _ _ ?_)
 clear hK K
 refine aE (RT Tryz.results128 ?_)
 rw [hno]
 exact bO [] rq0.cv (.bool false) (rdr ls a) rfl rfl (by simp [HV.close, HV.closeL, rdr, CV.denil, CV.denilL, aP, HV.norm, HV.toC, HV.toCL]) (by simp) ⟨rfl, rfl, rfl⟩

end Go.Proofs.YtlldglbooaefhaaGreatDoor

namespace Go.Proofs.YtlldglbooaefhaaGreatDoor
open Go Go.Hl Go.Pl
set_option maxRecDepth 10000
set_option maxHeartbeats 16000000

theorem aL9 (ls : List (List aG)) (a : Nat) (ha : ls.length < 2 ^ 40) : sZ Tryz.prog 129 94 (rdr ls a) [] (fun u x v' => u = ((jI ls a).getD nd0).cv ∧ x = .bool (jI ls a).isSome ∧ v' = rdr ls (if (jI ls a).isSome then a + 1 else a)) := by
 refine bY Tryz.func129 rfl (by kernel_rfl) (dW _ _ _) (Nat.le_of_ble_eq_true rfl) ?_
 refine R0 ?_
 refine R0 ?_
 refine aB fun K hK => ?_
 refine aK ?_
 refine aB fun K hK => Rg ?_
 refine S0 ?_
 refine HS rfl rfl fun K' hK' => T5 ?_
 refine eQ (args := [_, _]) (nK ls a kX ha) rfl (by simp) ⟨rfl, rfl, rfl, rfl⟩ ?_
 rintro u v' ⟨rfl, rfl⟩
 refine AX (hK' _ _ ?_)
 clear hK' K'
 refine S0 ?_
 refine T2 (hK _ _ _ ?_)
 clear hK K
 refine aH (b := isV ls a kX 1) rfl (fun hb => ?_) (fun hb => ?_)
 ·
  have hreq := bN1 hb
  rw [hb]
  refine aB fun K hK => Rg ?_
  iterate 3 refine S0 ?_
  refine T2 (hK _ _ _ ?_)
  clear hK K
  refine aE (RT Tryz.results129 ?_)
  rw [hreq]
  exact bO [] (Nd.cv ⟨2, 0, 0, rq0⟩) (.bool true) (rdr ls (a + 1)) rfl rfl (by simp [HV.close, HV.closeL, rdr, CV.denil, CV.denilL, aP, HV.norm, HV.toC, HV.toCL]) (by simp) ⟨rfl, rfl, rfl⟩
 have hAll : isV ls a kX 1 = false := hb
 rw [hb]
 simp only [Bool.false_eq_true, if_false]
 clear hb
 refine aB fun K hK => Rg ?_
 refine S0 ?_
 refine HS rfl rfl fun K' hK' => T5 ?_
 refine eQ (args := [_, _]) (nK ls a kY ha) rfl (by simp) ⟨rfl, rfl, rfl, rfl⟩ ?_
 rintro u v' ⟨rfl, rfl⟩
 refine AX (hK' _ _ ?_)
 clear hK' K'
 refine S0 ?_
 refine T2 (hK _ _ _ ?_)
 clear hK K
 refine aH (b := isV ls a kY 1) rfl (fun hb => ?_) (fun hb => ?_)
 ·
  have hreq := bN2 hb
  rw [hb]
  refine aB fun K hK => Rg ?_
  iterate 3 refine S0 ?_
  refine T2 (hK _ _ _ ?_)
  clear hK K
  refine aE (RT Tryz.results129 ?_)
  rw [hreq]
  exact bO [] (Nd.cv ⟨3, 0, 0, rq0⟩) (.bool true) (rdr ls (a + 1)) rfl rfl (by simp [HV.close, HV.closeL, rdr, CV.denil, CV.denilL, aP, HV.norm, HV.toC, HV.toCL]) (by simp) ⟨rfl, rfl, rfl⟩
 have hAny : isV ls a kY 1 = false := hb
 rw [hb]
 simp only [Bool.false_eq_true, if_false]
 clear hb
 refine aB fun K hK => bD (by kernel_rfl) ?_
 simp only [sR, simprocAttr]
 refine SG0 ?_
 refine bU (g := none) rfl rfl fun K' hK' => ?_
 simp only [sN, ↓hopH.eq_def, sH, ↓sP, sA, tyS, simprocAttr]
 refine AX (hK' _ _ ?_)
 clear hK' K'
 refine bI (g := none) rfl rfl fun K' hK' => T5 ?_
 refine gQ cJ ha rfl rfl rfl (by decide) (by simp) ⟨rfl, rfl, rfl, rfl⟩ ?_
 refine AX (hK' _ _ ?_)
 clear hK' K'
 refine SG0 ?_
 refine T2 (hK _ _ _ ?_)
 clear hK K
 refine aH (b := (fL ls a cJ).isSome) rfl (fun hb => ?_) (fun hb => ?_)
 ·
  obtain ⟨n, hn⟩ := Option.isSome_iff_exists.1 hb
  have hreq := bT9 hn
  simp only [hn, Option.isSome_some, if_true, Option.getD_some]
  refine aB fun K hK => Rg ?_
  iterate 4 refine S0 ?_
  refine T2 (hK _ _ _ ?_)
  clear hK K
  refine aE (RT Tryz.results129 ?_)
  rw [hreq]
  exact bO [] (Nd.cv ⟨4, n, 0, rq0⟩) (.bool true) (rdr ls (a + 1)) rfl rfl (by simp [HV.close, HV.closeL, rdr, CV.denil, CV.denilL, aP, HV.norm, HV.toC, HV.toCL]) (by simp) ⟨rfl, rfl, rfl⟩
 have hAt : fL ls a cJ = none := by simpa using hb
 have hno := bC9 hAll hAny hAt
 simp only [hAt, Option.isSome_none, Bool.false_eq_true, if_false, Option.getD_none]
 refine aJ ?_
 refine T0 (hK _ _ _ ?_)
 clear hK K
 refine aB fun K hK => Rg ?_
 iterate 3 refine S0 ?_
 refine T2 (hK _ _ _ ?_)
 clear hK K
 refine aE (RT Tryz.results129 ?_)
 rw [hno]
 exact bO [] nd0.cv (.bool false) (rdr ls a) rfl rfl (by simp [HV.close, HV.closeL, rdr, CV.denil, CV.denilL, aP, HV.norm, HV.toC, HV.toCL]) (by simp) ⟨rfl, rfl, rfl⟩

end Go.Proofs.YtlldglbooaefhaaGreatDoor

namespace Go.Pl
open Go Go.Hl

abbrev Kds := Option (List Nd × Int) × List (List aG)
def pF (ts : List Nd) (k : Int) (x : Kds) : Kds := (x.1.map fun p => (ts ++ p.1, k + p.2), x.2)
def xH (n : Nd) (x : Kds) : Option (List Nd) × List (List aG) := (x.1.map fun p => { n with c := p.2 } :: p.1, x.2)
theorem bN5 (ts us : List Nd) (k j : Int) (x : Kds) : pF ts k (pF us j x) = pF (ts ++ us) (k + j) x := by
 obtain ⟨o, r⟩ := x
 cases o <;> simp [pF, List.append_assoc, Int.add_assoc]
theorem bN6 (x : Kds) : pF [] 0 x = x := by simp_all [pF]
theorem nL {f : Nat} {w : List aG} {r : List (List aG)} {q : Rq} (h : eY w = some q) : rdN (f + 1) (w :: r) = (some [⟨1, 0, 0, q⟩], r) := by simp only [rdN, h]
theorem nN {f : Nat} {w : List aG} {r : List (List aG)} (h : eY w = none) (h2 : jH w = none) : rdN (f + 1) (w :: r) = (none, w :: r) := by simp only [rdN, h, h2]
theorem oD {f : Nat} {w : List aG} {r : List (List aG)} {n : Nd} (h : eY w = none) (h2 : jH w = some n) : rdN (f + 1) (w :: r) = xH n (rdK f r) := by
 simp only [rdN, h, h2]
 match rdK f r with
 | (none, r') => rfl
 | (some (ts, c), r') => rfl
theorem aD6 {f : Nat} {l : List (List aG)} (h : gY (l.headD []) = true) : rdK (f + 1) l = (some ([], 0), l.tail) := by simp only [rdK, h, if_true]
theorem aR6 {f : Nat} {l r : List (List aG)} (h : gY (l.headD []) = false) (h2 : rdN f l = (none, r)) : rdK (f + 1) l = (none, r) := by simp_all [rdK, Bool.false_eq_true, if_false]
theorem wL {f : Nat} {l r : List (List aG)} {t : List Nd} (h : gY (l.headD []) = false) (h2 : rdN f l = (some t, r)) : rdK (f + 1) l = pF t 1 (rdK f r) := by
 simp only [rdK, h, h2, Bool.false_eq_true, if_false]
 grind [rdK, pF, Int.add_comm]
theorem aD7 : ∀ f, (∀ l, ∃ j, (rdN f l).2 = l.drop j ∧ ∀ t, (rdN f l).1 = some t → t.length + (rdN f l).2.length ≤ l.length) ∧ (∀ l, ∃ j, (rdK f l).2 = l.drop j ∧ ∀ p, (rdK f l).1 = some p → p.1.length + (rdK f l).2.length ≤ l.length)
 | 0 => ⟨fun l => ⟨0, by simp [rdN], fun t h => by simp [rdN] at h⟩, fun l => ⟨0, by simp [rdK], fun t h => by simp [rdK] at h⟩⟩
 | f + 1 => by
  obtain ⟨ihN, ihK⟩ := aD7 f
  refine ⟨fun l => ?_, fun l => ?_⟩
  ·
   match l with
   | [] => simp_all [rdN]
   | w :: r =>
    cases h1 : eY w with
    | some q => rw [nL h1]; exact ⟨1, rfl, fun t h => by grind⟩
    | none =>
     cases h2 : jH w with
     | none => rw [nN h1 h2]; exact ⟨0, rfl, fun t h => by cases h⟩
     | some n =>
      rw [oD h1 h2]
      obtain ⟨j, hj, hl⟩ := ihK r
      refine ⟨j + 1, hj, fun t h => ?_⟩
      cases hk : (rdK f r).1 with
      | none => simp [xH, hk] at h
      | some p =>
       grind [xH, rdK]
  ·
   cases he : gY (l.headD []) with
   | true =>
    rw [aD6 he]
    exact ⟨1, by simp, fun p h => by grind⟩
   | false =>
    obtain ⟨j, hj, hl⟩ := ihN l
    match h2 : rdN f l with
    | (none, r) =>
     rw [aR6 he h2]
     grind
    | (some t, r) =>
     rw [wL he h2]
     rw [h2] at hj hl
     obtain ⟨i, hi, hl2⟩ := ihK r
     have hj' : r = l.drop j := hj
     have hl' := hl t rfl
     simp only at hl'
     refine ⟨j + i, ?_, fun p h => ?_⟩
     ·
      show (rdK f r).2 = _
      simp_all
     ·
      cases hk : (rdK f r).1 with
      | none => simp [pF, hk] at h
      | some q =>
       grind [pF, rdK]
theorem aW5 (f : Nat) (l : List (List aG)) : ∃ j, j ≤ l.length ∧ (rdN f l).2 = l.drop j := by
 obtain ⟨j, hj, _⟩ := (aD7 f).1 l
 rcases Nat.lt_or_ge l.length j with h | h
 ·
  exact ⟨l.length, Nat.le_refl _, by rw [hj, List.drop_eq_nil_of_le (by omega), List.drop_eq_nil_of_le (Nat.le_refl _)]⟩
 grind
theorem sC {ls : List (List aG)} {a : Nat} (ha : a ≤ ls.length) : gY ((ls.drop a).headD []) = isV ls a wEnd 1 := by
 rcases Nat.lt_or_ge a ls.length with h | h
 ·
  rw [iH h, List.drop_eq_getElem_cons h]; rfl
 ·
  rw [aD1 (by omega), List.drop_eq_nil_of_le h]; rfl
structure KdSt (f : Nat) (ls : List (List aG)) (a : Nat) (nd : Nd) (g : Nat) (ts : List Nd) (k p : Nat) : Prop where
 eq : rdN f (ls.drop a) = xH nd (pF ts k (rdK g (ls.drop p)))
 le : p ≤ ls.length
 fuel : 2 * (ls.length - p) + 2 ≤ g
 lt : g < f
 len : ts.length + (ls.length - p) + 1 ≤ ls.length - a
 kids : k ≤ ts.length
theorem KdSt.init {f : Nat} {ls : List (List aG)} {a : Nat} {nd : Nd} (ha : a < ls.length) (hf : 2 * (ls.length - a) + 1 ≤ f) (h1 : eY ls[a] = none) (h2 : jH ls[a] = some nd) : KdSt f ls a nd (f - 1) [] 0 (a + 1) := by
 obtain ⟨g, rfl⟩ : ∃ g, f = g + 1 := ⟨f - 1, by omega⟩
 refine ⟨?_, by omega, ?_, by omega, by grind, by simp⟩
 all_goals grind [List.drop_eq_getElem_cons, oD, xH, pF, bN6, Nat.add_sub_cancel]
theorem KdSt.end_ {f : Nat} {ls : List (List aG)} {a : Nat} {nd : Nd} {g : Nat} {ts : List Nd} {k p : Nat} (h : KdSt f ls a nd g ts k p) (he : isV ls p wEnd 1 = true) : p < ls.length ∧ rdN f (ls.drop a) = (some ({ nd with c := (k : Int) } :: ts), ls.drop (p + 1)) := by
 obtain ⟨hp, _, _⟩ := fN he
 obtain ⟨q, rfl⟩ : ∃ q, g = q + 1 := ⟨g - 1, by have := h.fuel; omega⟩
 refine ⟨hp, ?_⟩
 rw [h.eq, aD6 (by rw [sC h.le, he])]
 simp [pF, xH]
theorem KdSt.no {f : Nat} {ls : List (List aG)} {a : Nat} {nd : Nd} {g : Nat} {ts : List Nd} {k p : Nat} (h : KdSt f ls a nd g ts k p) (he : isV ls p wEnd 1 = false) (hn : (rdN (g - 1) (ls.drop p)).1 = none) : rdN f (ls.drop a) = (none, (rdN (g - 1) (ls.drop p)).2) := by
 obtain ⟨q, rfl⟩ : ∃ q, g = q + 1 := ⟨g - 1, by have := h.fuel; omega⟩
 simp only [Nat.add_sub_cancel] at hn ⊢
 rw [h.eq, aR6 (by rw [sC h.le, he]) (r := (rdN q (ls.drop p)).2) (Prod.ext hn rfl)]
 rfl
theorem KdSt.some_ {f : Nat} {ls : List (List aG)} {a : Nat} {nd : Nd} {g : Nat} {ts : List Nd} {k p : Nat} (h : KdSt f ls a nd g ts k p) (he : isV ls p wEnd 1 = false) {t : List Nd} (hs : (rdN (g - 1) (ls.drop p)).1 = some t) :
  KdSt f ls a nd (g - 1) (ts ++ t) (k + 1) (ls.length - (rdN (g - 1) (ls.drop p)).2.length) := by
 obtain ⟨q, rfl⟩ : ∃ q, g = q + 1 := ⟨g - 1, by have := h.fuel; omega⟩
 simp only [Nat.add_sub_cancel] at hs ⊢
 obtain ⟨j, hj, hr⟩ := aW5 q (ls.drop p)
 have hlt : (rdN q (ls.drop p)).snd.length < (ls.drop p).length := (bL0 q).1 (ls.drop p) t (rdN q (ls.drop p)).snd (Prod.ext hs rfl)
 obtain ⟨_, _, hlen⟩ := (aD7 q).1 (ls.drop p)
 have hlen' := hlen t hs
 have hle := h.le
 rw [hr] at hlt hlen'
 simp only [List.length_drop] at hj hlt hlen'
 have hpos : ls.length - (rdN q (ls.drop p)).2.length = p + j := by rw [hr]; simp only [List.length_drop]; omega
 have hfu := h.fuel
 have hfl := h.lt
 have hll := h.len
 have hkk := h.kids
 have ht0 : 1 ≤ t.length ∨ t = [] := by cases t <;> simp
 rw [hpos]
 refine ⟨?_, by omega, by omega, by omega, by grind, ?_⟩
 ·
  rw [h.eq, wL (by rw [sC h.le, he]) (r := (rdN q (ls.drop p)).2) (Prod.ext hs rfl), bN5, hr, List.drop_drop]
  rfl
 ·
  simp only [List.length_append]
  rcases ht0 with h0 | h0
  ·
   omega
  ·
   exfalso
   subst h0
   revert hs
   match q, ls.drop p with
   | 0, l => intro hs; cases hs
   | q + 1, [] => intro hs; cases hs
   | q + 1, w :: r =>
    intro hs
    cases h1 : eY w with
    | some x => rw [nL h1] at hs; cases hs
    | none =>
     cases h2 : jH w with
     | none => rw [nN h1 h2] at hs; cases hs
     | some x =>
      rw [oD h1 h2] at hs
      cases hk : (rdK q r).1 with
      | none => simp [xH, hk] at hs
      | some y => simp [xH, hk] at hs
end Go.Pl

namespace Go.Proofs.YtlldglbooaefhaaGreatDoor
open Go Go.Hl Go.Pl
set_option maxRecDepth 10000
set_option maxHeartbeats 16000000

def bW5 (ls : List (List aG)) (a n : Nat) (T : List Nd) (X : Option (List Nd) × List (List aG)) (r : HV) (os' : List HO) : Prop :=
 ∃ T' : List Nd, r = .tup [.own 1 T'.length, .c (.bool X.1.isSome)] ∧ os' = [.box 94 (.c (rdr ls (ls.length - X.2.length))), .row 40 7 (T'.map Nd.cv)] ∧ (∀ t, X.1 = some t → T' = T ++ t) ∧ 0 < T'.length ∧ T'.length + X.2.length ≤ n + (ls.length - a)
theorem cE5 (ls : List (List aG)) (a : Nat) (T : List Nd) : lst [.box 94 (.c (rdr ls a)), .row 40 7 (T.map Nd.cv)] = fob [(0, .box 94 (.c (rdr ls a))), (1, .row 40 7 (T.map Nd.cv))] := by
 funext i
 match i with
 | 0 => rfl
 | 1 => rfl
 | i + 2 => simp [lst, fob, upd]
theorem bD0 (n : Nat) (ob : Ob) (e : TypeId) (sz : Nat) (v : CV) (L : List CV) (t : TypeId) : mU (sub [0, 1] n) ob 0 [.box t (.c v), .row e sz L] = upd (upd ob 0 (some (.box t (.c v)))) 1 (some (.row e sz L)) := rfl
theorem aM0 (n m : Nat) (v : CV) : HV.ren (sub [0, 1] n) (.tup [.own 1 m, .c v]) = .tup [.own 1 m, .c v] := rfl
theorem innR_c {w : List aG} {n : Nd} (h : jH w = some n) : n.c = 0 := by
 unfold jH at h
 split at h
 ·
  cases h; rfl
 split at h
 ·
  cases h; rfl
 split at h
 ·
  cases hn : bG (wd w 1) with
  | none => rw [hn] at h; cases h
  | some x => rw [hn] at h; cases h; rfl
 cases h
theorem oE {ob : Ob} {ls : List (List aG)} {a b n m : Nat} {T T' : List Nd} {L : List CV} {bo : Bool} {X : Option (List Nd) × List (List aG)} (h0 : ob 0 = some (.box 94 (.c (rdr ls b)))) (h1 : ob 1 = some (.row 40 7 L)) (hm : m = T'.length) (hL : L = T'.map Nd.cv) (hb : b = ls.length - X.2.length) (hbo : bo = X.1.isSome)
  (hT : ∀ t, X.1 = some t → T' = T ++ t) (hp : 0 < T'.length) (hl : T'.length + X.2.length ≤ n + (ls.length - a)) :
  oH 2 (.tup [.own 1 m, .c (.bool bo)]) ob (fun r ob' => ∃ os', ob' = lst os' ∧ (2 ≤ os'.length ∧ os'.length ≤ 2 + 4) ∧ bW5 ls a n T X r os') := by
 subst hb hbo hm hL
 exact fA [] [] (.tup [.own 1 T'.length, .c (.bool X.1.isSome)]) [.box 94 (.c (rdr ls (ls.length - X.2.length))), .row 40 7 (T'.map Nd.cv)] rfl (by simp [HV.men, HV.menL]) ⟨⟨by simp [HO.men, HV.men], by simp, _, h0, by simp [HO.close, HV.close, HO.ren, HV.ren, HV.norm, gE, HV.toC, rdr, CV.denil, CV.denilL, aP]⟩, ⟨by simp [HO.men], by simp, _, h1, rfl⟩, trivial⟩ rfl List.nodup_nil (by simp) (by simp) ⟨T', rfl, rfl, hT, hp, hl⟩

theorem bU0 (f : Nat) : ∀ (ls : List (List aG)) (a : Nat) (T : List Nd), a ≤ ls.length → 2 * (ls.length - a) + 1 ≤ f → 0 < T.length → ls.length < 2 ^ 39 → T.length + (ls.length - a) < 2 ^ 39 →
  HGe Tryz.prog 108 [.ptr 0 0, .own 1 T.length] [.box 94 (.c (rdr ls a)), .row 40 7 (T.map Nd.cv)] (bW5 ls a T.length T (rdN f (ls.drop a))) := by
 induction f using Nat.strongRecOn with
 | ind f ih => ?_
 intro ls a T hal hfu hT0 hls hTl
 refine bY (args := [.ptr 0 0, .own 1 T.length]) Tryz.func108 rfl (by kernel_rfl) (jD rfl (by simp [gK, HO.men, HV.men, HV.menL]) (by simp [HV.menL, HV.men])) (Nat.le_of_ble_eq_true rfl) ?_
 show Hw _ _ 2 _ _ _ (lst _) 2
 rw [cE5]
 refine R0 ?_
 refine aB fun K hK => ?_
 refine aB fun K hK => Rg ?_
 refine S0 ?_
 refine HS rfl rfl fun K' hK' => T5 ?_
 refine dQ (args := []) (aL8 ls a (by omega)) rfl (by simp) ⟨rfl, rfl, rfl, rfl⟩ ?_
 rintro u x v' ⟨rfl, rfl, rfl⟩
 refine AX (hK' _ _ ?_)
 clear hK' K'
 iterate 6 refine S0 ?_
 refine T2 (hK _ _ _ ?_)
 clear hK K
 refine R0 ?_
 refine aH (b := (jO ls a).isSome) rfl (fun hb => ?_) (fun hb => ?_)
 ·
  obtain ⟨q, hq⟩ := Option.isSome_iff_exists.1 hb
  obtain ⟨hl, hq2⟩ : ∃ h : a < ls.length, eY ls[a] = some q := by
   unfold jO at hq
   split at hq
   ·
    exact ⟨by assumption, hq⟩
   cases hq
  obtain ⟨g, rfl⟩ : ∃ g, f = g + 1 := ⟨f - 1, by omega⟩
  rw [List.drop_eq_getElem_cons hl, nL hq2]
  simp only [hq, Option.isSome_some, if_true, Option.getD_some]
  refine aB fun K hK => Rg ?_
  iterate 7 refine S0 ?_
  refine T2 (hK _ _ _ ?_)
  clear hK K
  refine aE (RT Tryz.results108 ?_)
  exact oE (T' := T ++ [⟨1, 0, 0, q⟩]) rfl rfl (by simp) (by simp) (by simp only [List.length_drop]; omega) rfl (fun t h => by cases h; rfl) (by simp) (by simp only [List.length_append, List.length_cons, List.length_nil, List.length_drop]; omega)
 have hno : jO ls a = none := by simpa using hb
 simp only [hno, Option.isSome_none, Bool.false_eq_true, if_false, Option.getD_none]
 clear hb
 refine aJ ?_
 refine T0 (hK _ _ _ ?_)
 clear hK K
 refine aB fun K hK => Rg ?_
 refine S0 ?_
 refine HS rfl rfl fun K' hK' => T5 ?_
 refine dQ (args := []) (aL9 ls a (by omega)) rfl (by simp) ⟨rfl, rfl, rfl, rfl⟩ ?_
 rintro u x v' ⟨rfl, rfl, rfl⟩
 refine AX (hK' _ _ ?_)
 clear hK' K'
 iterate 6 refine S0 ?_
 refine T2 (hK _ _ _ ?_)
 clear hK K
 refine aB fun K hK => ?_
 refine R0 ?_
 refine aH (b := !(jI ls a).isSome) rfl (fun hb => ?_) (fun hb => ?_)
 ·
  have hi : jI ls a = none := by simpa using hb
  have hX : rdN f (ls.drop a) = (none, ls.drop a) := by
   obtain ⟨g, rfl⟩ : ∃ g, f = g + 1 := ⟨f - 1, by omega⟩
   rcases Nat.lt_or_ge a ls.length with hl | hl
   ·
    rw [fO hl] at hno
    unfold jI at hi
    rw [dif_pos hl] at hi
    rw [List.drop_eq_getElem_cons hl, nN hno hi]
   rw [List.drop_eq_nil_of_le hl]; rfl
  rw [hX]
  simp only [hi, Option.isSome_none, Bool.false_eq_true, if_false]
  refine R0 ?_
  refine aE (RT Tryz.results108 ?_)
  exact oE (T' := T) rfl rfl rfl rfl (by simp only [List.length_drop]; omega) rfl (fun t h => by cases h) hT0 (by simp only [List.length_drop]; omega)
 refine aJ ?_
 refine T0 (hK _ _ _ ?_)
 clear hK K
 obtain ⟨nd, hi⟩ : ∃ nd, jI ls a = some nd := by
  cases h : jI ls a with
  | none => rw [h] at hb; simp at hb
  | some nd => exact ⟨nd, rfl⟩
 obtain ⟨hl, hi2⟩ : ∃ h : a < ls.length, jH ls[a] = some nd := by
  unfold jI at hi
  split at hi
  ·
   exact ⟨by assumption, hi⟩
  cases hi
 rw [fO hl] at hno
 have hc0 := innR_c hi2
 have hnd : ({ k := nd.k, n := nd.n, c := 0, q := nd.q } : Nd) = nd := by cases nd; simp only at hc0; rw [hc0]
 have hst := KdSt.init hl hfu hno hi2
 simp only [hi, Option.isSome_some, if_true, Option.getD_some]
 clear hb
 refine R0 ?_
 refine aB fun K hK => Rg ?_
 iterate 5 refine S0 ?_
 refine T2 (hK _ _ _ ?_)
 clear hK K
 refine aB fun K hK => ?_
 refine aK ?_
 refine bE (α := {y : Nat × List Nd × Nat × Nat // KdSt f ls a nd y.1 y.2.1 y.2.2.1 y.2.2.2}) (fun y => (fin [(0, .ptr 0 0), (1, .own 1 (T.length + 1 + y.1.2.1.length)), (10, .c (.int .i64 T.length))], fob [(0, .box 94 (.c (rdr ls y.1.2.2.2))), (1, .row 40 7 ((T ++ { nd with c := (y.1.2.2.1 : Int) } :: y.1.2.1).map Nd.cv))])) 2000 (fun y => y.1.1) ⟨(f - 1, [], 0, a + 1), hst⟩ (aM (by omega) (by simp [aY, fin_at, finA_at, upd_at, HV.men, HV.menL, HV.norm, HV.toC, HV.toCL, hnd]) (by simp [bB, fob_at, upd_at, none0_at, bZ, HO.men, HV.men, HV.menL, HV.norm, HV.toC, HV.toCL, hnd])) ?_
 rintro ⟨⟨g, ts, k, p⟩, hΦ⟩
 simp only at hΦ
 refine aB fun K hK => ?_
 refine aB fun K hK => Rg ?_
 refine S0 ?_
 refine HS rfl rfl fun K' hK' => T5 ?_
 refine eQ (args := [_, _]) (nK ls p wEnd (by omega)) rfl (by simp) ⟨rfl, rfl, rfl, rfl⟩ ?_
 rintro u v' ⟨rfl, rfl⟩
 refine AX (hK' _ _ ?_)
 clear hK' K'
 refine S0 ?_
 refine T2 (hK _ _ _ ?_)
 clear hK K
 refine aH (b := !isV ls p wEnd 1) rfl (fun hb => ?_) (fun hb => ?_)
 ·
  have hev : isV ls p wEnd 1 = false := by simpa using hb
  obtain ⟨Tq, hTq⟩ : ∃ Tq, Tq = T ++ { nd with c := (k : Int) } :: ts := ⟨_, rfl⟩
  have hTql : T.length + 1 + ts.length = Tq.length := by rw [hTq]; simp; omega
  have hp1 := hΦ.le
  have hp2 := hΦ.fuel
  have hp3 := hΦ.lt
  have hp4 := hΦ.len
  have hp5 := hΦ.kids
  rw [← hTq, hTql, hev]
  simp only [Bool.false_eq_true, if_false]
  clear hb
  refine aJ ?_
  refine T0 (hK _ _ _ ?_)
  clear hK K
  refine aK ?_
  refine aB fun K hK => ?_
  refine aB fun K hK => Rg ?_
  iterate 2 refine S0 ?_
  refine HS rfl rfl fun K' hK' => T5 ?_
  refine lL [0, 1] (ih (g - 1) (by omega) ls p Tq hp1 (by omega) (by omega) hls (by omega)) rfl ⟨rfl, rfl, trivial⟩ (by simp) (by simp) ⟨rfl, rfl, rfl, rfl⟩ (by simp [gK, HO.men, HV.men, HV.menL]) (by simp [HV.menL, HV.men]) ?_
  rintro r os' ⟨T', rfl, rfl, h1, h2, h3⟩
  rw [bD0, aM0]
  refine AX (hK' _ _ ?_)
  clear hK' K'
  iterate 5 refine S0 ?_
  refine T2 (hK _ _ _ ?_)
  clear hK K
  refine R0 ?_
  refine aH (b := !(rdN (g - 1) (ls.drop p)).1.isSome) rfl (fun hb => ?_) (fun hb => ?_)
  ·
   have hn2 : (rdN (g - 1) (ls.drop p)).1 = none := by simpa using hb
   rw [hΦ.no hev hn2]
   refine R0 ?_
   refine aE (RT Tryz.results108 ?_)
   exact oE (T' := T') rfl rfl rfl rfl rfl rfl (fun t h => by cases h) h2 (by simp only; omega)
  obtain ⟨t, ht⟩ : ∃ t, (rdN (g - 1) (ls.drop p)).1 = some t := by
   cases h : (rdN (g - 1) (ls.drop p)).1 with
   | none => rw [h] at hb; simp at hb
   | some t => exact ⟨t, rfl⟩
  have hst2 := hΦ.some_ hev ht
  have hT' := h1 t ht
  have hlt : T.length < T'.length := by rw [hT', List.length_append]; omega
  have hge : T'[T.length] = { nd with c := (k : Int) } := by simp [hT', hTq]
  have hw : IntKind.i64.wrap ((k : Int) + 1) = ((k + 1 : Nat) : Int) := IntWalk.i64_in _ (by omega)
  have hmne : (T'.map Nd.cv = []) = False := by simp; intro h; rw [h] at hlt; cases hlt
  clear hb
  refine aJ ?_
  refine T0 (hK _ _ _ ?_)
  clear hK K
  refine Rg ?_
  have F := aI @Int.natCast_nonneg (aI @Int.ofNat_lt (aI hlt (aI (nM hlt) (aI hge (aI hw (aI hmne (aI not_false_eq_true @List.length_map.{0,0})))))))
  iterate 9 refine SF ?_
  refine T4 ?_
  refine ⟨⟨(g - 1, ts ++ t, k + 1, ls.length - (rdN (g - 1) (ls.drop p)).2.length), hst2⟩, ?_, ?_⟩
  ·
   have hrow : (List.map Nd.cv T').set T.length (Nd.cv { nd with c := ((k + 1 : Nat) : Int) }) = List.map Nd.cv (T ++ { nd with c := ((k + 1 : Nat) : Int) } :: (ts ++ t)) := by
    rw [hT', hTq, ← List.map_set]
    simp [List.set_append]
   have hlen : T'.length = T.length + 1 + (ts ++ t).length := by rw [hT', hTq]; simp; omega
   simp only []
   rw [← hrow, ← hlen]
   exact fF
  show g - 1 < g
  omega
 have hev : isV ls p wEnd 1 = true := by simpa using hb
 obtain ⟨hp, hX⟩ := hΦ.end_ hev
 have hp4 := hΦ.len
 rw [hev]
 simp only [if_true]
 refine aX (T3 ?_)
 clear hK K
 refine AX (hK _ _ _ ?_)
 clear hK K
 refine R0 ?_
 refine aE (RT Tryz.results108 ?_)
 rw [hX]
 exact oE (T' := T ++ { nd with c := (k : Int) } :: ts) rfl rfl (by simp; omega) rfl (by simp only [List.length_drop]; omega) rfl (fun t h => by cases h; rfl) (by simp; omega) (by simp only [List.length_append, List.length_cons, List.length_drop]; omega)

end Go.Proofs.YtlldglbooaefhaaGreatDoor

namespace Go.Proofs.YtlldglbooaefhaaGreatDoor
open Go Go.Hl Go.Pl
set_option maxRecDepth 10000
set_option maxHeartbeats 16000000

theorem bD1 (N n : Nat) (ob : Ob) (e : TypeId) (sz : Nat) (v : CV) (L : List CV) (t : TypeId) : mU (sub [0, N] n) ob 0 [.box t (.c v), .row e sz L] = upd (upd ob 0 (some (.box t (.c v)))) N (some (.row e sz L)) := rfl
theorem zM (N n m : Nat) (v : CV) : HV.ren (sub [0, N] n) (.tup [.own 1 m, .c v]) = .tup [.own N m, .c v] := rfl
theorem bN7 (f : Nat) (ls : List (List aG)) (a : Nat) (hal : a ≤ ls.length) (hfu : 2 * (ls.length - a) + 1 ≤ f) (hls : ls.length < 2 ^ 39) :
  sZ Tryz.prog 108 94 (rdr ls a) [.nils] (fun u x v' => ∃ T' : List Nd, u = .slc (T'.map Nd.cv) ∧ x = .bool (rdN f (ls.drop a)).1.isSome ∧ v' = rdr ls (ls.length - (rdN f (ls.drop a)).2.length) ∧ ∀ t, (rdN f (ls.drop a)).1 = some t → T' = t) := by
 refine bY Tryz.func108 rfl (by kernel_rfl) (dW _ _ _) (Nat.le_of_ble_eq_true rfl) ?_
 refine R0 ?_
 refine aB fun K hK => ?_
 refine aB fun K hK => Rg ?_
 refine S0 ?_
 refine HS rfl rfl fun K' hK' => T5 ?_
 refine dQ (args := []) (aL8 ls a (by omega)) rfl (by simp) ⟨rfl, rfl, rfl, rfl⟩ ?_
 rintro u x v' ⟨rfl, rfl, rfl⟩
 refine AX (hK' _ _ ?_)
 clear hK' K'
 iterate 6 refine S0 ?_
 refine T2 (hK _ _ _ ?_)
 clear hK K
 refine R0 ?_
 refine aH (b := (jO ls a).isSome) rfl (fun hb => ?_) (fun hb => ?_)
 ·
  obtain ⟨q, hq⟩ := Option.isSome_iff_exists.1 hb
  obtain ⟨hl, hq2⟩ : ∃ h : a < ls.length, eY ls[a] = some q := by
   unfold jO at hq
   split at hq
   ·
    exact ⟨by assumption, hq⟩
   cases hq
  obtain ⟨g, rfl⟩ : ∃ g, f = g + 1 := ⟨f - 1, by omega⟩
  rw [List.drop_eq_getElem_cons hl, nL hq2]
  simp only [hq, Option.isSome_some, if_true, Option.getD_some]
  refine aB fun K hK => Rg ?_
  iterate 7 refine S0 ?_
  refine T2 (hK _ _ _ ?_)
  clear hK K
  refine aE (RT Tryz.results108 ?_)
  exact bO [61] (.slc [Nd.cv ⟨1, 0, 0, q⟩]) (.bool true) (rdr ls (a + 1)) (by simp [HV.close, HV.closeL, HO.close, fob_at, upd_at, CV.denil, CV.denilL, denilL_Nd, HV.norm, HV.toC, HV.toCL]) rfl (by simp [HV.close, HV.closeL, rdr, CV.denil, CV.denilL, aP, HV.norm, HV.toC, HV.toCL]) (by simp) ⟨[⟨1, 0, 0, q⟩], rfl, rfl, by simp only [List.length_drop]; congr 1; omega, fun t h => by cases h; rfl⟩
 have hno : jO ls a = none := by simpa using hb
 simp only [hno, Option.isSome_none, Bool.false_eq_true, if_false, Option.getD_none]
 clear hb
 refine aJ ?_
 refine T0 (hK _ _ _ ?_)
 clear hK K
 refine aB fun K hK => Rg ?_
 refine S0 ?_
 refine HS rfl rfl fun K' hK' => T5 ?_
 refine dQ (args := []) (aL9 ls a (by omega)) rfl (by simp) ⟨rfl, rfl, rfl, rfl⟩ ?_
 rintro u x v' ⟨rfl, rfl, rfl⟩
 refine AX (hK' _ _ ?_)
 clear hK' K'
 iterate 6 refine S0 ?_
 refine T2 (hK _ _ _ ?_)
 clear hK K
 refine aB fun K hK => ?_
 refine R0 ?_
 refine aH (b := !(jI ls a).isSome) rfl (fun hb => ?_) (fun hb => ?_)
 ·
  have hi : jI ls a = none := by simpa using hb
  have hX : rdN f (ls.drop a) = (none, ls.drop a) := by
   obtain ⟨g, rfl⟩ : ∃ g, f = g + 1 := ⟨f - 1, by omega⟩
   rcases Nat.lt_or_ge a ls.length with hl | hl
   ·
    rw [fO hl] at hno
    unfold jI at hi
    rw [dif_pos hl] at hi
    rw [List.drop_eq_getElem_cons hl, nN hno hi]
   rw [List.drop_eq_nil_of_le hl]; rfl
  rw [hX]
  simp only [hi, Option.isSome_none, Bool.false_eq_true, if_false]
  refine R0 ?_
  refine aE (RT Tryz.results108 ?_)
  exact bO [] (.slc []) (.bool false) (rdr ls a) (by simp [HV.close, HV.closeL, HO.close, fob_at, upd_at, CV.denil, CV.denilL, denilL_Nd, HV.norm, HV.toC, HV.toCL]) rfl (by simp [HV.close, HV.closeL, rdr, CV.denil, CV.denilL, aP, HV.norm, HV.toC, HV.toCL]) (by simp) (by refine ⟨[], rfl, rfl, ?_⟩; first | exact (by simp only [List.length_drop]; congr 1; omega) | exact ⟨by simp only [List.length_drop]; congr 1; omega, fun t h => by cases h⟩)
 refine aJ ?_
 refine T0 (hK _ _ _ ?_)
 clear hK K
 obtain ⟨nd, hi⟩ : ∃ nd, jI ls a = some nd := by
  cases h : jI ls a with
  | none => rw [h] at hb; simp at hb
  | some nd => exact ⟨nd, rfl⟩
 obtain ⟨hl, hi2⟩ : ∃ h : a < ls.length, jH ls[a] = some nd := by
  unfold jI at hi
  split at hi
  ·
   exact ⟨by assumption, hi⟩
  cases hi
 rw [fO hl] at hno
 have hc0 := innR_c hi2
 have hnd : ({ k := nd.k, n := nd.n, c := 0, q := nd.q } : Nd) = nd := by cases nd; simp only at hc0; rw [hc0]
 have hst := KdSt.init hl hfu hno hi2
 simp only [hi, Option.isSome_some, if_true, Option.getD_some]
 clear hb
 refine R0 ?_
 refine aB fun K hK => Rg ?_
 iterate 5 refine S0 ?_
 refine T2 (hK _ _ _ ?_)
 clear hK K
 refine aB fun K hK => ?_
 refine aK ?_
 refine bE (α := {y : Nat × List Nd × Nat × Nat // KdSt f ls a nd y.1 y.2.1 y.2.2.1 y.2.2.2}) (fun y => (fin [(0, .ptr 0 0), (1, .own 109 (1 + y.1.2.1.length)), (10, .c (.int .i64 0))], fob [(0, .box 94 (.c (rdr ls y.1.2.2.2))), (109, .row 40 7 (({ nd with c := (y.1.2.2.1 : Int) } :: y.1.2.1).map Nd.cv))])) 2000 (fun y => y.1.1) ⟨(f - 1, [], 0, a + 1), hst⟩ (aM (by omega) (by simp [aY, fin_at, finA_at, upd_at, HV.men, HV.menL, HV.norm, HV.toC, HV.toCL, hnd]) (by simp [bB, fob_at, upd_at, none0_at, bZ, HO.men, HV.men, HV.menL, HV.norm, HV.toC, HV.toCL, hnd])) ?_
 rintro ⟨⟨g, ts, k, p⟩, hΦ⟩
 simp only at hΦ
 refine aB fun K hK => ?_
 refine aB fun K hK => Rg ?_
 refine S0 ?_
 refine HS rfl rfl fun K' hK' => T5 ?_
 refine eQ (args := [_, _]) (nK ls p wEnd (by omega)) rfl (by simp) ⟨rfl, rfl, rfl, rfl⟩ ?_
 rintro u v' ⟨rfl, rfl⟩
 refine AX (hK' _ _ ?_)
 clear hK' K'
 refine S0 ?_
 refine T2 (hK _ _ _ ?_)
 clear hK K
 refine aH (b := !isV ls p wEnd 1) rfl (fun hb => ?_) (fun hb => ?_)
 ·
  have hev : isV ls p wEnd 1 = false := by simpa using hb
  obtain ⟨Tq, hTq⟩ : ∃ Tq, Tq = { nd with c := (k : Int) } :: ts := ⟨_, rfl⟩
  have hTql : 1 + ts.length = Tq.length := by rw [hTq]; simp; omega
  have hp1 := hΦ.le
  have hp2 := hΦ.fuel
  have hp3 := hΦ.lt
  have hp4 := hΦ.len
  have hp5 := hΦ.kids
  have hTm : Nd.cv { nd with c := (k : Int) } :: List.map Nd.cv ts = List.map Nd.cv Tq := by rw [hTq]; rfl
  rw [hTm, hTql, hev]
  simp only [Bool.false_eq_true, if_false]
  clear hb
  refine aJ ?_
  refine T0 (hK _ _ _ ?_)
  clear hK K
  refine aK ?_
  refine aB fun K hK => ?_
  refine aB fun K hK => Rg ?_
  iterate 2 refine S0 ?_
  refine HS rfl rfl fun K' hK' => T5 ?_
  refine lL [0, 109] (bU0 (g - 1) ls p Tq hp1 (by omega) (by omega) hls (by omega)) rfl ⟨rfl, rfl, trivial⟩ (by simp) (by simp) ⟨rfl, rfl, rfl, rfl⟩ (by simp [gK, HO.men, HV.men, HV.menL]) (by simp [HV.menL, HV.men]) ?_
  rintro r os' ⟨T', rfl, rfl, h1, h2, h3⟩
  rw [bD1, zM]
  refine AX (hK' _ _ ?_)
  clear hK' K'
  iterate 5 refine S0 ?_
  refine T2 (hK _ _ _ ?_)
  clear hK K
  refine R0 ?_
  refine aH (b := !(rdN (g - 1) (ls.drop p)).1.isSome) rfl (fun hb => ?_) (fun hb => ?_)
  ·
   have hn2 : (rdN (g - 1) (ls.drop p)).1 = none := by simpa using hb
   rw [hΦ.no hev hn2]
   refine R0 ?_
   refine aE (RT Tryz.results108 ?_)
   exact bO [109] (.slc (T'.map Nd.cv)) (.bool false) (rdr ls (ls.length - (rdN (g - 1) (ls.drop p)).2.length)) (by simp [HV.close, HV.closeL, HO.close, fob_at, upd_at, CV.denil, CV.denilL, denilL_Nd, HV.norm, HV.toC, HV.toCL]) rfl (by simp [HV.close, HV.closeL, rdr, CV.denil, CV.denilL, aP, HV.norm, HV.toC, HV.toCL]) (by simp) (by refine ⟨T', rfl, rfl, ?_⟩; first | exact rfl | exact ⟨rfl, fun t h => by cases h⟩)
  obtain ⟨t, ht⟩ : ∃ t, (rdN (g - 1) (ls.drop p)).1 = some t := by
   cases h : (rdN (g - 1) (ls.drop p)).1 with
   | none => rw [h] at hb; simp at hb
   | some t => exact ⟨t, rfl⟩
  have hst2 := hΦ.some_ hev ht
  have hT' := h1 t ht
  have hlt : 0 < T'.length := by rw [hT', List.length_append]; omega
  have hge : T'[0] = { nd with c := (k : Int) } := by simp [hT', hTq]
  have hw : IntKind.i64.wrap ((k : Int) + 1) = ((k + 1 : Nat) : Int) := IntWalk.i64_in _ (by omega)
  have hmne : (T'.map Nd.cv = []) = False := by simp; intro h; rw [h] at hlt; cases hlt
  clear hb
  refine aJ ?_
  refine T0 (hK _ _ _ ?_)
  clear hK K
  refine Rg ?_
  have F := aI @Int.natCast_nonneg (aI @Int.ofNat_lt (aI hlt (aI (nM hlt) (aI hge (aI hw (aI hmne (aI not_false_eq_true @List.length_map.{0,0})))))))
  iterate 9 refine SF ?_
  refine T4 ?_
  refine ⟨⟨(g - 1, ts ++ t, k + 1, ls.length - (rdN (g - 1) (ls.drop p)).2.length), hst2⟩, ?_, ?_⟩
  ·
   have hrow : (List.map Nd.cv T').set 0 (Nd.cv { nd with c := ((k + 1 : Nat) : Int) }) = List.map Nd.cv ({ nd with c := ((k + 1 : Nat) : Int) } :: (ts ++ t)) := by
    rw [hT', hTq, ← List.map_set]
    simp
   have hlen : T'.length = 1 + (ts ++ t).length := by rw [hT', hTq]; simp; omega
   simp only []
   rw [← hrow, ← hlen]
   exact fF
  show g - 1 < g
  omega
 have hev : isV ls p wEnd 1 = true := by simpa using hb
 obtain ⟨hp, hX⟩ := hΦ.end_ hev
 have hp4 := hΦ.len
 rw [hev]
 simp only [if_true]
 refine aX (T3 ?_)
 clear hK K
 refine AX (hK _ _ _ ?_)
 clear hK K
 refine R0 ?_
 refine aE (RT Tryz.results108 ?_)
 rw [hX]
 exact bO [109] (.slc (({ nd with c := (k : Int) } :: ts).map Nd.cv)) (.bool true) (rdr ls (p + 1)) (by simp [show 1 + ts.length = ts.length + 1 from by omega, HV.close, HV.closeL, HO.close, fob_at, upd_at, CV.denil, CV.denilL, denilL_Nd, HV.norm, HV.toC, HV.toCL]) rfl (by simp [HV.close, HV.closeL, rdr, CV.denil, CV.denilL, aP, HV.norm, HV.toC, HV.toCL]) (by simp) ⟨_, rfl, rfl, by simp only [List.length_drop]; congr 1; omega, fun t h => by cases h; rfl⟩

end Go.Proofs.YtlldglbooaefhaaGreatDoor

namespace Go.Pl
open Go Go.Hl

theorem bZ5 {ls : List (List aG)} {a : Nat} (ha : a ≤ ls.length) (h : isV ls a wRule 5 = false) : rdR (ls.drop a) = (none, ls.drop a) := by
 rcases Nat.lt_or_ge a ls.length with hl | hl
 ·
  rw [iH hl] at h
  rw [List.drop_eq_getElem_cons hl]
  simp_all [rdR, if_neg]
 ·
  rw [List.drop_eq_nil_of_le hl]; rfl
theorem bU1 {ls : List (List aG)} {a : Nat} (hl : a < ls.length) (h1 : ls[a].length = 5) (h2 : wd ls[a] 0 = wRule) (hn : bG (wd ls[a] 4) = none) : rdR (ls.drop a) = (none, ls.drop a) := by
 rw [List.drop_eq_getElem_cons hl]
 simp_all [rdR, if_pos]
theorem bN8 {ls : List (List aG)} {a : Nat} (hl : a < ls.length) (h1 : ls[a].length = 5) (h2 : wd ls[a] 0 = wRule) {g : Int} (hn : bG (wd ls[a] 4) = some g) :
  rdR (ls.drop a) = ((rdT (ls.drop (a + 1))).1.map fun t => ⟨wd ls[a] 1, wd ls[a] 2, wd ls[a] 3, g, t⟩, (rdT (ls.drop (a + 1))).2) := by
 rw [List.drop_eq_getElem_cons hl]
 simp only [rdR]
 grind
theorem aD8 (ls : List (List aG)) : ∃ j, j ≤ ls.length ∧ (rdR ls).2 = ls.drop j ∧ ∀ p, (rdR ls).1 = some p → 1 ≤ j := by
 match ls with
 | [] => exact ⟨0, by simp, rfl, fun p h => by cases h⟩
 | w :: r =>
  simp only [rdR]
  split
  ·
   cases bG (wd w 4) with
   | none => exact ⟨0, by simp, rfl, fun p h => by cases h⟩
   | some g =>
    obtain ⟨j, hj, h2⟩ := aW5 (2 * r.length + 2) r
    simp only [rdT]
    match hm : rdN (2 * r.length + 2) r with
    | (none, r') => rw [hm] at h2; exact ⟨j + 1, by grind, h2, fun p h => by cases h⟩
    | (some t, r') => rw [hm] at h2; exact ⟨j + 1, by grind, h2, fun p h => by omega⟩
  ·
   exact ⟨0, by simp, rfl, fun p h => by cases h⟩
abbrev Rls := Option (List Pr) × List (List aG)
structure RsSt (ls : List (List aG)) (X : Rls) (acc : List Pr) (p : Nat) : Prop where
 eq : X = kK (ls.length - p + 1) (ls.drop p) acc
 le : p ≤ ls.length
 len : acc.length ≤ p
theorem zN : ∀ (f g : Nat) (ls : List (List aG)) (acc : List Pr), ls.length < f → f ≤ g → kK g ls acc = kK f ls acc
 | 0, _, _, _, h, _ => by omega
 | f + 1, g, ls, acc, h, hg => by
  obtain ⟨q, rfl⟩ : ∃ q, g = q + 1 := ⟨g - 1, by omega⟩
  simp only [kK]
  split
  ·
   rfl
  ·
   obtain ⟨j, hj, h2, h3⟩ := aD8 ls
   match hm : rdR ls with
   | (none, r) => rfl
   | (some x, r) =>
    rw [hm] at h2 h3
    have h4 := h3 x rfl
    simp only at h2
    exact zN f q r _ (by rw [h2, List.length_drop]; omega) (by omega)
theorem RsSt.done {ls : List (List aG)} {X : Rls} {acc : List Pr} {p : Nat} (h : RsSt ls X acc p) (hp : ¬ p < ls.length) : p = ls.length ∧ X = (some acc, []) := by
 have h1 := h.le
 refine ⟨by omega, ?_⟩
 rw [h.eq, List.drop_eq_nil_of_le (by omega), kK, if_pos rfl]
theorem RsSt.no {ls : List (List aG)} {X : Rls} {acc : List Pr} {p : Nat} (h : RsSt ls X acc p) (hp : p < ls.length) (hn : (rdR (ls.drop p)).1 = none) : X = (none, (rdR (ls.drop p)).2) := by
 rw [h.eq, kK, if_neg (by simp_all)]
 grind
theorem RsSt.some_ {ls : List (List aG)} {X : Rls} {acc : List Pr} {p : Nat} (h : RsSt ls X acc p) (hp : p < ls.length) {x : Pr} (hs : (rdR (ls.drop p)).1 = some x) :
  RsSt ls X (acc ++ [x]) (ls.length - (rdR (ls.drop p)).2.length) ∧ p < ls.length - (rdR (ls.drop p)).2.length := by
 obtain ⟨j, hj, h2, h3⟩ := aD8 (ls.drop p)
 have h4 := h3 x hs
 rw [List.length_drop] at hj
 have hlen := h.len
 have hpos : ls.length - (rdR (ls.drop p)).2.length = p + j := by rw [h2]; simp only [List.length_drop]; omega
 rw [hpos]
 refine ⟨⟨?_, by omega, by grind⟩, by omega⟩
 rw [h.eq, kK, if_neg (by grind)]
 grind [rdR, List.drop_drop, zN, List.length_drop]
theorem bZ6 {ls : List (List aG)} (h : isV ls 0 wPolicy 3 = false) : rdP ls = (none, ls) := by
 match ls with
 | [] => rfl
 | w :: r =>
  simp_all [iH, rdP, if_neg]
theorem bU2 {ls : List (List aG)} (hl : 0 < ls.length) (h1 : ls[0].length = 3) (h2 : wd ls[0] 0 = wPolicy) (hn : bG (wd ls[0] 2) = none) : rdP ls = (none, ls) := by
 match ls, hl with
 | w :: r, _ =>
  simp_all [List.getElem_cons_zero, rdP, if_pos]
theorem bN9 {ls : List (List aG)} (hl : 0 < ls.length) (h1 : ls[0].length = 3) (h2 : wd ls[0] 0 = wPolicy) {v : Int} (hn : bG (wd ls[0] 2) = some v) :
  ∃ X : Rls, rdP ls = (X.1.map fun l => ⟨wd ls[0] 1, v, l⟩, X.2) ∧ RsSt ls X [] 1 := by
 match ls, hl with
 | w :: r, _ =>
  simp only [List.getElem_cons_zero] at h1 h2 hn ⊢
  refine ⟨kK (r.length + 1) r [], ?_, ⟨by simp, by simp, by simp⟩⟩
  simp only [rdP]
  grind
end Go.Pl

namespace Go.Proofs.YtlldglbooaefhaaGreatDoor
open Go Go.Hl Go.Pl
set_option maxRecDepth 10000
set_option maxHeartbeats 16000000

def pr0 : Pr := ⟨[], [], [], 0, []⟩

theorem bD2 (ls : List (List aG)) (a : Nat) (hal : a ≤ ls.length) (hls : ls.length < 2 ^ 39) :
  sZ Tryz.prog 90 94 (rdr ls a) [] (fun u x v' => ∃ q : Pr, u = q.cv ∧ x = .bool (rdR (ls.drop a)).1.isSome ∧ v' = rdr ls (ls.length - (rdR (ls.drop a)).2.length) ∧ ∀ p, (rdR (ls.drop a)).1 = some p → q = p) := by
 refine bY Tryz.func90 rfl (by kernel_rfl) (dW _ _ _) (Nat.le_of_ble_eq_true rfl) ?_
 refine R0 ?_
 refine aB fun K hK => ?_
 refine aB fun K hK => Rg ?_
 refine S0 ?_
 refine HS rfl rfl fun K' hK' => T5 ?_
 refine eQ (args := [_, _]) (zL ls a 5 wRule (by omega)) rfl (by simp) ⟨rfl, rfl, rfl, rfl⟩ ?_
 rintro u v' ⟨rfl, rfl⟩
 refine AX (hK' _ _ ?_)
 clear hK' K'
 refine S0 ?_
 refine T2 (hK _ _ _ ?_)
 clear hK K
 refine aH (b := !isV ls a wRule 5) rfl (fun hb => ?_) (fun hb => ?_)
 ·
  have hX := bZ5 hal (show isV ls a wRule 5 = false by simpa using hb)
  refine aB fun K hK => Rg ?_
  iterate 3 refine S0 ?_
  refine T2 (hK _ _ _ ?_)
  clear hK K
  refine aE (RT Tryz.results90 ?_)
  rw [hX]
  exact bO [] pr0.cv (.bool false) (rdr ls a) rfl rfl (by simp [HV.close, HV.closeL, rdr, CV.denil, CV.denilL, aP, HV.norm, HV.toC, HV.toCL]) (by simp) (by refine ⟨pr0, rfl, rfl, ?_⟩; first | exact (by simp only [List.length_drop]; congr 1; omega) | exact ⟨by simp only [List.length_drop]; congr 1; omega, fun t h => by cases h⟩)
 refine aJ ?_
 refine T0 (hK _ _ _ ?_)
 clear hK K
 obtain ⟨hl, hl1, hl2⟩ := fN (show isV ls a wRule 5 = true by simpa using hb)
 have h1 : 1 < ls[a].length := by omega
 have h2 : 2 < ls[a].length := by omega
 have h3 : 3 < ls[a].length := by omega
 have hw : IntKind.i64.wrap ((a : Int) + 1) = ((a + 1 : Nat) : Int) := IntWalk.i64_in _ (by omega)
 clear hb
 refine aB fun K hK => QR ?_
 iterate 11 refine S0 ?_ (e := fun _ h_ => by simp only [sH, ↓sP, sA, tyS, simprocAttr, rdr, Int.natCast_nonneg, Int.ofNat_lt, hl, bN hl, eH]; exact AX h_)
 refine T2 (hK _ _ _ ?_)
 clear hK K
 refine aB fun K hK => Rg ?_
 refine S0 ?_
 refine HS rfl rfl fun K' hK' => T5 ?_
 refine dQ (args := [_]) (lB ls a 4 hl (by omega)) rfl (by simp) ⟨rfl, rfl, rfl, rfl⟩ ?_
 rintro u x v' ⟨rfl, rfl, rfl⟩
 refine AX (hK' _ _ ?_)
 clear hK' K'
 iterate 5 refine S0 ?_
 refine T2 (hK _ _ _ ?_)
 clear hK K
 refine aB fun K hK => ?_
 refine R0 ?_
 refine aH (b := !(bG (wd ls[a] 4)).isSome) rfl (fun hb => ?_) (fun hb => ?_)
 ·
  have hX := bU1 hl hl1 hl2 (show bG (wd ls[a] 4) = none by simpa using hb)
  refine aB fun K hK => Rg ?_
  iterate 3 refine S0 ?_
  refine T2 (hK _ _ _ ?_)
  clear hK K
  refine aE (RT Tryz.results90 ?_)
  rw [hX]
  exact bO [] pr0.cv (.bool false) (rdr ls a) rfl rfl (by simp [HV.close, HV.closeL, rdr, CV.denil, CV.denilL, aP, HV.norm, HV.toC, HV.toCL]) (by simp) (by refine ⟨pr0, rfl, rfl, ?_⟩; first | exact (by simp only [List.length_drop]; congr 1; omega) | exact ⟨by simp only [List.length_drop]; congr 1; omega, fun t h => by cases h⟩)
 refine aJ ?_
 refine T0 (hK _ _ _ ?_)
 clear hK K
 obtain ⟨g, hg⟩ : ∃ g, bG (wd ls[a] 4) = some g := by
  cases h : bG (wd ls[a] 4) with
  | none => rw [h] at hb; simp at hb
  | some g => exact ⟨g, rfl⟩
 have hX := bN8 hl hl1 hl2 hg
 clear hb
 simp only [hg, Option.getD_some]
 have hN : sZ Tryz.prog 108 94 (rdr ls (a + 1)) [.nils] (fun u x v' => ∃ T' : List Nd, u = .slc (T'.map Nd.cv) ∧ x = .bool (rdT (ls.drop (a + 1))).1.isSome ∧ v' = rdr ls (ls.length - (rdT (ls.drop (a + 1))).2.length) ∧ ∀ t, (rdT (ls.drop (a + 1))).1 = some t → T' = t) := bN7 (2 * (ls.drop (a + 1)).length + 2) ls (a + 1) hl (by simp only [List.length_drop]; omega) hls
 refine aB fun K hK => Rg ?_
 iterate 8 refine S0 ?_ (e := fun _ h_ => by simp only [sH, ↓sP, sA, tyS, simprocAttr, rdr, hw]; exact AX h_)
 refine T2 (hK _ _ _ ?_)
 clear hK K
 refine aB fun K hK => bD (by kernel_rfl) ?_
 simp only [sR, simprocAttr]
 refine SG0 ?_
 refine aH5 (g := none) rfl rfl fun K' hK' => ?_
 simp only [sN, ↓hopH.eq_def, sH, ↓sP, sA, tyS, simprocAttr]
 refine dQ (args := [_]) hN rfl (by simp) ⟨rfl, rfl, rfl, rfl⟩ ?_
 rintro u x v' ⟨T', rfl, rfl, rfl, hT⟩
 refine AX (hK' _ _ ?_)
 clear hK' K'
 iterate 5 refine SG0 ?_
 refine T2 (hK _ _ _ ?_)
 clear hK K
 refine aB fun K hK => DW [(0, [], []), (1, [], []), (2, [], []), (3, [], []), (4, [], []), (5, [], []), (6, [], []), (7, [], []), (8, [], []), (9, [], []), (10, [], []), (11, [], []), (12, [], []), (13, [], [12]), (14, [], [])] [0, 1, 3, 0, 8, 24, 0, 64, 192, 0, 0, 2047, 0, 4095, 16383] ?_
 iterate 15 refine W0 ?_ (e := fun _ h_ => by simp only [sH, ↓sP, sA, tyS, simprocAttr, lsC, Int.one_nonneg, vY h1, vY h2, vY h3, hl1]; exact AX h_)
 refine T2 (hK _ _ _ ?_)
 clear hK K
 refine aE (RT Tryz.results90 ?_)
 rw [hX]
 exact bO [] (Pr.cv ⟨wd ls[a] 1, wd ls[a] 2, wd ls[a] 3, g, T'⟩) (.bool (rdT (ls.drop (a + 1))).1.isSome) (rdr ls (ls.length - (rdT (ls.drop (a + 1))).2.length)) (by simp [HV.close, HV.closeL, Pr.cv, CV.denil, CV.denilL, denilL_Nd, HV.norm, HV.toC, HV.toCL]) rfl (by simp [HV.close, HV.closeL, rdr, CV.denil, CV.denilL, aP, HV.norm, HV.toC, HV.toCL]) (by simp) ⟨_, rfl, by simp, rfl, fun p h => by
  cases h4 : (rdT (ls.drop (a + 1))).1 with
  | none => simp [h4] at h
  | some t => simp [h4] at h; rw [← h, hT t h4]⟩


theorem bO0 (ls : List (List aG)) (hls : ls.length < 2 ^ 39) :
  sZ Tryz.prog 63 94 (rdr ls 0) [] (fun u x v' => ∃ q : Po, u = q.cv ∧ x = .bool (rdP ls).1.isSome ∧ v' = rdr ls (ls.length - (rdP ls).2.length) ∧ ∀ p, (rdP ls).1 = some p → q = p) := by
 refine bY Tryz.func63 rfl (by kernel_rfl) (dW _ _ _) (Nat.le_of_ble_eq_true rfl) ?_
 refine R0 ?_
 refine aB fun K hK => ?_
 refine aB fun K hK => Rg ?_
 refine S0 ?_
 refine HS rfl rfl fun K' hK' => T5 ?_
 refine eQ (args := [_, _]) (zL ls 0 3 wPolicy (by omega)) rfl (by simp) ⟨rfl, rfl, rfl, rfl⟩ ?_
 rintro u v' ⟨rfl, rfl⟩
 refine AX (hK' _ _ ?_)
 clear hK' K'
 refine S0 ?_
 refine T2 (hK _ _ _ ?_)
 clear hK K
 refine aH (b := !isV ls 0 wPolicy 3) rfl (fun hb => ?_) (fun hb => ?_)
 ·
  have hX := bZ6 (show isV ls 0 wPolicy 3 = false by simpa using hb)
  refine aB fun K hK => Rg ?_
  iterate 3 refine S0 ?_
  refine T2 (hK _ _ _ ?_)
  clear hK K
  refine aE (RT Tryz.results63 ?_)
  rw [hX]
  exact bO [] po0.cv (.bool false) (rdr ls 0) (by simp [HV.close, HV.closeL, HO.close, fob_at, upd_at, po0, Po.cv, CV.denil, CV.denilL, denilL_Pr, HV.norm, HV.toC, HV.toCL]) rfl (by simp [HV.close, HV.closeL, rdr, CV.denil, CV.denilL, aP, HV.norm, HV.toC, HV.toCL]) (by simp) (by refine ⟨po0, rfl, rfl, ?_⟩; first | exact (by simp only [List.length_drop]; congr 1; omega) | exact rfl | exact ⟨by simp, fun t h => by cases h⟩)
 refine aJ ?_
 refine T0 (hK _ _ _ ?_)
 clear hK K
 obtain ⟨hl, hl1, hl2⟩ := fN (show isV ls 0 wPolicy 3 = true by simpa using hb)
 have h1 : 1 < ls[0].length := by omega
 clear hb
 refine aB fun K hK => Rg ?_
 refine S0 ?_
 refine HS rfl rfl fun K' hK' => T5 ?_
 refine dQ (args := [_]) (lB ls 0 2 hl (by omega)) rfl (by simp) ⟨rfl, rfl, rfl, rfl⟩ ?_
 rintro u x v' ⟨rfl, rfl, rfl⟩
 refine AX (hK' _ _ ?_)
 clear hK' K'
 iterate 5 refine S0 ?_
 refine T2 (hK _ _ _ ?_)
 clear hK K
 refine aB fun K hK => ?_
 refine R0 ?_
 refine aH (b := !(bG (wd ls[0] 2)).isSome) rfl (fun hb => ?_) (fun hb => ?_)
 ·
  have hX := bU2 hl hl1 hl2 (show bG (wd ls[0] 2) = none by simpa using hb)
  refine aB fun K hK => Rg ?_
  iterate 3 refine S0 ?_
  refine T2 (hK _ _ _ ?_)
  clear hK K
  refine aE (RT Tryz.results63 ?_)
  rw [hX]
  exact bO [] po0.cv (.bool false) (rdr ls 0) (by simp [HV.close, HV.closeL, HO.close, fob_at, upd_at, po0, Po.cv, CV.denil, CV.denilL, denilL_Pr, HV.norm, HV.toC, HV.toCL]) rfl (by simp [HV.close, HV.closeL, rdr, CV.denil, CV.denilL, aP, HV.norm, HV.toC, HV.toCL]) (by simp) (by refine ⟨po0, rfl, rfl, ?_⟩; first | exact (by simp only [List.length_drop]; congr 1; omega) | exact rfl | exact ⟨by simp, fun t h => by cases h⟩)
 refine aJ ?_
 refine T0 (hK _ _ _ ?_)
 clear hK K
 obtain ⟨v, hv⟩ : ∃ v, bG (wd ls[0] 2) = some v := by
  cases h : bG (wd ls[0] 2) with
  | none => rw [h] at hb; simp at hb
  | some v => exact ⟨v, rfl⟩
 obtain ⟨X, hX, hst⟩ := bN9 hl hl1 hl2 hv
 clear hb
 simp only [hv, Option.getD_some]
 refine aB fun K hK => Rg ?_
 iterate 12 refine S0 ?_ (e := fun _ h_ => by simp only [sH, ↓sP, sA, tyS, simprocAttr, rdr, hl, bN hl, lsC, vY h1, Int.one_nonneg, hl1, Int.natCast_pos]; exact AX h_)
 refine T2 (hK _ _ _ ?_)
 clear hK K
 refine aB fun K hK => ?_
 refine aB fun K hK => Rg ?_
 iterate 8 refine S0 ?_ (e := fun _ h_ => by simp only [sH, ↓sP, sA, tyS, simprocAttr, rdr]; exact AX h_)
 refine T2 (hK _ _ _ ?_)
 clear hK K
 refine aK ?_
 refine aB1 97 2 54 5 rfl rfl rfl rfl ?_
 refine bE (α := {y : List Pr × Nat // RsSt ls X y.1 y.2}) (fun y => (fin [(0, .ptr 0 0), (2, .ptr 1 0), (6, .ptr 97 0)], fob [(0, .box 94 (.c (rdr ls y.1.2))), (1, .box 45 (.c (.agg [.str [], .int .i64 0, .nils]))), (97, .box 45 (.agg [.c (.str (wd ls[0] 1)), .c (.int .i64 v), .own 137 y.1.1.length])), (137, .row 54 5 (y.1.1.map Pr.cv))])) 2000 (fun y => ls.length - y.1.2) ⟨([], 1), hst⟩ (aM (by omega) (by simp [aY, fin_at, finA_at, upd_at, HV.men, HV.menL, HV.norm, HV.toC, HV.toCL, rdr, show IntKind.i64.wrap 1 = 1 from rfl]) (by simp [bB, fob_at, upd_at, none0_at, bZ, HO.men, HV.men, HV.menL, HV.norm, HV.toC, HV.toCL, rdr, show IntKind.i64.wrap 1 = 1 from rfl])) ?_
 rintro ⟨⟨acc, p⟩, hΦ⟩
 simp only at hΦ
 refine aB fun K hK => ?_
 refine aB fun K hK => QR ?_
 iterate 10 refine S0 ?_ (e := fun _ h_ => by simp only [sH, ↓sP, sA, tyS, simprocAttr, rdr]; exact AX h_)
 refine T2 (hK _ _ _ ?_)
 clear hK K
 refine aH (b := decide ((p : Int) < ls.length)) rfl (fun hb => ?_) (fun hb => ?_)
 ·
  have hp : p < ls.length := by simpa using hb
  have hp1 := hΦ.le
  have hp2 := hΦ.len
  clear hb
  refine aJ ?_
  refine T0 (hK _ _ _ ?_)
  clear hK K
  refine aK ?_
  refine aB fun K hK => Rg ?_
  refine S0 ?_
  refine HS rfl rfl fun K' hK' => T5 ?_
  refine dQ (args := []) (bD2 ls p hp1 hls) rfl (by simp) ⟨rfl, rfl, rfl, rfl⟩ ?_
  rintro u x v' ⟨q, rfl, rfl, rfl, hq⟩
  refine AX (hK' _ _ ?_)
  clear hK' K'
  iterate 6 refine S0 ?_
  refine T2 (hK _ _ _ ?_)
  clear hK K
  refine aB fun K hK => ?_
  refine R0 ?_
  refine aH (b := !(rdR (ls.drop p)).1.isSome) rfl (fun hb => ?_) (fun hb => ?_)
  ·
   have hno : (rdR (ls.drop p)).1 = none := by simpa using hb
   have hXn := hΦ.no hp hno
   refine aB fun K hK => Rg ?_
   iterate 3 refine S0 ?_
   refine T2 (hK _ _ _ ?_)
   clear hK K
   refine aE (RT Tryz.results63 ?_)
   rw [hX, hXn]
   exact bO [] po0.cv (.bool false) (rdr ls (ls.length - (rdR (ls.drop p)).2.length)) (by simp [HV.close, HV.closeL, HO.close, fob_at, upd_at, po0, Po.cv, CV.denil, CV.denilL, denilL_Pr, HV.norm, HV.toC, HV.toCL]) rfl (by simp [HV.close, HV.closeL, rdr, CV.denil, CV.denilL, aP, HV.norm, HV.toC, HV.toCL]) (by simp) (by refine ⟨po0, rfl, rfl, ?_⟩; first | exact (by simp only [List.length_drop]; congr 1; omega) | exact rfl | exact ⟨by simp, fun t h => by cases h⟩)
  obtain ⟨x, hx⟩ : ∃ x, (rdR (ls.drop p)).1 = some x := by
   cases h : (rdR (ls.drop p)).1 with
   | none => rw [h] at hb; simp at hb
   | some x => exact ⟨x, rfl⟩
  obtain ⟨hst2, hlt2⟩ := hΦ.some_ hp hx
  obtain rfl := hq x hx
  clear hb
  refine aJ ?_
  refine T0 (hK _ _ _ ?_)
  clear hK K
  refine Rg ?_
  iterate 7 refine S0 ?_
  refine T4 ?_
  refine ⟨⟨(acc ++ [q], ls.length - (rdR (ls.drop p)).2.length), hst2⟩, aM (by omega) (by simp [aY, fin_at, finA_at, upd_at, HV.men, HV.menL, HV.norm, HV.toC, HV.toCL, List.map_append]) (by simp [bB, fob_at, upd_at, none0_at, bZ, HO.men, HV.men, HV.menL, HV.norm, HV.toC, HV.toCL, List.map_append]), ?_⟩
  show ls.length - (ls.length - (rdR (ls.drop p)).2.length) < ls.length - p
  omega
 have hp : ¬ p < ls.length := by simpa using hb
 obtain ⟨rfl, hXs⟩ := hΦ.done hp
 refine aX (T3 ?_)
 clear hK K
 refine AX (hK _ _ _ ?_)
 clear hK K
 refine aB fun K hK => Rg ?_
 iterate 3 refine S0 ?_
 refine T2 (hK _ _ _ ?_)
 clear hK K
 refine aE (RT Tryz.results63 ?_)
 rw [hX, hXs]
 refine ⟨rfl, ?_⟩
 exact bO [137] (Po.cv ⟨wd ls[0] 1, v, acc⟩) (.bool true) (rdr ls ls.length) (by simp [HV.close, HV.closeL, HO.close, fob_at, upd_at, po0, Po.cv, CV.denil, CV.denilL, denilL_Pr, HV.norm, HV.toC, HV.toCL]) rfl (by simp [HV.close, HV.closeL, rdr, CV.denil, CV.denilL, aP, HV.norm, HV.toC, HV.toCL]) (by simp) (by exact ⟨_, rfl, rfl, by simp, fun p h => by cases h; rfl⟩)

end Go.Proofs.YtlldglbooaefhaaGreatDoor

namespace Go.Proofs.YtlldglbooaefhaaGreatDoor
open Go Go.Hl Go.Pl Go.RowKit Go.Shelf
set_option maxRecDepth 100000

def bU3 : Go.Shelf.Ren := ⟨fun | 173 => 77 | 246 => 102 | 283 => 117 | 284 => 118 | 285 => 119 | 286 => 120 | 129 => 137 | 317 => 136 | 318 => 138 | 319 => 139 | 320 => 140 | 337 => 148 | 338 => 149 | n => n, fun | 2 => 2 | 3 => 3 | 9 => 9 | 4 => 4 | 171 => 155 | 0 => 0 | 53 => 116 | 37 => 47 | 5 => 5 | 173 => 158 | 212 => 169 | 51 => 170 | 20 => 20 | 213 => 171 | 46 => 41 | 232 => 184 | 233 => 185 | n => n, fun | 17 => 1 | 18 => 4 | 19 => 5 | n => n⟩
theorem bZ7 : Go.Proofs.LaysM.n173 Tryz.prog bU3 := {
  mixed := by kernel_rfl
  f129 := Tryz.func137.trans (congrArg some (by kernel_rfl))
  f173 := Tryz.func77.trans (congrArg some (by kernel_rfl))
  f246 := Tryz.func102.trans (congrArg some (by kernel_rfl))
  f283 := Tryz.func117.trans (congrArg some (by kernel_rfl))
  f284 := Tryz.func118.trans (congrArg some (by kernel_rfl))
  f285 := Tryz.func119.trans (congrArg some (by kernel_rfl))
  f286 := Tryz.func120.trans (congrArg some (by kernel_rfl))
  f317 := Tryz.func136.trans (congrArg some (by kernel_rfl))
  f318 := Tryz.func138.trans (congrArg some (by kernel_rfl))
  f319 := Tryz.func139.trans (congrArg some (by kernel_rfl))
  f320 := Tryz.func140.trans (congrArg some (by kernel_rfl))
  f337 := Tryz.func148.trans (congrArg some (by kernel_rfl))
  f338 := Tryz.func149.trans (congrArg some (by kernel_rfl))
  t0 := Tryz.underlying0
  a0 := Tryz.isAgg0
  z0 := Tryz.sizeOf0
  v0 := Tryz.zeroValue0
  t2 := Tryz.underlying2
  a2 := Tryz.isAgg2
  z2 := Tryz.sizeOf2
  v2 := Tryz.zeroValue2
  t3 := Tryz.underlying3
  a3 := Tryz.isAgg3
  z3 := Tryz.sizeOf3
  v3 := Tryz.zeroValue3
  t4 := Tryz.underlying4
  a4 := Tryz.isAgg4
  z4 := Tryz.sizeOf4
  v4 := Tryz.zeroValue4
  t5 := Tryz.underlying5
  a5 := Tryz.isAgg5
  z5 := Tryz.sizeOf5
  v5 := Tryz.zeroValue5
  t9 := Tryz.underlying9
  a9 := Tryz.isAgg9
  z9 := Tryz.sizeOf9
  v9 := Tryz.zeroValue9
  t20 := Tryz.underlying20
  a20 := Tryz.isAgg20
  z20 := Tryz.sizeOf20
  v20 := Tryz.zeroValue20
  t37 := Tryz.underlying47
  a37 := Tryz.isAgg47
  z37 := Tryz.sizeOf47
  v37 := Tryz.zeroValue47
  t46 := Tryz.underlying41
  a46 := Tryz.isAgg41
  z46 := Tryz.sizeOf41
  v46 := Tryz.zeroValue41
  t51 := Tryz.underlying170
  a51 := Tryz.isAgg170
  z51 := Tryz.sizeOf170
  v51 := Tryz.zeroValue170
  t53 := Tryz.underlying116
  a53 := Tryz.isAgg116
  z53 := Tryz.sizeOf116
  v53 := Tryz.zeroValue116
  t171 := Tryz.underlying155
  a171 := Tryz.isAgg155
  z171 := Tryz.sizeOf155
  v171 := Tryz.zeroValue155
  t173 := Tryz.underlying158
  a173 := Tryz.isAgg158
  z173 := Tryz.sizeOf158
  v173 := Tryz.zeroValue158
  t212 := Tryz.underlying169
  a212 := Tryz.isAgg169
  z212 := Tryz.sizeOf169
  v212 := Tryz.zeroValue169
  t213 := Tryz.underlying171
  a213 := Tryz.isAgg171
  z213 := Tryz.sizeOf171
  t232 := Tryz.underlying184
  a232 := Tryz.isAgg184
  z232 := Tryz.sizeOf184
  v232 := Tryz.zeroValue184
  t233 := Tryz.underlying185
  a233 := Tryz.isAgg185
  z233 := Tryz.sizeOf185
  v233 := Tryz.zeroValue185
  g17 := by kernel_rfl
  g18 := by kernel_rfl
  g19 := by kernel_rfl
  i0 := by kernel_rfl
  i2 := by kernel_rfl
  i3 := by kernel_rfl
  i4 := by kernel_rfl
  i5 := by kernel_rfl
  i9 := by kernel_rfl
  i20 := by kernel_rfl
  i37 := by kernel_rfl
  i46 := by kernel_rfl
  i51 := by kernel_rfl
  i53 := by kernel_rfl
  i171 := by kernel_rfl
  i173 := by kernel_rfl
  i212 := by kernel_rfl
  i232 := by kernel_rfl
  i233 := by kernel_rfl
  m17 := by kernel_rfl
  m18 := by kernel_rfl
  m19 := by kernel_rfl }

theorem aD9 : Tryz.prog.globalNamed "internal/strconv.uint64pow10" = some 1 := by kernel_rfl
def tabs : kR := [(1, Lib.pow10Tab.map fun z => Value.int .u64 z)]
theorem bD3 (n : Int) (h : -9223372036854775808 ≤ n ∧ n ≤ 9223372036854775807) : mW Tryz.prog 77 tabs [.int .i64 n, .int .i64 10] (fun v => v = .str (numW n)) :=
  aP3 (by kernel_rfl) aD9 (List.mem_cons_self) (fun w hw => Any.strconv_FormatInt_10 bZ7 n h.1 h.2 w hw)
end Go.Proofs.YtlldglbooaefhaaGreatDoor
