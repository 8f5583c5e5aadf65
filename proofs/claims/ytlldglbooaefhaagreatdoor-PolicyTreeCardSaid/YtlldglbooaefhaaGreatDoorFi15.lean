/- PolicyTree: for any list of nodes, any tape of numbers, any index and any truth values the law returns true and leaves them as they were: Tree, Children, Leaves and Eval of the program answer as the reference's do. The listed tables of the library are tied to the program's text by the card. By an AI agent. -/
import Derived.Test.YtlldglbooaefhaaGreatDoorHzU1
import Derived.Test.YtlldglbooaefhaaGreatDoorPl28l
import Derived.Test.YtlldglbooaefhaaGreatDoorHzSb
import Derived.Test.YtlldglbooaefhaaGreatDoorHlIt
import Derived.Test.YtlldglbooaefhaaGreatDoorPl28k
import Derived.Test.YtlldglbooaefhaaGreatDoorHzT7
import Derived.Test.YtlldglbooaefhaaGreatDoorHzTh
import Derived.Test.YtlldglbooaefhaaGreatDoorHzV3
import Derived.Lay
import Derived.SevenTiedAt
import Derived.Test.YtlldglbooaefhaaGreatDoorRows
import Derived.Test.YtlldglbooaefhaaGreatDoorCards
import Derived.Test.YtlldglbooaefhaaGreatDoorTie
set_option linter.unusedSimpArgs false
set_option linter.unusedVariables false
set_option linter.defProp false
namespace Go.Proofs.YtlldglbooaefhaaGreatDoor
open Go Go.Hl Go.Pl
set_option maxRecDepth 10000
set_option maxHeartbeats 16000000

theorem cB (id n sz m : Nat) : (gX id n sz m).sto = true := by unfold gX; split <;> rfl
theorem bM (id n sz m : Nat) : (gX id n sz m).cells = 1 := by unfold gX; split <;> rfl
theorem bP (id n sz m : Nat) : (gX id n sz m).toC = none := by unfold gX; split <;> rfl
theorem cS (id n sz : Nat) : gX id n sz n = .own id n := by unfold gX; rw [if_pos rfl]
theorem cM {id n sz m : Nat} (h : m ≠ n) : gX id n sz m = .osl id n 0 sz m := by unfold gX; rw [if_neg h]
theorem oI {M : Nat → Prop} {id n sz m : Nat} (h : M id) : (gX id n sz m).men M := by unfold gX; split <;> exact h

theorem aD1 (l : List Nd) (hn : ∀ n ∈ l, n.q.t.length < 2 ^ 63) (tr : List Bool) (htr : tr.length < 2 ^ 63) : bQ Tryz.prog 20 [.slc (l.map Nd.cv), .slc (tr.map bC)] (fun v => v = .bool (oT l tr)) := by
 refine FW Tryz.func20 ?_
 have F := rI
 refine RF ?_
 refine aB fun K hK => Rg ?_
 refine SF ?_
 refine HS rfl rfl fun K' hK' => T6 ?_
 refine C1 (sD l hn) ?_
 rintro u rfl
 refine AX (hK' _ _ ?_)
 clear hK' K'
 iterate 3 refine SF ?_
 simp only [sE, ↓reduceIte, simprocAttr, rI]
 refine AX (hK _ _ _ ?_)
 clear hK K
 refine aB fun K hK => ?_
 refine RF ?_
 refine aH (b := (((gJ l).length : Int) == 0)) rfl (fun hb => ?_) (fun hb => ?_)
 ·
  refine RF ?_
  refine aF ?_
  simp only [gF, Tryz.results20, fD, gE, eO, ↓sP, sA, tyS, simprocAttr, rI]
  have hlv : gJ l = [] := by simpa using hb
  have htf : cP l = false := by
   cases h : cP l with
   | false => rfl
   | true =>
    have h1 := aI4 (fH h)
    rw [jM h] at hlv
    have h2 := gP l 0
    rw [hlv] at h2
    simp at h2; omega
  exact aG [] (.bool false) rfl (by rw [oT, htf]; rfl)
 have htt : cP l = true := by
  cases h : cP l with
  | true => rfl
  | false => rw [kH h] at hb; simp at hb
 have ht := fH htt
 have hl := ht.len
 have hlen : (gJ l).length = lv l := by rw [jM htt, gP]
 rw [hlen]
 clear hb
 refine aJ ?_
 refine TQ rI ?_
 refine AX (hK _ _ _ ?_)
 clear hK K
 refine RF ?_
 refine aB fun K hK => ?_
 refine aB fun K hK => Rg ?_
 refine S0 ?_ (e := fun _ h_ => by simp only [sH, ↓sP, sA, tyS, simprocAttr, rI, denilL_Nd, lX, gH, List.range', List.map_cons, List.map_nil]; exact AX h_)
 refine HS rfl rfl fun K' hK' => ?_
 simp only [sH, ↓sP, sA, tyS, simprocAttr, rI, denilL_Nd, lX, gH, List.range', List.map_cons, List.map_nil]
 refine rS (args := [_]) (bV7 l) (by simp) ⟨rfl, rfl, rfl, rfl⟩ ?_
 refine AX (hK' _ _ ?_)
 clear hK' K'
 simp only [sE, ↓reduceIte, simprocAttr, rI]
 refine AX (hK _ _ _ ?_)
 clear hK K
 refine aK ?_
 refine aA4 36 0 4 1 rfl rfl rfl rfl ?_
 refine yN (ids := [44]) (fin [(3, .ptr 0 0), (5, .ptr 20 0), (6, .ptr 36 0)]) (fun i => fob [(0, .box 24 (.c (.slc (tr.map bC)))), (20, .box 3 (.c (.int .i64 (lv (l.take (l.length - i)) : Nat)))), (36, .box 24 (gX 48 (cA l tr i).1.length 1 (cA l tr i).2)), (48, .row 4 1 ((cA l tr i).1.map bC))]) 20000 (fun i => EvOk l tr i) (EvOk.zero l tr) (bC8 l (by omega)) rfl rfl (by decide) ?_ ?_ ?_ ?_ ?_ rfl rfl ?_ ?_
 ·
  intro j x hx
  match j, hx with
  | 0, hx => cases hx; rfl
 ·
  exact aN (by omega) (by simp [bA, fin_at, finA_at, upd_at, HV.men, HV.menL, HV.norm, HV.toC, HV.toCL, lX, cA, cS, List.take_length]) (by simp [aX, fob_at, upd_at, none0_at, bY, HO.men, HV.men, HV.menL, HV.norm, HV.toC, HV.toCL, lX, cA, cS, List.take_length])
 ·
  intro id hid
  simp only [List.mem_cons, List.not_mem_nil, or_false] at hid
  subst hid; rfl
 ·
  intro x hx
  obtain ⟨p, _, rfl⟩ := List.mem_map.1 hx
  rfl
 ·
  intro p hp
  simp only [List.mem_cons, List.not_mem_nil, or_false] at hp
  rcases hp with rfl | rfl <;> exact Nat.le_of_ble_eq_true rfl
 ·
  intro i hi hΦ K hK
  have hi2 : i < l.length := by rw [← qS l]; exact hi
  have hp : l.length - 1 - i < l.length := by omega
  rw [bL4 hi hp]
  simp only [vP]
  obtain ⟨w, hw⟩ : ∃ w, w = (cA l tr i).1 := ⟨_, rfl⟩
  obtain ⟨m, hm⟩ : ∃ m, m = (cA l tr i).2 := ⟨_, rfl⟩
  have hfit := hΦ.fit
  have hsmall := hΦ.small
  rw [← hw, ← hm] at hfit
  rw [← hw] at hsmall
  rw [← hw, ← hm]
  refine aL (by kernel_rfl) ?_
  refine TQ rI ?_
  refine AX (hK _ _ _ ?_)
  clear hK K
  refine aK ?_
  refine aB fun K hK => ?_
  refine RF ?_
  refine aH (b := (l[l.length - 1 - i].k == 1)) rfl (fun hb => ?_) (fun hb => ?_)
  ·
   have hk1 : l[l.length - 1 - i].k = 1 := by simpa using hb
   obtain ⟨hok, hst⟩ := hΦ.leaf hi2 hk1
   rw [← hw, ← hm] at hst
   have hlv := aB9 hp
   rw [if_pos hk1, show l.length - 1 - i + 1 = l.length - i from by omega] at hlv
   have hlb := wM l (l.length - 1 - i)
   have hw1 : IntKind.i64.wrap ((lv (l.take (l.length - i)) : Int) - 1) = ((lv (l.take (l.length - 1 - i)) : Nat) : Int) := by rw [hlv, bN _ (by omega)]; omega
   obtain ⟨x, hx⟩ : ∃ x, x = lv (l.take (l.length - 1 - i)) := ⟨_, rfl⟩
   have hxl : l.length - (i + 1) = l.length - 1 - i := by omega
   rw [← hx] at hw1 hst
   clear hb
   have F := aI rI hw1
   refine RF ?_
   by_cases hlt : x < tr.length
   ·
    by_cases hmw : m = w.length
    ·
     subst hmw
     have hg : tr.getD x false = tr[x] := by simp [hlt]
     refine aB fun K hK => eV mixed [(0, [], []), (1, [], []), (2, [], []), (3, [], []), (4, [], []), (5, [], []), (6, [], []), (7, [], []), (8, [], []), (9, [], []), (10, [], []), (11, [], []), (12, [], []), (13, [], [])] [0, 0, 0, 4, 14, 30, 62, 62, 254, 510, 1022, 2046, 4095, 8191] (by kernel_rfl) (by kernel_rfl) (by kernel_rfl) (by kernel_rfl) rfl (by kernel_rfl) ?_
     iterate 14 refine WG0 ?_ (e := fun _ h_ => by simp only [sH, ↓sP, sA, tyS, simprocAttr, rI, Int.natCast_nonneg, Int.ofNat_lt, hlt, bB hlt, bC, cS, cB, bM, bP]; exact AX h_)
     simp only [sE, ↓reduceIte, simprocAttr, rI]
     refine AX (hK _ _ _ ?_)
     clear hK K
     refine aZ ?_
     refine TQ rI ?_
     clear hK K
     rw [hg, zL] at hst
     refine ⟨(show Fits 20000 _ _ (fin []) _ 20000 from aN (by omega) trivial ?_), hok⟩
     rw [hst, hxl, ← hx]
     simp [aX, fob_at, upd_at, none0_at, bY, HO.men, HV.men, HV.menL, HV.norm, HV.toC, HV.toCL, cS, bC]
    have hg : tr.getD x false = tr[x] := by simp [hlt]
    have hmw2 : m + 1 ≤ w.length := by omega
    have hw0 : 0 < w.length := by omega
    have hrow : (lF w m tr[x]).map bC = (w.map bC).take m ++ [.bool tr[x]] ++ (w.map bC).drop (m + 1) := by simp [lF, List.map_take, List.map_drop, bC]
    refine aB fun K hK => eV mixed [(0, [], []), (1, [], []), (2, [], []), (3, [], []), (4, [], []), (5, [], []), (6, [], []), (7, [], []), (8, [], []), (9, [], []), (10, [], []), (11, [], []), (12, [], []), (13, [], [])] [0, 0, 0, 4, 14, 30, 62, 62, 254, 510, 1022, 2046, 4095, 8191] (by kernel_rfl) (by kernel_rfl) (by kernel_rfl) (by kernel_rfl) rfl (by kernel_rfl) ?_
    iterate 12 refine WG0 ?_ (e := fun _ h_ => by simp only [sH, ↓sP, sA, tyS, simprocAttr, rI, Int.natCast_nonneg, Int.ofNat_lt, hlt, bB hlt, bC, cM hmw, cB, bM, bP, hw0, hmw2]; exact AX h_)
    refine eF (g := none) rfl rfl fun K' hK' => ?_
    simp only [sN, ↓hopH.eq_def, sH, ↓sP, sA, tyS, simprocAttr, rI, Int.natCast_nonneg, Int.ofNat_lt, hlt, bB hlt, bC, cM hmw, cB, bM, bP, hw0, hmw2]
    refine AX (hK' _ _ ?_)
    clear hK' K'
    refine WG0 ?_ (e := fun _ h_ => by simp only [sH, ↓sP, sA, tyS, simprocAttr, rI, Int.natCast_nonneg, Int.ofNat_lt, hlt, bB hlt, bC, cM hmw, cB, bM, bP, hw0, hmw2]; exact AX h_)
    simp only [sE, ↓reduceIte, simprocAttr, rI]
    refine AX (hK _ _ _ ?_)
    clear hK K
    refine aZ ?_
    refine TQ rI ?_
    clear hK K
    rw [hg] at hst
    refine ⟨(show Fits 20000 _ _ (fin []) _ 20000 from aN (by omega) trivial ?_), hok⟩
    rw [hst, hxl, ← hx]
    simp [aX, fob_at, upd_at, none0_at, bY, HO.men, HV.men, HV.menL, HV.norm, HV.toC, HV.toCL, lG hmw2, hrow, oI, bP]
   by_cases hmw : m = w.length
   ·
    subst hmw
    have hg : tr.getD x false = false := by simp [List.getD_eq_getElem?_getD, List.getElem?_eq_none (Nat.le_of_not_lt hlt)]
    have hlt' : decide ((x : Int) < tr.length) = false := by simp; omega
    refine aB fun K hK => eV mixed [(0, [], []), (1, [], []), (2, [], []), (3, [], []), (4, [], []), (5, [], []), (6, [], []), (7, [], []), (8, [], []), (9, [], []), (10, [], []), (11, [], []), (12, [], []), (13, [], [])] [0, 0, 0, 4, 14, 30, 62, 62, 254, 510, 1022, 2046, 4095, 8191] (by kernel_rfl) (by kernel_rfl) (by kernel_rfl) (by kernel_rfl) rfl (by kernel_rfl) ?_
    have F := aI rI (aI hlt' (aI @cS (aI @cB (aI @bM @bP))))
    iterate 14 refine WGF ?_
    simp only [sE, ↓reduceIte, simprocAttr, rI]
    refine AX (hK _ _ _ ?_)
    clear hK K
    refine aZ ?_
    refine TQ rI ?_
    clear hK K
    rw [hg, zL] at hst
    refine ⟨(show Fits 20000 _ _ (fin []) _ 20000 from aN (by omega) trivial ?_), hok⟩
    rw [hst, hxl, ← hx]
    simp [aX, fob_at, upd_at, none0_at, bY, HO.men, HV.men, HV.menL, HV.norm, HV.toC, HV.toCL, cS, bC]
   have hg : tr.getD x false = false := by simp [List.getD_eq_getElem?_getD, List.getElem?_eq_none (Nat.le_of_not_lt hlt)]
   have hlt' : decide ((x : Int) < tr.length) = false := by simp; omega
   have hmw2 : m + 1 ≤ w.length := by omega
   have hw0 : 0 < w.length := by omega
   have hrow : (lF w m false).map bC = (w.map bC).take m ++ [.bool false] ++ (w.map bC).drop (m + 1) := by simp [lF, List.map_take, List.map_drop, bC]
   refine aB fun K hK => eV mixed [(0, [], []), (1, [], []), (2, [], []), (3, [], []), (4, [], []), (5, [], []), (6, [], []), (7, [], []), (8, [], []), (9, [], []), (10, [], []), (11, [], []), (12, [], []), (13, [], [])] [0, 0, 0, 4, 14, 30, 62, 62, 254, 510, 1022, 2046, 4095, 8191] (by kernel_rfl) (by kernel_rfl) (by kernel_rfl) (by kernel_rfl) rfl (by kernel_rfl) ?_
   iterate 12 refine WG0 ?_ (e := fun _ h_ => by simp only [sH, ↓sP, sA, tyS, simprocAttr, rI, hlt', cM hmw, cB, bM, bP, hw0, hmw2]; exact AX h_)
   refine eF (g := none) rfl rfl fun K' hK' => ?_
   simp only [sN, ↓hopH.eq_def, sH, ↓sP, sA, tyS, simprocAttr, rI, hlt', cM hmw, cB, bM, bP, hw0, hmw2]
   refine AX (hK' _ _ ?_)
   clear hK' K'
   refine WG0 ?_ (e := fun _ h_ => by simp only [sH, ↓sP, sA, tyS, simprocAttr, rI, hlt', cM hmw, cB, bM, bP, hw0, hmw2]; exact AX h_)
   simp only [sE, ↓reduceIte, simprocAttr, rI]
   refine AX (hK _ _ _ ?_)
   clear hK K
   refine aZ ?_
   refine TQ rI ?_
   clear hK K
   rw [hg] at hst
   refine ⟨(show Fits 20000 _ _ (fin []) _ 20000 from aN (by omega) trivial ?_), hok⟩
   rw [hst, hxl, ← hx]
   simp [aX, fob_at, upd_at, none0_at, bY, HO.men, HV.men, HV.menL, HV.norm, HV.toC, HV.toCL, lG hmw2, hrow, oI, bP]
  have hk1 : l[l.length - 1 - i].k ≠ 1 := by simpa using hb
  obtain ⟨hcm, hok, hst⟩ := hΦ.inner ht hi2 hk1
  rw [← hw, ← hm] at hst
  rw [← hm] at hcm
  obtain ⟨c1, c2, c3, c4⟩ := cI (ht.node _ (List.getElem_mem hp))
  have c5 := c4 hk1
  have hlv := aB9 hp
  rw [if_neg hk1, Nat.add_zero, show l.length - 1 - i + 1 = l.length - i from by omega] at hlv
  have hxl : l.length - (i + 1) = l.length - 1 - i := by omega
  obtain ⟨f, hf⟩ : ∃ f, f = m - l[l.length - 1 - i].c.toNat := ⟨_, rfl⟩
  have hfc : m - f = l[l.length - 1 - i].c.toNat := by omega
  rw [← hf, ← hfc] at hst
  have hw2 : IntKind.i64.wrap ((m : Int) - l[l.length - 1 - i].c) = (f : Int) := by rw [bN _ (by omega)]; omega
  have hf1 : f + 1 ≤ w.length := by omega
  have hfw : f ≤ w.length := by omega
  have hfm : f ≤ m := by omega
  have hw0 : 0 < w.length := by omega
  obtain ⟨h, hh⟩ : ∃ h, h = iE l[l.length - 1 - i] ((w.drop f).take (m - f)) := ⟨_, rfl⟩
  rw [← hh] at hst
  have hrow : (lF w f h).map bC = (w.map bC).take f ++ [.bool h] ++ (w.map bC).drop (f + 1) := by simp [lF, List.map_take, List.map_drop, bC]
  clear hb
  refine aJ ?_
  refine TQ rI ?_
  refine AX (hK _ _ _ ?_)
  clear hK K
  by_cases hmw : m = w.length
  ·
   rw [← hmw] at hw0 hf1 hfw
   refine aB fun K hK => Rg ?_
   iterate 6 refine S0 ?_ (e := fun _ h_ => by simp only [sH, ↓sP, sA, tyS, simprocAttr, rI, cS, ← hmw, List.length_map, hw2]; exact AX h_)
   simp only [sE, ↓reduceIte, simprocAttr, rI]
   refine AX (hK _ _ _ ?_)
   clear hK K
   refine eV mixed [(0, [], []), (1, [], []), (2, [], []), (3, [], []), (4, [], []), (5, [], []), (6, [], []), (7, [], [0, 1, 2]), (8, [], []), (9, [], []), (10, [], [])] [0, 0, 3, 0, 0, 0, 48, 120, 248, 511, 1023] (by kernel_rfl) (by kernel_rfl) (by kernel_rfl) (by kernel_rfl) rfl (by kernel_rfl) ?_
   iterate 7 refine WG0 ?_ (e := fun _ h_ => by simp only [sH, ↓sP, sA, tyS, simprocAttr, rI, cS, cB, bM, bP, ← hmw, List.length_map, Int.natCast_nonneg, Int.ofNat_le, hfw]; exact AX h_)
   refine oO (g := none) rfl rfl fun K' hK' => ?_
   simp only [sN, ↓hopH.eq_def, sH, ↓sP, sA, tyS, simprocAttr, rI, cS, cB, bM, bP, ← hmw, List.length_map, Int.natCast_nonneg, Int.ofNat_le, hfw]
   refine aH2 [48] (aL8 l[l.length - 1 - i] w f m (by omega) (by omega) (by omega) (by omega)) (by first | rfl | (rw [← hmw]; rfl)) ⟨rfl, trivial⟩ (by simp) ?_ ?_ ?_ ?_ ?_
   ·
    intro j hj
    match j, hj with
    | 0, _ => exact .inr ⟨by decide, fun r os' h => by rw [h.2]⟩
   ·
    exact ⟨rfl, rfl, rfl, rfl⟩
   ·
    simp [fX, HO.men]
   ·
    simp [HV.menL, HV.men]
   rintro r os' ⟨rfl, rfl⟩
   rw [← hh, show ∀ n ob, lO (sub [48] n) ob 0 [.row 4 1 (w.map bC)] = upd ob 48 (some (.row 4 1 (w.map bC))) from fun _ _ => rfl, show ∀ n b, HV.ren (sub [48] n) (.c b) = .c b from fun _ _ => rfl]
   refine AX (hK' _ _ ?_)
   clear hK' K'
   refine WG0 ?_ (e := fun _ h_ => by simp only [sH, ↓sP, sA, tyS, simprocAttr, rI, cS, cB, bM, bP, ← hmw, List.length_map, Int.natCast_nonneg, Int.ofNat_le, hfw]; exact AX h_)
   refine eF (g := none) rfl rfl fun K' hK' => ?_
   simp only [sN, ↓hopH.eq_def, sH, ↓sP, sA, tyS, simprocAttr, rI, cS, cB, bM, bP, ← hmw, List.length_map, Int.natCast_nonneg, Int.ofNat_le, hfw]
   refine AX (hK' _ _ ?_)
   clear hK' K'
   refine WG0 ?_ (e := fun _ h_ => by simp only [sH, ↓sP, sA, tyS, simprocAttr, rI, cS, cB, bM, bP, ← hmw, List.length_map, Int.natCast_nonneg, Int.ofNat_le, hfw]; exact AX h_)
   simp only [sE, ↓reduceIte, simprocAttr, rI]
   refine ⟨(show Fits 20000 _ _ (fin []) _ 20000 from aN (by omega) trivial ?_), hok⟩
   rw [hst, hxl, hlv]
   simp [aX, fob_at, upd_at, none0_at, bY, HO.men, HV.men, HV.menL, HV.norm, HV.toC, HV.toCL, lG (show f + 1 ≤ w.length by omega), hrow, oI, bP, ← hmw]
  refine aB fun K hK => Rg ?_
  iterate 6 refine S0 ?_ (e := fun _ h_ => by simp only [sH, ↓sP, sA, tyS, simprocAttr, rI, cM hmw, List.length_map, hw0, hfit, Nat.zero_le, List.length_take, List.length_drop, Nat.sub_zero, Nat.min_eq_left hfit, hw2]; exact AX h_)
  simp only [sE, ↓reduceIte, simprocAttr, rI]
  refine AX (hK _ _ _ ?_)
  clear hK K
  refine eV mixed [(0, [], []), (1, [], []), (2, [], []), (3, [], []), (4, [], []), (5, [], []), (6, [], []), (7, [], [0, 1, 2]), (8, [], []), (9, [], []), (10, [], [])] [0, 0, 3, 0, 0, 0, 48, 120, 248, 511, 1023] (by kernel_rfl) (by kernel_rfl) (by kernel_rfl) (by kernel_rfl) rfl (by kernel_rfl) ?_
  iterate 2 refine WG0 ?_ (e := fun _ h_ => by simp only [sH, ↓sP, sA, tyS, simprocAttr, rI, cB, bM, bP, cM hmw, List.length_map, Int.natCast_nonneg, Int.ofNat_le, hfw, hfm]; exact AX h_)
  refine eF (g := none) rfl rfl fun K' hK' => ?_
  simp only [sN, ↓hopH.eq_def, sH, ↓sP, sA, tyS, simprocAttr, rI, cB, bM, bP, cM hmw, List.length_map, Int.natCast_nonneg, Int.ofNat_le, hfw, hfm]
  refine AX (hK' _ _ ?_)
  clear hK' K'
  iterate 3 refine WG0 ?_ (e := fun _ h_ => by simp only [sH, ↓sP, sA, tyS, simprocAttr, rI, cB, bM, bP, cM hmw, List.length_map, Int.natCast_nonneg, Int.ofNat_le, hfw, hfm]; exact AX h_)
  refine eF (g := none) rfl rfl fun K' hK' => ?_
  simp only [sN, ↓hopH.eq_def, sH, ↓sP, sA, tyS, simprocAttr, rI, cB, bM, bP, cM hmw, List.length_map, Int.natCast_nonneg, Int.ofNat_le, hfw, hfm]
  refine AX (hK' _ _ ?_)
  clear hK' K'
  refine oO (g := none) rfl rfl fun K' hK' => ?_
  simp only [sN, ↓hopH.eq_def, sH, ↓sP, sA, tyS, simprocAttr, rI, cB, bM, bP, cM hmw, List.length_map, Int.natCast_nonneg, Int.ofNat_le, hfw, hfm]
  refine aH2 [48] (aL8 l[l.length - 1 - i] w f m (by omega) (by omega) (by omega) (by omega)) (by first | rfl | (rw [← hmw]; rfl)) ⟨rfl, trivial⟩ (by simp) ?_ ?_ ?_ ?_ ?_
  ·
   intro j hj
   match j, hj with
   | 0, _ => exact .inr ⟨by decide, fun r os' h => by rw [h.2]⟩
  ·
   exact ⟨rfl, rfl, rfl, rfl⟩
  ·
   simp [fX, HO.men]
  ·
   simp [HV.menL, HV.men]
  rintro r os' ⟨rfl, rfl⟩
  rw [← hh, show ∀ n ob, lO (sub [48] n) ob 0 [.row 4 1 (w.map bC)] = upd ob 48 (some (.row 4 1 (w.map bC))) from fun _ _ => rfl, show ∀ n b, HV.ren (sub [48] n) (.c b) = .c b from fun _ _ => rfl]
  refine AX (hK' _ _ ?_)
  clear hK' K'
  refine WG0 ?_ (e := fun _ h_ => by simp only [sH, ↓sP, sA, tyS, simprocAttr, rI, cB, bM, bP, cM hmw, List.length_map, Int.natCast_nonneg, Int.ofNat_le, hfw, hfm]; exact AX h_)
  refine eF (g := none) rfl rfl fun K' hK' => ?_
  simp only [sN, ↓hopH.eq_def, sH, ↓sP, sA, tyS, simprocAttr, rI, cB, bM, bP, cM hmw, List.length_map, Int.natCast_nonneg, Int.ofNat_le, hfw, hfm]
  refine AX (hK' _ _ ?_)
  clear hK' K'
  refine WG0 ?_ (e := fun _ h_ => by simp only [sH, ↓sP, sA, tyS, simprocAttr, rI, cB, bM, bP, cM hmw, List.length_map, Int.natCast_nonneg, Int.ofNat_le, hfw, hfm]; exact AX h_)
  simp only [sE, ↓reduceIte, simprocAttr, rI]
  refine ⟨(show Fits 20000 _ _ (fin []) _ 20000 from aN (by omega) trivial ?_), hok⟩
  rw [hst, hxl, hlv]
  simp [aX, fob_at, upd_at, none0_at, bY, HO.men, HV.men, HV.menL, HV.norm, HV.toC, HV.toCL, lG hf1, hrow, oI, bP]
 intro hΦ
 simp only [sE, ↓reduceIte, simprocAttr, rI]
 have hfin := hΦ
 rw [qS] at hfin
 obtain ⟨h1, h0, h2⟩ := hfin.fin ht
 rw [qS, h1]
 obtain ⟨w, hw⟩ : ∃ w, w = (cA l tr l.length).1 := ⟨_, rfl⟩
 rw [← hw] at h0
 have h3 : oT l tr = w[0] := by rw [h2]; simp only [hw]
 rw [← hw]
 refine AX (hK _ _ _ ?_)
 clear hK K
 by_cases hw1 : w.length = 1
 ·
  rw [hw1]
  refine aB fun K hK => Rg ?_
  iterate 4 refine S0 ?_ (e := fun _ h_ => by simp only [sH, ↓sP, sA, tyS, simprocAttr, rI, cS, bB h0, bC, Nat.lt_irrefl]; exact AX h_)
  simp only [sE, ↓reduceIte, simprocAttr, rI]
  refine AX (hK _ _ _ ?_)
  clear hK K
  refine aF ?_
  simp only [gF, Tryz.results20, fD, gE, eO, ↓sP, sA, tyS, simprocAttr, rI]
  exact aG [] (.bool w[0]) rfl (by rw [h3])
 refine aB fun K hK => Rg ?_
 iterate 4 refine S0 ?_ (e := fun _ h_ => by simp only [sH, ↓sP, sA, tyS, simprocAttr, rI, cM (Ne.symm hw1), bB h0, bC, h0]; exact AX h_)
 simp only [sE, ↓reduceIte, simprocAttr, rI]
 refine AX (hK _ _ _ ?_)
 clear hK K
 refine aF ?_
 simp only [gF, Tryz.results20, fD, gE, eO, ↓sP, sA, tyS, simprocAttr, rI]
 exact aG [] (.bool w[0]) rfl (by rw [h3])

end Go.Proofs.YtlldglbooaefhaaGreatDoor

namespace Go.Proofs.YtlldglbooaefhaaGreatDoor
open Go Go.Hl Go.Pl
set_option maxRecDepth 10000
set_option maxHeartbeats 16000000

theorem bV8 (ns im : aE) (r : Pr) : bQ Tryz.prog 71 [r.cv, .rp (.str ns), .rp (.str im)] (fun v => v = .bool (zA ns im r)) := by
 refine FW Tryz.func71 ?_
 refine R0 ?_
 refine aB fun K hK => Rg ?_
 iterate 3 refine S0 ?_
 refine HS rfl rfl fun K' hK' => T5 ?_
 refine C2 (aK2 r.b ns) ?_
 rintro u rfl
 refine AX (hK' _ _ ?_)
 clear hK' K'
 refine S0 ?_
 refine aD 8 rfl (fun h1_8 => ?_) (fun h1_8 => ?_)
 ·
  have F := h1_8
  iterate 3 refine SF ?_
  refine aU (g := some (9, true)) rfl rfl fun K' hK' => T6 ?_
  refine C2 (aK2 r.c im) ?_
  rintro u rfl
  refine AX (hK' _ _ ?_)
  clear hK' K'
  iterate 2 refine SF ?_
  refine T2 (hK _ _ _ ?_)
  clear hK K
  refine aF (RT Tryz.results71 ?_)
  exact aG [] (.bool _) rfl (by simp only [zA, h1_8, Bool.and_true, Bool.and_false, Bool.true_and, Bool.false_and])
 have F := h1_8
 iterate 6 refine SF ?_
 refine T2 (hK _ _ _ ?_)
 clear hK K
 refine aF (RT Tryz.results71 ?_)
 exact aG [] (.bool _) rfl (by simp only [zA, h1_8, Bool.and_true, Bool.and_false, Bool.true_and, Bool.false_and])


def bC9 (l : List Pr) (p : Pr → Bool) : Int := match l.findIdx? p with | some i => (i : Int) | none => -1
theorem bO5 {l : List Pr} {p : Pr → Bool} {i : Nat} (hi : i < l.length) (h : p l[i] = true) (h0 : ∀ j (hj : j < i), p (l[j]'(by omega)) = false) : bC9 l p = i := by
 have : l.findIdx? p = some i := by
  rw [List.findIdx?_eq_some_iff_getElem]
  exact ⟨hi, h, fun j hj => by rw [h0 j hj]; simp⟩
 rw [bC9, this]
theorem bD0 {l : List Pr} {p : Pr → Bool} (h0 : ∀ j (hj : j < l.length), p l[j] = false) : bC9 l p = -1 := by
 have : l.findIdx? p = none := by
  rw [List.findIdx?_eq_none_iff]
  intro r hr
  obtain ⟨j, hj, rfl⟩ := List.getElem_of_mem hr
  exact h0 j hj
 rw [bC9, this]

theorem bV9 (l : List Pr) (g : FuncId) (caps : List CV) (p : Pr → Bool) (hl : l.length < 2 ^ 40) (hp : ∀ r ∈ l, bQ Tryz.prog g (r.cv :: caps) (fun v => v = .bool (p r))) :
  bE6 Tryz.prog 70 [.c (.slc (l.map Pr.cv)), .clo g (caps.map .c)] (fun v => v = .int .i64 (bC9 l p)) := by
 refine bU Tryz.func70 rfl (by kernel_rfl) (aS6 (by simp [HV.menL, HV.men, HV.menL_c])) (Nat.le_of_ble_eq_true rfl) ?_
 refine R0 ?_
 refine aB fun K hK => ?_
 refine R0 ?_
 refine aK ?_
 refine bE (α := {i : Nat // i ≤ l.length ∧ ∀ j (hj : j < i) (h : j < l.length), p l[j] = false}) (fun i => (fin [(0, .c (.slc (l.map Pr.cv))), (1, .clo g (caps.map .c)), (7, .c (.int .i64 l.length)), (8, .c (.int .i64 i.1))], fob [])) 100 (fun i => l.length - i.1) ⟨0, by omega, fun j hj => by omega⟩ (aN (by omega) (by simp [bA, fin_at, finA_at, upd_at, HV.men, HV.menL, HV.norm, HV.toC, HV.toCL, HV.menL_c]) (by simp [aX])) ?_
 rintro ⟨i, hi, h0⟩
 refine R0 ?_
 refine aB fun K hK => ?_
 refine aH (b := decide ((i : Int) < l.length)) rfl (fun hb => ?_) (fun hb => ?_)
 ·
  have hlt : i < l.length := by simpa using hb
  clear hb
  refine aJ ?_
  refine T0 (hK _ _ _ ?_)
  clear hK K
  refine aB fun K hK => ?_
  refine aK ?_
  refine R0 ?_
  refine aB fun K hK => Rg ?_
  have F := aI @Int.natCast_nonneg (aI @Int.ofNat_lt (aI hlt (nM hlt)))
  iterate 5 refine SF ?_
  refine HS rfl rfl fun K' hK' => T6 ?_
  refine nV (args := l[i].cv :: caps) (hp _ (List.getElem_mem hlt)) ⟨rfl, rfl, rfl, rfl⟩ ?_
  rintro u rfl
  refine AX (hK' _ _ ?_)
  clear hK' K'
  refine T2 (hK _ _ _ ?_)
  clear hK K
  refine aH (b := p l[i]) rfl (fun hb => ?_) (fun hb => ?_)
  ·
   refine R0 ?_
   refine aF (RT Tryz.results70 ?_)
   exact aG [] (.int .i64 i) rfl (by rw [bO5 hlt hb fun j hj => h0 j hj (by omega)])
  refine aJ ?_
  refine T0 (hK _ _ _ ?_)
  clear hK K
  refine aL (by kernel_rfl) ?_
  refine TQ (IntWalk.i64_in ((i : Int) + 1) (by omega)) ?_
  refine ⟨⟨i + 1, hlt, fun j hj h => ?_⟩, aN (by omega) (by simp [bA, fin_at, finA_at, upd_at, HV.men, HV.menL, HV.norm, HV.toC, HV.toCL, HV.menL_c]) (by simp [aX]), ?_⟩
  ·
   rcases Nat.lt_or_ge j i with h1 | h1
   ·
    exact h0 j h1 h
   obtain rfl : j = i := by omega
   exact hb
  show l.length - (i + 1) < l.length - i
  omega
 refine aZ (T3 ?_)
 clear hK K
 refine AX (hK _ _ _ ?_)
 clear hK K
 refine R0 ?_
 refine aF (RT Tryz.results70 ?_)
 have hei : i = l.length := by simp at hb; omega
 subst hei
 exact aG [] (.int .i64 (-1)) rfl (by rw [bD0 fun j hj => h0 j hj hj])


theorem bW0 (p : Po) (hp : PoSz p) (ns im : aE) : bQ Tryz.prog 39 [p.cv, .str ns, .str im] (fun v => v = .int .i64 (bK0 p ns im)) := by
 refine FW Tryz.func39 ?_
 refine aB fun K hK => Rg ?_
 iterate 4 refine S0 ?_
 refine T2 (hK _ _ _ ?_)
 clear hK K
 refine aB fun K hK => ?_
 refine aB fun K hK => Rg ?_
 refine S0 ?_
 refine HS rfl rfl fun K' hK' => T5 ?_
 refine C1 (sI p hp) ?_
 rintro u rfl
 refine AX (hK' _ _ ?_)
 clear hK' K'
 refine S0 ?_
 refine T2 (hK _ _ _ ?_)
 clear hK K
 refine aH (b := !fV p) rfl (fun hb => ?_) (fun hb => ?_)
 ·
  refine R0 ?_
  refine aF (RT Tryz.results39 ?_)
  exact aG [] (.int .i64 (-1)) rfl (by rw [bK1 (by simpa using hb)])
 refine aJ ?_
 refine T0 (hK _ _ _ ?_)
 clear hK K
 have hv : fV p = true := by simpa using hb
 clear hb
 refine yC 4 4 rfl rfl ?_
 refine yC 5 8 rfl rfl ?_
 refine aB fun K hK => Rg ?_
 have F := aI @bP8 @upd_at
 iterate 3 refine SF ?_
 refine HS rfl rfl fun K' hK' => T6 ?_
 refine aN5 (bV9 p.r 71 [.rp (.str ns), .rp (.str im)] (zA ns im) hp.r fun r _ => bV8 ns im r) (by simp [HV.menL, HV.men]) (fun m => by simp [HV.renL, HV.ren]) ⟨rfl, rfl, rfl, rfl⟩ ?_
 rintro u rfl
 refine AX (hK' _ _ ?_)
 clear hK' K'
 refine SF ?_
 refine T2 (hK _ _ _ ?_)
 clear hK K
 refine aF (RT Tryz.results39 ?_)
 exact aG [] (.int .i64 (bC9 p.r (zA ns im))) rfl (by rw [bK0, if_pos hv]; rfl)

end Go.Proofs.YtlldglbooaefhaaGreatDoor

namespace Go.Proofs.YtlldglbooaefhaaGreatDoor
open Go Go.Hl Go.Pl
set_option maxRecDepth 10000
set_option maxHeartbeats 16000000

theorem aD2 (n : Int) : bQ Tryz.prog 49 [.int .i64 n] (fun v => v = (aJ4 n).cv) := by
 refine FW Tryz.func49 ?_
 refine R0 ?_
 refine aB fun K hK => Rg ?_
 iterate 4 refine S0 ?_
 refine T2 (hK _ _ _ ?_)
 clear hK K
 refine aF (RT Tryz.results49 ?_)
 exact aG [] (aJ4 n).cv rfl rfl


theorem bO6 : PoSz awP := ⟨by decide, by decide, by decide, by decide⟩
theorem bO7 : ∀ n ∈ awT, n.q.t.length < 2 ^ 63 := by decide
theorem bO8 : xG awP = 0 := by decide +kernel
theorem cA7 : (rY awP).length < 2 ^ 40 := by decide +kernel
theorem bO9 : mW Tryz.prog 22 tabs [] (fun v => v = .bool true) := by
 refine bU (args := []) Tryz.func22 rfl (by kernel_rfl) (eW tabs []) (Nat.le_of_ble_eq_true rfl) ?_
 unfold eD
 obtain ⟨aw1, aw2, aw3⟩ := bA6 bO8
 refine R0 ?_
 refine aB fun K hK => bG (by kernel_rfl) ?_
 simp only [sR, simprocAttr]
 refine SG0 ?_
 refine bJ (g := none) rfl rfl fun K' hK' => T5 ?_
 refine C1 (aD2 1) ?_
 rintro u rfl
 refine AX (hK' _ _ ?_)
 clear hK' K'
 refine bJ (g := none) rfl rfl fun K' hK' => T5 ?_
 refine C1 (aD2 2) ?_
 rintro u rfl
 refine AX (hK' _ _ ?_)
 clear hK' K'
 refine bJ (g := none) rfl rfl fun K' hK' => T5 ?_
 refine C1 (aD2 3) ?_
 rintro u rfl
 refine AX (hK' _ _ ?_)
 clear hK' K'
 refine cV (g := none) 21 rfl rfl fun K' hK' => ?_
 simp only [gZ, kX, sH, ↓sP, sA, tyS, simprocAttr]
 repeat refine AI ?_
 refine dJ (by first | rfl | simp) ?_
 try simp only [sH, ↓sP, sA, tyS, simprocAttr]
 refine AX (hK' _ _ ?_)
 clear hK' K'
 refine SG0 ?_
 refine T2 (hK _ _ _ ?_)
 clear hK K
 refine aB fun K hK => bG (by kernel_rfl) ?_
 simp only [sR, simprocAttr]
 iterate 2 refine SG0 ?_
 refine cV (g := none) 37 rfl rfl fun K' hK' => ?_
 simp only [gZ, kX, sH, ↓sP, sA, tyS, simprocAttr]
 repeat refine AI ?_
 refine dJ (by first | rfl | simp) ?_
 try simp only [sH, ↓sP, sA, tyS, simprocAttr]
 refine AX (hK' _ _ ?_)
 clear hK' K'
 iterate 3 refine SG0 ?_
 refine T2 (hK _ _ _ ?_)
 clear hK K
 refine aB fun K hK => Rg ?_
 refine S0 ?_
 refine HS rfl rfl fun K' hK' => T5 ?_
 refine tD (args := [_]) 0 (aV8 awP bO6) rfl (by simp) ⟨rfl, rfl, rfl, rfl⟩ ?_
 rintro u v ⟨rfl, rfl⟩
 rw [bO8]
 refine AX (hK' _ _ ?_)
 clear hK' K'
 iterate 5 refine S0 ?_
 refine T2 (hK _ _ _ ?_)
 clear hK K
 refine aB fun K hK => Rg ?_
 have F := @dT
 refine SF ?_
 refine HS rfl rfl fun K' hK' => T6 ?_
 refine aL7 (args := [_]) 0 (bV6 (rY awP) cA7) rfl (by simp) ⟨rfl, rfl, rfl, rfl⟩ ?_
 rintro u v x ⟨rfl, rfl, rfl⟩
 rw [aw1, aw2, aw3]
 refine AX (hK' _ _ ?_)
 clear hK' K'
 iterate 8 refine SF ?_
 refine T2 (hK _ _ _ ?_)
 clear hK K
 refine aB fun K hK => bG (by kernel_rfl) ?_
 simp only [sR, simprocAttr]
 have F := aI @List.length_map.{0,0} (aI @lB (aI @qL (show awP.r.length = 1 from rfl)))
 refine SGF ?_
 refine bJ (g := none) rfl rfl fun K' hK' => T6 ?_
 refine C1 (qT awT bO7) ?_
 rintro u rfl
 rw [bZ3]
 refine AX (hK' _ _ ?_)
 clear hK' K'
 iterate 2 refine SGF ?_
 refine bJ (g := some (30, true)) rfl rfl fun K' hK' => T6 ?_
 refine C1 (sI awP bO6) ?_
 rintro u rfl
 rw [bZ4]
 refine AX (hK' _ _ ?_)
 clear hK' K'
 iterate 17 refine SGF ?_
 refine cV (g := some (48, true)) 209 rfl rfl fun K' hK' => ?_
 simp only [gZ, kX, sH, ↓sP, sA, tyS, simprocAttr, List.length_map, lB, qL, (show awP.r.length = 1 from rfl)]
 repeat refine AI ?_
 refine dJ (by first | rfl | simp) ?_
 try simp only [sH, ↓sP, sA, tyS, simprocAttr, List.length_map, lB, qL, (show awP.r.length = 1 from rfl)]
 refine AX (hK' _ _ ?_)
 clear hK' K'
 refine bJ (g := some (48, true)) rfl rfl fun K' hK' => T6 ?_
 refine C2 (aD1 awT bO7 [true, false, true] (by decide)) ?_
 rintro u rfl
 rw [bK2]
 refine AX (hK' _ _ ?_)
 clear hK' K'
 iterate 3 refine SGF ?_
 refine cV (g := some (53, true)) 229 rfl rfl fun K' hK' => ?_
 simp only [gZ, kX, sH, ↓sP, sA, tyS, simprocAttr, List.length_map, lB, qL, (show awP.r.length = 1 from rfl)]
 repeat refine AI ?_
 refine dJ (by first | rfl | simp) ?_
 try simp only [sH, ↓sP, sA, tyS, simprocAttr, List.length_map, lB, qL, (show awP.r.length = 1 from rfl)]
 refine AX (hK' _ _ ?_)
 clear hK' K'
 refine bJ (g := some (53, true)) rfl rfl fun K' hK' => T6 ?_
 refine C2 (aD1 awT bO7 [true] (by decide)) ?_
 rintro u rfl
 rw [bK3]
 refine AX (hK' _ _ ?_)
 clear hK' K'
 iterate 4 refine SGF ?_
 refine bJ (g := some (59, true)) rfl rfl fun K' hK' => T6 ?_
 refine C3 (bW0 awP bO6 [112, 114, 111, 100, 47, 101, 117] [119, 101, 98]) ?_
 rintro u rfl
 rw [bZ5]
 refine AX (hK' _ _ ?_)
 clear hK' K'
 iterate 4 refine SGF ?_
 refine bJ (g := some (64, true)) rfl rfl fun K' hK' => T6 ?_
 refine C1 (sD awT bO7) ?_
 rintro u rfl
 refine AX (hK' _ _ ?_)
 clear hK' K'
 iterate 5 refine SGF ?_
 refine bJ (g := some (70, true)) rfl rfl fun K' hK' => T6 ?_
 refine C2 (tK awT bO7 0) ?_
 rintro u rfl
 refine AX (hK' _ _ ?_)
 clear hK' K'
 iterate 4 refine SGF ?_
 refine T2 (hK _ _ _ ?_)
 clear hK K
 refine aF (RT Tryz.results22 ?_)
 exact dO [] (.bool true) rfl rfl (by simp) rfl

end Go.Proofs.YtlldglbooaefhaaGreatDoor

namespace Go.Proofs.YtlldglbooaefhaaGreatDoor
open Go Go.Hl Go.Pl
set_option maxRecDepth 10000
set_option maxHeartbeats 16000000

theorem aR3 (l : List Nd) (i : Int) (h : l.length < 2 ^ 40) : (lS l i).length < 2 ^ 40 := by
 by_cases hc : cP l = true ∧ 0 ≤ i ∧ i < l.length
 ·
  obtain ⟨h1, h2, h3⟩ := hc
  obtain ⟨j, rfl⟩ : ∃ j : Nat, i = j := ⟨i.toNat, by omega⟩
  have hj : j < l.length := by omega
  rw [sC h1 hj, oC]
  have := (cI ((fH h1).node _ (List.getElem_mem hj))).2.1
  omega
 unfold lS; rw [if_neg hc]; simp
theorem aL9 (l : List Nd) (h : l.length < 2 ^ 40) : (gJ l).length < 2 ^ 40 := by
 cases hc : cP l with
 | false => rw [kH hc]; simp
 | true =>
  rw [jM hc, gP]
  have := (fH hc).lv
  omega

theorem bP0 (l : List Nd) (hl : ShN l) (L : List Int) (i : Int) (tr : List Bool) (htr : tr.length < 2 ^ 63) : mW Tryz.prog 3 tabs [.slc (l.map Nd.cv), .slc (L.map (.int .i64)), .int .i64 i, .slc (tr.map bC)] (fun v => v = .bool true) := by
 refine bU (args := [.c (.slc (l.map Nd.cv)), .c (.slc (L.map (.int .i64))), .c (.int .i64 i), .c (.slc (tr.map bC))]) Tryz.func3 rfl (by kernel_rfl) (eW tabs [.slc (l.map Nd.cv), .slc (L.map (.int .i64)), .int .i64 i, .slc (tr.map bC)]) (Nat.le_of_ble_eq_true rfl) ?_
 unfold eD
 refine R0 ?_
 refine aB fun K hK => Rg ?_
 have F := aI @denilL_Nd @denilL_int
 iterate 2 refine SF ?_
 refine HS rfl rfl fun K' hK' => T6 ?_
 refine C2 (bZ7 l hl L) ?_
 rintro u ⟨T, rfl, hT70, hT⟩
 refine AX (hK' _ _ ?_)
 clear hK' K'
 refine SF ?_
 refine T2 (hK _ _ _ ?_)
 clear hK K
 have hbt : CV.denilL (tr.map bC) = tr.map bC := bV (fun _ => rfl) tr
 have hbi : ∀ l : List Nat, CV.denilL (l.map iC) = l.map iC := bV fun _ => rfl
 refine aB fun K hK => Rg ?_
 have F := aI @denilL_Nd (aI hbt (aI hbi @beq_self_eq_true.{0}))
 refine SF ?_
 refine HS rfl rfl fun K' hK' => T6 ?_
 refine C1 (qT T hT) ?_
 rintro u rfl
 refine AX (hK' _ _ ?_)
 clear hK' K'
 refine SF ?_
 refine HS rfl rfl fun K' hK' => T6 ?_
 refine C1 (qU T hT) ?_
 rintro u rfl
 refine AX (hK' _ _ ?_)
 clear hK' K'
 iterate 4 refine SF ?_
 refine aU (g := some (18, true)) rfl rfl fun K' hK' => T6 ?_
 refine C2 (tK T hT i) ?_
 rintro u rfl
 refine AX (hK' _ _ ?_)
 clear hK' K'
 iterate 2 refine SF ?_
 refine aU (g := some (18, true)) rfl rfl fun K' hK' => T6 ?_
 refine C2 (aC1 T hT i) ?_
 rintro u rfl
 refine AX (hK' _ _ ?_)
 clear hK' K'
 refine aU (g := some (18, true)) rfl rfl fun K' hK' => T6 ?_
 refine C2 (aK5 _ _ (aR3 T i (by omega))) ?_
 rintro u rfl
 rw [beq_self_eq_true]
 refine AX (hK' _ _ ?_)
 clear hK' K'
 iterate 3 refine SF ?_
 refine aU (g := some (27, true)) rfl rfl fun K' hK' => T6 ?_
 refine C1 (sD T hT) ?_
 rintro u rfl
 refine AX (hK' _ _ ?_)
 clear hK' K'
 refine SF ?_
 refine aU (g := some (27, true)) rfl rfl fun K' hK' => T6 ?_
 refine C1 (aQ3 T hT (by omega)) ?_
 rintro u rfl
 refine AX (hK' _ _ ?_)
 clear hK' K'
 refine aU (g := some (27, true)) rfl rfl fun K' hK' => T6 ?_
 refine C2 (aK5 _ _ (aL9 T (by omega))) ?_
 rintro u rfl
 rw [beq_self_eq_true]
 refine AX (hK' _ _ ?_)
 clear hK' K'
 iterate 4 refine SF ?_
 refine aU (g := some (34, true)) rfl rfl fun K' hK' => T6 ?_
 refine C2 (aD1 T hT tr htr) ?_
 rintro u rfl
 refine AX (hK' _ _ ?_)
 clear hK' K'
 iterate 2 refine SF ?_
 refine aU (g := some (34, true)) rfl rfl fun K' hK' => T6 ?_
 refine C2 (bM0 T hT tr htr) ?_
 rintro u rfl
 refine AX (hK' _ _ ?_)
 clear hK' K'
 iterate 3 refine SF ?_
 refine aU (g := some (43, true)) rfl rfl fun K' hK' => T6 ?_
 refine eP (args := []) 0 bO9 rfl (by simp) ⟨rfl, rfl, rfl, rfl⟩ ?_
 rintro u rfl
 refine AX (hK' _ _ ?_)
 clear hK' K'
 iterate 2 refine SF ?_
 refine T2 (hK _ _ _ ?_)
 clear hK K
 refine aF (RT Tryz.results3 ?_)
 exact dO [] (.bool true) rfl rfl (by simp) rfl

end Go.Proofs.YtlldglbooaefhaaGreatDoor

namespace Go.Proofs.YtlldglbooaefhaaGreatDoor
open Go Go.Hl Go.Pl
set_option linter.unusedVariables false
set_option maxRecDepth 100000

theorem xM {W : World} (h : laidMetH Tryz.prog Rows.policyTreeRow.laid W) : Lib.TabIs Tryz.prog W "internal/strconv.uint64pow10" .u64 Lib.pow10Tab := by
  rw [MakeChecks.laidMetH_plain _ _ _ (by kernel_rfl)] at h
  have h2 := laidMet.filter (fun x => x.1 == "internal/strconv.uint64pow10") h
  have e : (Rows.policyTreeRow.laid.filter fun x => x.1 == "internal/strconv.uint64pow10") = [("internal/strconv.uint64pow10", Lib.tabData .u64 Lib.pow10Tab)] := by kernel_rfl
  rw [e] at h2
  exact Lib.tabIs_of_head aD0 (by kernel_rfl) Tryz.underlying169 Tryz.underlying116 (by kernel_rfl) (by kernel_rfl) h2

theorem oK (H : Type) (enc : TypeId × Value → H) (W : World) (args : Array Value) (ds gs : List (DataW H)) (before : List MemPlace)
    (hL : laidMetH Tryz.prog Rows.policyTreeRow.laid W)
    (hval : ∀ (j : Nat) t v, Tryz.f3.params[j]? = some t → args[j]? = some v → Value.okWide Tryz.prog W .any 0 t v)
    (hW : DataW.Whole enc Tryz.prog Tryz.f3.params.toList Rows.policyTreeSpec.vars false W args.toList ds gs before) :
    Calls Tryz.prog 3 args W fun e W' => ∃ v, e = .returned v ∧ Rows.policyTreeSpec.post enc Tryz.prog Tryz.f3 false true false false W args v W' := by
  refine aY7 (mm := 6) (tb := 4) (tabs := tabs) (by kernel_rfl) kids aQ4 rfl (by kernel_rfl) Tryz.underlying4 ?_ ?_ ?_ ?_ (fun j t v h1 h2 => ?_) hW
  · rw [Tryz.params3]
    intro H ds h
    match ds, h with
    | [c0, c1, c2, c3], _ => exact ⟨rfl, rfl, rfl⟩
  · rw [Tryz.params3]
    intro t ht
    simp only [List.mem_cons, List.not_mem_nil, or_false] at ht
    rcases ht with rfl | rfl | rfl | rfl
    · exact ⟨by kernel_rfl, of_decide_eq_true (by kernel_rfl)⟩
    · exact ⟨by kernel_rfl, of_decide_eq_true (by kernel_rfl)⟩
    · exact ⟨by kernel_rfl, of_decide_eq_true (by kernel_rfl)⟩
    · exact ⟨by kernel_rfl, of_decide_eq_true (by kernel_rfl)⟩
  · rw [Tryz.params3]
    intro cs hn hty
    match cs, hn, hty with
    | [c0, c1, c2, c3], _, hty =>
      obtain ⟨l, rfl, hq, hl⟩ := bZ6 (hty 0 _ c0 rfl rfl)
      obtain ⟨L, rfl, hw, hl2⟩ := bT5 (hty 1 _ c1 rfl rfl)
      obtain ⟨i, rfl, hi⟩ := (hty 2 _ c2 rfl rfl).of_int Tryz.underlying3
      obtain ⟨tr, rfl, ht⟩ := bM1 (hty 3 _ c3 rfl rfl)
      exact bP0 l (fun n hn => by have := hq n hn; unfold maxLen at this; omega) L i tr (by unfold maxLen at ht; omega)
  · intro x hx
    simp only [tabs, List.mem_cons, List.not_mem_nil, or_false] at hx
    rcases hx with rfl
    · exact xD aD0 (xM hL)
  · exact hval j t v h1 h2

open Go.ChangeShapes Go.WideShapes Go.ChangeAt Go.RowKit in
set_option maxRecDepth 100000 in
theorem qV (os : Os) (started : os.Started) (H : Type) (enc : TypeId × Value → H) :
    ReturnsInHanded {} Tryz.checked os 3 .any (fun w args => (Rows.policyTreeSpec.pre enc Tryz.prog Tryz.f3 [] false w args ∧ laidMetH Tryz.prog Rows.policyTreeRow.laid w) ∧ sizedMet enc Tryz.prog Tryz.f3 (OpenSpec.ofChange Rows.policyTreeSpec) false w args)
      (Rows.policyTreeSpec.post enc Tryz.prog Tryz.f3 false true false false) := by
  refine returnsInHanded_of_change_and (C := Tryz.checked) (X := fun w _ => laidMetH Tryz.prog Rows.policyTreeRow.laid w) (fun _ _ _ hh h => h.of_heap hh) own started (by kernel_rfl) Tryz.func3
    (ChangeSpec.witness_shaped (enc := enc) (C := Tryz.checked) (os := os) (X := fun w _ => laidMetH Tryz.prog Rows.policyTreeRow.laid w) false (World.laidAll Tryz.prog os Rows.policyTreeRow.laid) #[.slice none 0 0, .slice none 0 0, .int .i64 0, .slice none 0 0] 8 (World.laidAll_os _ _ _)
      (World.shaped_of_ZipB (by kernel_rfl) (by kernel_rfl)) (by kernel_rfl) (by kernel_rfl) (by kernel_rfl)
      (by rw [MakeChecks.laidMetH_plain _ _ _ (by kernel_rfl)]; exact laidMet_laidAll _ (by kernel_rfl) (by kernel_rfl))) ?_
  intro W base args ds gs before hval hW _ _ hL _
  exact oK H enc W args ds gs before hL (fun j t v h1 h2 => (hval j t v h1 h2)) hW

theorem wS : Rows.PolicyTreeSaid :=
  OpenClaim.holds_of_wide 3 Tryz.f3 rfl rfl rfl rfl rfl rfl rfl ⟨rfl, rfl, rfl, rfl, rfl⟩ rfl rfl rfl rfl rfl (by kernel_rfl) Tryz.func3 (by kernel_rfl)
    (of_decide_eq_true (by kernel_rfl)) (by unfold Func.isWrapper; first | (rw [if_pos (by decide +kernel)]; kernel_rfl) | (rw [if_neg (by decide +kernel)]; exact ⟨rfl, rfl⟩))
    (fun os started H enc _ => qV os started H enc)

theorem policyTree_said : Rows.PolicyTreeCardSaid :=
  Claim7.holds_tied_plain_at .later [] [.data, .data, .data, .data, .pinned] true (true, "ff5d47cd62c7d13f21802cca9c8b9512cc3c2844dd4407b78ea0f3c0525ec3f2") false wS (fun _ h => by cases h) (by kernel_rfl) (fun _ h => by cases h) policyTree_row_tie rfl ⟨rfl, rfl⟩ (by kernel_rfl) rfl
    (fun f fn hf hfn => by
      obtain rfl : f = 3 := Option.some.inj ((show Tryz.prog.funcNamed "admission/admissionlaw28.PolicyTree" = some 3 by kernel_rfl).symm.trans hf) |>.symm
      obtain rfl : fn = Tryz.f3 := (Option.some.inj (Tryz.func3.symm.trans hfn)).symm
      exact ⟨by kernel_rfl, fun j t ht => by
        rw [Tryz.params3] at ht
        have hm : t ∈ [22, 23, 3, 24] := by simpa using Array.mem_of_getElem? ht
        have hall : ([22, 23, 3, 24].all fun u => !Tryz.prog.wantsStandIn u) = true := by kernel_rfl
        exact (show Tryz.prog.wantsStandIn t = false by simpa using List.all_eq_true.1 hall t hm)⟩)
    (by kernel_rfl)
#print axioms policyTree_said
end Go.Proofs.YtlldglbooaefhaaGreatDoor
