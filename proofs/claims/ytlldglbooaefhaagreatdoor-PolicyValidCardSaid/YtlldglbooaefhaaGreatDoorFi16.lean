/- PolicyValid: for any policy the law returns true and leaves it as it was: Valid and Encode of the program answer as the reference's do. The listed tables of the library are tied to the program's text by the card. By an AI agent. -/
import Derived.Test.YtlldglbooaefhaaGreatDoorHzU1
import Derived.Test.YtlldglbooaefhaaGreatDoorPl28l
import Derived.Test.YtlldglbooaefhaaGreatDoorHzSb
import Derived.Test.YtlldglbooaefhaaGreatDoorHlIt
import Derived.Test.YtlldglbooaefhaaGreatDoorPl28k
import Derived.Test.YtlldglbooaefhaaGreatDoorHzT7
import Derived.Test.YtlldglbooaefhaaGreatDoorHzV2
import Derived.Lay
import Derived.SevenTiedAt
import Derived.Test.YtlldglbooaefhaaGreatDoorRows
import Derived.Test.YtlldglbooaefhaaGreatDoorCards
import Derived.Test.YtlldglbooaefhaaGreatDoorTie
set_option linter.unusedSimpArgs false
set_option linter.unusedVariables false
set_option linter.defProp false
namespace Go.Proofs.YtlldglbooaefhaaGreatDoor
open Go Go.Hl Go.Pl
set_option maxRecDepth 10000
set_option maxHeartbeats 16000000

theorem bW (id n sz m : Nat) : (gT id n sz m).sto = true := by unfold gT; split <;> rfl
theorem bK (id n sz m : Nat) : (gT id n sz m).cells = 1 := by unfold gT; split <;> rfl
theorem bP (id n sz m : Nat) : (gT id n sz m).toC = none := by unfold gT; split <;> rfl
theorem cU (id n sz : Nat) : gT id n sz n = .own id n := by unfold gT; rw [if_pos rfl]
theorem cM {id n sz m : Nat} (h : m ≠ n) : gT id n sz m = .osl id n 0 sz m := by unfold gT; rw [if_neg h]
theorem oG {M : Nat → Prop} {id n sz m : Nat} (h : M id) : (gT id n sz m).men M := by unfold gT; split <;> exact h

theorem aX4 (l : List Nd) (hn : ∀ n ∈ l, n.q.t.length < 2 ^ 63) (tr : List Bool) (htr : tr.length < 2 ^ 63) : bT Tryz.prog 20 [.slc (l.map Nd.cv), .slc (tr.map bC)] (fun v => v = .bool (vU l tr)) := by
 refine FW Tryz.func20 ?_
 have F := rI
 refine RF ?_
 refine aB fun K hK => Rg ?_
 refine SF ?_
 refine HS rfl rfl fun K' hK' => T6 ?_
 refine C1 (zK l hn) ?_
 rintro u rfl
 refine AX (hK' _ _ ?_)
 clear hK' K'
 iterate 3 refine SF ?_
 simp only [sE, ↓reduceIte, simprocAttr, rI]
 refine AX (hK _ _ _ ?_)
 clear hK K
 refine aB fun K hK => ?_
 refine RF ?_
 refine aH (b := (((iR l).length : Int) == 0)) rfl (fun hb => ?_) (fun hb => ?_)
 ·
  refine RF ?_
  refine aE ?_
  simp only [gB, Tryz.results20, fI, gA, eP, ↓sP, sA, tyS, simprocAttr, rI]
  have hlv : iR l = [] := by simpa using hb
  have htf : cZ l = false := by
   cases h : cZ l with
   | false => rfl
   | true =>
    have h1 := aJ8 (kQ h)
    rw [pE h] at hlv
    have h2 := kU l 0
    rw [hlv] at h2
    simp at h2; omega
  exact aF [] (.bool false) rfl (by rw [vU, htf]; rfl)
 have htt : cZ l = true := by
  cases h : cZ l with
  | true => rfl
  | false => rw [tG h] at hb; simp at hb
 have ht := kQ htt
 have hl := ht.len
 have hlen : (iR l).length = lv l := by rw [pE htt, kU]
 rw [hlen]
 clear hb
 refine aJ ?_
 refine TQ rI ?_
 refine AX (hK _ _ _ ?_)
 clear hK K
 refine RF ?_
 refine aB fun K hK => ?_
 refine aB fun K hK => Rg ?_
 refine S0 ?_ (e := fun _ h_ => by simp only [sH, ↓sP, sA, tyS, simprocAttr, rI, denilL_Nd, lU, gF, List.range', List.map_cons, List.map_nil]; exact AX h_)
 refine HS rfl rfl fun K' hK' => ?_
 simp only [sH, ↓sP, sA, tyS, simprocAttr, rI, denilL_Nd, lU, gF, List.range', List.map_cons, List.map_nil]
 refine rT (args := [_]) (bV2 l) (by simp) ⟨rfl, rfl, rfl, rfl⟩ ?_
 refine AX (hK' _ _ ?_)
 clear hK' K'
 simp only [sE, ↓reduceIte, simprocAttr, rI]
 refine AX (hK _ _ _ ?_)
 clear hK K
 refine aK ?_
 refine aB1 36 0 4 1 rfl rfl rfl rfl ?_
 refine yP (ids := [44]) (fin [(3, .ptr 0 0), (5, .ptr 20 0), (6, .ptr 36 0)]) (fun i => fob [(0, .box 24 (.c (.slc (tr.map bC)))), (20, .box 3 (.c (.int .i64 (lv (l.take (l.length - i)) : Nat)))), (36, .box 24 (gT 48 (bV l tr i).1.length 1 (bV l tr i).2)), (48, .row 4 1 ((bV l tr i).1.map bC))]) 20000 (fun i => EvOk l tr i) (EvOk.zero l tr) (bD7 l (by omega)) rfl rfl (by decide) ?_ ?_ ?_ ?_ ?_ rfl rfl ?_ ?_
 ·
  intro j x hx
  match j, hx with
  | 0, hx => cases hx; rfl
 ·
  exact aM (by omega) (by simp [aY, fin_at, finA_at, upd_at, HV.men, HV.menL, HV.norm, HV.toC, HV.toCL, lU, bV, cU, List.take_length]) (by simp [bB, fob_at, upd_at, none0_at, bZ, HO.men, HV.men, HV.menL, HV.norm, HV.toC, HV.toCL, lU, bV, cU, List.take_length])
 ·
  intro id hid
  simp only [List.mem_cons, List.not_mem_nil, or_false] at hid
  subst hid; rfl
 ·
  intro x hx
  obtain ⟨p, _, rfl⟩ := List.mem_map.1 hx
  rfl
 ·
  intro p hp
  simp only [List.mem_cons, List.not_mem_nil, or_false] at hp
  rcases hp with rfl | rfl <;> exact Nat.le_of_ble_eq_true rfl
 ·
  intro i hi hΦ K hK
  have hi2 : i < l.length := by rw [← qT l]; exact hi
  have hp : l.length - 1 - i < l.length := by omega
  rw [bM5 hi hp]
  simp only [vM]
  obtain ⟨w, hw⟩ : ∃ w, w = (bV l tr i).1 := ⟨_, rfl⟩
  obtain ⟨m, hm⟩ : ∃ m, m = (bV l tr i).2 := ⟨_, rfl⟩
  have hfit := hΦ.fit
  have hsmall := hΦ.small
  rw [← hw, ← hm] at hfit
  rw [← hw] at hsmall
  rw [← hw, ← hm]
  refine aL (by kernel_rfl) ?_
  refine TQ rI ?_
  refine AX (hK _ _ _ ?_)
  clear hK K
  refine aK ?_
  refine aB fun K hK => ?_
  refine RF ?_
  refine aH (b := (l[l.length - 1 - i].k == 1)) rfl (fun hb => ?_) (fun hb => ?_)
  ·
   have hk1 : l[l.length - 1 - i].k = 1 := by simpa using hb
   obtain ⟨hok, hst⟩ := hΦ.leaf hi2 hk1
   rw [← hw, ← hm] at hst
   have hlv := aW3 hp
   rw [if_pos hk1, show l.length - 1 - i + 1 = l.length - i from by omega] at hlv
   have hlb := aR0 l (l.length - 1 - i)
   have hw1 : IntKind.i64.wrap ((lv (l.take (l.length - i)) : Int) - 1) = ((lv (l.take (l.length - 1 - i)) : Nat) : Int) := by rw [hlv, cK _ (by omega)]; omega
   obtain ⟨x, hx⟩ : ∃ x, x = lv (l.take (l.length - 1 - i)) := ⟨_, rfl⟩
   have hxl : l.length - (i + 1) = l.length - 1 - i := by omega
   rw [← hx] at hw1 hst
   clear hb
   have F := aI rI hw1
   refine RF ?_
   by_cases hlt : x < tr.length
   ·
    by_cases hmw : m = w.length
    ·
     subst hmw
     have hg : tr.getD x false = tr[x] := by simp [hlt]
     refine aB fun K hK => dV mixed [(0, [], []), (1, [], []), (2, [], []), (3, [], []), (4, [], []), (5, [], []), (6, [], []), (7, [], []), (8, [], []), (9, [], []), (10, [], []), (11, [], []), (12, [], []), (13, [], [])] [0, 0, 0, 4, 14, 30, 62, 62, 254, 510, 1022, 2046, 4095, 8191] (by kernel_rfl) (by kernel_rfl) (by kernel_rfl) (by kernel_rfl) rfl (by kernel_rfl) ?_
     iterate 14 refine WG0 ?_ (e := fun _ h_ => by simp only [sH, ↓sP, sA, tyS, simprocAttr, rI, Int.natCast_nonneg, Int.ofNat_lt, hlt, bN hlt, bC, cU, bW, bK, bP]; exact AX h_)
     simp only [sE, ↓reduceIte, simprocAttr, rI]
     refine AX (hK _ _ _ ?_)
     clear hK K
     refine aX ?_
     refine TQ rI ?_
     clear hK K
     rw [hg, zS] at hst
     refine ⟨(show Fits 20000 _ _ (fin []) _ 20000 from aM (by omega) trivial ?_), hok⟩
     rw [hst, hxl, ← hx]
     simp [bB, fob_at, upd_at, none0_at, bZ, HO.men, HV.men, HV.menL, HV.norm, HV.toC, HV.toCL, cU, bC]
    have hg : tr.getD x false = tr[x] := by simp [hlt]
    have hmw2 : m + 1 ≤ w.length := by omega
    have hw0 : 0 < w.length := by omega
    have hrow : (lC w m tr[x]).map bC = (w.map bC).take m ++ [.bool tr[x]] ++ (w.map bC).drop (m + 1) := by simp [lC, List.map_take, List.map_drop, bC]
    refine aB fun K hK => dV mixed [(0, [], []), (1, [], []), (2, [], []), (3, [], []), (4, [], []), (5, [], []), (6, [], []), (7, [], []), (8, [], []), (9, [], []), (10, [], []), (11, [], []), (12, [], []), (13, [], [])] [0, 0, 0, 4, 14, 30, 62, 62, 254, 510, 1022, 2046, 4095, 8191] (by kernel_rfl) (by kernel_rfl) (by kernel_rfl) (by kernel_rfl) rfl (by kernel_rfl) ?_
    iterate 12 refine WG0 ?_ (e := fun _ h_ => by simp only [sH, ↓sP, sA, tyS, simprocAttr, rI, Int.natCast_nonneg, Int.ofNat_lt, hlt, bN hlt, bC, cM hmw, bW, bK, bP, hw0, hmw2]; exact AX h_)
    refine eG (g := none) rfl rfl fun K' hK' => ?_
    simp only [sN, ↓hopH.eq_def, sH, ↓sP, sA, tyS, simprocAttr, rI, Int.natCast_nonneg, Int.ofNat_lt, hlt, bN hlt, bC, cM hmw, bW, bK, bP, hw0, hmw2]
    refine AX (hK' _ _ ?_)
    clear hK' K'
    refine WG0 ?_ (e := fun _ h_ => by simp only [sH, ↓sP, sA, tyS, simprocAttr, rI, Int.natCast_nonneg, Int.ofNat_lt, hlt, bN hlt, bC, cM hmw, bW, bK, bP, hw0, hmw2]; exact AX h_)
    simp only [sE, ↓reduceIte, simprocAttr, rI]
    refine AX (hK _ _ _ ?_)
    clear hK K
    refine aX ?_
    refine TQ rI ?_
    clear hK K
    rw [hg] at hst
    refine ⟨(show Fits 20000 _ _ (fin []) _ 20000 from aM (by omega) trivial ?_), hok⟩
    rw [hst, hxl, ← hx]
    simp [bB, fob_at, upd_at, none0_at, bZ, HO.men, HV.men, HV.menL, HV.norm, HV.toC, HV.toCL, lD hmw2, hrow, oG, bP]
   by_cases hmw : m = w.length
   ·
    subst hmw
    have hg : tr.getD x false = false := by simp [List.getD_eq_getElem?_getD, List.getElem?_eq_none (Nat.le_of_not_lt hlt)]
    have hlt' : decide ((x : Int) < tr.length) = false := by simp; omega
    refine aB fun K hK => dV mixed [(0, [], []), (1, [], []), (2, [], []), (3, [], []), (4, [], []), (5, [], []), (6, [], []), (7, [], []), (8, [], []), (9, [], []), (10, [], []), (11, [], []), (12, [], []), (13, [], [])] [0, 0, 0, 4, 14, 30, 62, 62, 254, 510, 1022, 2046, 4095, 8191] (by kernel_rfl) (by kernel_rfl) (by kernel_rfl) (by kernel_rfl) rfl (by kernel_rfl) ?_
    have F := aI rI (aI hlt' (aI @cU (aI @bW (aI @bK @bP))))
    iterate 14 refine WGF ?_
    simp only [sE, ↓reduceIte, simprocAttr, rI]
    refine AX (hK _ _ _ ?_)
    clear hK K
    refine aX ?_
    refine TQ rI ?_
    clear hK K
    rw [hg, zS] at hst
    refine ⟨(show Fits 20000 _ _ (fin []) _ 20000 from aM (by omega) trivial ?_), hok⟩
    rw [hst, hxl, ← hx]
    simp [bB, fob_at, upd_at, none0_at, bZ, HO.men, HV.men, HV.menL, HV.norm, HV.toC, HV.toCL, cU, bC]
   have hg : tr.getD x false = false := by simp [List.getD_eq_getElem?_getD, List.getElem?_eq_none (Nat.le_of_not_lt hlt)]
   have hlt' : decide ((x : Int) < tr.length) = false := by simp; omega
   have hmw2 : m + 1 ≤ w.length := by omega
   have hw0 : 0 < w.length := by omega
   have hrow : (lC w m false).map bC = (w.map bC).take m ++ [.bool false] ++ (w.map bC).drop (m + 1) := by simp [lC, List.map_take, List.map_drop, bC]
   refine aB fun K hK => dV mixed [(0, [], []), (1, [], []), (2, [], []), (3, [], []), (4, [], []), (5, [], []), (6, [], []), (7, [], []), (8, [], []), (9, [], []), (10, [], []), (11, [], []), (12, [], []), (13, [], [])] [0, 0, 0, 4, 14, 30, 62, 62, 254, 510, 1022, 2046, 4095, 8191] (by kernel_rfl) (by kernel_rfl) (by kernel_rfl) (by kernel_rfl) rfl (by kernel_rfl) ?_
   iterate 12 refine WG0 ?_ (e := fun _ h_ => by simp only [sH, ↓sP, sA, tyS, simprocAttr, rI, hlt', cM hmw, bW, bK, bP, hw0, hmw2]; exact AX h_)
   refine eG (g := none) rfl rfl fun K' hK' => ?_
   simp only [sN, ↓hopH.eq_def, sH, ↓sP, sA, tyS, simprocAttr, rI, hlt', cM hmw, bW, bK, bP, hw0, hmw2]
   refine AX (hK' _ _ ?_)
   clear hK' K'
   refine WG0 ?_ (e := fun _ h_ => by simp only [sH, ↓sP, sA, tyS, simprocAttr, rI, hlt', cM hmw, bW, bK, bP, hw0, hmw2]; exact AX h_)
   simp only [sE, ↓reduceIte, simprocAttr, rI]
   refine AX (hK _ _ _ ?_)
   clear hK K
   refine aX ?_
   refine TQ rI ?_
   clear hK K
   rw [hg] at hst
   refine ⟨(show Fits 20000 _ _ (fin []) _ 20000 from aM (by omega) trivial ?_), hok⟩
   rw [hst, hxl, ← hx]
   simp [bB, fob_at, upd_at, none0_at, bZ, HO.men, HV.men, HV.menL, HV.norm, HV.toC, HV.toCL, lD hmw2, hrow, oG, bP]
  have hk1 : l[l.length - 1 - i].k ≠ 1 := by simpa using hb
  obtain ⟨hcm, hok, hst⟩ := hΦ.inner ht hi2 hk1
  rw [← hw, ← hm] at hst
  rw [← hm] at hcm
  obtain ⟨c1, c2, c3, c4⟩ := dF (ht.node _ (List.getElem_mem hp))
  have c5 := c4 hk1
  have hlv := aW3 hp
  rw [if_neg hk1, Nat.add_zero, show l.length - 1 - i + 1 = l.length - i from by omega] at hlv
  have hxl : l.length - (i + 1) = l.length - 1 - i := by omega
  obtain ⟨f, hf⟩ : ∃ f, f = m - l[l.length - 1 - i].c.toNat := ⟨_, rfl⟩
  have hfc : m - f = l[l.length - 1 - i].c.toNat := by omega
  rw [← hf, ← hfc] at hst
  have hw2 : IntKind.i64.wrap ((m : Int) - l[l.length - 1 - i].c) = (f : Int) := by rw [cK _ (by omega)]; omega
  have hf1 : f + 1 ≤ w.length := by omega
  have hfw : f ≤ w.length := by omega
  have hfm : f ≤ m := by omega
  have hw0 : 0 < w.length := by omega
  obtain ⟨h, hh⟩ : ∃ h, h = kV l[l.length - 1 - i] ((w.drop f).take (m - f)) := ⟨_, rfl⟩
  rw [← hh] at hst
  have hrow : (lC w f h).map bC = (w.map bC).take f ++ [.bool h] ++ (w.map bC).drop (f + 1) := by simp [lC, List.map_take, List.map_drop, bC]
  clear hb
  refine aJ ?_
  refine TQ rI ?_
  refine AX (hK _ _ _ ?_)
  clear hK K
  by_cases hmw : m = w.length
  ·
   rw [← hmw] at hw0 hf1 hfw
   refine aB fun K hK => Rg ?_
   iterate 6 refine S0 ?_ (e := fun _ h_ => by simp only [sH, ↓sP, sA, tyS, simprocAttr, rI, cU, ← hmw, List.length_map, hw2]; exact AX h_)
   simp only [sE, ↓reduceIte, simprocAttr, rI]
   refine AX (hK _ _ _ ?_)
   clear hK K
   refine dV mixed [(0, [], []), (1, [], []), (2, [], []), (3, [], []), (4, [], []), (5, [], []), (6, [], []), (7, [], [0, 1, 2]), (8, [], []), (9, [], []), (10, [], [])] [0, 0, 3, 0, 0, 0, 48, 120, 248, 511, 1023] (by kernel_rfl) (by kernel_rfl) (by kernel_rfl) (by kernel_rfl) rfl (by kernel_rfl) ?_
   iterate 7 refine WG0 ?_ (e := fun _ h_ => by simp only [sH, ↓sP, sA, tyS, simprocAttr, rI, cU, bW, bK, bP, ← hmw, List.length_map, Int.natCast_nonneg, Int.ofNat_le, hfw]; exact AX h_)
   refine oM (g := none) rfl rfl fun K' hK' => ?_
   simp only [sN, ↓hopH.eq_def, sH, ↓sP, sA, tyS, simprocAttr, rI, cU, bW, bK, bP, ← hmw, List.length_map, Int.natCast_nonneg, Int.ofNat_le, hfw]
   refine aI6 [48] (aM6 l[l.length - 1 - i] w f m (by omega) (by omega) (by omega) (by omega)) (by first | rfl | (rw [← hmw]; rfl)) ⟨rfl, trivial⟩ (by simp) ?_ ?_ ?_ ?_ ?_
   ·
    intro j hj
    match j, hj with
    | 0, _ => exact .inr ⟨by decide, fun r os' h => by rw [h.2]⟩
   ·
    exact ⟨rfl, rfl, rfl, rfl⟩
   ·
    simp [gK, HO.men]
   ·
    simp [HV.menL, HV.men]
   rintro r os' ⟨rfl, rfl⟩
   rw [← hh, show ∀ n ob, mU (sub [48] n) ob 0 [.row 4 1 (w.map bC)] = upd ob 48 (some (.row 4 1 (w.map bC))) from fun _ _ => rfl, show ∀ n b, HV.ren (sub [48] n) (.c b) = .c b from fun _ _ => rfl]
   refine AX (hK' _ _ ?_)
   clear hK' K'
   refine WG0 ?_ (e := fun _ h_ => by simp only [sH, ↓sP, sA, tyS, simprocAttr, rI, cU, bW, bK, bP, ← hmw, List.length_map, Int.natCast_nonneg, Int.ofNat_le, hfw]; exact AX h_)
   refine eG (g := none) rfl rfl fun K' hK' => ?_
   simp only [sN, ↓hopH.eq_def, sH, ↓sP, sA, tyS, simprocAttr, rI, cU, bW, bK, bP, ← hmw, List.length_map, Int.natCast_nonneg, Int.ofNat_le, hfw]
   refine AX (hK' _ _ ?_)
   clear hK' K'
   refine WG0 ?_ (e := fun _ h_ => by simp only [sH, ↓sP, sA, tyS, simprocAttr, rI, cU, bW, bK, bP, ← hmw, List.length_map, Int.natCast_nonneg, Int.ofNat_le, hfw]; exact AX h_)
   simp only [sE, ↓reduceIte, simprocAttr, rI]
   refine ⟨(show Fits 20000 _ _ (fin []) _ 20000 from aM (by omega) trivial ?_), hok⟩
   rw [hst, hxl, hlv]
   simp [bB, fob_at, upd_at, none0_at, bZ, HO.men, HV.men, HV.menL, HV.norm, HV.toC, HV.toCL, lD (show f + 1 ≤ w.length by omega), hrow, oG, bP, ← hmw]
  refine aB fun K hK => Rg ?_
  iterate 6 refine S0 ?_ (e := fun _ h_ => by simp only [sH, ↓sP, sA, tyS, simprocAttr, rI, cM hmw, List.length_map, hw0, hfit, Nat.zero_le, List.length_take, List.length_drop, Nat.sub_zero, Nat.min_eq_left hfit, hw2]; exact AX h_)
  simp only [sE, ↓reduceIte, simprocAttr, rI]
  refine AX (hK _ _ _ ?_)
  clear hK K
  refine dV mixed [(0, [], []), (1, [], []), (2, [], []), (3, [], []), (4, [], []), (5, [], []), (6, [], []), (7, [], [0, 1, 2]), (8, [], []), (9, [], []), (10, [], [])] [0, 0, 3, 0, 0, 0, 48, 120, 248, 511, 1023] (by kernel_rfl) (by kernel_rfl) (by kernel_rfl) (by kernel_rfl) rfl (by kernel_rfl) ?_
  iterate 2 refine WG0 ?_ (e := fun _ h_ => by simp only [sH, ↓sP, sA, tyS, simprocAttr, rI, bW, bK, bP, cM hmw, List.length_map, Int.natCast_nonneg, Int.ofNat_le, hfw, hfm]; exact AX h_)
  refine eG (g := none) rfl rfl fun K' hK' => ?_
  simp only [sN, ↓hopH.eq_def, sH, ↓sP, sA, tyS, simprocAttr, rI, bW, bK, bP, cM hmw, List.length_map, Int.natCast_nonneg, Int.ofNat_le, hfw, hfm]
  refine AX (hK' _ _ ?_)
  clear hK' K'
  iterate 3 refine WG0 ?_ (e := fun _ h_ => by simp only [sH, ↓sP, sA, tyS, simprocAttr, rI, bW, bK, bP, cM hmw, List.length_map, Int.natCast_nonneg, Int.ofNat_le, hfw, hfm]; exact AX h_)
  refine eG (g := none) rfl rfl fun K' hK' => ?_
  simp only [sN, ↓hopH.eq_def, sH, ↓sP, sA, tyS, simprocAttr, rI, bW, bK, bP, cM hmw, List.length_map, Int.natCast_nonneg, Int.ofNat_le, hfw, hfm]
  refine AX (hK' _ _ ?_)
  clear hK' K'
  refine oM (g := none) rfl rfl fun K' hK' => ?_
  simp only [sN, ↓hopH.eq_def, sH, ↓sP, sA, tyS, simprocAttr, rI, bW, bK, bP, cM hmw, List.length_map, Int.natCast_nonneg, Int.ofNat_le, hfw, hfm]
  refine aI6 [48] (aM6 l[l.length - 1 - i] w f m (by omega) (by omega) (by omega) (by omega)) (by first | rfl | (rw [← hmw]; rfl)) ⟨rfl, trivial⟩ (by simp) ?_ ?_ ?_ ?_ ?_
  ·
   intro j hj
   match j, hj with
   | 0, _ => exact .inr ⟨by decide, fun r os' h => by rw [h.2]⟩
  ·
   exact ⟨rfl, rfl, rfl, rfl⟩
  ·
   simp [gK, HO.men]
  ·
   simp [HV.menL, HV.men]
  rintro r os' ⟨rfl, rfl⟩
  rw [← hh, show ∀ n ob, mU (sub [48] n) ob 0 [.row 4 1 (w.map bC)] = upd ob 48 (some (.row 4 1 (w.map bC))) from fun _ _ => rfl, show ∀ n b, HV.ren (sub [48] n) (.c b) = .c b from fun _ _ => rfl]
  refine AX (hK' _ _ ?_)
  clear hK' K'
  refine WG0 ?_ (e := fun _ h_ => by simp only [sH, ↓sP, sA, tyS, simprocAttr, rI, bW, bK, bP, cM hmw, List.length_map, Int.natCast_nonneg, Int.ofNat_le, hfw, hfm]; exact AX h_)
  refine eG (g := none) rfl rfl fun K' hK' => ?_
  simp only [sN, ↓hopH.eq_def, sH, ↓sP, sA, tyS, simprocAttr, rI, bW, bK, bP, cM hmw, List.length_map, Int.natCast_nonneg, Int.ofNat_le, hfw, hfm]
  refine AX (hK' _ _ ?_)
  clear hK' K'
  refine WG0 ?_ (e := fun _ h_ => by simp only [sH, ↓sP, sA, tyS, simprocAttr, rI, bW, bK, bP, cM hmw, List.length_map, Int.natCast_nonneg, Int.ofNat_le, hfw, hfm]; exact AX h_)
  simp only [sE, ↓reduceIte, simprocAttr, rI]
  refine ⟨(show Fits 20000 _ _ (fin []) _ 20000 from aM (by omega) trivial ?_), hok⟩
  rw [hst, hxl, hlv]
  simp [bB, fob_at, upd_at, none0_at, bZ, HO.men, HV.men, HV.menL, HV.norm, HV.toC, HV.toCL, lD hf1, hrow, oG, bP]
 intro hΦ
 simp only [sE, ↓reduceIte, simprocAttr, rI]
 have hfin := hΦ
 rw [qT] at hfin
 obtain ⟨h1, h0, h2⟩ := hfin.fin ht
 rw [qT, h1]
 obtain ⟨w, hw⟩ : ∃ w, w = (bV l tr l.length).1 := ⟨_, rfl⟩
 rw [← hw] at h0
 have h3 : vU l tr = w[0] := by rw [h2]; simp only [hw]
 rw [← hw]
 refine AX (hK _ _ _ ?_)
 clear hK K
 by_cases hw1 : w.length = 1
 ·
  rw [hw1]
  refine aB fun K hK => Rg ?_
  iterate 4 refine S0 ?_ (e := fun _ h_ => by simp only [sH, ↓sP, sA, tyS, simprocAttr, rI, cU, bN h0, bC, Nat.lt_irrefl]; exact AX h_)
  simp only [sE, ↓reduceIte, simprocAttr, rI]
  refine AX (hK _ _ _ ?_)
  clear hK K
  refine aE ?_
  simp only [gB, Tryz.results20, fI, gA, eP, ↓sP, sA, tyS, simprocAttr, rI]
  exact aF [] (.bool w[0]) rfl (by rw [h3])
 refine aB fun K hK => Rg ?_
 iterate 4 refine S0 ?_ (e := fun _ h_ => by simp only [sH, ↓sP, sA, tyS, simprocAttr, rI, cM (Ne.symm hw1), bN h0, bC, h0]; exact AX h_)
 simp only [sE, ↓reduceIte, simprocAttr, rI]
 refine AX (hK _ _ _ ?_)
 clear hK K
 refine aE ?_
 simp only [gB, Tryz.results20, fI, gA, eP, ↓sP, sA, tyS, simprocAttr, rI]
 exact aF [] (.bool w[0]) rfl (by rw [h3])

end Go.Proofs.YtlldglbooaefhaaGreatDoor

namespace Go.Proofs.YtlldglbooaefhaaGreatDoor
open Go Go.Hl Go.Pl
set_option maxRecDepth 10000
set_option maxHeartbeats 16000000

theorem bV3 (ns im : aG) (r : Pr) : bT Tryz.prog 71 [r.cv, .rp (.str ns), .rp (.str im)] (fun v => v = .bool (zE ns im r)) := by
 refine FW Tryz.func71 ?_
 refine R0 ?_
 refine aB fun K hK => Rg ?_
 iterate 3 refine S0 ?_
 refine HS rfl rfl fun K' hK' => T5 ?_
 refine C2 (aL3 r.b ns) ?_
 rintro u rfl
 refine AX (hK' _ _ ?_)
 clear hK' K'
 refine S0 ?_
 refine aD 8 rfl (fun h1_8 => ?_) (fun h1_8 => ?_)
 ·
  have F := h1_8
  iterate 3 refine SF ?_
  refine aZ (g := some (9, true)) rfl rfl fun K' hK' => T6 ?_
  refine C2 (aL3 r.c im) ?_
  rintro u rfl
  refine AX (hK' _ _ ?_)
  clear hK' K'
  iterate 2 refine SF ?_
  refine T2 (hK _ _ _ ?_)
  clear hK K
  refine aE (RT Tryz.results71 ?_)
  exact aF [] (.bool _) rfl (by simp only [zE, h1_8, Bool.and_true, Bool.and_false, Bool.true_and, Bool.false_and])
 have F := h1_8
 iterate 6 refine SF ?_
 refine T2 (hK _ _ _ ?_)
 clear hK K
 refine aE (RT Tryz.results71 ?_)
 exact aF [] (.bool _) rfl (by simp only [zE, h1_8, Bool.and_true, Bool.and_false, Bool.true_and, Bool.false_and])


def bD8 (l : List Pr) (p : Pr → Bool) : Int := match l.findIdx? p with | some i => (i : Int) | none => -1
theorem bP0 {l : List Pr} {p : Pr → Bool} {i : Nat} (hi : i < l.length) (h : p l[i] = true) (h0 : ∀ j (hj : j < i), p (l[j]'(by omega)) = false) : bD8 l p = i := by
 have : l.findIdx? p = some i := by
  rw [List.findIdx?_eq_some_iff_getElem]
  exact ⟨hi, h, fun j hj => by rw [h0 j hj]; simp⟩
 rw [bD8, this]
theorem bD9 {l : List Pr} {p : Pr → Bool} (h0 : ∀ j (hj : j < l.length), p l[j] = false) : bD8 l p = -1 := by
 have : l.findIdx? p = none := by
  rw [List.findIdx?_eq_none_iff]
  intro r hr
  obtain ⟨j, hj, rfl⟩ := List.getElem_of_mem hr
  exact h0 j hj
 rw [bD8, this]

theorem bV4 (l : List Pr) (g : FuncId) (caps : List CV) (p : Pr → Bool) (hl : l.length < 2 ^ 40) (hp : ∀ r ∈ l, bT Tryz.prog g (r.cv :: caps) (fun v => v = .bool (p r))) :
  bF7 Tryz.prog 70 [.c (.slc (l.map Pr.cv)), .clo g (caps.map .c)] (fun v => v = .int .i64 (bD8 l p)) := by
 refine bY Tryz.func70 rfl (by kernel_rfl) (aT4 (by simp [HV.menL, HV.men, HV.menL_c])) (Nat.le_of_ble_eq_true rfl) ?_
 refine R0 ?_
 refine aB fun K hK => ?_
 refine R0 ?_
 refine aK ?_
 refine bE (α := {i : Nat // i ≤ l.length ∧ ∀ j (hj : j < i) (h : j < l.length), p l[j] = false}) (fun i => (fin [(0, .c (.slc (l.map Pr.cv))), (1, .clo g (caps.map .c)), (7, .c (.int .i64 l.length)), (8, .c (.int .i64 i.1))], fob [])) 100 (fun i => l.length - i.1) ⟨0, by omega, fun j hj => by omega⟩ (aM (by omega) (by simp [aY, fin_at, finA_at, upd_at, HV.men, HV.menL, HV.norm, HV.toC, HV.toCL, HV.menL_c]) (by simp [bB])) ?_
 rintro ⟨i, hi, h0⟩
 refine R0 ?_
 refine aB fun K hK => ?_
 refine aH (b := decide ((i : Int) < l.length)) rfl (fun hb => ?_) (fun hb => ?_)
 ·
  have hlt : i < l.length := by simpa using hb
  clear hb
  refine aJ ?_
  refine T0 (hK _ _ _ ?_)
  clear hK K
  refine aB fun K hK => ?_
  refine aK ?_
  refine R0 ?_
  refine aB fun K hK => Rg ?_
  have F := aI @Int.natCast_nonneg (aI @Int.ofNat_lt (aI hlt (nM hlt)))
  iterate 5 refine SF ?_
  refine HS rfl rfl fun K' hK' => T6 ?_
  refine nY (args := l[i].cv :: caps) (hp _ (List.getElem_mem hlt)) ⟨rfl, rfl, rfl, rfl⟩ ?_
  rintro u rfl
  refine AX (hK' _ _ ?_)
  clear hK' K'
  refine T2 (hK _ _ _ ?_)
  clear hK K
  refine aH (b := p l[i]) rfl (fun hb => ?_) (fun hb => ?_)
  ·
   refine R0 ?_
   refine aE (RT Tryz.results70 ?_)
   exact aF [] (.int .i64 i) rfl (by rw [bP0 hlt hb fun j hj => h0 j hj (by omega)])
  refine aJ ?_
  refine T0 (hK _ _ _ ?_)
  clear hK K
  refine aL (by kernel_rfl) ?_
  refine TQ (IntWalk.i64_in ((i : Int) + 1) (by omega)) ?_
  refine ⟨⟨i + 1, hlt, fun j hj h => ?_⟩, aM (by omega) (by simp [aY, fin_at, finA_at, upd_at, HV.men, HV.menL, HV.norm, HV.toC, HV.toCL, HV.menL_c]) (by simp [bB]), ?_⟩
  ·
   rcases Nat.lt_or_ge j i with h1 | h1
   ·
    exact h0 j h1 h
   obtain rfl : j = i := by omega
   exact hb
  show l.length - (i + 1) < l.length - i
  omega
 refine aX (T3 ?_)
 clear hK K
 refine AX (hK _ _ _ ?_)
 clear hK K
 refine R0 ?_
 refine aE (RT Tryz.results70 ?_)
 have hei : i = l.length := by simp at hb; omega
 subst hei
 exact aF [] (.int .i64 (-1)) rfl (by rw [bD9 fun j hj => h0 j hj hj])


theorem bV5 (p : Po) (hp : PoSz p) (ns im : aG) : bT Tryz.prog 39 [p.cv, .str ns, .str im] (fun v => v = .int .i64 (bL1 p ns im)) := by
 refine FW Tryz.func39 ?_
 refine aB fun K hK => Rg ?_
 iterate 4 refine S0 ?_
 refine T2 (hK _ _ _ ?_)
 clear hK K
 refine aB fun K hK => ?_
 refine aB fun K hK => Rg ?_
 refine S0 ?_
 refine HS rfl rfl fun K' hK' => T5 ?_
 refine C1 (oF p hp) ?_
 rintro u rfl
 refine AX (hK' _ _ ?_)
 clear hK' K'
 refine S0 ?_
 refine T2 (hK _ _ _ ?_)
 clear hK K
 refine aH (b := !eW p) rfl (fun hb => ?_) (fun hb => ?_)
 ·
  refine R0 ?_
  refine aE (RT Tryz.results39 ?_)
  exact aF [] (.int .i64 (-1)) rfl (by rw [bL2 (by simpa using hb)])
 refine aJ ?_
 refine T0 (hK _ _ _ ?_)
 clear hK K
 have hv : eW p = true := by simpa using hb
 clear hb
 refine xZ 4 4 rfl rfl ?_
 refine xZ 5 8 rfl rfl ?_
 refine aB fun K hK => Rg ?_
 have F := aI @bQ1 @upd_at
 iterate 3 refine SF ?_
 refine HS rfl rfl fun K' hK' => T6 ?_
 refine aO3 (bV4 p.r 71 [.rp (.str ns), .rp (.str im)] (zE ns im) hp.r fun r _ => bV3 ns im r) (by simp [HV.menL, HV.men]) (fun m => by simp [HV.renL, HV.ren]) ⟨rfl, rfl, rfl, rfl⟩ ?_
 rintro u rfl
 refine AX (hK' _ _ ?_)
 clear hK' K'
 refine SF ?_
 refine T2 (hK _ _ _ ?_)
 clear hK K
 refine aE (RT Tryz.results39 ?_)
 exact aF [] (.int .i64 (bD8 p.r (zE ns im))) rfl (by rw [bL1, if_pos hv]; rfl)

end Go.Proofs.YtlldglbooaefhaaGreatDoor

namespace Go.Proofs.YtlldglbooaefhaaGreatDoor
open Go Go.Hl Go.Pl
set_option maxRecDepth 10000
set_option maxHeartbeats 16000000

theorem aE5 (n : Int) : bT Tryz.prog 49 [.int .i64 n] (fun v => v = (aK5 n).cv) := by
 refine FW Tryz.func49 ?_
 refine R0 ?_
 refine aB fun K hK => Rg ?_
 iterate 4 refine S0 ?_
 refine T2 (hK _ _ _ ?_)
 clear hK K
 refine aE (RT Tryz.results49 ?_)
 exact aF [] (aK5 n).cv rfl rfl


theorem bP1 : PoSz awP := ⟨by decide, by decide, by decide, by decide⟩
theorem bP2 : ∀ n ∈ awT, n.q.t.length < 2 ^ 63 := by decide
theorem bP3 : rZ awP = 0 := by decide +kernel
theorem cA3 : (oI awP).length < 2 ^ 40 := by decide +kernel
theorem aM7 : mW Tryz.prog 22 tabs [] (fun v => v = .bool true) := by
 refine bY (args := []) Tryz.func22 rfl (by kernel_rfl) (fB tabs []) (Nat.le_of_ble_eq_true rfl) ?_
 unfold eD
 obtain ⟨aw1, aw2, aw3⟩ := bB7 bP3
 refine R0 ?_
 refine aB fun K hK => bD (by kernel_rfl) ?_
 simp only [sR, simprocAttr]
 refine SG0 ?_
 refine bI (g := none) rfl rfl fun K' hK' => T5 ?_
 refine C1 (aE5 1) ?_
 rintro u rfl
 refine AX (hK' _ _ ?_)
 clear hK' K'
 refine bI (g := none) rfl rfl fun K' hK' => T5 ?_
 refine C1 (aE5 2) ?_
 rintro u rfl
 refine AX (hK' _ _ ?_)
 clear hK' K'
 refine bI (g := none) rfl rfl fun K' hK' => T5 ?_
 refine C1 (aE5 3) ?_
 rintro u rfl
 refine AX (hK' _ _ ?_)
 clear hK' K'
 refine cB (g := none) 21 rfl rfl fun K' hK' => ?_
 simp only [eR, gU, sH, ↓sP, sA, tyS, simprocAttr]
 repeat refine AI ?_
 refine cE (by first | rfl | simp) ?_
 try simp only [sH, ↓sP, sA, tyS, simprocAttr]
 refine AX (hK' _ _ ?_)
 clear hK' K'
 refine SG0 ?_
 refine T2 (hK _ _ _ ?_)
 clear hK K
 refine aB fun K hK => bD (by kernel_rfl) ?_
 simp only [sR, simprocAttr]
 iterate 2 refine SG0 ?_
 refine cB (g := none) 37 rfl rfl fun K' hK' => ?_
 simp only [eR, gU, sH, ↓sP, sA, tyS, simprocAttr]
 repeat refine AI ?_
 refine cE (by first | rfl | simp) ?_
 try simp only [sH, ↓sP, sA, tyS, simprocAttr]
 refine AX (hK' _ _ ?_)
 clear hK' K'
 iterate 3 refine SG0 ?_
 refine T2 (hK _ _ _ ?_)
 clear hK K
 refine aB fun K hK => Rg ?_
 refine S0 ?_
 refine HS rfl rfl fun K' hK' => T5 ?_
 refine mY (args := [_]) 0 (aE4 awP bP1) rfl (by simp) ⟨rfl, rfl, rfl, rfl⟩ ?_
 rintro u v ⟨rfl, rfl⟩
 rw [bP3]
 refine AX (hK' _ _ ?_)
 clear hK' K'
 iterate 5 refine S0 ?_
 refine T2 (hK _ _ _ ?_)
 clear hK K
 refine aB fun K hK => Rg ?_
 have F := @cO
 refine SF ?_
 refine HS rfl rfl fun K' hK' => T6 ?_
 refine aM5 (args := [_]) 0 (bV1 (oI awP) cA3) rfl (by simp) ⟨rfl, rfl, rfl, rfl⟩ ?_
 rintro u v x ⟨rfl, rfl, rfl⟩
 rw [aw1, aw2, aw3]
 refine AX (hK' _ _ ?_)
 clear hK' K'
 iterate 8 refine SF ?_
 refine T2 (hK _ _ _ ?_)
 clear hK K
 refine aB fun K hK => bD (by kernel_rfl) ?_
 simp only [sR, simprocAttr]
 have F := aI @List.length_map.{0,0} (aI @lA (aI @qM (show awP.r.length = 1 from rfl)))
 refine SGF ?_
 refine bI (g := none) rfl rfl fun K' hK' => T6 ?_
 refine C1 (uA awT bP2) ?_
 rintro u rfl
 rw [bY9]
 refine AX (hK' _ _ ?_)
 clear hK' K'
 iterate 2 refine SGF ?_
 refine bI (g := some (30, true)) rfl rfl fun K' hK' => T6 ?_
 refine C1 (oF awP bP1) ?_
 rintro u rfl
 rw [bZ0]
 refine AX (hK' _ _ ?_)
 clear hK' K'
 iterate 17 refine SGF ?_
 refine cB (g := some (48, true)) 209 rfl rfl fun K' hK' => ?_
 simp only [eR, gU, sH, ↓sP, sA, tyS, simprocAttr, List.length_map, lA, qM, (show awP.r.length = 1 from rfl)]
 repeat refine AI ?_
 refine cE (by first | rfl | simp) ?_
 try simp only [sH, ↓sP, sA, tyS, simprocAttr, List.length_map, lA, qM, (show awP.r.length = 1 from rfl)]
 refine AX (hK' _ _ ?_)
 clear hK' K'
 refine bI (g := some (48, true)) rfl rfl fun K' hK' => T6 ?_
 refine C2 (aX4 awT bP2 [true, false, true] (by decide)) ?_
 rintro u rfl
 rw [bL3]
 refine AX (hK' _ _ ?_)
 clear hK' K'
 iterate 3 refine SGF ?_
 refine cB (g := some (53, true)) 229 rfl rfl fun K' hK' => ?_
 simp only [eR, gU, sH, ↓sP, sA, tyS, simprocAttr, List.length_map, lA, qM, (show awP.r.length = 1 from rfl)]
 repeat refine AI ?_
 refine cE (by first | rfl | simp) ?_
 try simp only [sH, ↓sP, sA, tyS, simprocAttr, List.length_map, lA, qM, (show awP.r.length = 1 from rfl)]
 refine AX (hK' _ _ ?_)
 clear hK' K'
 refine bI (g := some (53, true)) rfl rfl fun K' hK' => T6 ?_
 refine C2 (aX4 awT bP2 [true] (by decide)) ?_
 rintro u rfl
 rw [bL4]
 refine AX (hK' _ _ ?_)
 clear hK' K'
 iterate 4 refine SGF ?_
 refine bI (g := some (59, true)) rfl rfl fun K' hK' => T6 ?_
 refine C3 (bV5 awP bP1 [112, 114, 111, 100, 47, 101, 117] [119, 101, 98]) ?_
 rintro u rfl
 rw [bZ1]
 refine AX (hK' _ _ ?_)
 clear hK' K'
 iterate 4 refine SGF ?_
 refine bI (g := some (64, true)) rfl rfl fun K' hK' => T6 ?_
 refine C1 (zK awT bP2) ?_
 rintro u rfl
 refine AX (hK' _ _ ?_)
 clear hK' K'
 iterate 5 refine SGF ?_
 refine bI (g := some (70, true)) rfl rfl fun K' hK' => T6 ?_
 refine C2 (aL6 awT bP2 0) ?_
 rintro u rfl
 refine AX (hK' _ _ ?_)
 clear hK' K'
 iterate 4 refine SGF ?_
 refine T2 (hK _ _ _ ?_)
 clear hK K
 refine aE (RT Tryz.results22 ?_)
 exact dC [] (.bool true) rfl rfl (by simp) rfl

end Go.Proofs.YtlldglbooaefhaaGreatDoor

namespace Go.Proofs.YtlldglbooaefhaaGreatDoor
open Go Go.Hl Go.Pl
set_option maxRecDepth 10000
set_option maxHeartbeats 16000000

structure PoTy (p : Po) : Prop where
 n : p.n.length < 2 ^ 63
 r : p.r.length < 2 ^ 63
 a : ∀ r ∈ p.r, r.a.length < 2 ^ 63
 t : ∀ r ∈ p.r, ∀ n ∈ r.t, n.q.t.length < 2 ^ 63
theorem PoTy.sz {p : Po} (h : PoTy p) (hf : Few p) : PoSz p := ⟨h.n, by have := hf.r; omega, h.a, h.t⟩
theorem bE0 (p : Po) (ht : PoTy p) : mW Tryz.prog 5 tabs [p.cv] (fun v => v = .bool true) := by
 refine bY (args := [.c p.cv]) Tryz.func5 rfl (by kernel_rfl) (fB tabs [p.cv]) (Nat.le_of_ble_eq_true rfl) ?_
 unfold eD
 refine R0 ?_
 refine aB fun K hK => ?_
 refine aB fun K hK => Rg ?_
 refine S0 ?_
 refine HS rfl rfl fun K' hK' => T5 ?_
 refine C1 (bZ8 p ht.r) ?_
 rintro u ⟨b, rfl, hb0⟩
 refine AX (hK' _ _ ?_)
 clear hK' K'
 refine S0 ?_
 refine T2 (hK _ _ _ ?_)
 clear hK K
 refine aH (b := !b) rfl (fun hb => ?_) (fun hb => ?_)
 ·
  refine aB fun K hK => Rg ?_
  refine HS rfl rfl fun K' hK' => T5 ?_
  refine eA (args := []) 0 aM7 rfl (by simp) ⟨rfl, rfl, rfl, rfl⟩ ?_
  rintro u rfl
  refine AX (hK' _ _ ?_)
  clear hK' K'
  refine S0 ?_
  refine T2 (hK _ _ _ ?_)
  clear hK K
  refine aE (RT Tryz.results5 ?_)
  exact dC [] (.bool true) rfl rfl (by simp) rfl
 refine aJ ?_
 refine T0 (hK _ _ _ ?_)
 clear hK K
 have hp := ht.sz (hb0 (by simpa using hb))
 clear hb hb0
 refine aB fun K hK => Rg ?_
 refine S0 ?_
 refine HS rfl rfl fun K' hK' => T5 ?_
 refine mY (args := [_]) 0 (aE4 p hp) rfl (by simp) ⟨rfl, rfl, rfl, rfl⟩ ?_
 rintro u v ⟨rfl, rfl⟩
 refine AX (hK' _ _ ?_)
 clear hK' K'
 iterate 5 refine S0 ?_
 refine T2 (hK _ _ _ ?_)
 clear hK K
 refine aB fun K hK => Rg ?_
 refine S0 ?_
 refine HS rfl rfl fun K' hK' => T5 ?_
 refine D1 (bU9 p hp) ?_
 rintro u v ⟨rfl, rfl⟩
 refine AX (hK' _ _ ?_)
 clear hK' K'
 iterate 5 refine S0 ?_
 refine T2 (hK _ _ _ ?_)
 clear hK K
 refine aB fun K hK => DW [(0, [], []), (2, [], []), (1, [], [2]), (3, [], []), (4, [], []), (5, [], []), (6, [], []), (7, [], []), (8, [], []), (9, [], []), (10, [], []), (11, [], []), (12, [], []), (13, [], []), (14, [], []), (15, [], []), (16, [], []), (17, [], []), (18, [], []), (19, [], []), (20, [], [])] [0, 1, 0, 7, 15, 31, 63, 63, 255, 511, 1023, 2047, 4095, 2047, 10239, 32767, 65535, 131071, 262143, 524287, 1048575] ?_
 have F := aI @bytesC_map @beq_self_eq_true.{0}
 iterate 2 refine WF ?_
 refine bX (g := none) rfl rfl fun K' hK' => T6 ?_
 refine C1 (oF p hp) ?_
 rintro u rfl
 refine AX (hK' _ _ ?_)
 clear hK' K'
 refine bX (g := none) rfl rfl fun K' hK' => T6 ?_
 refine C1 (zQ p hp) ?_
 rintro u rfl
 refine AX (hK' _ _ ?_)
 clear hK' K'
 iterate 14 refine WF ?_
 refine bX (g := some (38, true)) rfl rfl fun K' hK' => T6 ?_
 refine eA (args := []) 0 aM7 rfl (by simp) ⟨rfl, rfl, rfl, rfl⟩ ?_
 rintro u rfl
 refine AX (hK' _ _ ?_)
 clear hK' K'
 iterate 2 refine WF ?_
 refine T2 (hK _ _ _ ?_)
 clear hK K
 refine aE (RT Tryz.results5 ?_)
 exact dC [] (.bool true) rfl rfl (by simp) rfl

end Go.Proofs.YtlldglbooaefhaaGreatDoor

namespace Go.Proofs.YtlldglbooaefhaaGreatDoor
open Go Go.Hl Go.Pl
set_option linter.unusedVariables false
set_option maxRecDepth 100000

theorem xJ {W : World} (h : laidMetH Tryz.prog Rows.policyValidRow.laid W) : Lib.TabIs Tryz.prog W "internal/strconv.uint64pow10" .u64 Lib.pow10Tab := by
  rw [MakeChecks.laidMetH_plain _ _ _ (by kernel_rfl)] at h
  have h2 := laidMet.filter (fun x => x.1 == "internal/strconv.uint64pow10") h
  have e : (Rows.policyValidRow.laid.filter fun x => x.1 == "internal/strconv.uint64pow10") = [("internal/strconv.uint64pow10", Lib.tabData .u64 Lib.pow10Tab)] := by kernel_rfl
  rw [e] at h2
  exact Lib.tabIs_of_head aD9 (by kernel_rfl) Tryz.underlying169 Tryz.underlying116 (by kernel_rfl) (by kernel_rfl) h2

theorem nP (H : Type) (enc : TypeId × Value → H) (W : World) (args : Array Value) (ds gs : List (DataW H)) (before : List MemPlace)
    (hL : laidMetH Tryz.prog Rows.policyValidRow.laid W)
    (hval : ∀ (j : Nat) t v, Tryz.f5.params[j]? = some t → args[j]? = some v → Value.okWide Tryz.prog W .any 0 t v)
    (hW : DataW.Whole enc Tryz.prog Tryz.f5.params.toList Rows.policyValidSpec.vars false W args.toList ds gs before) :
    Calls Tryz.prog 5 args W fun e W' => ∃ v, e = .returned v ∧ Rows.policyValidSpec.post enc Tryz.prog Tryz.f5 false true false false W args v W' := by
  refine aZ7 (mm := 9) (tb := 4) (tabs := tabs) (by kernel_rfl) kids aR1 rfl (by kernel_rfl) Tryz.underlying4 ?_ ?_ ?_ ?_ (fun j t v h1 h2 => ?_) hW
  · rw [Tryz.params5]
    intro H ds h
    match ds, h with
    | [c0], _ => exact ⟨rfl, rfl, rfl⟩
  · rw [Tryz.params5]
    intro t ht
    simp only [List.mem_cons, List.not_mem_nil, or_false] at ht
    rcases ht with rfl
    · exact ⟨by kernel_rfl, of_decide_eq_true (by kernel_rfl)⟩
  · rw [Tryz.params5]
    intro cs hn hty
    match cs, hn, hty with
    | [c0], _, hty =>
      obtain ⟨p, rfl, h1, h2, h3⟩ := cE2 (hty 0 _ c0 rfl rfl)
      unfold maxLen at h1 h2 h3
      exact bE0 p ⟨by omega, by omega, fun r hr => by have := (h3 r hr).1; omega, fun r hr n hn => by have := (h3 r hr).2 n hn; omega⟩
  · intro x hx
    simp only [tabs, List.mem_cons, List.not_mem_nil, or_false] at hx
    rcases hx with rfl
    · exact xC aD9 (xJ hL)
  · exact hval j t v h1 h2

open Go.ChangeShapes Go.WideShapes Go.ChangeAt Go.RowKit in
set_option maxRecDepth 100000 in
theorem pH (os : Os) (started : os.Started) (H : Type) (enc : TypeId × Value → H) :
    ReturnsInHanded {} Tryz.checked os 5 .any (fun w args => (Rows.policyValidSpec.pre enc Tryz.prog Tryz.f5 [] false w args ∧ laidMetH Tryz.prog Rows.policyValidRow.laid w) ∧ sizedMet enc Tryz.prog Tryz.f5 (OpenSpec.ofChange Rows.policyValidSpec) false w args)
      (Rows.policyValidSpec.post enc Tryz.prog Tryz.f5 false true false false) := by
  refine returnsInHanded_of_change_and (C := Tryz.checked) (X := fun w _ => laidMetH Tryz.prog Rows.policyValidRow.laid w) (fun _ _ _ hh h => h.of_heap hh) own started (by kernel_rfl) Tryz.func5
    (ChangeSpec.witness_shaped (enc := enc) (C := Tryz.checked) (os := os) (X := fun w _ => laidMetH Tryz.prog Rows.policyValidRow.laid w) false (World.laidAll Tryz.prog os Rows.policyValidRow.laid) #[.agg #[.string ⟨#[]⟩, .int .i64 0, .slice none 0 0]] 8 (World.laidAll_os _ _ _)
      (World.shaped_of_ZipB (by kernel_rfl) (by kernel_rfl)) (by kernel_rfl) (by kernel_rfl) (by kernel_rfl)
      (by rw [MakeChecks.laidMetH_plain _ _ _ (by kernel_rfl)]; exact laidMet_laidAll _ (by kernel_rfl) (by kernel_rfl))) ?_
  intro W base args ds gs before hval hW _ _ hL _
  exact nP H enc W args ds gs before hL (fun j t v h1 h2 => (hval j t v h1 h2)) hW

theorem tR : Rows.PolicyValidSaid :=
  OpenClaim.holds_of_wide 5 Tryz.f5 rfl rfl rfl rfl rfl rfl rfl ⟨rfl, rfl, rfl, rfl, rfl⟩ rfl rfl rfl rfl rfl (by kernel_rfl) Tryz.func5 (by kernel_rfl)
    (of_decide_eq_true (by kernel_rfl)) (by unfold Func.isWrapper; first | (rw [if_pos (by decide +kernel)]; kernel_rfl) | (rw [if_neg (by decide +kernel)]; exact ⟨rfl, rfl⟩))
    (fun os started H enc _ => pH os started H enc)

theorem policyValid_said : Rows.PolicyValidCardSaid :=
  Claim7.holds_tied_plain_at .later [] [.data, .data, .data, .data, .pinned] true (true, "ff5d47cd62c7d13f21802cca9c8b9512cc3c2844dd4407b78ea0f3c0525ec3f2") false tR (fun _ h => by cases h) (by kernel_rfl) (fun _ h => by cases h) policyValid_row_tie rfl ⟨rfl, rfl⟩ (by kernel_rfl) rfl
    (fun f fn hf hfn => by
      obtain rfl : f = 5 := Option.some.inj ((show Tryz.prog.funcNamed "admission/admissionlaw28.PolicyValid" = some 5 by kernel_rfl).symm.trans hf) |>.symm
      obtain rfl : fn = Tryz.f5 := (Option.some.inj (Tryz.func5.symm.trans hfn)).symm
      exact ⟨by kernel_rfl, fun j t ht => by
        rw [Tryz.params5] at ht
        have hm : t ∈ [45] := by simpa using Array.mem_of_getElem? ht
        have hall : ([45].all fun u => !Tryz.prog.wantsStandIn u) = true := by kernel_rfl
        exact (show Tryz.prog.wantsStandIn t = false by simpa using List.all_eq_true.1 hall t hm)⟩)
    (by kernel_rfl)
#print axioms policyValid_said
end Go.Proofs.YtlldglbooaefhaaGreatDoor
