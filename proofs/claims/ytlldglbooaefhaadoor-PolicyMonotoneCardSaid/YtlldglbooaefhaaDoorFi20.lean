/- PolicyMonotone: for any tape of numbers and any two rows of truth values the law returns true and leaves them as they were: with more true values a tree does not become false, and it is true if all values are. The listed tables of the library are tied to the program's text by the card. By an AI agent. -/
import Derived.Test.YtlldglbooaefhaaDoorHvV1
import Derived.Test.YtlldglbooaefhaaDoorPl28l
import Derived.Test.YtlldglbooaefhaaDoorHlCl
import Derived.Test.YtlldglbooaefhaaDoorHlIt
import Derived.Test.YtlldglbooaefhaaDoorHvTd
import Derived.Test.YtlldglbooaefhaaDoorPl03e
import Derived.Test.YtlldglbooaefhaaDoorHvV3
import Derived.Lay
import Derived.SevenTiedAt
import Derived.Test.YtlldglbooaefhaaDoorRows
import Derived.Test.YtlldglbooaefhaaDoorCards
import Derived.Test.YtlldglbooaefhaaDoorTie
set_option linter.unusedSimpArgs false
set_option linter.unusedVariables false
set_option linter.defProp false
namespace Go.Proofs.YtlldglbooaefhaaDoor
open Go Go.Hl Go.Pl
set_option maxRecDepth 10000
set_option maxHeartbeats 16000000

theorem cA (id n sz m : Nat) : (gP id n sz m).sto = true := by unfold gP; split <;> rfl
theorem bM (id n sz m : Nat) : (gP id n sz m).cells = 1 := by unfold gP; split <;> rfl
theorem bS (id n sz m : Nat) : (gP id n sz m).toC = none := by unfold gP; split <;> rfl
theorem cQ (id n sz : Nat) : gP id n sz n = .own id n := by unfold gP; rw [if_pos rfl]
theorem cJ {id n sz m : Nat} (h : m ≠ n) : gP id n sz m = .osl id n 0 sz m := by unfold gP; rw [if_neg h]
theorem oF {M : Nat → Prop} {id n sz m : Nat} (h : M id) : (gP id n sz m).men M := by unfold gP; split <;> exact h

theorem iM (l : List Nd) (hn : ∀ n ∈ l, n.q.t.length < 2 ^ 63) (tr : List Bool) (htr : tr.length < 2 ^ 63) : cF Tryd.prog 14 [.slc (l.map Nd.cv), .slc (tr.map bC)] (fun v => v = .bool (gU l tr)) := by
 refine FW Tryd.func14 ?_
 have F := rI
 refine RF ?_
 refine aC fun K hK => Rg ?_
 refine SF ?_
 refine HS rfl rfl fun K' hK' => T6 ?_
 refine C1 (rP l hn) ?_
 rintro u rfl
 refine AX (hK' _ _ ?_)
 clear hK' K'
 iterate 3 refine SF ?_
 simp only [sE, ↓reduceIte, simprocAttr, rI]
 refine AX (hK _ _ _ ?_)
 clear hK K
 refine aC fun K hK => ?_
 refine RF ?_
 refine aG (b := (((gN l).length : Int) == 0)) rfl (fun hb => ?_) (fun hb => ?_)
 ·
  refine RF ?_
  refine aF ?_
  simp only [fX, Tryd.results14, fC, fW, eQ, ↓sP, sA, tyS, simprocAttr, rI]
  have hlv : gN l = [] := by simpa using hb
  have htf : dF l = false := by
   cases h : dF l with
   | false => rfl
   | true =>
    have h1 := aH5 (kL h)
    rw [lM h] at hlv
    have h2 := iR l 0
    rw [hlv] at h2
    simp at h2; omega
  exact aL [] (.bool false) rfl (by rw [gU, htf]; rfl)
 have htt : dF l = true := by
  cases h : dF l with
  | true => rfl
  | false => rw [tA h] at hb; simp at hb
 have ht := kL htt
 have hl := ht.len
 have hlen : (gN l).length = lv l := by rw [lM htt, iR]
 rw [hlen]
 clear hb
 refine aJ ?_
 refine TQ rI ?_
 refine AX (hK _ _ _ ?_)
 clear hK K
 refine RF ?_
 refine aC fun K hK => ?_
 refine aC fun K hK => Rg ?_
 refine S0 ?_ (e := fun _ h_ => by simp only [sH, ↓sP, sA, tyS, simprocAttr, rI, denilL_Nd, lQ, gA, List.range', List.map_cons, List.map_nil]; exact AX h_)
 refine HS rfl rfl fun K' hK' => ?_
 simp only [sH, ↓sP, sA, tyS, simprocAttr, rI, denilL_Nd, lQ, gA, List.range', List.map_cons, List.map_nil]
 refine rF (args := [_]) (bV5 l) (by simp) ⟨rfl, rfl, rfl, rfl⟩ ?_
 refine AX (hK' _ _ ?_)
 clear hK' K'
 simp only [sE, ↓reduceIte, simprocAttr, rI]
 refine AX (hK _ _ _ ?_)
 clear hK K
 refine aK ?_
 refine zY 36 0 4 1 rfl rfl rfl rfl ?_
 refine yC (ids := [44]) (fin [(3, .ptr 0 0), (5, .ptr 20 0), (6, .ptr 36 0)]) (fun i => fob [(0, .box 38 (.c (.slc (tr.map bC)))), (20, .box 3 (.c (.int .i64 (lv (l.take (l.length - i)) : Nat)))), (36, .box 38 (gP 48 (bZ l tr i).1.length 1 (bZ l tr i).2)), (48, .row 4 1 ((bZ l tr i).1.map bC))]) 20000 (fun i => EvOk l tr i) (EvOk.zero l tr) (bC5 l (by omega)) rfl rfl (by decide) ?_ ?_ ?_ ?_ ?_ rfl rfl ?_ ?_
 ·
  intro j x hx
  match j, hx with
  | 0, hx => cases hx; rfl
 ·
  exact aN (by omega) (by simp [bA, fin_at, finA_at, upd_at, HV.men, HV.menL, HV.norm, HV.toC, HV.toCL, lQ, bZ, cQ, List.take_length]) (by simp [aZ, fob_at, upd_at, none0_at, bY, HO.men, HV.men, HV.menL, HV.norm, HV.toC, HV.toCL, lQ, bZ, cQ, List.take_length])
 ·
  intro id hid
  simp only [List.mem_cons, List.not_mem_nil, or_false] at hid
  subst hid; rfl
 ·
  intro x hx
  obtain ⟨p, _, rfl⟩ := List.mem_map.1 hx
  rfl
 ·
  intro p hp
  simp only [List.mem_cons, List.not_mem_nil, or_false] at hp
  rcases hp with rfl | rfl <;> exact Nat.le_of_ble_eq_true rfl
 ·
  intro i hi hΦ K hK
  have hi2 : i < l.length := by rw [← qJ l]; exact hi
  have hp : l.length - 1 - i < l.length := by omega
  rw [bK9 hi hp]
  simp only [vH]
  obtain ⟨w, hw⟩ : ∃ w, w = (bZ l tr i).1 := ⟨_, rfl⟩
  obtain ⟨m, hm⟩ : ∃ m, m = (bZ l tr i).2 := ⟨_, rfl⟩
  have hfit := hΦ.fit
  have hsmall := hΦ.small
  rw [← hw, ← hm] at hfit
  rw [← hw] at hsmall
  rw [← hw, ← hm]
  refine aM (by kernel_rfl) ?_
  refine TQ rI ?_
  refine AX (hK _ _ _ ?_)
  clear hK K
  refine aK ?_
  refine aC fun K hK => ?_
  refine RF ?_
  refine aG (b := (l[l.length - 1 - i].k == 1)) rfl (fun hb => ?_) (fun hb => ?_)
  ·
   have hk1 : l[l.length - 1 - i].k = 1 := by simpa using hb
   obtain ⟨hok, hst⟩ := hΦ.leaf hi2 hk1
   rw [← hw, ← hm] at hst
   have hlv := aU7 hp
   rw [if_pos hk1, show l.length - 1 - i + 1 = l.length - i from by omega] at hlv
   have hlb := aP7 l (l.length - 1 - i)
   have hw1 : IntKind.i64.wrap ((lv (l.take (l.length - i)) : Int) - 1) = ((lv (l.take (l.length - 1 - i)) : Nat) : Int) := by rw [hlv, dL _ (by omega)]; omega
   obtain ⟨x, hx⟩ : ∃ x, x = lv (l.take (l.length - 1 - i)) := ⟨_, rfl⟩
   have hxl : l.length - (i + 1) = l.length - 1 - i := by omega
   rw [← hx] at hw1 hst
   clear hb
   have F := aI rI hw1
   refine RF ?_
   by_cases hlt : x < tr.length
   ·
    by_cases hmw : m = w.length
    ·
     subst hmw
     have hg : tr.getD x false = tr[x] := by simp [hlt]
     refine aC fun K hK => eV mixed [(0, [], []), (1, [], []), (2, [], []), (3, [], []), (4, [], []), (5, [], []), (6, [], []), (7, [], []), (8, [], []), (9, [], []), (10, [], []), (11, [], []), (12, [], []), (13, [], [])] [0, 0, 0, 4, 14, 30, 62, 62, 254, 510, 1022, 2046, 4095, 8191] (by kernel_rfl) (by kernel_rfl) (by kernel_rfl) (by kernel_rfl) rfl (by kernel_rfl) ?_
     iterate 14 refine WG0 ?_ (e := fun _ h_ => by simp only [sH, ↓sP, sA, tyS, simprocAttr, rI, Int.natCast_nonneg, Int.ofNat_lt, hlt, bV hlt, bC, cQ, cA, bM, bS]; exact AX h_)
     simp only [sE, ↓reduceIte, simprocAttr, rI]
     refine AX (hK _ _ _ ?_)
     clear hK K
     refine bB ?_
     refine TQ rI ?_
     clear hK K
     rw [hg, zD] at hst
     refine ⟨(show Fits 20000 _ _ (fin []) _ 20000 from aN (by omega) trivial ?_), hok⟩
     rw [hst, hxl, ← hx]
     simp [aZ, fob_at, upd_at, none0_at, bY, HO.men, HV.men, HV.menL, HV.norm, HV.toC, HV.toCL, cQ, bC]
    have hg : tr.getD x false = tr[x] := by simp [hlt]
    have hmw2 : m + 1 ≤ w.length := by omega
    have hw0 : 0 < w.length := by omega
    have hrow : (kU w m tr[x]).map bC = (w.map bC).take m ++ [.bool tr[x]] ++ (w.map bC).drop (m + 1) := by simp [kU, List.map_take, List.map_drop, bC]
    refine aC fun K hK => eV mixed [(0, [], []), (1, [], []), (2, [], []), (3, [], []), (4, [], []), (5, [], []), (6, [], []), (7, [], []), (8, [], []), (9, [], []), (10, [], []), (11, [], []), (12, [], []), (13, [], [])] [0, 0, 0, 4, 14, 30, 62, 62, 254, 510, 1022, 2046, 4095, 8191] (by kernel_rfl) (by kernel_rfl) (by kernel_rfl) (by kernel_rfl) rfl (by kernel_rfl) ?_
    iterate 12 refine WG0 ?_ (e := fun _ h_ => by simp only [sH, ↓sP, sA, tyS, simprocAttr, rI, Int.natCast_nonneg, Int.ofNat_lt, hlt, bV hlt, bC, cJ hmw, cA, bM, bS, hw0, hmw2]; exact AX h_)
    refine eH (g := none) rfl rfl fun K' hK' => ?_
    simp only [sN, ↓hopH.eq_def, sH, ↓sP, sA, tyS, simprocAttr, rI, Int.natCast_nonneg, Int.ofNat_lt, hlt, bV hlt, bC, cJ hmw, cA, bM, bS, hw0, hmw2]
    refine AX (hK' _ _ ?_)
    clear hK' K'
    refine WG0 ?_ (e := fun _ h_ => by simp only [sH, ↓sP, sA, tyS, simprocAttr, rI, Int.natCast_nonneg, Int.ofNat_lt, hlt, bV hlt, bC, cJ hmw, cA, bM, bS, hw0, hmw2]; exact AX h_)
    simp only [sE, ↓reduceIte, simprocAttr, rI]
    refine AX (hK _ _ _ ?_)
    clear hK K
    refine bB ?_
    refine TQ rI ?_
    clear hK K
    rw [hg] at hst
    refine ⟨(show Fits 20000 _ _ (fin []) _ 20000 from aN (by omega) trivial ?_), hok⟩
    rw [hst, hxl, ← hx]
    simp [aZ, fob_at, upd_at, none0_at, bY, HO.men, HV.men, HV.menL, HV.norm, HV.toC, HV.toCL, kV hmw2, hrow, oF, bS]
   by_cases hmw : m = w.length
   ·
    subst hmw
    have hg : tr.getD x false = false := by simp [List.getD_eq_getElem?_getD, List.getElem?_eq_none (Nat.le_of_not_lt hlt)]
    have hlt' : decide ((x : Int) < tr.length) = false := by simp; omega
    refine aC fun K hK => eV mixed [(0, [], []), (1, [], []), (2, [], []), (3, [], []), (4, [], []), (5, [], []), (6, [], []), (7, [], []), (8, [], []), (9, [], []), (10, [], []), (11, [], []), (12, [], []), (13, [], [])] [0, 0, 0, 4, 14, 30, 62, 62, 254, 510, 1022, 2046, 4095, 8191] (by kernel_rfl) (by kernel_rfl) (by kernel_rfl) (by kernel_rfl) rfl (by kernel_rfl) ?_
    have F := aI rI (aI hlt' (aI @cQ (aI @cA (aI @bM @bS))))
    iterate 14 refine WGF ?_
    simp only [sE, ↓reduceIte, simprocAttr, rI]
    refine AX (hK _ _ _ ?_)
    clear hK K
    refine bB ?_
    refine TQ rI ?_
    clear hK K
    rw [hg, zD] at hst
    refine ⟨(show Fits 20000 _ _ (fin []) _ 20000 from aN (by omega) trivial ?_), hok⟩
    rw [hst, hxl, ← hx]
    simp [aZ, fob_at, upd_at, none0_at, bY, HO.men, HV.men, HV.menL, HV.norm, HV.toC, HV.toCL, cQ, bC]
   have hg : tr.getD x false = false := by simp [List.getD_eq_getElem?_getD, List.getElem?_eq_none (Nat.le_of_not_lt hlt)]
   have hlt' : decide ((x : Int) < tr.length) = false := by simp; omega
   have hmw2 : m + 1 ≤ w.length := by omega
   have hw0 : 0 < w.length := by omega
   have hrow : (kU w m false).map bC = (w.map bC).take m ++ [.bool false] ++ (w.map bC).drop (m + 1) := by simp [kU, List.map_take, List.map_drop, bC]
   refine aC fun K hK => eV mixed [(0, [], []), (1, [], []), (2, [], []), (3, [], []), (4, [], []), (5, [], []), (6, [], []), (7, [], []), (8, [], []), (9, [], []), (10, [], []), (11, [], []), (12, [], []), (13, [], [])] [0, 0, 0, 4, 14, 30, 62, 62, 254, 510, 1022, 2046, 4095, 8191] (by kernel_rfl) (by kernel_rfl) (by kernel_rfl) (by kernel_rfl) rfl (by kernel_rfl) ?_
   iterate 12 refine WG0 ?_ (e := fun _ h_ => by simp only [sH, ↓sP, sA, tyS, simprocAttr, rI, hlt', cJ hmw, cA, bM, bS, hw0, hmw2]; exact AX h_)
   refine eH (g := none) rfl rfl fun K' hK' => ?_
   simp only [sN, ↓hopH.eq_def, sH, ↓sP, sA, tyS, simprocAttr, rI, hlt', cJ hmw, cA, bM, bS, hw0, hmw2]
   refine AX (hK' _ _ ?_)
   clear hK' K'
   refine WG0 ?_ (e := fun _ h_ => by simp only [sH, ↓sP, sA, tyS, simprocAttr, rI, hlt', cJ hmw, cA, bM, bS, hw0, hmw2]; exact AX h_)
   simp only [sE, ↓reduceIte, simprocAttr, rI]
   refine AX (hK _ _ _ ?_)
   clear hK K
   refine bB ?_
   refine TQ rI ?_
   clear hK K
   rw [hg] at hst
   refine ⟨(show Fits 20000 _ _ (fin []) _ 20000 from aN (by omega) trivial ?_), hok⟩
   rw [hst, hxl, ← hx]
   simp [aZ, fob_at, upd_at, none0_at, bY, HO.men, HV.men, HV.menL, HV.norm, HV.toC, HV.toCL, kV hmw2, hrow, oF, bS]
  have hk1 : l[l.length - 1 - i].k ≠ 1 := by simpa using hb
  obtain ⟨hcm, hok, hst⟩ := hΦ.inner ht hi2 hk1
  rw [← hw, ← hm] at hst
  rw [← hm] at hcm
  obtain ⟨c1, c2, c3, c4⟩ := dK (ht.node _ (List.getElem_mem hp))
  have c5 := c4 hk1
  have hlv := aU7 hp
  rw [if_neg hk1, Nat.add_zero, show l.length - 1 - i + 1 = l.length - i from by omega] at hlv
  have hxl : l.length - (i + 1) = l.length - 1 - i := by omega
  obtain ⟨f, hf⟩ : ∃ f, f = m - l[l.length - 1 - i].c.toNat := ⟨_, rfl⟩
  have hfc : m - f = l[l.length - 1 - i].c.toNat := by omega
  rw [← hf, ← hfc] at hst
  have hw2 : IntKind.i64.wrap ((m : Int) - l[l.length - 1 - i].c) = (f : Int) := by rw [dL _ (by omega)]; omega
  have hf1 : f + 1 ≤ w.length := by omega
  have hfw : f ≤ w.length := by omega
  have hfm : f ≤ m := by omega
  have hw0 : 0 < w.length := by omega
  obtain ⟨h, hh⟩ : ∃ h, h = gT l[l.length - 1 - i] ((w.drop f).take (m - f)) := ⟨_, rfl⟩
  rw [← hh] at hst
  have hrow : (kU w f h).map bC = (w.map bC).take f ++ [.bool h] ++ (w.map bC).drop (f + 1) := by simp [kU, List.map_take, List.map_drop, bC]
  clear hb
  refine aJ ?_
  refine TQ rI ?_
  refine AX (hK _ _ _ ?_)
  clear hK K
  by_cases hmw : m = w.length
  ·
   rw [← hmw] at hw0 hf1 hfw
   refine aC fun K hK => Rg ?_
   iterate 6 refine S0 ?_ (e := fun _ h_ => by simp only [sH, ↓sP, sA, tyS, simprocAttr, rI, cQ, ← hmw, List.length_map, hw2]; exact AX h_)
   simp only [sE, ↓reduceIte, simprocAttr, rI]
   refine AX (hK _ _ _ ?_)
   clear hK K
   refine eV mixed [(0, [], []), (1, [], []), (2, [], []), (3, [], []), (4, [], []), (5, [], []), (6, [], []), (7, [], [0, 1, 2]), (8, [], []), (9, [], []), (10, [], [])] [0, 0, 3, 0, 0, 0, 48, 120, 248, 511, 1023] (by kernel_rfl) (by kernel_rfl) (by kernel_rfl) (by kernel_rfl) rfl (by kernel_rfl) ?_
   iterate 7 refine WG0 ?_ (e := fun _ h_ => by simp only [sH, ↓sP, sA, tyS, simprocAttr, rI, cQ, cA, bM, bS, ← hmw, List.length_map, Int.natCast_nonneg, Int.ofNat_le, hfw]; exact AX h_)
   refine oJ (g := none) rfl rfl fun K' hK' => ?_
   simp only [sN, ↓hopH.eq_def, sH, ↓sP, sA, tyS, simprocAttr, rI, cQ, cA, bM, bS, ← hmw, List.length_map, Int.natCast_nonneg, Int.ofNat_le, hfw]
   refine aG3 [48] (aL2 l[l.length - 1 - i] w f m (by omega) (by omega) (by omega) (by omega)) (by first | rfl | (rw [← hmw]; rfl)) ⟨rfl, trivial⟩ (by simp) ?_ ?_ ?_ ?_ ?_
   ·
    intro j hj
    match j, hj with
    | 0, _ => exact .inr ⟨by decide, fun r os' h => by rw [h.2]⟩
   ·
    exact ⟨rfl, rfl, rfl, rfl⟩
   ·
    simp [eE, HO.men]
   ·
    simp [HV.menL, HV.men]
   rintro r os' ⟨rfl, rfl⟩
   rw [← hh, show ∀ n ob, jK (sub [48] n) ob 0 [.row 4 1 (w.map bC)] = upd ob 48 (some (.row 4 1 (w.map bC))) from fun _ _ => rfl, show ∀ n b, HV.ren (sub [48] n) (.c b) = .c b from fun _ _ => rfl]
   refine AX (hK' _ _ ?_)
   clear hK' K'
   refine WG0 ?_ (e := fun _ h_ => by simp only [sH, ↓sP, sA, tyS, simprocAttr, rI, cQ, cA, bM, bS, ← hmw, List.length_map, Int.natCast_nonneg, Int.ofNat_le, hfw]; exact AX h_)
   refine eH (g := none) rfl rfl fun K' hK' => ?_
   simp only [sN, ↓hopH.eq_def, sH, ↓sP, sA, tyS, simprocAttr, rI, cQ, cA, bM, bS, ← hmw, List.length_map, Int.natCast_nonneg, Int.ofNat_le, hfw]
   refine AX (hK' _ _ ?_)
   clear hK' K'
   refine WG0 ?_ (e := fun _ h_ => by simp only [sH, ↓sP, sA, tyS, simprocAttr, rI, cQ, cA, bM, bS, ← hmw, List.length_map, Int.natCast_nonneg, Int.ofNat_le, hfw]; exact AX h_)
   simp only [sE, ↓reduceIte, simprocAttr, rI]
   refine ⟨(show Fits 20000 _ _ (fin []) _ 20000 from aN (by omega) trivial ?_), hok⟩
   rw [hst, hxl, hlv]
   simp [aZ, fob_at, upd_at, none0_at, bY, HO.men, HV.men, HV.menL, HV.norm, HV.toC, HV.toCL, kV (show f + 1 ≤ w.length by omega), hrow, oF, bS, ← hmw]
  refine aC fun K hK => Rg ?_
  iterate 6 refine S0 ?_ (e := fun _ h_ => by simp only [sH, ↓sP, sA, tyS, simprocAttr, rI, cJ hmw, List.length_map, hw0, hfit, Nat.zero_le, List.length_take, List.length_drop, Nat.sub_zero, Nat.min_eq_left hfit, hw2]; exact AX h_)
  simp only [sE, ↓reduceIte, simprocAttr, rI]
  refine AX (hK _ _ _ ?_)
  clear hK K
  refine eV mixed [(0, [], []), (1, [], []), (2, [], []), (3, [], []), (4, [], []), (5, [], []), (6, [], []), (7, [], [0, 1, 2]), (8, [], []), (9, [], []), (10, [], [])] [0, 0, 3, 0, 0, 0, 48, 120, 248, 511, 1023] (by kernel_rfl) (by kernel_rfl) (by kernel_rfl) (by kernel_rfl) rfl (by kernel_rfl) ?_
  iterate 2 refine WG0 ?_ (e := fun _ h_ => by simp only [sH, ↓sP, sA, tyS, simprocAttr, rI, cA, bM, bS, cJ hmw, List.length_map, Int.natCast_nonneg, Int.ofNat_le, hfw, hfm]; exact AX h_)
  refine eH (g := none) rfl rfl fun K' hK' => ?_
  simp only [sN, ↓hopH.eq_def, sH, ↓sP, sA, tyS, simprocAttr, rI, cA, bM, bS, cJ hmw, List.length_map, Int.natCast_nonneg, Int.ofNat_le, hfw, hfm]
  refine AX (hK' _ _ ?_)
  clear hK' K'
  iterate 3 refine WG0 ?_ (e := fun _ h_ => by simp only [sH, ↓sP, sA, tyS, simprocAttr, rI, cA, bM, bS, cJ hmw, List.length_map, Int.natCast_nonneg, Int.ofNat_le, hfw, hfm]; exact AX h_)
  refine eH (g := none) rfl rfl fun K' hK' => ?_
  simp only [sN, ↓hopH.eq_def, sH, ↓sP, sA, tyS, simprocAttr, rI, cA, bM, bS, cJ hmw, List.length_map, Int.natCast_nonneg, Int.ofNat_le, hfw, hfm]
  refine AX (hK' _ _ ?_)
  clear hK' K'
  refine oJ (g := none) rfl rfl fun K' hK' => ?_
  simp only [sN, ↓hopH.eq_def, sH, ↓sP, sA, tyS, simprocAttr, rI, cA, bM, bS, cJ hmw, List.length_map, Int.natCast_nonneg, Int.ofNat_le, hfw, hfm]
  refine aG3 [48] (aL2 l[l.length - 1 - i] w f m (by omega) (by omega) (by omega) (by omega)) (by first | rfl | (rw [← hmw]; rfl)) ⟨rfl, trivial⟩ (by simp) ?_ ?_ ?_ ?_ ?_
  ·
   intro j hj
   match j, hj with
   | 0, _ => exact .inr ⟨by decide, fun r os' h => by rw [h.2]⟩
  ·
   exact ⟨rfl, rfl, rfl, rfl⟩
  ·
   simp [eE, HO.men]
  ·
   simp [HV.menL, HV.men]
  rintro r os' ⟨rfl, rfl⟩
  rw [← hh, show ∀ n ob, jK (sub [48] n) ob 0 [.row 4 1 (w.map bC)] = upd ob 48 (some (.row 4 1 (w.map bC))) from fun _ _ => rfl, show ∀ n b, HV.ren (sub [48] n) (.c b) = .c b from fun _ _ => rfl]
  refine AX (hK' _ _ ?_)
  clear hK' K'
  refine WG0 ?_ (e := fun _ h_ => by simp only [sH, ↓sP, sA, tyS, simprocAttr, rI, cA, bM, bS, cJ hmw, List.length_map, Int.natCast_nonneg, Int.ofNat_le, hfw, hfm]; exact AX h_)
  refine eH (g := none) rfl rfl fun K' hK' => ?_
  simp only [sN, ↓hopH.eq_def, sH, ↓sP, sA, tyS, simprocAttr, rI, cA, bM, bS, cJ hmw, List.length_map, Int.natCast_nonneg, Int.ofNat_le, hfw, hfm]
  refine AX (hK' _ _ ?_)
  clear hK' K'
  refine WG0 ?_ (e := fun _ h_ => by simp only [sH, ↓sP, sA, tyS, simprocAttr, rI, cA, bM, bS, cJ hmw, List.length_map, Int.natCast_nonneg, Int.ofNat_le, hfw, hfm]; exact AX h_)
  simp only [sE, ↓reduceIte, simprocAttr, rI]
  refine ⟨(show Fits 20000 _ _ (fin []) _ 20000 from aN (by omega) trivial ?_), hok⟩
  rw [hst, hxl, hlv]
  simp [aZ, fob_at, upd_at, none0_at, bY, HO.men, HV.men, HV.menL, HV.norm, HV.toC, HV.toCL, kV hf1, hrow, oF, bS]
 intro hΦ
 simp only [sE, ↓reduceIte, simprocAttr, rI]
 have hfin := hΦ
 rw [qJ] at hfin
 obtain ⟨h1, h0, h2⟩ := hfin.fin ht
 rw [qJ, h1]
 obtain ⟨w, hw⟩ : ∃ w, w = (bZ l tr l.length).1 := ⟨_, rfl⟩
 rw [← hw] at h0
 have h3 : gU l tr = w[0] := by rw [h2]; simp only [hw]
 rw [← hw]
 refine AX (hK _ _ _ ?_)
 clear hK K
 by_cases hw1 : w.length = 1
 ·
  rw [hw1]
  refine aC fun K hK => Rg ?_
  iterate 4 refine S0 ?_ (e := fun _ h_ => by simp only [sH, ↓sP, sA, tyS, simprocAttr, rI, cQ, bV h0, bC, Nat.lt_irrefl]; exact AX h_)
  simp only [sE, ↓reduceIte, simprocAttr, rI]
  refine AX (hK _ _ _ ?_)
  clear hK K
  refine aF ?_
  simp only [fX, Tryd.results14, fC, fW, eQ, ↓sP, sA, tyS, simprocAttr, rI]
  exact aL [] (.bool w[0]) rfl (by rw [h3])
 refine aC fun K hK => Rg ?_
 iterate 4 refine S0 ?_ (e := fun _ h_ => by simp only [sH, ↓sP, sA, tyS, simprocAttr, rI, cJ (Ne.symm hw1), bV h0, bC, h0]; exact AX h_)
 simp only [sE, ↓reduceIte, simprocAttr, rI]
 refine AX (hK _ _ _ ?_)
 clear hK K
 refine aF ?_
 simp only [fX, Tryd.results14, fC, fW, eQ, ↓sP, sA, tyS, simprocAttr, rI]
 exact aL [] (.bool w[0]) rfl (by rw [h3])

end Go.Proofs.YtlldglbooaefhaaDoor

namespace Go.Proofs.YtlldglbooaefhaaDoor
open Go Go.Hl Go.Pl
set_option maxRecDepth 10000
set_option maxHeartbeats 16000000

theorem bV6 (ns im : aE) (r : Pr) : cF Tryd.prog 49 [r.cv, .rp (.str ns), .rp (.str im)] (fun v => v = .bool (yR ns im r)) := by
 refine FW Tryd.func49 ?_
 refine R0 ?_
 refine aC fun K hK => Rg ?_
 iterate 3 refine S0 ?_
 refine HS rfl rfl fun K' hK' => T5 ?_
 refine C2 (aJ3 r.b ns) ?_
 rintro u rfl
 refine AX (hK' _ _ ?_)
 clear hK' K'
 refine S0 ?_
 refine aH 8 rfl (fun h1_8 => ?_) (fun h1_8 => ?_)
 ·
  have F := h1_8
  iterate 3 refine SF ?_
  refine aX (g := some (9, true)) rfl rfl fun K' hK' => T6 ?_
  refine C2 (aJ3 r.c im) ?_
  rintro u rfl
  refine AX (hK' _ _ ?_)
  clear hK' K'
  iterate 2 refine SF ?_
  refine T2 (hK _ _ _ ?_)
  clear hK K
  refine aF (RT Tryd.results49 ?_)
  exact aL [] (.bool _) rfl (by simp only [yR, h1_8, Bool.and_true, Bool.and_false, Bool.true_and, Bool.false_and])
 have F := h1_8
 iterate 6 refine SF ?_
 refine T2 (hK _ _ _ ?_)
 clear hK K
 refine aF (RT Tryd.results49 ?_)
 exact aL [] (.bool _) rfl (by simp only [yR, h1_8, Bool.and_true, Bool.and_false, Bool.true_and, Bool.false_and])


def bC6 (l : List Pr) (p : Pr → Bool) : Int := match l.findIdx? p with | some i => (i : Int) | none => -1
theorem bN7 {l : List Pr} {p : Pr → Bool} {i : Nat} (hi : i < l.length) (h : p l[i] = true) (h0 : ∀ j (hj : j < i), p (l[j]'(by omega)) = false) : bC6 l p = i := by
 have : l.findIdx? p = some i := by
  rw [List.findIdx?_eq_some_iff_getElem]
  exact ⟨hi, h, fun j hj => by rw [h0 j hj]; simp⟩
 rw [bC6, this]
theorem bC7 {l : List Pr} {p : Pr → Bool} (h0 : ∀ j (hj : j < l.length), p l[j] = false) : bC6 l p = -1 := by
 have : l.findIdx? p = none := by
  rw [List.findIdx?_eq_none_iff]
  intro r hr
  obtain ⟨j, hj, rfl⟩ := List.getElem_of_mem hr
  exact h0 j hj
 rw [bC6, this]

theorem bV7 (l : List Pr) (g : FuncId) (caps : List CV) (p : Pr → Bool) (hl : l.length < 2 ^ 40) (hp : ∀ r ∈ l, cF Tryd.prog g (r.cv :: caps) (fun v => v = .bool (p r))) :
  bE4 Tryd.prog 48 [.c (.slc (l.map Pr.cv)), .clo g (caps.map .c)] (fun v => v = .int .i64 (bC6 l p)) := by
 refine bO Tryd.func48 rfl (by kernel_rfl) (aR9 (by simp [HV.menL, HV.men, HV.menL_c])) (Nat.le_of_ble_eq_true rfl) ?_
 refine R0 ?_
 refine aC fun K hK => ?_
 refine R0 ?_
 refine aK ?_
 refine bN (α := {i : Nat // i ≤ l.length ∧ ∀ j (hj : j < i) (h : j < l.length), p l[j] = false}) (fun i => (fin [(0, .c (.slc (l.map Pr.cv))), (1, .clo g (caps.map .c)), (7, .c (.int .i64 l.length)), (8, .c (.int .i64 i.1))], fob [])) 100 (fun i => l.length - i.1) ⟨0, by omega, fun j hj => by omega⟩ (aN (by omega) (by simp [bA, fin_at, finA_at, upd_at, HV.men, HV.menL, HV.norm, HV.toC, HV.toCL, HV.menL_c]) (by simp [aZ])) ?_
 rintro ⟨i, hi, h0⟩
 refine R0 ?_
 refine aC fun K hK => ?_
 refine aG (b := decide ((i : Int) < l.length)) rfl (fun hb => ?_) (fun hb => ?_)
 ·
  have hlt : i < l.length := by simpa using hb
  clear hb
  refine aJ ?_
  refine T0 (hK _ _ _ ?_)
  clear hK K
  refine aC fun K hK => ?_
  refine aK ?_
  refine R0 ?_
  refine aC fun K hK => Rg ?_
  have F := aI @Int.natCast_nonneg (aI @Int.ofNat_lt (aI hlt (nM hlt)))
  iterate 5 refine SF ?_
  refine HS rfl rfl fun K' hK' => T6 ?_
  refine nV (args := l[i].cv :: caps) (hp _ (List.getElem_mem hlt)) ⟨rfl, rfl, rfl, rfl⟩ ?_
  rintro u rfl
  refine AX (hK' _ _ ?_)
  clear hK' K'
  refine T2 (hK _ _ _ ?_)
  clear hK K
  refine aG (b := p l[i]) rfl (fun hb => ?_) (fun hb => ?_)
  ·
   refine R0 ?_
   refine aF (RT Tryd.results48 ?_)
   exact aL [] (.int .i64 i) rfl (by rw [bN7 hlt hb fun j hj => h0 j hj (by omega)])
  refine aJ ?_
  refine T0 (hK _ _ _ ?_)
  clear hK K
  refine aM (by kernel_rfl) ?_
  refine TQ (IntWalk.i64_in ((i : Int) + 1) (by omega)) ?_
  refine ⟨⟨i + 1, hlt, fun j hj h => ?_⟩, aN (by omega) (by simp [bA, fin_at, finA_at, upd_at, HV.men, HV.menL, HV.norm, HV.toC, HV.toCL, HV.menL_c]) (by simp [aZ]), ?_⟩
  ·
   rcases Nat.lt_or_ge j i with h1 | h1
   ·
    exact h0 j h1 h
   obtain rfl : j = i := by omega
   exact hb
  show l.length - (i + 1) < l.length - i
  omega
 refine bB (T3 ?_)
 clear hK K
 refine AX (hK _ _ _ ?_)
 clear hK K
 refine R0 ?_
 refine aF (RT Tryd.results48 ?_)
 have hei : i = l.length := by simp at hb; omega
 subst hei
 exact aL [] (.int .i64 (-1)) rfl (by rw [bC7 fun j hj => h0 j hj hj])


theorem bV8 (p : Po) (hp : PoSz p) (ns im : aE) : cF Tryd.prog 28 [p.cv, .str ns, .str im] (fun v => v = .int .i64 (bJ6 p ns im)) := by
 refine FW Tryd.func28 ?_
 refine aC fun K hK => Rg ?_
 iterate 4 refine S0 ?_
 refine T2 (hK _ _ _ ?_)
 clear hK K
 refine aC fun K hK => ?_
 refine aC fun K hK => Rg ?_
 refine S0 ?_
 refine HS rfl rfl fun K' hK' => T5 ?_
 refine C1 (rS p hp) ?_
 rintro u rfl
 refine AX (hK' _ _ ?_)
 clear hK' K'
 refine S0 ?_
 refine T2 (hK _ _ _ ?_)
 clear hK K
 refine aG (b := !eX p) rfl (fun hb => ?_) (fun hb => ?_)
 ·
  refine R0 ?_
  refine aF (RT Tryd.results28 ?_)
  exact aL [] (.int .i64 (-1)) rfl (by rw [bJ7 (by simpa using hb)])
 refine aJ ?_
 refine T0 (hK _ _ _ ?_)
 clear hK K
 have hv : eX p = true := by simpa using hb
 clear hb
 refine xR 4 4 rfl rfl ?_
 refine xR 5 8 rfl rfl ?_
 refine aC fun K hK => Rg ?_
 have F := aI @bP2 @upd_at
 iterate 3 refine SF ?_
 refine HS rfl rfl fun K' hK' => T6 ?_
 refine aM9 (bV7 p.r 49 [.rp (.str ns), .rp (.str im)] (yR ns im) hp.r fun r _ => bV6 ns im r) (by simp [HV.menL, HV.men]) (fun m => by simp [HV.renL, HV.ren]) ⟨rfl, rfl, rfl, rfl⟩ ?_
 rintro u rfl
 refine AX (hK' _ _ ?_)
 clear hK' K'
 refine SF ?_
 refine T2 (hK _ _ _ ?_)
 clear hK K
 refine aF (RT Tryd.results28 ?_)
 exact aL [] (.int .i64 (bC6 p.r (yR ns im))) rfl (by rw [bJ6, if_pos hv]; rfl)

end Go.Proofs.YtlldglbooaefhaaDoor

namespace Go.Proofs.YtlldglbooaefhaaDoor
open Go Go.Hl Go.Pl
set_option maxRecDepth 10000
set_option maxHeartbeats 16000000

theorem aC2 (n : Int) : cF Tryd.prog 26 [.int .i64 n] (fun v => v = (aI5 n).cv) := by
 refine FW Tryd.func26 ?_
 refine R0 ?_
 refine aC fun K hK => Rg ?_
 iterate 4 refine S0 ?_
 refine T2 (hK _ _ _ ?_)
 clear hK K
 refine aF (RT Tryd.results26 ?_)
 exact aL [] (aI5 n).cv rfl rfl


theorem bN8 : PoSz awP := ⟨by decide, by decide, by decide, by decide⟩
theorem bN9 : ∀ n ∈ awT, n.q.t.length < 2 ^ 63 := by decide
theorem bO0 : wV awP = 0 := by decide +kernel
theorem cB0 : (rO awP).length < 2 ^ 40 := by decide +kernel
theorem aL3 : mR Tryd.prog 11 tabs [] (fun v => v = .bool true) := by
 refine bO (args := []) Tryd.func11 rfl (by kernel_rfl) (eW tabs []) (Nat.le_of_ble_eq_true rfl) ?_
 unfold eF
 obtain ⟨aw1, aw2, aw3⟩ := bA0 bO0
 refine R0 ?_
 refine aC fun K hK => bD (by kernel_rfl) ?_
 simp only [sR, simprocAttr]
 refine SG0 ?_
 refine bI (g := none) rfl rfl fun K' hK' => T5 ?_
 refine C1 (aC2 1) ?_
 rintro u rfl
 refine AX (hK' _ _ ?_)
 clear hK' K'
 refine bI (g := none) rfl rfl fun K' hK' => T5 ?_
 refine C1 (aC2 2) ?_
 rintro u rfl
 refine AX (hK' _ _ ?_)
 clear hK' K'
 refine bI (g := none) rfl rfl fun K' hK' => T5 ?_
 refine C1 (aC2 3) ?_
 rintro u rfl
 refine AX (hK' _ _ ?_)
 clear hK' K'
 refine cT (g := none) 21 rfl rfl fun K' hK' => ?_
 simp only [gR, kK, sH, ↓sP, sA, tyS, simprocAttr]
 repeat refine AI ?_
 refine dH (by first | rfl | simp) ?_
 try simp only [sH, ↓sP, sA, tyS, simprocAttr]
 refine AX (hK' _ _ ?_)
 clear hK' K'
 refine SG0 ?_
 refine T2 (hK _ _ _ ?_)
 clear hK K
 refine aC fun K hK => bD (by kernel_rfl) ?_
 simp only [sR, simprocAttr]
 iterate 2 refine SG0 ?_
 refine cT (g := none) 37 rfl rfl fun K' hK' => ?_
 simp only [gR, kK, sH, ↓sP, sA, tyS, simprocAttr]
 repeat refine AI ?_
 refine dH (by first | rfl | simp) ?_
 try simp only [sH, ↓sP, sA, tyS, simprocAttr]
 refine AX (hK' _ _ ?_)
 clear hK' K'
 iterate 3 refine SG0 ?_
 refine T2 (hK _ _ _ ?_)
 clear hK K
 refine aC fun K hK => Rg ?_
 refine S0 ?_
 refine HS rfl rfl fun K' hK' => T5 ?_
 refine sT (args := [_]) 0 (aV3 awP bN8) rfl (by simp) ⟨rfl, rfl, rfl, rfl⟩ ?_
 rintro u v ⟨rfl, rfl⟩
 rw [bO0]
 refine AX (hK' _ _ ?_)
 clear hK' K'
 iterate 5 refine S0 ?_
 refine T2 (hK _ _ _ ?_)
 clear hK K
 refine aC fun K hK => Rg ?_
 have F := @dR
 refine SF ?_
 refine HS rfl rfl fun K' hK' => T6 ?_
 refine aL1 (args := [_]) 0 (bV4 (rO awP) cB0) rfl (by simp) ⟨rfl, rfl, rfl, rfl⟩ ?_
 rintro u v x ⟨rfl, rfl, rfl⟩
 rw [aw1, aw2, aw3]
 refine AX (hK' _ _ ?_)
 clear hK' K'
 iterate 8 refine SF ?_
 refine T2 (hK _ _ _ ?_)
 clear hK K
 refine aC fun K hK => bD (by kernel_rfl) ?_
 simp only [sR, simprocAttr]
 have F := aI @List.length_map.{0,0} (aI @kQ (aI @qF (show awP.r.length = 1 from rfl)))
 refine SGF ?_
 refine bI (g := none) rfl rfl fun K' hK' => T6 ?_
 refine C1 (tP awT bN9) ?_
 rintro u rfl
 rw [bZ5]
 refine AX (hK' _ _ ?_)
 clear hK' K'
 iterate 2 refine SGF ?_
 refine bI (g := some (30, true)) rfl rfl fun K' hK' => T6 ?_
 refine C1 (rS awP bN8) ?_
 rintro u rfl
 rw [bZ6]
 refine AX (hK' _ _ ?_)
 clear hK' K'
 iterate 17 refine SGF ?_
 refine cT (g := some (48, true)) 209 rfl rfl fun K' hK' => ?_
 simp only [gR, kK, sH, ↓sP, sA, tyS, simprocAttr, List.length_map, kQ, qF, (show awP.r.length = 1 from rfl)]
 repeat refine AI ?_
 refine dH (by first | rfl | simp) ?_
 try simp only [sH, ↓sP, sA, tyS, simprocAttr, List.length_map, kQ, qF, (show awP.r.length = 1 from rfl)]
 refine AX (hK' _ _ ?_)
 clear hK' K'
 refine bI (g := some (48, true)) rfl rfl fun K' hK' => T6 ?_
 refine C2 (iM awT bN9 [true, false, true] (by decide)) ?_
 rintro u rfl
 rw [bJ8]
 refine AX (hK' _ _ ?_)
 clear hK' K'
 iterate 3 refine SGF ?_
 refine cT (g := some (53, true)) 229 rfl rfl fun K' hK' => ?_
 simp only [gR, kK, sH, ↓sP, sA, tyS, simprocAttr, List.length_map, kQ, qF, (show awP.r.length = 1 from rfl)]
 repeat refine AI ?_
 refine dH (by first | rfl | simp) ?_
 try simp only [sH, ↓sP, sA, tyS, simprocAttr, List.length_map, kQ, qF, (show awP.r.length = 1 from rfl)]
 refine AX (hK' _ _ ?_)
 clear hK' K'
 refine bI (g := some (53, true)) rfl rfl fun K' hK' => T6 ?_
 refine C2 (iM awT bN9 [true] (by decide)) ?_
 rintro u rfl
 rw [bJ9]
 refine AX (hK' _ _ ?_)
 clear hK' K'
 iterate 4 refine SGF ?_
 refine bI (g := some (59, true)) rfl rfl fun K' hK' => T6 ?_
 refine C3 (bV8 awP bN8 [112, 114, 111, 100, 47, 101, 117] [119, 101, 98]) ?_
 rintro u rfl
 rw [bZ7]
 refine AX (hK' _ _ ?_)
 clear hK' K'
 iterate 4 refine SGF ?_
 refine bI (g := some (64, true)) rfl rfl fun K' hK' => T6 ?_
 refine C1 (rP awT bN9) ?_
 rintro u rfl
 refine AX (hK' _ _ ?_)
 clear hK' K'
 iterate 5 refine SGF ?_
 refine bI (g := some (70, true)) rfl rfl fun K' hK' => T6 ?_
 refine C2 (aJ7 awT bN9 0) ?_
 rintro u rfl
 refine AX (hK' _ _ ?_)
 clear hK' K'
 iterate 4 refine SGF ?_
 refine T2 (hK _ _ _ ?_)
 clear hK K
 refine aF (RT Tryd.results11 ?_)
 exact cX [] (.bool true) rfl rfl (by simp) rfl

end Go.Proofs.YtlldglbooaefhaaDoor

namespace Go.Pl
open Go Go.Hl

def rN (n : Nat) : aE := [114, UInt8.ofNat (48 + n)]
structure MadeR (r : Pr) : Prop where
 ok : iF r = true
 b : r.b.length ≤ 80
 c : r.c.length ≤ 80
 t : r.t.length ≤ 40
structure MadeRs (n : Nat) (rs : List Pr) : Prop where
 two : n + rs.length ≤ 2
 one : 1 ≤ n + rs.length
 ok : ∀ r ∈ rs, MadeR r
 nm : ∀ r ∈ rs, ∃ j, n < j ∧ j ≤ 2 ∧ r.a = rN j
 ap : fQ rs = true
theorem MadeRs.zero {n : Nat} (h1 : 1 ≤ n) (h2 : n ≤ 2) : MadeRs n [] := ⟨by grind, by grind, by simp, by simp, rfl⟩
theorem MadeRs.next {n : Nat} {rs : List Pr} (h : MadeRs (n + 1) rs) {r : Pr} (hr : MadeR r) (ha : r.a = rN (n + 1)) : MadeRs n (rs ++ [r]) := by
 have h1 := h.two
 refine ⟨by grind, by grind, fun x hx => ?_, fun x hx => ?_, ?_⟩
 ·
  rcases List.mem_append.1 hx with hx | hx
  ·
   exact h.ok x hx
  grind
 ·
  rcases List.mem_append.1 hx with hx | hx
  ·
   obtain ⟨j, h2, h3, h4⟩ := h.nm x hx
   grind
  grind
 ·
  rw [nE, h.ap, Bool.true_and, Bool.not_eq_true', ← Bool.not_eq_true, List.contains_iff_mem]
  intro hm
  obtain ⟨x, hx, he⟩ := List.mem_map.1 hm
  obtain ⟨j, h2, h3, h4⟩ := h.nm x hx
  rw [h4, ha] at he
  have hj : j = 2 := by omega
  have hn : n = 0 := by omega
  subst hj hn
  revert he
  decide
theorem MadeRs.fin {rs : List Pr} (h : MadeRs 0 rs) {v : Int} (h1 : 1 ≤ v) (h2 : v ≤ 1099511627776) : bJ5 ⟨[112], v, rs⟩ := by
 have h3 := h.two
 have k : eD [112] = true := by decide
 refine ⟨?_, by grind, fun r hr => ⟨(h.ok r hr).b, (h.ok r hr).c, (h.ok r hr).t⟩⟩
 have k1 : inB v 1 aF5 = true := by rw [gC, lL]; exact ⟨h1, h2⟩
 have k2 : decide (rs.length ≤ 16) = true := by simp; omega
 have k3 : rs.all iF = true := List.all_eq_true.2 fun r hr => (h.ok r hr).ok
 simp only [eX, k, k1, k2, k3, h.ap, Bool.and_self]
theorem bO1 {q : Rq} (h : eL q = true) : q.t.length ≤ 64 := by
 have hn : eD q.t = true → q.t.length ≤ 64 := fun h => (vV h).2
 have h0 : q.t = [] → q.t.length ≤ 64 := fun h => by grind
 unfold eL at h
 grind
theorem bC8 {n : Nd} (h : bL n = true) : n.q.t.length ≤ 64 := by
 have h0 : n.q = rq0 → n.q.t.length ≤ 64 := fun h => by rw [h]; decide
 have h1 : eL n.q = true → n.q.t.length ≤ 64 := bO1
 unfold bL at h
 repeat' split at h
 all_goals simp_all [Bool.and_eq_true, uS, beq_iff_eq]
theorem zF {t : List Nd} (h : IsTree t) : ∀ n ∈ t, n.q.t.length < 2 ^ 63 := fun n hn => by have := bC8 (h.node n hn); omega
theorem bV9 {p : Po} (h : eX p = true) : PoSz p := by
 obtain ⟨_, h2, h3, h4⟩ := aB2 h
 refine ⟨by grind [vV], by omega, fun r hr => ?_, fun r hr => zF (nG (h4 r hr)).2.1⟩
 have := (vV (nG (h4 r hr)).2.2.1).2
 omega
theorem MadeRs.sz {rs : List Pr} (h : MadeRs 0 rs) (v : Int) : PoSz ⟨[112], v, rs⟩ := by
 have := bV9 (h.fin (v := 1) (by omega) (by omega)).1
 exact ⟨this.n, this.r, this.a, this.t⟩
end Go.Pl

namespace Go.Pl
open Go Go.Hl

def mkB (n i : Nat) (f : Nat → Bool) : List Bool := (List.range n).map fun j => decide (j < i) && f j
theorem bU (n i : Nat) (f : Nat → Bool) : (mkB n i f).length = n := by simp [mkB]
theorem bO2 (n : Nat) (f : Nat → Bool) : mkB n 0 f = List.replicate n false := by
 apply List.ext_getElem
 ·
  simp [mkB]
 ·
  intro j h1 h2
  simp [mkB]
theorem bW0 {n i : Nat} (f : Nat → Bool) (hi : i < n) : (mkB n i f).set i (f i) = mkB n (i + 1) f := by
 apply List.ext_getElem
 ·
  simp [mkB]
 ·
  intro j h1 h2
  rw [List.getElem_set]
  simp only [mkB, List.getElem_map, List.getElem_range]
  split
  ·
   rename_i e; subst e; simp
  ·
   rename_i e
   have : decide (j < i) = decide (j < i + 1) := decide_eq_decide.2 (by omega)
   rw [this]
theorem aV5 (n : Nat) (f : Nat → Bool) (j : Nat) : (mkB n n f).getD j false = (decide (j < n) && f j) := by
 rw [List.getD_eq_getElem?_getD]
 by_cases h : j < n
 ·
  rw [List.getElem?_eq_getElem (by rw [bU]; exact h)]
  simp [mkB, h]
 ·
  rw [List.getElem?_eq_none (by rw [bU]; omega)]
  simp [h]
theorem bW1 {T : List Nd} (h : IsTree T) : 1 ≤ lv T := by
 rcases Nat.eq_zero_or_pos (lv T) with h0 | h0
 ·
  have h1 := qE h (tr := []) (x := true) (fun i hi => by omega)
  have h2 := qE h (tr := []) (x := false) (fun i hi => by omega)
  rw [h1] at h2
  cases h2
 ·
  exact h0
theorem wG {T : List Nd} (h : IsTree T) (f g : Nat → Bool) : gU T (mkB (lv T) (lv T) f) = true → gU T (mkB (lv T) (lv T) fun j => f j || g j) = true := by
 refine bA1 fun i hi => ?_
 rw [aV5] at hi ⊢
 simp only [Bool.and_eq_true] at hi ⊢
 exact ⟨hi.1, by rw [hi.2, Bool.true_or]⟩
theorem zG {T : List Nd} (h : IsTree T) : gU T (mkB (lv T) (lv T) fun _ => true) = true := qE h fun i hi => by rw [aV5]; simp [hi]
theorem wH {T : List Nd} (h : IsTree T) : gU T [] = false := qE h fun i hi => by simp
theorem bO3 {T : List Nd} (h : IsTree T) : (gN T).length = lv T := by rw [lM (vT h), iR]
end Go.Pl

namespace Go.Proofs.YtlldglbooaefhaaDoor
open Go Go.Hl Go.Pl
set_option maxRecDepth 10000
set_option maxHeartbeats 16000000

theorem aV6 (n : Nat) (f : Nat → Bool) : List.replicate n (CV.bool false) = (mkB n 0 f).map bC := by rw [bO2, List.map_replicate]; rfl
theorem rT {n i : Nat} (f : Nat → Bool) (x : Bool) (hx : x = f i) (hi : i < n) : ((mkB n i f).map bC).set i (.bool x) = (mkB n (i + 1) f).map bC := by
 subst hx
 rw [← bW0 f hi, List.map_set]; rfl

theorem rU {n i : Nat} (f : Nat → Bool) (hi : i < n) : nth ((mkB n i f).map bC) i = .bool false := by
 rw [bV (by rw [bU]; exact hi)]
 simp [mkB, bC]
theorem aC3 {n i : Nat} (f : Nat → Bool) {x : Bool} (hx : f i = x) (hi : i < n) : nth ((mkB n (i + 1) f).map bC) i = .bool x := by
 rw [bV (by rw [bU]; exact hi)]
 simp [mkB, bC, hx]

theorem bO4 (L : List Int) (tr mo : List Bool) (htr : tr.length < 2 ^ 63) (hmo : mo.length < 2 ^ 63) : mR Tryd.prog 4 tabs [.slc (L.map (.int .i64)), .slc (tr.map bC), .slc (mo.map bC)] (fun v => v = .bool true) := by
 refine bO (args := [.c (.slc (L.map (.int .i64))), .c (.slc (tr.map bC)), .c (.slc (mo.map bC))]) Tryd.func4 rfl (by kernel_rfl) (eW tabs [.slc (L.map (.int .i64)), .slc (tr.map bC), .slc (mo.map bC)]) (Nat.le_of_ble_eq_true rfl) ?_
 unfold eF
 refine R0 ?_
 refine aC fun K hK => Rg ?_
 have F := @denilL_int
 refine SF ?_
 refine HS rfl rfl fun K' hK' => T6 ?_
 refine fZ [] (bT3 L 80) rfl trivial (by simp) (by simp) ⟨rfl, rfl, rfl, rfl⟩ (by simp [eE]) (by simp [HV.menL, HV.men]) ?_
 rintro r os' ⟨rfl, rfl⟩
 rw [bL3, bB0]
 refine AX (hK' _ _ ?_)
 clear hK' K'
 refine HS rfl rfl fun K' hK' => T6 ?_
 refine bP (args := []) (bB2 (L.take 80) 0 (by omega)) rfl (by simp) ⟨rfl, rfl, rfl, rfl⟩ ?_
 rintro u v' ⟨T, a', rfl, rfl, hT, ha'⟩
 have hI := bS6 hT
 have hN := zF hI
 have hlv := bW1 hI
 have hle := hI.lv
 have hL := bO3 hI
 refine AX (hK' _ _ ?_)
 clear hK' K'
 refine SF ?_
 refine T2 (hK _ _ _ ?_)
 clear hK K
 refine aC fun K hK => Rg ?_
 refine S0 ?_
 refine HS rfl rfl fun K' hK' => T5 ?_
 refine C1 (rP T hN) ?_
 rintro u rfl
 refine AX (hK' _ _ ?_)
 clear hK' K'
 iterate 2 refine S0 ?_
 refine T2 (hK _ _ _ ?_)
 clear hK K
 rw [hL]
 obtain ⟨n, hn⟩ : ∃ n, n = lv T := ⟨_, rfl⟩
 rw [← hn] at hlv hle
 rw [← hn]
 have hz : ((n : Int) = 0) = False := by simp; omega
 refine aC fun K hK => DW [(0, [], []), (1, [], []), (2, [1], []), (3, [1], []), (4, [1, 3], []), (5, [1, 3], []), (6, [3, 5], []), (7, [5], []), (8, [], [])] [0, 1, 0, 4, 0, 16, 3, 79, 255] ?_
 have F := aI hz @Int.toNat_natCast
 iterate 9 refine WF ?_
 refine T2 (hK _ _ _ ?_)
 clear hK K
 refine aC fun K hK => ?_
 refine R0 ?_
 refine aK ?_
 refine bN (α := {i : Nat // i ≤ n}) (fun i => (fin [(1, .c (.slc (tr.map bC))), (2, .c (.slc (mo.map bC))), (7, .c (.slc (T.map Nd.cv))), (8, .c (.int .i64 n)), (9, .own 41 n), (10, .own 49 n), (11, .own 57 n), (12, .c (.int .i64 i.1))], fob [(0, .tab tabs), (41, .row 4 1 ((mkB n i.1 fun j => tr.getD j false).map bC)), (49, .row 4 1 ((mkB n i.1 fun j => tr.getD j false || mo.getD j false).map bC)), (57, .row 4 1 ((mkB n i.1 fun _ => true).map bC))])) 2000 (fun i => n - i.1) ⟨0, by omega⟩ (aN (by omega) (by simp [bA, fin_at, finA_at, upd_at, HV.men, HV.menL, HV.norm, HV.toC, HV.toCL, ← aV6]) (by simp [aZ, fob_at, upd_at, none0_at, bY, HO.men, HV.men, HV.menL, HV.norm, HV.toC, HV.toCL, ← aV6])) ?_
 rintro ⟨i, hi⟩
 refine aC fun K hK => ?_
 refine R0 ?_
 refine aG (b := decide ((i : Int) < n)) rfl (fun hb => ?_) (fun hb => ?_)
 ·
  have hlt : i < n := by simpa using hb
  clear hb
  refine aJ ?_
  refine T0 (hK _ _ _ ?_)
  clear hK K
  refine aC fun K hK => ?_
  refine aK ?_
  refine aC fun K hK => ?_
  have key : ∀ fr ob nx, Fits 1 fr ob (fin [(1, .c (.slc (tr.map bC))), (2, .c (.slc (mo.map bC))), (7, .c (.slc (T.map Nd.cv))), (8, .c (.int .i64 n)), (9, .own 41 n), (10, .own 49 n), (11, .own 57 n), (12, .c (.int .i64 i))]) (fob [(0, .tab tabs), (41, .row 4 1 ((mkB n (i + 1) fun j => tr.getD j false).map bC)), (49, .row 4 1 ((mkB n i fun j => tr.getD j false || mo.getD j false).map bC)), (57, .row 4 1 ((mkB n i fun _ => true).map bC))]) 3000 → K fr ob nx := by
   rintro fr ob nx hf
   refine hK _ _ _ (bQ hf ?_)
   clear hf hK K
   refine aC fun K hK => ?_
   have key : ∀ fr ob nx, Fits 1 fr ob (fin [(1, .c (.slc (tr.map bC))), (2, .c (.slc (mo.map bC))), (7, .c (.slc (T.map Nd.cv))), (8, .c (.int .i64 n)), (9, .own 41 n), (10, .own 49 n), (11, .own 57 n), (12, .c (.int .i64 i))]) (fob [(0, .tab tabs), (41, .row 4 1 ((mkB n (i + 1) fun j => tr.getD j false).map bC)), (49, .row 4 1 ((mkB n (i + 1) fun j => tr.getD j false || mo.getD j false).map bC)), (57, .row 4 1 ((mkB n i fun _ => true).map bC))]) 4000 → K fr ob nx := by
    rintro fr ob nx hf
    refine hK _ _ _ (bQ hf ?_)
    clear hf hK K
    refine Rg ?_
    iterate 4 refine S0 ?_ (e := fun _ h_ => by simp only [sH, ↓sP, sA, tyS, simprocAttr, Int.natCast_nonneg, Int.ofNat_lt, hlt, rU (fun _ => true) hlt, rT (fun _ => true) true rfl hlt, bU]; exact AX h_)
    refine T2 (hK _ _ _ ?_)
    clear hK K
    refine aM (by kernel_rfl) ?_
    refine TQ (IntWalk.i64_in ((i : Int) + 1) (by omega)) ?_
    refine ⟨⟨i + 1, hlt⟩, aN (by omega) (by simp [bA, fin_at, finA_at, upd_at, HV.men, HV.menL, HV.norm, HV.toC, HV.toCL, bU]) (by simp [aZ, fob_at, upd_at, none0_at, bY, HO.men, HV.men, HV.menL, HV.norm, HV.toC, HV.toCL, bU]), ?_⟩
    show n - (i + 1) < n - i
    omega
   by_cases hA : tr.getD i false = true
   ·
    refine Rg ?_
    iterate 20 refine S0 ?_ (e := fun _ h_ => by simp only [sH, ↓sP, sA, tyS, simprocAttr, Int.natCast_nonneg, Int.ofNat_lt, hlt, aC3 (fun j => tr.getD j false) hA hlt, rU (fun j => tr.getD j false || mo.getD j false) hlt, rT (fun j => tr.getD j false || mo.getD j false) true (by simp only [hA, Bool.true_or]) hlt, bU]; exact AX h_)
    refine T4 ?_
    exact key _ _ _ (aN (by omega) (by simp [bA, fin_at, finA_at, upd_at, HV.men, HV.menL, HV.norm, HV.toC, HV.toCL, bU]) (by simp [aZ, fob_at, upd_at, none0_at, bY, HO.men, HV.men, HV.menL, HV.norm, HV.toC, HV.toCL, bU]))
   by_cases hC : i < mo.length
   ·
    refine Rg ?_
    iterate 20 refine S0 ?_ (e := fun _ h_ => by simp only [sH, ↓sP, sA, tyS, simprocAttr, Int.natCast_nonneg, Int.ofNat_lt, hlt, aC3 (fun j => tr.getD j false) (show tr.getD i false = false by simpa using hA) hlt, hC, bV hC, bC, rU (fun j => tr.getD j false || mo.getD j false) hlt, rT (fun j => tr.getD j false || mo.getD j false) mo[i] (by simp only [show tr.getD i false = false by simpa using hA, Bool.false_or]; simp [hC]) hlt, bU]; exact AX h_)
    refine T4 ?_
    exact key _ _ _ (aN (by omega) (by simp [bA, fin_at, finA_at, upd_at, HV.men, HV.menL, HV.norm, HV.toC, HV.toCL, bU]) (by simp [aZ, fob_at, upd_at, none0_at, bY, HO.men, HV.men, HV.menL, HV.norm, HV.toC, HV.toCL, bU]))
   refine Rg ?_
   iterate 20 refine S0 ?_ (e := fun _ h_ => by simp only [sH, ↓sP, sA, tyS, simprocAttr, Int.natCast_nonneg, Int.ofNat_lt, hlt, aC3 (fun j => tr.getD j false) (show tr.getD i false = false by simpa using hA) hlt, hC, rU (fun j => tr.getD j false || mo.getD j false) hlt, rT (fun j => tr.getD j false || mo.getD j false) false (by simp only [show tr.getD i false = false by simpa using hA, Bool.false_or]; simp [hC]) hlt, bU]; exact AX h_)
   refine T4 ?_
   exact key _ _ _ (aN (by omega) (by simp [bA, fin_at, finA_at, upd_at, HV.men, HV.menL, HV.norm, HV.toC, HV.toCL, bU]) (by simp [aZ, fob_at, upd_at, none0_at, bY, HO.men, HV.men, HV.menL, HV.norm, HV.toC, HV.toCL, bU]))
  by_cases hA : i < tr.length
  ·
   refine Rg ?_
   iterate 14 refine S0 ?_ (e := fun _ h_ => by simp only [sH, ↓sP, sA, tyS, simprocAttr, Int.natCast_nonneg, Int.ofNat_lt, hlt, hA, bV hA, bC, rU (fun j => tr.getD j false) hlt, rT (fun j => tr.getD j false) tr[i] (by simp [hA]) hlt, bU]; exact AX h_)
   refine T4 ?_
   exact key _ _ _ (aN (by omega) (by simp [bA, fin_at, finA_at, upd_at, HV.men, HV.menL, HV.norm, HV.toC, HV.toCL, bU]) (by simp [aZ, fob_at, upd_at, none0_at, bY, HO.men, HV.men, HV.menL, HV.norm, HV.toC, HV.toCL, bU]))
  refine Rg ?_
  iterate 14 refine S0 ?_ (e := fun _ h_ => by simp only [sH, ↓sP, sA, tyS, simprocAttr, Int.natCast_nonneg, Int.ofNat_lt, hlt, hA, rU (fun j => tr.getD j false) hlt, rT (fun j => tr.getD j false) false (by simp [hA]) hlt, bU]; exact AX h_)
  refine T4 ?_
  exact key _ _ _ (aN (by omega) (by simp [bA, fin_at, finA_at, upd_at, HV.men, HV.menL, HV.norm, HV.toC, HV.toCL, bU]) (by simp [aZ, fob_at, upd_at, none0_at, bY, HO.men, HV.men, HV.menL, HV.norm, HV.toC, HV.toCL, bU]))
 refine bB (T3 ?_)
 clear hK K
 refine AX (hK _ _ _ ?_)
 clear hK K
 cases hEA : gU T (mkB n n fun j => tr.getD j false)
 ·
  have hie : i = n := by simp at hb; omega
  subst hie
  clear hb
  obtain ⟨A, hA⟩ : ∃ A, A = mkB i i fun j => tr.getD j false := ⟨_, rfl⟩
  obtain ⟨B, hB⟩ : ∃ B, B = mkB i i fun j => tr.getD j false || mo.getD j false := ⟨_, rfl⟩
  obtain ⟨C, hC⟩ : ∃ C, C = mkB i i fun _ => true := ⟨_, rfl⟩
  have hm := wG hI (fun j => tr.getD j false) (fun j => mo.getD j false)
  have hc := zG hI
  have h0 := wH hI
  rw [← hn] at hm hc
  rw [← hA, ← hB] at hm
  rw [← hC] at hc
  rw [← hA, ← hB, ← hC]
  rw [← hA] at hEA
  have nA : A.length = i := by rw [hA, bU]
  have nB : B.length = i := by rw [hB, bU]
  have nC : C.length = i := by rw [hC, bU]
  have lA : A.length < 2 ^ 63 := by rw [hA, bU]; omega
  have lB : B.length < 2 ^ 63 := by rw [hB, bU]; omega
  have lC : C.length < 2 ^ 63 := by rw [hC, bU]; omega
  refine eC [41, 49, 57] (bQ (fr2 := fin [(7, .c (.slc (T.map Nd.cv))), (8, .c (.int .i64 i)), (9, .c (.slc (A.map bC))), (10, .c (.slc (B.map bC))), (11, .c (.slc (C.map bC)))]) (ob2 := fob [(0, .tab tabs)]) (nx2 := 3000) (aN (by omega) (by simp [bA, nA, nB, nC, gZ, fin_at, finA_at, upd_at, fob_at, HV.close, HV.closeL, CV.denil, CV.denilL, oC, denilL_Nd, HV.men, HV.menL, HV.norm, HV.toC, HV.toCL]) (by simp [aZ, iA, fob_at, upd_at, none0_at, bY, HO.close, HV.close, HV.closeL, HO.men, HV.men, HV.menL, HV.norm, HV.toC, HV.toCL])) ?_)
  have hd0 : decide ((0 : Int) < (i : Int)) = true := by simp; omega
  refine aC fun K hK => Rg ?_
  have F := aI @oC (aI @denilL_Nd hd0)
  iterate 5 refine SF ?_
  refine aX (g := some (67, true)) rfl rfl fun K' hK' => T6 ?_
  refine C2 (iM T hN A lA) ?_
  rintro u rfl
  rw [hEA]
  refine AX (hK' _ _ ?_)
  clear hK' K'
  iterate 10 refine SF ?_
  refine aX (g := some (78, true)) rfl rfl fun K' hK' => T6 ?_
  refine C2 (iM T hN C lC) ?_
  rintro u rfl
  rw [hc]
  refine AX (hK' _ _ ?_)
  clear hK' K'
  iterate 3 refine SF ?_
  refine aX (g := some (83, true)) rfl rfl fun K' hK' => T6 ?_
  refine C2 (iM T hN [] (by simp)) ?_
  rintro u rfl
  rw [h0]
  refine AX (hK' _ _ ?_)
  clear hK' K'
  iterate 3 refine SF ?_
  refine aX (g := some (88, true)) rfl rfl fun K' hK' => T6 ?_
  refine eA (args := []) 0 aL3 rfl (by simp) ⟨rfl, rfl, rfl, rfl⟩ ?_
  rintro u rfl
  refine AX (hK' _ _ ?_)
  clear hK' K'
  iterate 2 refine SF ?_
  refine T2 (hK _ _ _ ?_)
  clear hK K
  refine aF (RT Tryd.results4 ?_)
  exact cX [] (.bool true) rfl rfl (by simp) rfl
 have hie : i = n := by simp at hb; omega
 subst hie
 clear hb
 obtain ⟨A, hA⟩ : ∃ A, A = mkB i i fun j => tr.getD j false := ⟨_, rfl⟩
 obtain ⟨B, hB⟩ : ∃ B, B = mkB i i fun j => tr.getD j false || mo.getD j false := ⟨_, rfl⟩
 obtain ⟨C, hC⟩ : ∃ C, C = mkB i i fun _ => true := ⟨_, rfl⟩
 have hm := wG hI (fun j => tr.getD j false) (fun j => mo.getD j false)
 have hc := zG hI
 have h0 := wH hI
 rw [← hn] at hm hc
 rw [← hA, ← hB] at hm
 rw [← hC] at hc
 rw [← hA, ← hB, ← hC]
 rw [← hA] at hEA
 have nA : A.length = i := by rw [hA, bU]
 have nB : B.length = i := by rw [hB, bU]
 have nC : C.length = i := by rw [hC, bU]
 have lA : A.length < 2 ^ 63 := by rw [hA, bU]; omega
 have lB : B.length < 2 ^ 63 := by rw [hB, bU]; omega
 have lC : C.length < 2 ^ 63 := by rw [hC, bU]; omega
 refine eC [41, 49, 57] (bQ (fr2 := fin [(7, .c (.slc (T.map Nd.cv))), (8, .c (.int .i64 i)), (9, .c (.slc (A.map bC))), (10, .c (.slc (B.map bC))), (11, .c (.slc (C.map bC)))]) (ob2 := fob [(0, .tab tabs)]) (nx2 := 3000) (aN (by omega) (by simp [bA, nA, nB, nC, gZ, fin_at, finA_at, upd_at, fob_at, HV.close, HV.closeL, CV.denil, CV.denilL, oC, denilL_Nd, HV.men, HV.menL, HV.norm, HV.toC, HV.toCL]) (by simp [aZ, iA, fob_at, upd_at, none0_at, bY, HO.close, HV.close, HV.closeL, HO.men, HV.men, HV.menL, HV.norm, HV.toC, HV.toCL])) ?_)
 have hd0 : decide ((0 : Int) < (i : Int)) = true := by simp; omega
 refine aC fun K hK => Rg ?_
 have F := aI @oC (aI @denilL_Nd hd0)
 iterate 5 refine SF ?_
 refine aX (g := some (67, true)) rfl rfl fun K' hK' => T6 ?_
 refine C2 (iM T hN A lA) ?_
 rintro u rfl
 rw [hEA]
 refine AX (hK' _ _ ?_)
 clear hK' K'
 iterate 4 refine SF ?_
 refine aX (g := some (72, false)) rfl rfl fun K' hK' => T6 ?_
 refine C2 (iM T hN B lB) ?_
 rintro u rfl
 rw [hm hEA]
 refine AX (hK' _ _ ?_)
 clear hK' K'
 iterate 5 refine SF ?_
 refine aX (g := some (78, true)) rfl rfl fun K' hK' => T6 ?_
 refine C2 (iM T hN C lC) ?_
 rintro u rfl
 rw [hc]
 refine AX (hK' _ _ ?_)
 clear hK' K'
 iterate 3 refine SF ?_
 refine aX (g := some (83, true)) rfl rfl fun K' hK' => T6 ?_
 refine C2 (iM T hN [] (by simp)) ?_
 rintro u rfl
 rw [h0]
 refine AX (hK' _ _ ?_)
 clear hK' K'
 iterate 3 refine SF ?_
 refine aX (g := some (88, true)) rfl rfl fun K' hK' => T6 ?_
 refine eA (args := []) 0 aL3 rfl (by simp) ⟨rfl, rfl, rfl, rfl⟩ ?_
 rintro u rfl
 refine AX (hK' _ _ ?_)
 clear hK' K'
 iterate 2 refine SF ?_
 refine T2 (hK _ _ _ ?_)
 clear hK K
 refine aF (RT Tryd.results4 ?_)
 exact cX [] (.bool true) rfl rfl (by simp) rfl

end Go.Proofs.YtlldglbooaefhaaDoor

namespace Go.Proofs.YtlldglbooaefhaaDoor
open Go Go.Hl Go.Pl
set_option linter.unusedVariables false
set_option maxRecDepth 100000

theorem xB {W : World} (h : laidMetH Tryd.prog Rows.policyMonotoneRow.laid W) : Lib.TabIs Tryd.prog W "internal/strconv.uint64pow10" .u64 Lib.pow10Tab := by
  rw [MakeChecks.laidMetH_plain _ _ _ (by kernel_rfl)] at h
  have h2 := laidMet.filter (fun x => x.1 == "internal/strconv.uint64pow10") h
  have e : (Rows.policyMonotoneRow.laid.filter fun x => x.1 == "internal/strconv.uint64pow10") = [("internal/strconv.uint64pow10", Lib.tabData .u64 Lib.pow10Tab)] := by kernel_rfl
  rw [e] at h2
  exact Lib.tabIs_of_head aC1 (by kernel_rfl) Tryd.underlying141 Tryd.underlying124 (by kernel_rfl) (by kernel_rfl) h2

theorem kW (H : Type) (enc : TypeId × Value → H) (W : World) (args : Array Value) (ds gs : List (DataW H)) (before : List MemPlace)
    (hL : laidMetH Tryd.prog Rows.policyMonotoneRow.laid W)
    (hval : ∀ (j : Nat) t v, Tryd.f4.params[j]? = some t → args[j]? = some v → Value.okWide Tryd.prog W .any 0 t v)
    (hW : DataW.Whole enc Tryd.prog Tryd.f4.params.toList Rows.policyMonotoneSpec.vars false W args.toList ds gs before) :
    Calls Tryd.prog 4 args W fun e W' => ∃ v, e = .returned v ∧ Rows.policyMonotoneSpec.post enc Tryd.prog Tryd.f4 false true false false W args v W' := by
  refine aY3 (mm := 6) (tb := 4) (tabs := tabs) (by kernel_rfl) kids aP8 rfl (by kernel_rfl) Tryd.underlying4 ?_ ?_ ?_ ?_ (fun j t v h1 h2 => ?_) hW
  · rw [Tryd.params4]
    intro H ds h
    match ds, h with
    | [c0, c1, c2], _ => exact ⟨rfl, rfl, rfl⟩
  · rw [Tryd.params4]
    intro t ht
    simp only [List.mem_cons, List.not_mem_nil, or_false] at ht
    rcases ht with rfl | rfl | rfl
    · exact ⟨by kernel_rfl, of_decide_eq_true (by kernel_rfl)⟩
    · exact ⟨by kernel_rfl, of_decide_eq_true (by kernel_rfl)⟩
    · exact ⟨by kernel_rfl, of_decide_eq_true (by kernel_rfl)⟩
  · rw [Tryd.params4]
    intro cs hn hty
    match cs, hn, hty with
    | [c0, c1, c2], _, hty =>
      obtain ⟨L, rfl, hw, hl⟩ := bT1 (hty 0 _ c0 rfl rfl)
      obtain ⟨tr, rfl, h1⟩ := aJ8 (hty 1 _ c1 rfl rfl)
      obtain ⟨mo, rfl, h2⟩ := aJ8 (hty 2 _ c2 rfl rfl)
      unfold maxLen at h1 h2
      exact bO4 L tr mo (by omega) (by omega)
  · intro x hx
    simp only [tabs, List.mem_cons, List.not_mem_nil, or_false] at hx
    rcases hx with rfl
    · exact wS aC1 (xB hL)
  · exact hval j t v h1 h2

open Go.ChangeShapes Go.WideShapes Go.ChangeAt Go.RowKit in
set_option maxRecDepth 100000 in
theorem lT (os : Os) (started : os.Started) (H : Type) (enc : TypeId × Value → H) :
    ReturnsInHanded {} Tryd.checked os 4 .any (fun w args => (Rows.policyMonotoneSpec.pre enc Tryd.prog Tryd.f4 [] false w args ∧ laidMetH Tryd.prog Rows.policyMonotoneRow.laid w) ∧ sizedMet enc Tryd.prog Tryd.f4 (OpenSpec.ofChange Rows.policyMonotoneSpec) false w args)
      (Rows.policyMonotoneSpec.post enc Tryd.prog Tryd.f4 false true false false) := by
  refine returnsInHanded_of_change_and (C := Tryd.checked) (X := fun w _ => laidMetH Tryd.prog Rows.policyMonotoneRow.laid w) (fun _ _ _ hh h => h.of_heap hh) own started (by kernel_rfl) Tryd.func4
    (ChangeSpec.witness_shaped (enc := enc) (C := Tryd.checked) (os := os) (X := fun w _ => laidMetH Tryd.prog Rows.policyMonotoneRow.laid w) false (World.laidAll Tryd.prog os Rows.policyMonotoneRow.laid) #[.slice none 0 0, .slice none 0 0, .slice none 0 0] 8 (World.laidAll_os _ _ _)
      (World.shaped_of_ZipB (by kernel_rfl) (by kernel_rfl)) (by kernel_rfl) (by kernel_rfl) (by kernel_rfl)
      (by rw [MakeChecks.laidMetH_plain _ _ _ (by kernel_rfl)]; exact laidMet_laidAll _ (by kernel_rfl) (by kernel_rfl))) ?_
  intro W base args ds gs before hval hW _ _ hL _
  exact kW H enc W args ds gs before hL (fun j t v h1 h2 => (hval j t v h1 h2)) hW

theorem pE : Rows.PolicyMonotoneSaid :=
  OpenClaim.holds_of_wide 4 Tryd.f4 rfl rfl rfl rfl rfl rfl rfl ⟨rfl, rfl, rfl, rfl, rfl⟩ rfl rfl rfl rfl rfl (by kernel_rfl) Tryd.func4 (by kernel_rfl)
    (of_decide_eq_true (by kernel_rfl)) (by unfold Func.isWrapper; first | (rw [if_pos (by decide +kernel)]; kernel_rfl) | (rw [if_neg (by decide +kernel)]; exact ⟨rfl, rfl⟩))
    (fun os started H enc _ => lT os started H enc)

theorem policyMonotone_said : Rows.PolicyMonotoneCardSaid :=
  Claim7.holds_tied_plain_at .later [] [.data, .data, .data, .data, .pinned] true (true, "15be7892ca1104b8b28cd8daee4937f8eb40532bd8673a52f437445d00da4649") false pE (fun _ h => by cases h) (by kernel_rfl) (fun _ h => by cases h) policyMonotone_row_tie rfl ⟨rfl, rfl⟩ (by kernel_rfl) rfl
    (fun f fn hf hfn => by
      obtain rfl : f = 4 := Option.some.inj ((show Tryd.prog.funcNamed "admission/admissionlaw28.PolicyMonotone" = some 4 by kernel_rfl).symm.trans hf) |>.symm
      obtain rfl : fn = Tryd.f4 := (Option.some.inj (Tryd.func4.symm.trans hfn)).symm
      exact ⟨by kernel_rfl, fun j t ht => by
        rw [Tryd.params4] at ht
        have hm : t ∈ [22, 38, 38] := by simpa using Array.mem_of_getElem? ht
        have hall : ([22, 38, 38].all fun u => !Tryd.prog.wantsStandIn u) = true := by kernel_rfl
        exact (show Tryd.prog.wantsStandIn t = false by simpa using List.all_eq_true.1 hall t hm)⟩)
    (by kernel_rfl)
#print axioms policyMonotone_said
end Go.Proofs.YtlldglbooaefhaaDoor
