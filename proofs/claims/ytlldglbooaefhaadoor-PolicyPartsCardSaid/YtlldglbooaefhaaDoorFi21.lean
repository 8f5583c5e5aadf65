/- PolicyParts: for any tape of numbers and any row of truth values the law returns true and leaves them as they were: a tree holds exactly if as many of its children hold as its first node asks for, each taken as a tree of its own. The listed tables of the library are tied to the program's text by the card. By an AI agent. -/
import Derived.Test.YtlldglbooaefhaaDoorHvV1
import Derived.Test.YtlldglbooaefhaaDoorPl28l
import Derived.Test.YtlldglbooaefhaaDoorHlCl
import Derived.Test.YtlldglbooaefhaaDoorHlIt
import Derived.Test.YtlldglbooaefhaaDoorHvTd
import Derived.Test.YtlldglbooaefhaaDoorPl03e
import Derived.Test.YtlldglbooaefhaaDoorHvV3
import Derived.Test.YtlldglbooaefhaaDoorPl28p
import Derived.Lay
import Derived.SevenTiedAt
import Derived.Test.YtlldglbooaefhaaDoorRows
import Derived.Test.YtlldglbooaefhaaDoorCards
import Derived.Test.YtlldglbooaefhaaDoorTie
set_option linter.unusedSimpArgs false
set_option linter.unusedVariables false
set_option linter.defProp false
namespace Go.Proofs.YtlldglbooaefhaaDoor
open Go Go.Hl Go.Pl
set_option maxRecDepth 10000
set_option maxHeartbeats 16000000

theorem cA (id n sz m : Nat) : (gQ id n sz m).sto = true := by unfold gQ; split <;> rfl
theorem bN (id n sz m : Nat) : (gQ id n sz m).cells = 1 := by unfold gQ; split <;> rfl
theorem bS (id n sz m : Nat) : (gQ id n sz m).toC = none := by unfold gQ; split <;> rfl
theorem cS (id n sz : Nat) : gQ id n sz n = .own id n := by unfold gQ; rw [if_pos rfl]
theorem cK {id n sz m : Nat} (h : m ≠ n) : gQ id n sz m = .osl id n 0 sz m := by unfold gQ; rw [if_neg h]
theorem oB {M : Nat → Prop} {id n sz m : Nat} (h : M id) : (gQ id n sz m).men M := by unfold gQ; split <;> exact h

theorem jT (l : List Nd) (hn : ∀ n ∈ l, n.q.t.length < 2 ^ 63) (tr : List Bool) (htr : tr.length < 2 ^ 63) : cH Tryd.prog 14 [.slc (l.map Nd.cv), .slc (tr.map bC)] (fun v => v = .bool (iF l tr)) := by
 refine FW Tryd.func14 ?_
 have F := rI
 refine RF ?_
 refine aC fun K hK => Rg ?_
 refine SF ?_
 refine HS rfl rfl fun K' hK' => T6 ?_
 refine C1 (yS l hn) ?_
 rintro u rfl
 refine AX (hK' _ _ ?_)
 clear hK' K'
 iterate 3 refine SF ?_
 simp only [sE, ↓reduceIte, simprocAttr, rI]
 refine AX (hK _ _ _ ?_)
 clear hK K
 refine aC fun K hK => ?_
 refine RF ?_
 refine aG (b := (((iN l).length : Int) == 0)) rfl (fun hb => ?_) (fun hb => ?_)
 ·
  refine RF ?_
  refine aF ?_
  simp only [fX, Tryd.results14, fC, fW, eQ, ↓sP, sA, tyS, simprocAttr, rI]
  have hlv : iN l = [] := by simpa using hb
  have htf : dH l = false := by
   cases h : dH l with
   | false => rfl
   | true =>
    have h1 := aH2 (kL h)
    rw [pA h] at hlv
    have h2 := kO l 0
    rw [hlv] at h2
    simp at h2; omega
  exact aM [] (.bool false) rfl (by rw [iF, htf]; rfl)
 have htt : dH l = true := by
  cases h : dH l with
  | true => rfl
  | false => rw [sW h] at hb; simp at hb
 have ht := kL htt
 have hl := ht.len
 have hlen : (iN l).length = lv l := by rw [pA htt, kO]
 rw [hlen]
 clear hb
 refine aJ ?_
 refine TQ rI ?_
 refine AX (hK _ _ _ ?_)
 clear hK K
 refine RF ?_
 refine aC fun K hK => ?_
 refine aC fun K hK => Rg ?_
 refine S0 ?_ (e := fun _ h_ => by simp only [sH, ↓sP, sA, tyS, simprocAttr, rI, denilL_Nd, lN, gA, List.range', List.map_cons, List.map_nil]; exact AX h_)
 refine HS rfl rfl fun K' hK' => ?_
 simp only [sH, ↓sP, sA, tyS, simprocAttr, rI, denilL_Nd, lN, gA, List.range', List.map_cons, List.map_nil]
 refine rE (args := [_]) (bV0 l) (by simp) ⟨rfl, rfl, rfl, rfl⟩ ?_
 refine AX (hK' _ _ ?_)
 clear hK' K'
 simp only [sE, ↓reduceIte, simprocAttr, rI]
 refine AX (hK _ _ _ ?_)
 clear hK K
 refine aK ?_
 refine zW 36 0 4 1 rfl rfl rfl rfl ?_
 refine xX (ids := [44]) (fin [(3, .ptr 0 0), (5, .ptr 20 0), (6, .ptr 36 0)]) (fun i => fob [(0, .box 38 (.c (.slc (tr.map bC)))), (20, .box 3 (.c (.int .i64 (lv (l.take (l.length - i)) : Nat)))), (36, .box 38 (gQ 48 (bZ l tr i).1.length 1 (bZ l tr i).2)), (48, .row 4 1 ((bZ l tr i).1.map bC))]) 20000 (fun i => EvOk l tr i) (EvOk.zero l tr) (bB7 l (by omega)) rfl rfl (by decide) ?_ ?_ ?_ ?_ ?_ rfl rfl ?_ ?_
 ·
  intro j x hx
  match j, hx with
  | 0, hx => cases hx; rfl
 ·
  exact aN (by omega) (by simp [bB, fin_at, finA_at, upd_at, HV.men, HV.menL, HV.norm, HV.toC, HV.toCL, lN, bZ, cS, List.take_length]) (by simp [bA, fob_at, upd_at, none0_at, cB, HO.men, HV.men, HV.menL, HV.norm, HV.toC, HV.toCL, lN, bZ, cS, List.take_length])
 ·
  intro id hid
  simp only [List.mem_cons, List.not_mem_nil, or_false] at hid
  subst hid; rfl
 ·
  intro x hx
  obtain ⟨p, _, rfl⟩ := List.mem_map.1 hx
  rfl
 ·
  intro p hp
  simp only [List.mem_cons, List.not_mem_nil, or_false] at hp
  rcases hp with rfl | rfl <;> exact Nat.le_of_ble_eq_true rfl
 ·
  intro i hi hΦ K hK
  have hi2 : i < l.length := by rw [← qH l]; exact hi
  have hp : l.length - 1 - i < l.length := by omega
  rw [bK4 hi hp]
  simp only [vG]
  obtain ⟨w, hw⟩ : ∃ w, w = (bZ l tr i).1 := ⟨_, rfl⟩
  obtain ⟨m, hm⟩ : ∃ m, m = (bZ l tr i).2 := ⟨_, rfl⟩
  have hfit := hΦ.fit
  have hsmall := hΦ.small
  rw [← hw, ← hm] at hfit
  rw [← hw] at hsmall
  rw [← hw, ← hm]
  refine aL (by kernel_rfl) ?_
  refine TQ rI ?_
  refine AX (hK _ _ _ ?_)
  clear hK K
  refine aK ?_
  refine aC fun K hK => ?_
  refine RF ?_
  refine aG (b := (l[l.length - 1 - i].k == 1)) rfl (fun hb => ?_) (fun hb => ?_)
  ·
   have hk1 : l[l.length - 1 - i].k = 1 := by simpa using hb
   obtain ⟨hok, hst⟩ := hΦ.leaf hi2 hk1
   rw [← hw, ← hm] at hst
   have hlv := aB0 hp
   rw [if_pos hk1, show l.length - 1 - i + 1 = l.length - i from by omega] at hlv
   have hlb := vW l (l.length - 1 - i)
   have hw1 : IntKind.i64.wrap ((lv (l.take (l.length - i)) : Int) - 1) = ((lv (l.take (l.length - 1 - i)) : Nat) : Int) := by rw [hlv, dM _ (by omega)]; omega
   obtain ⟨x, hx⟩ : ∃ x, x = lv (l.take (l.length - 1 - i)) := ⟨_, rfl⟩
   have hxl : l.length - (i + 1) = l.length - 1 - i := by omega
   rw [← hx] at hw1 hst
   clear hb
   have F := aI rI hw1
   refine RF ?_
   by_cases hlt : x < tr.length
   ·
    by_cases hmw : m = w.length
    ·
     subst hmw
     have hg : tr.getD x false = tr[x] := by simp [hlt]
     refine aC fun K hK => eV mixed [(0, [], []), (1, [], []), (2, [], []), (3, [], []), (4, [], []), (5, [], []), (6, [], []), (7, [], []), (8, [], []), (9, [], []), (10, [], []), (11, [], []), (12, [], []), (13, [], [])] [0, 0, 0, 4, 14, 30, 62, 62, 254, 510, 1022, 2046, 4095, 8191] (by kernel_rfl) (by kernel_rfl) (by kernel_rfl) (by kernel_rfl) rfl (by kernel_rfl) ?_
     iterate 14 refine WG0 ?_ (e := fun _ h_ => by simp only [sH, ↓sP, sA, tyS, simprocAttr, rI, Int.natCast_nonneg, Int.ofNat_lt, hlt, aY hlt, bC, cS, cA, bN, bS]; exact AX h_)
     simp only [sE, ↓reduceIte, simprocAttr, rI]
     refine AX (hK _ _ _ ?_)
     clear hK K
     refine bD ?_
     refine TQ rI ?_
     clear hK K
     rw [hg, zA] at hst
     refine ⟨(show Fits 20000 _ _ (fin []) _ 20000 from aN (by omega) trivial ?_), hok⟩
     rw [hst, hxl, ← hx]
     simp [bA, fob_at, upd_at, none0_at, cB, HO.men, HV.men, HV.menL, HV.norm, HV.toC, HV.toCL, cS, bC]
    have hg : tr.getD x false = tr[x] := by simp [hlt]
    have hmw2 : m + 1 ≤ w.length := by omega
    have hw0 : 0 < w.length := by omega
    have hrow : (kW w m tr[x]).map bC = (w.map bC).take m ++ [.bool tr[x]] ++ (w.map bC).drop (m + 1) := by simp [kW, List.map_take, List.map_drop, bC]
    refine aC fun K hK => eV mixed [(0, [], []), (1, [], []), (2, [], []), (3, [], []), (4, [], []), (5, [], []), (6, [], []), (7, [], []), (8, [], []), (9, [], []), (10, [], []), (11, [], []), (12, [], []), (13, [], [])] [0, 0, 0, 4, 14, 30, 62, 62, 254, 510, 1022, 2046, 4095, 8191] (by kernel_rfl) (by kernel_rfl) (by kernel_rfl) (by kernel_rfl) rfl (by kernel_rfl) ?_
    iterate 12 refine WG0 ?_ (e := fun _ h_ => by simp only [sH, ↓sP, sA, tyS, simprocAttr, rI, Int.natCast_nonneg, Int.ofNat_lt, hlt, aY hlt, bC, cK hmw, cA, bN, bS, hw0, hmw2]; exact AX h_)
    refine eH (g := none) rfl rfl fun K' hK' => ?_
    simp only [sN, ↓hopH.eq_def, sH, ↓sP, sA, tyS, simprocAttr, rI, Int.natCast_nonneg, Int.ofNat_lt, hlt, aY hlt, bC, cK hmw, cA, bN, bS, hw0, hmw2]
    refine AX (hK' _ _ ?_)
    clear hK' K'
    refine WG0 ?_ (e := fun _ h_ => by simp only [sH, ↓sP, sA, tyS, simprocAttr, rI, Int.natCast_nonneg, Int.ofNat_lt, hlt, aY hlt, bC, cK hmw, cA, bN, bS, hw0, hmw2]; exact AX h_)
    simp only [sE, ↓reduceIte, simprocAttr, rI]
    refine AX (hK _ _ _ ?_)
    clear hK K
    refine bD ?_
    refine TQ rI ?_
    clear hK K
    rw [hg] at hst
    refine ⟨(show Fits 20000 _ _ (fin []) _ 20000 from aN (by omega) trivial ?_), hok⟩
    rw [hst, hxl, ← hx]
    simp [bA, fob_at, upd_at, none0_at, cB, HO.men, HV.men, HV.menL, HV.norm, HV.toC, HV.toCL, kX hmw2, hrow, oB, bS]
   by_cases hmw : m = w.length
   ·
    subst hmw
    have hg : tr.getD x false = false := by simp [List.getD_eq_getElem?_getD, List.getElem?_eq_none (Nat.le_of_not_lt hlt)]
    have hlt' : decide ((x : Int) < tr.length) = false := by simp; omega
    refine aC fun K hK => eV mixed [(0, [], []), (1, [], []), (2, [], []), (3, [], []), (4, [], []), (5, [], []), (6, [], []), (7, [], []), (8, [], []), (9, [], []), (10, [], []), (11, [], []), (12, [], []), (13, [], [])] [0, 0, 0, 4, 14, 30, 62, 62, 254, 510, 1022, 2046, 4095, 8191] (by kernel_rfl) (by kernel_rfl) (by kernel_rfl) (by kernel_rfl) rfl (by kernel_rfl) ?_
    have F := aI rI (aI hlt' (aI @cS (aI @cA (aI @bN @bS))))
    iterate 14 refine WGF ?_
    simp only [sE, ↓reduceIte, simprocAttr, rI]
    refine AX (hK _ _ _ ?_)
    clear hK K
    refine bD ?_
    refine TQ rI ?_
    clear hK K
    rw [hg, zA] at hst
    refine ⟨(show Fits 20000 _ _ (fin []) _ 20000 from aN (by omega) trivial ?_), hok⟩
    rw [hst, hxl, ← hx]
    simp [bA, fob_at, upd_at, none0_at, cB, HO.men, HV.men, HV.menL, HV.norm, HV.toC, HV.toCL, cS, bC]
   have hg : tr.getD x false = false := by simp [List.getD_eq_getElem?_getD, List.getElem?_eq_none (Nat.le_of_not_lt hlt)]
   have hlt' : decide ((x : Int) < tr.length) = false := by simp; omega
   have hmw2 : m + 1 ≤ w.length := by omega
   have hw0 : 0 < w.length := by omega
   have hrow : (kW w m false).map bC = (w.map bC).take m ++ [.bool false] ++ (w.map bC).drop (m + 1) := by simp [kW, List.map_take, List.map_drop, bC]
   refine aC fun K hK => eV mixed [(0, [], []), (1, [], []), (2, [], []), (3, [], []), (4, [], []), (5, [], []), (6, [], []), (7, [], []), (8, [], []), (9, [], []), (10, [], []), (11, [], []), (12, [], []), (13, [], [])] [0, 0, 0, 4, 14, 30, 62, 62, 254, 510, 1022, 2046, 4095, 8191] (by kernel_rfl) (by kernel_rfl) (by kernel_rfl) (by kernel_rfl) rfl (by kernel_rfl) ?_
   iterate 12 refine WG0 ?_ (e := fun _ h_ => by simp only [sH, ↓sP, sA, tyS, simprocAttr, rI, hlt', cK hmw, cA, bN, bS, hw0, hmw2]; exact AX h_)
   refine eH (g := none) rfl rfl fun K' hK' => ?_
   simp only [sN, ↓hopH.eq_def, sH, ↓sP, sA, tyS, simprocAttr, rI, hlt', cK hmw, cA, bN, bS, hw0, hmw2]
   refine AX (hK' _ _ ?_)
   clear hK' K'
   refine WG0 ?_ (e := fun _ h_ => by simp only [sH, ↓sP, sA, tyS, simprocAttr, rI, hlt', cK hmw, cA, bN, bS, hw0, hmw2]; exact AX h_)
   simp only [sE, ↓reduceIte, simprocAttr, rI]
   refine AX (hK _ _ _ ?_)
   clear hK K
   refine bD ?_
   refine TQ rI ?_
   clear hK K
   rw [hg] at hst
   refine ⟨(show Fits 20000 _ _ (fin []) _ 20000 from aN (by omega) trivial ?_), hok⟩
   rw [hst, hxl, ← hx]
   simp [bA, fob_at, upd_at, none0_at, cB, HO.men, HV.men, HV.menL, HV.norm, HV.toC, HV.toCL, kX hmw2, hrow, oB, bS]
  have hk1 : l[l.length - 1 - i].k ≠ 1 := by simpa using hb
  obtain ⟨hcm, hok, hst⟩ := hΦ.inner ht hi2 hk1
  rw [← hw, ← hm] at hst
  rw [← hm] at hcm
  obtain ⟨c1, c2, c3, c4⟩ := cU (ht.node _ (List.getElem_mem hp))
  have c5 := c4 hk1
  have hlv := aB0 hp
  rw [if_neg hk1, Nat.add_zero, show l.length - 1 - i + 1 = l.length - i from by omega] at hlv
  have hxl : l.length - (i + 1) = l.length - 1 - i := by omega
  obtain ⟨f, hf⟩ : ∃ f, f = m - l[l.length - 1 - i].c.toNat := ⟨_, rfl⟩
  have hfc : m - f = l[l.length - 1 - i].c.toNat := by omega
  rw [← hf, ← hfc] at hst
  have hw2 : IntKind.i64.wrap ((m : Int) - l[l.length - 1 - i].c) = (f : Int) := by rw [dM _ (by omega)]; omega
  have hf1 : f + 1 ≤ w.length := by omega
  have hfw : f ≤ w.length := by omega
  have hfm : f ≤ m := by omega
  have hw0 : 0 < w.length := by omega
  obtain ⟨h, hh⟩ : ∃ h, h = iE l[l.length - 1 - i] ((w.drop f).take (m - f)) := ⟨_, rfl⟩
  rw [← hh] at hst
  have hrow : (kW w f h).map bC = (w.map bC).take f ++ [.bool h] ++ (w.map bC).drop (f + 1) := by simp [kW, List.map_take, List.map_drop, bC]
  clear hb
  refine aJ ?_
  refine TQ rI ?_
  refine AX (hK _ _ _ ?_)
  clear hK K
  by_cases hmw : m = w.length
  ·
   rw [← hmw] at hw0 hf1 hfw
   refine aC fun K hK => Rg ?_
   iterate 6 refine S0 ?_ (e := fun _ h_ => by simp only [sH, ↓sP, sA, tyS, simprocAttr, rI, cS, ← hmw, List.length_map, hw2]; exact AX h_)
   simp only [sE, ↓reduceIte, simprocAttr, rI]
   refine AX (hK _ _ _ ?_)
   clear hK K
   refine eV mixed [(0, [], []), (1, [], []), (2, [], []), (3, [], []), (4, [], []), (5, [], []), (6, [], []), (7, [], [0, 1, 2]), (8, [], []), (9, [], []), (10, [], [])] [0, 0, 3, 0, 0, 0, 48, 120, 248, 511, 1023] (by kernel_rfl) (by kernel_rfl) (by kernel_rfl) (by kernel_rfl) rfl (by kernel_rfl) ?_
   iterate 7 refine WG0 ?_ (e := fun _ h_ => by simp only [sH, ↓sP, sA, tyS, simprocAttr, rI, cS, cA, bN, bS, ← hmw, List.length_map, Int.natCast_nonneg, Int.ofNat_le, hfw]; exact AX h_)
   refine oF (g := none) rfl rfl fun K' hK' => ?_
   simp only [sN, ↓hopH.eq_def, sH, ↓sP, sA, tyS, simprocAttr, rI, cS, cA, bN, bS, ← hmw, List.length_map, Int.natCast_nonneg, Int.ofNat_le, hfw]
   refine aG0 [48] (aK8 l[l.length - 1 - i] w f m (by omega) (by omega) (by omega) (by omega)) (by first | rfl | (rw [← hmw]; rfl)) ⟨rfl, trivial⟩ (by simp) ?_ ?_ ?_ ?_ ?_
   ·
    intro j hj
    match j, hj with
    | 0, _ => exact .inr ⟨by decide, fun r os' h => by rw [h.2]⟩
   ·
    exact ⟨rfl, rfl, rfl, rfl⟩
   ·
    simp [eE, HO.men]
   ·
    simp [HV.menL, HV.men]
   rintro r os' ⟨rfl, rfl⟩
   rw [← hh, show ∀ n ob, jJ (sub [48] n) ob 0 [.row 4 1 (w.map bC)] = upd ob 48 (some (.row 4 1 (w.map bC))) from fun _ _ => rfl, show ∀ n b, HV.ren (sub [48] n) (.c b) = .c b from fun _ _ => rfl]
   refine AX (hK' _ _ ?_)
   clear hK' K'
   refine WG0 ?_ (e := fun _ h_ => by simp only [sH, ↓sP, sA, tyS, simprocAttr, rI, cS, cA, bN, bS, ← hmw, List.length_map, Int.natCast_nonneg, Int.ofNat_le, hfw]; exact AX h_)
   refine eH (g := none) rfl rfl fun K' hK' => ?_
   simp only [sN, ↓hopH.eq_def, sH, ↓sP, sA, tyS, simprocAttr, rI, cS, cA, bN, bS, ← hmw, List.length_map, Int.natCast_nonneg, Int.ofNat_le, hfw]
   refine AX (hK' _ _ ?_)
   clear hK' K'
   refine WG0 ?_ (e := fun _ h_ => by simp only [sH, ↓sP, sA, tyS, simprocAttr, rI, cS, cA, bN, bS, ← hmw, List.length_map, Int.natCast_nonneg, Int.ofNat_le, hfw]; exact AX h_)
   simp only [sE, ↓reduceIte, simprocAttr, rI]
   refine ⟨(show Fits 20000 _ _ (fin []) _ 20000 from aN (by omega) trivial ?_), hok⟩
   rw [hst, hxl, hlv]
   simp [bA, fob_at, upd_at, none0_at, cB, HO.men, HV.men, HV.menL, HV.norm, HV.toC, HV.toCL, kX (show f + 1 ≤ w.length by omega), hrow, oB, bS, ← hmw]
  refine aC fun K hK => Rg ?_
  iterate 6 refine S0 ?_ (e := fun _ h_ => by simp only [sH, ↓sP, sA, tyS, simprocAttr, rI, cK hmw, List.length_map, hw0, hfit, Nat.zero_le, List.length_take, List.length_drop, Nat.sub_zero, Nat.min_eq_left hfit, hw2]; exact AX h_)
  simp only [sE, ↓reduceIte, simprocAttr, rI]
  refine AX (hK _ _ _ ?_)
  clear hK K
  refine eV mixed [(0, [], []), (1, [], []), (2, [], []), (3, [], []), (4, [], []), (5, [], []), (6, [], []), (7, [], [0, 1, 2]), (8, [], []), (9, [], []), (10, [], [])] [0, 0, 3, 0, 0, 0, 48, 120, 248, 511, 1023] (by kernel_rfl) (by kernel_rfl) (by kernel_rfl) (by kernel_rfl) rfl (by kernel_rfl) ?_
  iterate 2 refine WG0 ?_ (e := fun _ h_ => by simp only [sH, ↓sP, sA, tyS, simprocAttr, rI, cA, bN, bS, cK hmw, List.length_map, Int.natCast_nonneg, Int.ofNat_le, hfw, hfm]; exact AX h_)
  refine eH (g := none) rfl rfl fun K' hK' => ?_
  simp only [sN, ↓hopH.eq_def, sH, ↓sP, sA, tyS, simprocAttr, rI, cA, bN, bS, cK hmw, List.length_map, Int.natCast_nonneg, Int.ofNat_le, hfw, hfm]
  refine AX (hK' _ _ ?_)
  clear hK' K'
  iterate 3 refine WG0 ?_ (e := fun _ h_ => by simp only [sH, ↓sP, sA, tyS, simprocAttr, rI, cA, bN, bS, cK hmw, List.length_map, Int.natCast_nonneg, Int.ofNat_le, hfw, hfm]; exact AX h_)
  refine eH (g := none) rfl rfl fun K' hK' => ?_
  simp only [sN, ↓hopH.eq_def, sH, ↓sP, sA, tyS, simprocAttr, rI, cA, bN, bS, cK hmw, List.length_map, Int.natCast_nonneg, Int.ofNat_le, hfw, hfm]
  refine AX (hK' _ _ ?_)
  clear hK' K'
  refine oF (g := none) rfl rfl fun K' hK' => ?_
  simp only [sN, ↓hopH.eq_def, sH, ↓sP, sA, tyS, simprocAttr, rI, cA, bN, bS, cK hmw, List.length_map, Int.natCast_nonneg, Int.ofNat_le, hfw, hfm]
  refine aG0 [48] (aK8 l[l.length - 1 - i] w f m (by omega) (by omega) (by omega) (by omega)) (by first | rfl | (rw [← hmw]; rfl)) ⟨rfl, trivial⟩ (by simp) ?_ ?_ ?_ ?_ ?_
  ·
   intro j hj
   match j, hj with
   | 0, _ => exact .inr ⟨by decide, fun r os' h => by rw [h.2]⟩
  ·
   exact ⟨rfl, rfl, rfl, rfl⟩
  ·
   simp [eE, HO.men]
  ·
   simp [HV.menL, HV.men]
  rintro r os' ⟨rfl, rfl⟩
  rw [← hh, show ∀ n ob, jJ (sub [48] n) ob 0 [.row 4 1 (w.map bC)] = upd ob 48 (some (.row 4 1 (w.map bC))) from fun _ _ => rfl, show ∀ n b, HV.ren (sub [48] n) (.c b) = .c b from fun _ _ => rfl]
  refine AX (hK' _ _ ?_)
  clear hK' K'
  refine WG0 ?_ (e := fun _ h_ => by simp only [sH, ↓sP, sA, tyS, simprocAttr, rI, cA, bN, bS, cK hmw, List.length_map, Int.natCast_nonneg, Int.ofNat_le, hfw, hfm]; exact AX h_)
  refine eH (g := none) rfl rfl fun K' hK' => ?_
  simp only [sN, ↓hopH.eq_def, sH, ↓sP, sA, tyS, simprocAttr, rI, cA, bN, bS, cK hmw, List.length_map, Int.natCast_nonneg, Int.ofNat_le, hfw, hfm]
  refine AX (hK' _ _ ?_)
  clear hK' K'
  refine WG0 ?_ (e := fun _ h_ => by simp only [sH, ↓sP, sA, tyS, simprocAttr, rI, cA, bN, bS, cK hmw, List.length_map, Int.natCast_nonneg, Int.ofNat_le, hfw, hfm]; exact AX h_)
  simp only [sE, ↓reduceIte, simprocAttr, rI]
  refine ⟨(show Fits 20000 _ _ (fin []) _ 20000 from aN (by omega) trivial ?_), hok⟩
  rw [hst, hxl, hlv]
  simp [bA, fob_at, upd_at, none0_at, cB, HO.men, HV.men, HV.menL, HV.norm, HV.toC, HV.toCL, kX hf1, hrow, oB, bS]
 intro hΦ
 simp only [sE, ↓reduceIte, simprocAttr, rI]
 have hfin := hΦ
 rw [qH] at hfin
 obtain ⟨h1, h0, h2⟩ := hfin.fin ht
 rw [qH, h1]
 obtain ⟨w, hw⟩ : ∃ w, w = (bZ l tr l.length).1 := ⟨_, rfl⟩
 rw [← hw] at h0
 have h3 : iF l tr = w[0] := by rw [h2]; simp only [hw]
 rw [← hw]
 refine AX (hK _ _ _ ?_)
 clear hK K
 by_cases hw1 : w.length = 1
 ·
  rw [hw1]
  refine aC fun K hK => Rg ?_
  iterate 4 refine S0 ?_ (e := fun _ h_ => by simp only [sH, ↓sP, sA, tyS, simprocAttr, rI, cS, aY h0, bC, Nat.lt_irrefl]; exact AX h_)
  simp only [sE, ↓reduceIte, simprocAttr, rI]
  refine AX (hK _ _ _ ?_)
  clear hK K
  refine aF ?_
  simp only [fX, Tryd.results14, fC, fW, eQ, ↓sP, sA, tyS, simprocAttr, rI]
  exact aM [] (.bool w[0]) rfl (by rw [h3])
 refine aC fun K hK => Rg ?_
 iterate 4 refine S0 ?_ (e := fun _ h_ => by simp only [sH, ↓sP, sA, tyS, simprocAttr, rI, cK (Ne.symm hw1), aY h0, bC, h0]; exact AX h_)
 simp only [sE, ↓reduceIte, simprocAttr, rI]
 refine AX (hK _ _ _ ?_)
 clear hK K
 refine aF ?_
 simp only [fX, Tryd.results14, fC, fW, eQ, ↓sP, sA, tyS, simprocAttr, rI]
 exact aM [] (.bool w[0]) rfl (by rw [h3])

end Go.Proofs.YtlldglbooaefhaaDoor

namespace Go.Proofs.YtlldglbooaefhaaDoor
open Go Go.Hl Go.Pl
set_option maxRecDepth 10000
set_option maxHeartbeats 16000000

theorem bV1 (ns im : aE) (r : Pr) : cH Tryd.prog 49 [r.cv, .rp (.str ns), .rp (.str im)] (fun v => v = .bool (yL ns im r)) := by
 refine FW Tryd.func49 ?_
 refine R0 ?_
 refine aC fun K hK => Rg ?_
 iterate 3 refine S0 ?_
 refine HS rfl rfl fun K' hK' => T5 ?_
 refine C2 (aJ1 r.b ns) ?_
 rintro u rfl
 refine AX (hK' _ _ ?_)
 clear hK' K'
 refine S0 ?_
 refine aH 8 rfl (fun h1_8 => ?_) (fun h1_8 => ?_)
 ·
  have F := h1_8
  iterate 3 refine SF ?_
  refine aW (g := some (9, true)) rfl rfl fun K' hK' => T6 ?_
  refine C2 (aJ1 r.c im) ?_
  rintro u rfl
  refine AX (hK' _ _ ?_)
  clear hK' K'
  iterate 2 refine SF ?_
  refine T2 (hK _ _ _ ?_)
  clear hK K
  refine aF (RT Tryd.results49 ?_)
  exact aM [] (.bool _) rfl (by simp only [yL, h1_8, Bool.and_true, Bool.and_false, Bool.true_and, Bool.false_and])
 have F := h1_8
 iterate 6 refine SF ?_
 refine T2 (hK _ _ _ ?_)
 clear hK K
 refine aF (RT Tryd.results49 ?_)
 exact aM [] (.bool _) rfl (by simp only [yL, h1_8, Bool.and_true, Bool.and_false, Bool.true_and, Bool.false_and])


def bB8 (l : List Pr) (p : Pr → Bool) : Int := match l.findIdx? p with | some i => (i : Int) | none => -1
theorem bN3 {l : List Pr} {p : Pr → Bool} {i : Nat} (hi : i < l.length) (h : p l[i] = true) (h0 : ∀ j (hj : j < i), p (l[j]'(by omega)) = false) : bB8 l p = i := by
 have : l.findIdx? p = some i := by
  rw [List.findIdx?_eq_some_iff_getElem]
  exact ⟨hi, h, fun j hj => by rw [h0 j hj]; simp⟩
 rw [bB8, this]
theorem bB9 {l : List Pr} {p : Pr → Bool} (h0 : ∀ j (hj : j < l.length), p l[j] = false) : bB8 l p = -1 := by
 have : l.findIdx? p = none := by
  rw [List.findIdx?_eq_none_iff]
  intro r hr
  obtain ⟨j, hj, rfl⟩ := List.getElem_of_mem hr
  exact h0 j hj
 rw [bB8, this]

theorem bV2 (l : List Pr) (g : FuncId) (caps : List CV) (p : Pr → Bool) (hl : l.length < 2 ^ 40) (hp : ∀ r ∈ l, cH Tryd.prog g (r.cv :: caps) (fun v => v = .bool (p r))) :
  bE0 Tryd.prog 48 [.c (.slc (l.map Pr.cv)), .clo g (caps.map .c)] (fun v => v = .int .i64 (bB8 l p)) := by
 refine bP Tryd.func48 rfl (by kernel_rfl) (aR5 (by simp [HV.menL, HV.men, HV.menL_c])) (Nat.le_of_ble_eq_true rfl) ?_
 refine R0 ?_
 refine aC fun K hK => ?_
 refine R0 ?_
 refine aK ?_
 refine bO (α := {i : Nat // i ≤ l.length ∧ ∀ j (hj : j < i) (h : j < l.length), p l[j] = false}) (fun i => (fin [(0, .c (.slc (l.map Pr.cv))), (1, .clo g (caps.map .c)), (7, .c (.int .i64 l.length)), (8, .c (.int .i64 i.1))], fob [])) 100 (fun i => l.length - i.1) ⟨0, by omega, fun j hj => by omega⟩ (aN (by omega) (by simp [bB, fin_at, finA_at, upd_at, HV.men, HV.menL, HV.norm, HV.toC, HV.toCL, HV.menL_c]) (by simp [bA])) ?_
 rintro ⟨i, hi, h0⟩
 refine R0 ?_
 refine aC fun K hK => ?_
 refine aG (b := decide ((i : Int) < l.length)) rfl (fun hb => ?_) (fun hb => ?_)
 ·
  have hlt : i < l.length := by simpa using hb
  clear hb
  refine aJ ?_
  refine T0 (hK _ _ _ ?_)
  clear hK K
  refine aC fun K hK => ?_
  refine aK ?_
  refine R0 ?_
  refine aC fun K hK => Rg ?_
  have F := aI @Int.natCast_nonneg (aI @Int.ofNat_lt (aI hlt (nM hlt)))
  iterate 5 refine SF ?_
  refine HS rfl rfl fun K' hK' => T6 ?_
  refine nR (args := l[i].cv :: caps) (hp _ (List.getElem_mem hlt)) ⟨rfl, rfl, rfl, rfl⟩ ?_
  rintro u rfl
  refine AX (hK' _ _ ?_)
  clear hK' K'
  refine T2 (hK _ _ _ ?_)
  clear hK K
  refine aG (b := p l[i]) rfl (fun hb => ?_) (fun hb => ?_)
  ·
   refine R0 ?_
   refine aF (RT Tryd.results48 ?_)
   exact aM [] (.int .i64 i) rfl (by rw [bN3 hlt hb fun j hj => h0 j hj (by omega)])
  refine aJ ?_
  refine T0 (hK _ _ _ ?_)
  clear hK K
  refine aL (by kernel_rfl) ?_
  refine TQ (IntWalk.i64_in ((i : Int) + 1) (by omega)) ?_
  refine ⟨⟨i + 1, hlt, fun j hj h => ?_⟩, aN (by omega) (by simp [bB, fin_at, finA_at, upd_at, HV.men, HV.menL, HV.norm, HV.toC, HV.toCL, HV.menL_c]) (by simp [bA]), ?_⟩
  ·
   rcases Nat.lt_or_ge j i with h1 | h1
   ·
    exact h0 j h1 h
   obtain rfl : j = i := by omega
   exact hb
  show l.length - (i + 1) < l.length - i
  omega
 refine bD (T3 ?_)
 clear hK K
 refine AX (hK _ _ _ ?_)
 clear hK K
 refine R0 ?_
 refine aF (RT Tryd.results48 ?_)
 have hei : i = l.length := by simp at hb; omega
 subst hei
 exact aM [] (.int .i64 (-1)) rfl (by rw [bB9 fun j hj => h0 j hj hj])


theorem bV3 (p : Po) (hp : PoSz p) (ns im : aE) : cH Tryd.prog 28 [p.cv, .str ns, .str im] (fun v => v = .int .i64 (bJ1 p ns im)) := by
 refine FW Tryd.func28 ?_
 refine aC fun K hK => Rg ?_
 iterate 4 refine S0 ?_
 refine T2 (hK _ _ _ ?_)
 clear hK K
 refine aC fun K hK => ?_
 refine aC fun K hK => Rg ?_
 refine S0 ?_
 refine HS rfl rfl fun K' hK' => T5 ?_
 refine C1 (rQ p hp) ?_
 rintro u rfl
 refine AX (hK' _ _ ?_)
 clear hK' K'
 refine S0 ?_
 refine T2 (hK _ _ _ ?_)
 clear hK K
 refine aG (b := !eX p) rfl (fun hb => ?_) (fun hb => ?_)
 ·
  refine R0 ?_
  refine aF (RT Tryd.results28 ?_)
  exact aM [] (.int .i64 (-1)) rfl (by rw [bJ2 (by simpa using hb)])
 refine aJ ?_
 refine T0 (hK _ _ _ ?_)
 clear hK K
 have hv : eX p = true := by simpa using hb
 clear hb
 refine xM 4 4 rfl rfl ?_
 refine xM 5 8 rfl rfl ?_
 refine aC fun K hK => Rg ?_
 have F := aI @bO9 @upd_at
 iterate 3 refine SF ?_
 refine HS rfl rfl fun K' hK' => T6 ?_
 refine aM5 (bV2 p.r 49 [.rp (.str ns), .rp (.str im)] (yL ns im) hp.r fun r _ => bV1 ns im r) (by simp [HV.menL, HV.men]) (fun m => by simp [HV.renL, HV.ren]) ⟨rfl, rfl, rfl, rfl⟩ ?_
 rintro u rfl
 refine AX (hK' _ _ ?_)
 clear hK' K'
 refine SF ?_
 refine T2 (hK _ _ _ ?_)
 clear hK K
 refine aF (RT Tryd.results28 ?_)
 exact aM [] (.int .i64 (bB8 p.r (yL ns im))) rfl (by rw [bJ1, if_pos hv]; rfl)

end Go.Proofs.YtlldglbooaefhaaDoor

namespace Go.Proofs.YtlldglbooaefhaaDoor
open Go Go.Hl Go.Pl
set_option maxRecDepth 10000
set_option maxHeartbeats 16000000

theorem aC0 (n : Int) : cH Tryd.prog 26 [.int .i64 n] (fun v => v = (aI3 n).cv) := by
 refine FW Tryd.func26 ?_
 refine R0 ?_
 refine aC fun K hK => Rg ?_
 iterate 4 refine S0 ?_
 refine T2 (hK _ _ _ ?_)
 clear hK K
 refine aF (RT Tryd.results26 ?_)
 exact aM [] (aI3 n).cv rfl rfl


theorem bN4 : PoSz awP := ⟨by decide, by decide, by decide, by decide⟩
theorem bN5 : ∀ n ∈ awT, n.q.t.length < 2 ^ 63 := by decide
theorem bN6 : wQ awP = 0 := by decide +kernel
theorem cA4 : (rM awP).length < 2 ^ 40 := by decide +kernel
theorem nG : mO Tryd.prog 11 tabs [] (fun v => v = .bool true) := by
 refine bP (args := []) Tryd.func11 rfl (by kernel_rfl) (eW tabs []) (Nat.le_of_ble_eq_true rfl) ?_
 unfold eF
 obtain ⟨aw1, aw2, aw3⟩ := aZ4 bN6
 refine R0 ?_
 refine aC fun K hK => bE (by kernel_rfl) ?_
 simp only [sR, simprocAttr]
 refine SG0 ?_
 refine bJ (g := none) rfl rfl fun K' hK' => T5 ?_
 refine C1 (aC0 1) ?_
 rintro u rfl
 refine AX (hK' _ _ ?_)
 clear hK' K'
 refine bJ (g := none) rfl rfl fun K' hK' => T5 ?_
 refine C1 (aC0 2) ?_
 rintro u rfl
 refine AX (hK' _ _ ?_)
 clear hK' K'
 refine bJ (g := none) rfl rfl fun K' hK' => T5 ?_
 refine C1 (aC0 3) ?_
 rintro u rfl
 refine AX (hK' _ _ ?_)
 clear hK' K'
 refine cV (g := none) 21 rfl rfl fun K' hK' => ?_
 simp only [gS, kK, sH, ↓sP, sA, tyS, simprocAttr]
 repeat refine AI ?_
 refine dJ (by first | rfl | simp) ?_
 try simp only [sH, ↓sP, sA, tyS, simprocAttr]
 refine AX (hK' _ _ ?_)
 clear hK' K'
 refine SG0 ?_
 refine T2 (hK _ _ _ ?_)
 clear hK K
 refine aC fun K hK => bE (by kernel_rfl) ?_
 simp only [sR, simprocAttr]
 iterate 2 refine SG0 ?_
 refine cV (g := none) 37 rfl rfl fun K' hK' => ?_
 simp only [gS, kK, sH, ↓sP, sA, tyS, simprocAttr]
 repeat refine AI ?_
 refine dJ (by first | rfl | simp) ?_
 try simp only [sH, ↓sP, sA, tyS, simprocAttr]
 refine AX (hK' _ _ ?_)
 clear hK' K'
 iterate 3 refine SG0 ?_
 refine T2 (hK _ _ _ ?_)
 clear hK K
 refine aC fun K hK => Rg ?_
 refine S0 ?_
 refine HS rfl rfl fun K' hK' => T5 ?_
 refine sM (args := [_]) 0 (aU7 awP bN4) rfl (by simp) ⟨rfl, rfl, rfl, rfl⟩ ?_
 rintro u v ⟨rfl, rfl⟩
 rw [bN6]
 refine AX (hK' _ _ ?_)
 clear hK' K'
 iterate 5 refine S0 ?_
 refine T2 (hK _ _ _ ?_)
 clear hK K
 refine aC fun K hK => Rg ?_
 have F := @dS
 refine SF ?_
 refine HS rfl rfl fun K' hK' => T6 ?_
 refine aK7 (args := [_]) 0 (bU9 (rM awP) cA4) rfl (by simp) ⟨rfl, rfl, rfl, rfl⟩ ?_
 rintro u v x ⟨rfl, rfl, rfl⟩
 rw [aw1, aw2, aw3]
 refine AX (hK' _ _ ?_)
 clear hK' K'
 iterate 8 refine SF ?_
 refine T2 (hK _ _ _ ?_)
 clear hK K
 refine aC fun K hK => bE (by kernel_rfl) ?_
 simp only [sR, simprocAttr]
 have F := aI @List.length_map.{0,0} (aI @kS (aI @qD (show awP.r.length = 1 from rfl)))
 refine SGF ?_
 refine bJ (g := none) rfl rfl fun K' hK' => T6 ?_
 refine C1 (tO awT bN5) ?_
 rintro u rfl
 rw [bY9]
 refine AX (hK' _ _ ?_)
 clear hK' K'
 iterate 2 refine SGF ?_
 refine bJ (g := some (30, true)) rfl rfl fun K' hK' => T6 ?_
 refine C1 (rQ awP bN4) ?_
 rintro u rfl
 rw [bZ0]
 refine AX (hK' _ _ ?_)
 clear hK' K'
 iterate 17 refine SGF ?_
 refine cV (g := some (48, true)) 209 rfl rfl fun K' hK' => ?_
 simp only [gS, kK, sH, ↓sP, sA, tyS, simprocAttr, List.length_map, kS, qD, (show awP.r.length = 1 from rfl)]
 repeat refine AI ?_
 refine dJ (by first | rfl | simp) ?_
 try simp only [sH, ↓sP, sA, tyS, simprocAttr, List.length_map, kS, qD, (show awP.r.length = 1 from rfl)]
 refine AX (hK' _ _ ?_)
 clear hK' K'
 refine bJ (g := some (48, true)) rfl rfl fun K' hK' => T6 ?_
 refine C2 (jT awT bN5 [true, false, true] (by decide)) ?_
 rintro u rfl
 rw [bJ3]
 refine AX (hK' _ _ ?_)
 clear hK' K'
 iterate 3 refine SGF ?_
 refine cV (g := some (53, true)) 229 rfl rfl fun K' hK' => ?_
 simp only [gS, kK, sH, ↓sP, sA, tyS, simprocAttr, List.length_map, kS, qD, (show awP.r.length = 1 from rfl)]
 repeat refine AI ?_
 refine dJ (by first | rfl | simp) ?_
 try simp only [sH, ↓sP, sA, tyS, simprocAttr, List.length_map, kS, qD, (show awP.r.length = 1 from rfl)]
 refine AX (hK' _ _ ?_)
 clear hK' K'
 refine bJ (g := some (53, true)) rfl rfl fun K' hK' => T6 ?_
 refine C2 (jT awT bN5 [true] (by decide)) ?_
 rintro u rfl
 rw [bJ4]
 refine AX (hK' _ _ ?_)
 clear hK' K'
 iterate 4 refine SGF ?_
 refine bJ (g := some (59, true)) rfl rfl fun K' hK' => T6 ?_
 refine C3 (bV3 awP bN4 [112, 114, 111, 100, 47, 101, 117] [119, 101, 98]) ?_
 rintro u rfl
 rw [bZ1]
 refine AX (hK' _ _ ?_)
 clear hK' K'
 iterate 4 refine SGF ?_
 refine bJ (g := some (64, true)) rfl rfl fun K' hK' => T6 ?_
 refine C1 (yS awT bN5) ?_
 rintro u rfl
 refine AX (hK' _ _ ?_)
 clear hK' K'
 iterate 5 refine SGF ?_
 refine bJ (g := some (70, true)) rfl rfl fun K' hK' => T6 ?_
 refine C2 (sX awT bN5 0) ?_
 rintro u rfl
 refine AX (hK' _ _ ?_)
 clear hK' K'
 iterate 4 refine SGF ?_
 refine T2 (hK _ _ _ ?_)
 clear hK K
 refine aF (RT Tryd.results11 ?_)
 exact cG [] (.bool true) rfl rfl (by simp) rfl

end Go.Proofs.YtlldglbooaefhaaDoor

namespace Go.Pl
open Go Go.Hl

def rN (n : Nat) : aE := [114, UInt8.ofNat (48 + n)]
structure MadeR (r : Pr) : Prop where
 ok : iG r = true
 b : r.b.length ≤ 80
 c : r.c.length ≤ 80
 t : r.t.length ≤ 40
structure MadeRs (n : Nat) (rs : List Pr) : Prop where
 two : n + rs.length ≤ 2
 one : 1 ≤ n + rs.length
 ok : ∀ r ∈ rs, MadeR r
 nm : ∀ r ∈ rs, ∃ j, n < j ∧ j ≤ 2 ∧ r.a = rN j
 ap : fQ rs = true
theorem MadeRs.zero {n : Nat} (h1 : 1 ≤ n) (h2 : n ≤ 2) : MadeRs n [] := ⟨by grind, by grind, by simp, by simp, rfl⟩
theorem MadeRs.next {n : Nat} {rs : List Pr} (h : MadeRs (n + 1) rs) {r : Pr} (hr : MadeR r) (ha : r.a = rN (n + 1)) : MadeRs n (rs ++ [r]) := by
 have h1 := h.two
 refine ⟨by grind, by grind, fun x hx => ?_, fun x hx => ?_, ?_⟩
 ·
  rcases List.mem_append.1 hx with hx | hx
  ·
   exact h.ok x hx
  grind
 ·
  rcases List.mem_append.1 hx with hx | hx
  ·
   obtain ⟨j, h2, h3, h4⟩ := h.nm x hx
   grind
  grind
 ·
  rw [mX, h.ap, Bool.true_and, Bool.not_eq_true', ← Bool.not_eq_true, List.contains_iff_mem]
  intro hm
  obtain ⟨x, hx, he⟩ := List.mem_map.1 hm
  obtain ⟨j, h2, h3, h4⟩ := h.nm x hx
  rw [h4, ha] at he
  have hj : j = 2 := by omega
  have hn : n = 0 := by omega
  subst hj hn
  revert he
  decide
theorem MadeRs.fin {rs : List Pr} (h : MadeRs 0 rs) {v : Int} (h1 : 1 ≤ v) (h2 : v ≤ 1099511627776) : bJ0 ⟨[112], v, rs⟩ := by
 have h3 := h.two
 have k : eC [112] = true := by decide
 refine ⟨?_, by grind, fun r hr => ⟨(h.ok r hr).b, (h.ok r hr).c, (h.ok r hr).t⟩⟩
 have k1 : inB v 1 aF2 = true := by rw [gD, nX]; exact ⟨h1, h2⟩
 have k2 : decide (rs.length ≤ 16) = true := by simp; omega
 have k3 : rs.all iG = true := List.all_eq_true.2 fun r hr => (h.ok r hr).ok
 simp only [eX, k, k1, k2, k3, h.ap, Bool.and_self]
theorem bN7 {q : Rq} (h : eL q = true) : q.t.length ≤ 64 := by
 have hn : eC q.t = true → q.t.length ≤ 64 := fun h => (vS h).2
 have h0 : q.t = [] → q.t.length ≤ 64 := fun h => by grind
 unfold eL at h
 grind
theorem bC0 {n : Nd} (h : bK n = true) : n.q.t.length ≤ 64 := by
 have h0 : n.q = rq0 → n.q.t.length ≤ 64 := fun h => by rw [h]; decide
 have h1 : eL n.q = true → n.q.t.length ≤ 64 := bN7
 unfold bK at h
 repeat' split at h
 all_goals simp_all [Bool.and_eq_true, uR, beq_iff_eq]
theorem zC {t : List Nd} (h : IsTree t) : ∀ n ∈ t, n.q.t.length < 2 ^ 63 := fun n hn => by have := bC0 (h.node n hn); omega
theorem bV4 {p : Po} (h : eX p = true) : PoSz p := by
 obtain ⟨_, h2, h3, h4⟩ := aA9 h
 refine ⟨by grind [vS], by omega, fun r hr => ?_, fun r hr => zC (mZ (h4 r hr)).2.1⟩
 have := (vS (mZ (h4 r hr)).2.2.1).2
 omega
theorem MadeRs.sz {rs : List Pr} (h : MadeRs 0 rs) (v : Int) : PoSz ⟨[112], v, rs⟩ := by
 have := bV4 (h.fin (v := 1) (by omega) (by omega)).1
 exact ⟨this.n, this.r, this.a, this.t⟩
end Go.Pl

namespace Go.Pl
open Go Go.Hl

end Go.Pl

namespace Go.Pl
open Go Go.Hl

theorem zD (l : List Nd) : ∀ (k p i : Nat) (h : i < (eT l k p).length), (eT l k p)[i] = bW l i p
 | 0, p, i, h => by simp [eT] at h
 | k + 1, p, 0, h => by simp [eT, bW]
 | k + 1, p, i + 1, h => by
  have h' : i < (eT l k (aft l p)).length := by simpa [eT] using h
  have := zD l k (aft l p) i h'
  simpa [eT, bW] using this
theorem bN8 {l : List Nd} (h : IsTree l) : aft l 0 = l.length := aA7 (Nat.le_refl _) (by rw [List.drop_zero, h.skip, List.drop_length])
def gZ (l : List Nd) (tr : List Bool) : List Bool := (evS (lv l) tr (l.drop 1)).take (l.getD 0 nd0).c.toNat
section
variable {l : List Nd} (h : IsTree l) (tr : List Bool) (h0 : 0 < l.length)
include h
theorem qJ : (gZ l tr).length = l[0].c.toNat := by
 have := aH6 h (tr := tr) h0
 have e : l.getD 0 nd0 = l[0] := by simp [List.getD_eq_getElem?_getD, h0]
 simp only [Nat.zero_add] at this
 rw [gZ, e, List.length_take]
 omega
theorem bN9 {i : Nat} (hi : i < l[0].c.toNat) : (gZ l tr).getD i false = kP l tr (bW l i 1) := by
 have h1 := aY5 h (tr := tr) h0 hi
 have e : l.getD 0 nd0 = l[0] := by simp [List.getD_eq_getElem?_getD, h0]
 simp only [Nat.zero_add] at h1
 rw [h1, gZ, e]
 simp only [List.getD_eq_getElem?_getD, List.getElem?_take, hi, if_true]
theorem bV5 {i : Nat} (hi : i < l[0].c.toNat) : (if i + 1 < l[0].c.toNat then bW l (i + 1) 1 else l.length) = aft l (bW l i 1) := by
 rw [← dV]
 split
 ·
  rfl
 ·
  have : i + 1 = l[0].c.toNat := by omega
  have h2 := qI h h0
  simp only [Nat.zero_add] at h2
  rw [this, h2, bN8 h]
theorem aU9 {i : Nat} (hi : i < l[0].c.toNat) : 1 ≤ bW l i 1 ∧ bW l i 1 < l.length ∧ bW l i 1 < aft l (bW l i 1) ∧ aft l (bW l i 1) ≤ l.length := by
 have h1 := gU h h0 hi
 simp only [Nat.zero_add] at h1
 have h2 := gC h h1
 refine ⟨?_, h1, h2.1, h2.2.1⟩
 have key : ∀ k, k ≤ i → 1 ≤ bW l k 1 := by
  intro k
  induction k with
  | zero => intro _; simp [bW]
  | succ k ih =>
   intro hk
   have h3 := ih (by omega)
   have h4 := gU h h0 (k := k) (by omega)
   simp only [Nat.zero_add] at h4
   have := (gC h h4).1
   rw [dV]; omega
 exact key i (Nat.le_refl _)
theorem bO0 {i : Nat} (hi : i < l[0].c.toNat) : iF ((l.take (aft l (bW l i 1))).drop (bW l i 1)) (tr.drop (min (lv (l.take (bW l i 1))) tr.length)) = (gZ l tr).getD i false := by
 obtain ⟨h1, h2, h3, h4⟩ := aU9 h h0 hi
 have h5 := (aZ5 h h2 rfl).2 tr
 rw [bN9 h tr h0 hi, ← h5, List.drop_take]
 congr 1
 rcases Nat.le_total (lv (l.take (bW l i 1))) tr.length with hl | hl
 ·
  rw [Nat.min_eq_left hl]
 ·
  rw [Nat.min_eq_right hl, List.drop_length, List.drop_of_length_le hl]
theorem bC2 {i : Nat} (hi : i < l[0].c.toNat) : iF ((l.drop (bW l i 1)).take (aft l (bW l i 1) - bW l i 1)) ((tr.drop (min (lv (l.take (bW l i 1))) tr.length)).take (tr.length - min (lv (l.take (bW l i 1))) tr.length)) = (gZ l tr).getD i false := by
 rw [← bO0 h tr h0 hi, List.drop_take, List.take_of_length_le (l := tr.drop _) (by simp)]
theorem bO1 {i : Nat} (hi : i < l[0].c.toNat) : cnt ((gZ l tr).take (i + 1)) = cnt ((gZ l tr).take i) + (if (gZ l tr).getD i false = true then 1 else 0) := by
 have hl : i < (gZ l tr).length := by rw [qJ h tr h0]; exact hi
 rw [List.take_succ_eq_append_getElem hl, aO4]
 simp only [List.getD_eq_getElem?_getD, List.getElem?_eq_getElem hl, Option.getD_some]
 cases (gZ l tr)[i] <;> rfl
theorem bC3 (hk : l[0].k = 1) : l[0].c.toNat = 0 ∧ iF l tr = tr.getD 0 false := by
 have h1 := (cU (h.node _ (List.getElem_mem h0))).2.2.1 hk
 have h2 := aO5 (tr := tr) h0 hk
 refine ⟨by omega, ?_⟩
 rw [iF, nA h, Bool.true_and]
 simpa [kP, lv] using h2
theorem aQ2 (hk : l[0].k ≠ 1) : iF l tr = if l[0].k = 2 then (cnt (gZ l tr) : Int) == (l[0].c.toNat : Int) else if l[0].k = 3 then decide ((0 : Int) < (cnt (gZ l tr) : Int)) else decide (l[0].n ≤ (cnt (gZ l tr) : Int)) := by
 have h2 := aH5 (tr := tr) h0 hk
 have e : l.getD 0 nd0 = l[0] := by simp [List.getD_eq_getElem?_getD, h0]
 have e2 : kP l tr 0 = iE l[0] (gZ l tr) := by rw [h2, gZ, e]
 have e3 : iF l tr = kP l tr 0 := by rw [iF, nA h, Bool.true_and, kP, List.drop_zero]
 have hl := qJ h tr h0
 rw [e3, e2, iE, hl]
 split
 ·
  rw [Bool.eq_iff_iff]; simp; omega
 ·
  split
  ·
   exact decide_eq_decide.2 (by omega)
  ·
   rfl
end
end Go.Pl

namespace Go.Proofs.YtlldglbooaefhaaDoor
open Go Go.Hl Go.Pl
set_option maxRecDepth 10000
set_option maxHeartbeats 16000000

theorem zE (l : List Bool) : (∀ v ∈ l.map bC, v.cells = 1) = True := eq_true fun v h => by obtain ⟨d, _, rfl⟩ := List.mem_map.1 h; rfl

theorem aK9 (a b : Nat) : (if b < a then (b : Int) else (a : Int)) = ((min a b : Nat) : Int) := by split <;> omega

theorem bC4 (L : List Int) (tr : List Bool) (htr : tr.length < 2 ^ 63) : mO Tryd.prog 5 tabs [.slc (L.map (.int .i64)), .slc (tr.map bC)] (fun v => v = .bool true) := by
 refine bP (args := [.c (.slc (L.map (.int .i64))), .c (.slc (tr.map bC))]) Tryd.func5 rfl (by kernel_rfl) (eW tabs [.slc (L.map (.int .i64)), .slc (tr.map bC)]) (Nat.le_of_ble_eq_true rfl) ?_
 unfold eF
 refine R0 ?_
 refine aC fun K hK => Rg ?_
 have F := @denilL_int
 refine SF ?_
 refine HS rfl rfl fun K' hK' => T6 ?_
 refine fZ [] (bS9 L 80) rfl trivial (by simp) (by simp) ⟨rfl, rfl, rfl, rfl⟩ (by simp [eE]) (by simp [HV.menL, HV.men]) ?_
 rintro r os' ⟨rfl, rfl⟩
 rw [bK9, bA3]
 refine AX (hK' _ _ ?_)
 clear hK' K'
 refine HS rfl rfl fun K' hK' => T6 ?_
 refine bQ (args := []) (bA5 (L.take 80) 0 (by omega)) rfl (by simp) ⟨rfl, rfl, rfl, rfl⟩ ?_
 rintro u v' ⟨T, a', rfl, rfl, hT, ha'⟩
 have hI := bS2 hT
 have hN := zC hI
 have h0 : 0 < T.length := hI.ne
 have hTl := hI.len
 have hck : oS T 0 = eT T T[0].c.toNat 1 := yQ (nA hI) h0
 refine AX (hK' _ _ ?_)
 clear hK' K'
 refine SF ?_
 refine T2 (hK _ _ _ ?_)
 clear hK K
 refine aC fun K hK => Rg ?_
 refine S0 ?_
 refine HS rfl rfl fun K' hK' => T5 ?_
 refine C2 (sX T hN 0) ?_
 rintro u rfl
 rw [hck]
 refine AX (hK' _ _ ?_)
 clear hK' K'
 refine S0 ?_
 refine T2 (hK _ _ _ ?_)
 clear hK K
 refine aC fun K hK => ?_
 obtain ⟨ks, hks⟩ : ∃ ks, ks = eT T T[0].c.toNat 1 := ⟨_, rfl⟩
 rw [← hks]
 have hkl : ks.length = T[0].c.toNat := by rw [hks, rH]
 have hkg : ∀ i (h : i < ks.length), ks[i] = bW T i 1 := by rw [hks]; exact zD T _ 1
 have hcn := cU (hI.node _ (List.getElem_mem h0))
 refine aC fun K hK => Rg ?_
 iterate 5 refine S0 ?_ (e := fun _ h_ => by simp only [sH, ↓sP, sA, tyS, simprocAttr, Int.natCast_nonneg, Int.ofNat_lt, h0, aY h0, Int.natCast_pos, Int.le_refl, Int.toNat_zero]; exact AX h_)
 refine T2 (hK _ _ _ ?_)
 clear hK K
 refine aG (b := (T[0].k == 1)) rfl (fun hb => ?_) (fun hb => ?_)
 ·
  have hk : T[0].k = 1 := by simpa using hb
  obtain ⟨hc0, hev⟩ := bC3 hI tr h0 hk
  have hk0 : ks = [] := List.eq_nil_of_length_eq_zero (by rw [hkl, hc0])
  clear hb
  subst hk0
  have hbt : CV.denilL (tr.map bC) = tr.map bC := bV (fun _ => rfl) tr
  by_cases hA : 0 < tr.length
  ·
   refine aC fun K hK => Rg ?_
   iterate 6 refine S0 ?_ (e := fun _ h_ => by simp only [sH, ↓sP, sA, tyS, simprocAttr, denilL_Nd, hbt, List.map_nil, beq_self_eq_true, Int.natCast_nonneg, Int.ofNat_lt, Int.natCast_pos, hA, aY hA, bC, Int.le_refl, Int.toNat_zero]; exact AX h_)
   refine aW (g := some (26, true)) rfl rfl fun K' hK' => ?_
   simp only [sH, ↓sP, sA, tyS, simprocAttr, denilL_Nd, hbt, List.map_nil, beq_self_eq_true, Int.natCast_nonneg, Int.ofNat_lt, Int.natCast_pos, hA, aY hA, bC, Int.le_refl, Int.toNat_zero]
   refine C2 (jT T hN tr htr) ?_
   rintro u rfl
   rw [hev, show tr.getD 0 false = tr[0] by simp [hA]]
   refine AX (hK' _ _ ?_)
   clear hK' K'
   iterate 11 refine S0 ?_ (e := fun _ h_ => by simp only [sH, ↓sP, sA, tyS, simprocAttr, denilL_Nd, hbt, List.map_nil, beq_self_eq_true, Int.natCast_nonneg, Int.ofNat_lt, Int.natCast_pos, hA, aY hA, bC, Int.le_refl, Int.toNat_zero]; exact AX h_)
   refine aW (g := some (40, true)) rfl rfl fun K' hK' => ?_
   simp only [sH, ↓sP, sA, tyS, simprocAttr, denilL_Nd, hbt, List.map_nil, beq_self_eq_true, Int.natCast_nonneg, Int.ofNat_lt, Int.natCast_pos, hA, aY hA, bC, Int.le_refl, Int.toNat_zero]
   refine cZ (args := []) 0 nG rfl (by simp) ⟨rfl, rfl, rfl, rfl⟩ ?_
   rintro u rfl
   refine AX (hK' _ _ ?_)
   clear hK' K'
   iterate 2 refine S0 ?_ (e := fun _ h_ => by simp only [sH, ↓sP, sA, tyS, simprocAttr, denilL_Nd, hbt, List.map_nil, beq_self_eq_true, Int.natCast_nonneg, Int.ofNat_lt, Int.natCast_pos, hA, aY hA, bC, Int.le_refl, Int.toNat_zero]; exact AX h_)
   refine T2 (hK _ _ _ ?_)
   clear hK K
   refine aF (RT Tryd.results5 ?_)
   exact cG [] (.bool true) rfl rfl (by simp) rfl
  refine aC fun K hK => Rg ?_
  have F := aI @denilL_Nd (aI hbt (aI @List.map_nil.{0,0} (aI @beq_self_eq_true.{0} (aI @Int.natCast_nonneg (aI @Int.ofNat_lt (aI @Int.natCast_pos hA))))))
  iterate 6 refine SF ?_
  refine aW (g := some (26, true)) rfl rfl fun K' hK' => T6 ?_
  refine C2 (jT T hN tr htr) ?_
  rintro u rfl
  rw [hev, show tr.getD 0 false = false by simp [hA]]
  refine AX (hK' _ _ ?_)
  clear hK' K'
  iterate 11 refine SF ?_
  refine aW (g := some (40, true)) rfl rfl fun K' hK' => T6 ?_
  refine cZ (args := []) 0 nG rfl (by simp) ⟨rfl, rfl, rfl, rfl⟩ ?_
  rintro u rfl
  refine AX (hK' _ _ ?_)
  clear hK' K'
  iterate 2 refine SF ?_
  refine T2 (hK _ _ _ ?_)
  clear hK K
  refine aF (RT Tryd.results5 ?_)
  exact cG [] (.bool true) rfl rfl (by simp) rfl
 refine aJ ?_
 refine T0 (hK _ _ _ ?_)
 clear hK K
 refine R0 ?_
 refine aC fun K hK => ?_
 refine R0 ?_
 refine aK ?_
 have hk1 : T[0].k ≠ 1 := by simpa using hb
 clear hb
 refine bO (α := {i : Nat // i ≤ ks.length}) (fun i => (fin [(1, .c (.slc (tr.map bC))), (5, .c (.slc (T.map Nd.cv))), (6, .c (.slc (ks.map iC))), (7, .c (.int .i64 (cnt ((gZ T tr).take i.1) : Nat))), (8, .c (.int .i64 i.1))], fob [(0, .tab tabs)])) 2000 (fun i => ks.length - i.1) ⟨0, by omega⟩ (aN (by omega) (by simp [bB, fin_at, finA_at, upd_at, HV.men, HV.menL, HV.norm, HV.toC, HV.toCL, cnt]) (by simp [bA, fob_at, upd_at, none0_at, cB, HO.men, HV.men, HV.menL, HV.norm, HV.toC, HV.toCL, cnt])) ?_
 rintro ⟨i, hi⟩
 refine aC fun K hK => ?_
 refine aC fun K hK => Rg ?_
 iterate 4 refine S0 ?_
 refine T2 (hK _ _ _ ?_)
 clear hK K
 refine aG (b := decide ((i : Int) < ks.length)) rfl (fun hb => ?_) (fun hb => ?_)
 ·
  have hlt : i < ks.length := by simpa using hb
  have hic : i < T[0].c.toNat := by omega
  clear hb
  obtain ⟨p1, p2, p3, p4⟩ := aU9 hI h0 hic
  have hend := bV5 hI h0 hic
  have hgi := hkg i hlt
  have hevi := bC2 hI tr h0 hic
  have hcn2 := bO1 hI tr h0 hic
  obtain ⟨q, hq⟩ : ∃ q, q = bW T i 1 := ⟨_, rfl⟩
  obtain ⟨e, he⟩ : ∃ e, e = aft T q := ⟨_, rfl⟩
  rw [← hq] at p1 p2 p3 p4 hend hgi hevi
  rw [← he] at p3 p4 hend hevi
  have hct : cnt ((gZ T tr).take i) ≤ 60 := by
   have h1 := bH1 ((gZ T tr).take i)
   have h2 := qJ hI tr h0
   simp only [List.length_take] at h1
   omega
  have hw1 : IntKind.i64.wrap ((i : Int) + 1) = ((i + 1 : Nat) : Int) := IntWalk.i64_in _ (by omega)
  refine aJ ?_
  refine T0 (hK _ _ _ ?_)
  clear hK K
  refine aC fun K hK => ?_
  refine aK ?_
  refine R0 ?_
  refine aC fun K hK => ?_
  have key : ∀ (m : Nat) fr ob nx, m = e → Fits 1 fr ob (fin [(1, .c (.slc (tr.map bC))), (5, .c (.slc (T.map Nd.cv))), (6, .c (.slc (ks.map iC))), (7, .c (.int .i64 (cnt ((gZ T tr).take i) : Nat))), (8, .c (.int .i64 i)), (9, .c (.int .i64 m))]) (fob [(0, .tab tabs)]) 3000 → K fr ob nx := by
   rintro m fr ob nx rfl hf
   refine hK _ _ _ (bU hf ?_)
   clear hf hK K
   refine aC fun K hK => ?_
   refine aC fun K hK => Rg ?_
   iterate 13 refine S0 ?_ (e := fun _ h_ => by simp only [sH, ↓sP, sA, tyS, simprocAttr, Int.natCast_nonneg, Int.ofNat_lt, hlt, aY hlt, iC, hgi, (show decide ((q : Int) < 1) = false by simp; omega), (show decide ((m : Int) ≤ (q : Int)) = false by simp; omega)]; exact AX h_)
   refine T2 (hK _ _ _ ?_)
   clear hK K
   refine CF rfl ?_
   refine aJ ?_
   refine T0 (hK _ _ _ ?_)
   clear hK K
   refine R0 ?_
   refine aC fun K hK => ?_
   refine R0 ?_
   refine aK ?_
   refine bO (α := {k : Nat // k ≤ q}) (fun k => (fin [(1, .c (.slc (tr.map bC))), (5, .c (.slc (T.map Nd.cv))), (6, .c (.slc (ks.map iC))), (7, .c (.int .i64 (cnt ((gZ T tr).take i) : Nat))), (8, .c (.int .i64 i)), (9, .c (.int .i64 m)), (10, .c (.int .i64 (lv (T.take k.1) : Nat))), (11, .c (.int .i64 k.1))], fob [(0, .tab tabs)])) 5000 (fun k => q - k.1) ⟨0, by omega⟩ (aN (by omega) (by simp [bB, fin_at, finA_at, upd_at, HV.men, HV.menL, HV.norm, HV.toC, HV.toCL, lv]) (by simp [bA, fob_at, upd_at, none0_at, cB, HO.men, HV.men, HV.menL, HV.norm, HV.toC, HV.toCL, lv])) ?_
   rintro ⟨k, hk⟩
   refine aC fun K hK => ?_
   refine aC fun K hK => Rg ?_
   iterate 6 refine S0 ?_ (e := fun _ h_ => by simp only [sH, ↓sP, sA, tyS, simprocAttr, Int.natCast_nonneg, Int.ofNat_lt, hlt, aY hlt, iC, hgi]; exact AX h_)
   refine T2 (hK _ _ _ ?_)
   clear hK K
   refine aG (b := decide (k < q)) rfl (fun hb => ?_) (fun hb => ?_)
   ·
    have hkq : k < q := by simpa using hb
    have hkT : k < T.length := by omega
    clear hb
    have hlk := aB0 hkT
    have hlb := vW T k
    refine aJ ?_
    refine T0 (hK _ _ _ ?_)
    clear hK K
    refine aC fun K hK => ?_
    refine aK ?_
    refine aC fun K hK => Rg ?_
    have F := aI @Int.natCast_nonneg (aI @Int.ofNat_lt (aI hkT (nM hkT)))
    iterate 6 refine SF ?_
    refine T2 (hK _ _ _ ?_)
    clear hK K
    refine aG (b := (T[k].k == 1)) rfl (fun hb => ?_) (fun hb => ?_)
    ·
     refine aL (by kernel_rfl) ?_
     refine TQ (show IntKind.i64.wrap ((lv (T.take k) : Int) + 1) = ((lv (T.take k) + 1 : Nat) : Int) from IntWalk.i64_in _ (by omega)) ?_
     refine AX (hK _ _ _ ?_)
     clear hK K
     refine aL (by kernel_rfl) ?_
     refine TQ (IntWalk.i64_in ((k : Int) + 1) (by omega)) ?_
     rw [if_pos (by simpa using hb)] at hlk
     refine ⟨⟨k + 1, hkq⟩, aN (by omega) (by simp [bB, fin_at, finA_at, upd_at, HV.men, HV.menL, HV.norm, HV.toC, HV.toCL, hlk]) (by simp [bA, fob_at, upd_at, none0_at, cB, HO.men, HV.men, HV.menL, HV.norm, HV.toC, HV.toCL, hlk]), ?_⟩
     show q - (k + 1) < q - k
     omega
    refine aJ ?_
    refine T0 (hK _ _ _ ?_)
    clear hK K
    refine aL (by kernel_rfl) ?_
    refine TQ (IntWalk.i64_in ((k : Int) + 1) (by omega)) ?_
    rw [if_neg (by simpa using hb)] at hlk
    refine ⟨⟨k + 1, hkq⟩, aN (by omega) (by simp [bB, fin_at, finA_at, upd_at, HV.men, HV.menL, HV.norm, HV.toC, HV.toCL, hlk]) (by simp [bA, fob_at, upd_at, none0_at, cB, HO.men, HV.men, HV.menL, HV.norm, HV.toC, HV.toCL, hlk]), ?_⟩
    show q - (k + 1) < q - k
    omega
   refine bD (T3 ?_)
   clear hK K
   refine AX (hK _ _ _ ?_)
   clear hK K
   have hkq : k = q := by simp at hb; omega
   subst hkq
   clear hb
   have hmk : k ≤ m := by omega
   have hmn : min (lv (T.take k)) tr.length ≤ tr.length := Nat.min_le_right _ _
   have hNs : ∀ n ∈ (T.drop k).take (m - k), n.q.t.length < 2 ^ 63 := fun n hn => hN n (List.mem_of_mem_drop (List.mem_of_mem_take hn))
   have hls : ((tr.drop (min (lv (T.take k)) tr.length)).take (tr.length - min (lv (T.take k)) tr.length)).length < 2 ^ 63 := by simp; omega
   have hbt : ∀ l : List Bool, CV.denilL (l.map bC) = l.map bC := bV (fun _ => rfl)
   refine aC fun K hK => DW [(0, [], []), (1, [], []), (2, [], []), (3, [], []), (4, [], []), (5, [], []), (6, [], []), (7, [], []), (8, [], []), (9, [], []), (10, [], []), (11, [], []), (12, [], []), (13, [], [])] [0, 0, 0, 6, 14, 0, 63, 0, 0, 0, 512, 1792, 3968, 8191] ?_
   iterate 13 refine W0 ?_ (e := fun _ h_ => by simp only [sH, ↓sP, sA, tyS, simprocAttr, yT, zE, Int.natCast_nonneg, Int.ofNat_lt, Int.ofNat_le, hlt, aY hlt, iC, hgi, hmk, p4, aK9, hmn, Int.toNat_natCast, denilL_Nd, hbt, ← List.map_drop, ← List.map_take, List.length_map, Nat.le_refl]; exact AX h_)
   refine cM (g := none) rfl rfl fun K' hK' => ?_
   simp only [sH, ↓sP, sA, tyS, simprocAttr, yT, zE, Int.natCast_nonneg, Int.ofNat_lt, Int.ofNat_le, hlt, aY hlt, iC, hgi, hmk, p4, aK9, hmn, Int.toNat_natCast, denilL_Nd, hbt, ← List.map_drop, ← List.map_take, List.length_map, Nat.le_refl]
   refine C2 (jT _ hNs _ hls) ?_
   rintro u rfl
   rw [hevi]
   refine AX (hK' _ _ ?_)
   clear hK' K'
   refine T2 (hK _ _ _ ?_)
   clear hK K
   refine aG (b := (gZ T tr).getD i false) rfl (fun hb => ?_) (fun hb => ?_)
   ·
    refine aL (by kernel_rfl) ?_
    refine TQ (show IntKind.i64.wrap ((cnt ((gZ T tr).take i) : Int) + 1) = ((cnt ((gZ T tr).take i) + 1 : Nat) : Int) from IntWalk.i64_in _ (by omega)) ?_
    refine AX (hK _ _ _ ?_)
    clear hK K
    refine aL (by kernel_rfl) ?_
    refine TQ (IntWalk.i64_in ((i : Int) + 1) (by omega)) ?_
    rw [if_pos hb] at hcn2
    refine ⟨⟨i + 1, hlt⟩, aN (by omega) (by simp [bB, fin_at, finA_at, upd_at, HV.men, HV.menL, HV.norm, HV.toC, HV.toCL, hcn2]) (by simp [bA, fob_at, upd_at, none0_at, cB, HO.men, HV.men, HV.menL, HV.norm, HV.toC, HV.toCL, hcn2]), ?_⟩
    show ks.length - (i + 1) < ks.length - i
    omega
   refine aJ ?_
   refine T0 (hK _ _ _ ?_)
   clear hK K
   refine aL (by kernel_rfl) ?_
   refine TQ (IntWalk.i64_in ((i : Int) + 1) (by omega)) ?_
   rw [if_neg (by rw [hb]; decide), Nat.add_zero] at hcn2
   refine ⟨⟨i + 1, hlt⟩, aN (by omega) (by simp [bB, fin_at, finA_at, upd_at, HV.men, HV.menL, HV.norm, HV.toC, HV.toCL, hcn2]) (by simp [bA, fob_at, upd_at, none0_at, cB, HO.men, HV.men, HV.menL, HV.norm, HV.toC, HV.toCL, hcn2]), ?_⟩
   show ks.length - (i + 1) < ks.length - i
   omega
  refine aC fun K hK => Rg ?_
  have F := hw1
  iterate 5 refine SF ?_
  refine T2 (hK _ _ _ ?_)
  clear hK K
  refine aG (b := decide (((i + 1 : Nat) : Int) < ks.length)) rfl (fun hb => ?_) (fun hb => ?_)
  ·
   have hlt2 : i + 1 < ks.length := by
    simp only [decide_eq_true_eq] at hb
    omega
   clear hb
   refine Rg ?_
   iterate 6 refine S0 ?_ (e := fun _ h_ => by simp only [sH, ↓sP, sA, tyS, simprocAttr, hw1, Int.natCast_nonneg, Int.ofNat_lt, hlt2, aY hlt2, iC]; exact AX h_)
   refine T4 ?_
   exact key ks[i + 1] _ _ _ (by rw [hkg, ← hend, if_pos (by omega)]) (fF)
  refine aJ (T3 ?_)
  exact key T.length _ _ _ (by
   simp only [decide_eq_false_iff_not] at hb
   rw [← hend, if_neg (by omega)]) (fF)
 refine bD (T3 ?_)
 clear hK K
 refine AX (hK _ _ _ ?_)
 clear hK K
 have hie : i = ks.length := by simp at hb; omega
 subst hie
 have hVl := qJ hI tr h0
 have hVt : (gZ T tr).take ks.length = gZ T tr := List.take_of_length_le (by omega)
 rw [hVt]
 have hri := aQ2 hI tr h0 hk1
 have hkc : ((ks.length : Int) == T[0].c) = true := by simp; omega
 have hkc2 : (ks.length : Int) = (T[0].c.toNat : Int) := by omega
 have hbt : CV.denilL (tr.map bC) = tr.map bC := bV (fun _ => rfl) tr
 clear hb
 refine aC fun K hK => Rg ?_
 iterate 5 refine S0 ?_
 refine T2 (hK _ _ _ ?_)
 clear hK K
 refine aC fun K hK => ?_
 refine aC fun K hK => Rg ?_
 iterate 5 refine S0 ?_ (e := fun _ h_ => by simp only [sH, ↓sP, sA, tyS, simprocAttr, Int.natCast_nonneg, Int.ofNat_lt, h0, aY h0, Int.natCast_pos, Int.le_refl, Int.toNat_zero]; exact AX h_)
 refine T2 (hK _ _ _ ?_)
 clear hK K
 refine aG (b := (T[0].k == 3)) rfl (fun hb => ?_) (fun hb => ?_)
 ·
  have h3 : T[0].k = 3 := by simpa using hb
  refine aL (by kernel_rfl) ?_
  refine T0 (hK _ _ _ ?_)
  clear hK K
  refine aC fun K hK => ?_
  refine aC fun K hK => Rg ?_
  iterate 5 refine S0 ?_ (e := fun _ h_ => by simp only [sH, ↓sP, sA, tyS, simprocAttr, Int.natCast_nonneg, Int.ofNat_lt, h0, aY h0, Int.natCast_pos, Int.le_refl, Int.toNat_zero]; exact AX h_)
  refine T2 (hK _ _ _ ?_)
  clear hK K
  refine aG (b := (T[0].k == 4)) rfl (fun hb => ?_) (fun hb => ?_)
  ·
   have h4 : T[0].k = 4 := by simpa using hb
   omega
  have h4 : T[0].k ≠ 4 := by simpa using hb
  refine aJ ?_
  refine T0 (hK _ _ _ ?_)
  clear hK K
  refine aC fun K hK => Rg ?_
  iterate 10 refine S0 ?_ (e := fun _ h_ => by simp only [sH, ↓sP, sA, tyS, simprocAttr, Int.natCast_nonneg, Int.ofNat_lt, h0, aY h0, Int.natCast_pos, Int.le_refl, Int.toNat_zero, denilL_Nd, hbt, hkc, beq_self_eq_true]; exact AX h_)
  refine aW (g := some (135, true)) rfl rfl fun K' hK' => ?_
  simp only [sH, ↓sP, sA, tyS, simprocAttr, Int.natCast_nonneg, Int.ofNat_lt, h0, aY h0, Int.natCast_pos, Int.le_refl, Int.toNat_zero, denilL_Nd, hbt, hkc, beq_self_eq_true]
  refine C2 (jT T hN tr htr) ?_
  rintro u rfl
  rw [hri, if_neg (by omega), if_pos h3]
  refine AX (hK' _ _ ?_)
  clear hK' K'
  iterate 4 refine S0 ?_ (e := fun _ h_ => by simp only [sH, ↓sP, sA, tyS, simprocAttr, Int.natCast_nonneg, Int.ofNat_lt, h0, aY h0, Int.natCast_pos, Int.le_refl, Int.toNat_zero, denilL_Nd, hbt, hkc, beq_self_eq_true]; exact AX h_)
  refine aW (g := some (142, true)) rfl rfl fun K' hK' => ?_
  simp only [sH, ↓sP, sA, tyS, simprocAttr, Int.natCast_nonneg, Int.ofNat_lt, h0, aY h0, Int.natCast_pos, Int.le_refl, Int.toNat_zero, denilL_Nd, hbt, hkc, beq_self_eq_true]
  refine cZ (args := []) 0 nG rfl (by simp) ⟨rfl, rfl, rfl, rfl⟩ ?_
  rintro u rfl
  refine AX (hK' _ _ ?_)
  clear hK' K'
  iterate 2 refine S0 ?_ (e := fun _ h_ => by simp only [sH, ↓sP, sA, tyS, simprocAttr, Int.natCast_nonneg, Int.ofNat_lt, h0, aY h0, Int.natCast_pos, Int.le_refl, Int.toNat_zero, denilL_Nd, hbt, hkc, beq_self_eq_true]; exact AX h_)
  refine T2 (hK _ _ _ ?_)
  clear hK K
  refine aF (RT Tryd.results5 ?_)
  exact cG [] (.bool true) rfl rfl (by simp) rfl
 have h3 : T[0].k ≠ 3 := by simpa using hb
 refine aJ ?_
 refine T0 (hK _ _ _ ?_)
 clear hK K
 refine aC fun K hK => ?_
 refine aC fun K hK => Rg ?_
 iterate 5 refine S0 ?_ (e := fun _ h_ => by simp only [sH, ↓sP, sA, tyS, simprocAttr, Int.natCast_nonneg, Int.ofNat_lt, h0, aY h0, Int.natCast_pos, Int.le_refl, Int.toNat_zero]; exact AX h_)
 refine T2 (hK _ _ _ ?_)
 clear hK K
 refine aG (b := (T[0].k == 4)) rfl (fun hb => ?_) (fun hb => ?_)
 ·
  have h4 : T[0].k = 4 := by simpa using hb
  refine Rg ?_
  iterate 7 refine S0 ?_ (e := fun _ h_ => by simp only [sH, ↓sP, sA, tyS, simprocAttr, Int.natCast_nonneg, Int.ofNat_lt, h0, aY h0, Int.natCast_pos, Int.le_refl, Int.toNat_zero]; exact AX h_)
  refine T2 (hK _ _ _ ?_)
  clear hK K
  refine aC fun K hK => Rg ?_
  iterate 10 refine S0 ?_ (e := fun _ h_ => by simp only [sH, ↓sP, sA, tyS, simprocAttr, Int.natCast_nonneg, Int.ofNat_lt, h0, aY h0, Int.natCast_pos, Int.le_refl, Int.toNat_zero, denilL_Nd, hbt, hkc, beq_self_eq_true]; exact AX h_)
  refine aW (g := some (135, true)) rfl rfl fun K' hK' => ?_
  simp only [sH, ↓sP, sA, tyS, simprocAttr, Int.natCast_nonneg, Int.ofNat_lt, h0, aY h0, Int.natCast_pos, Int.le_refl, Int.toNat_zero, denilL_Nd, hbt, hkc, beq_self_eq_true]
  refine C2 (jT T hN tr htr) ?_
  rintro u rfl
  rw [hri, if_neg (by omega), if_neg h3]
  refine AX (hK' _ _ ?_)
  clear hK' K'
  iterate 4 refine S0 ?_ (e := fun _ h_ => by simp only [sH, ↓sP, sA, tyS, simprocAttr, Int.natCast_nonneg, Int.ofNat_lt, h0, aY h0, Int.natCast_pos, Int.le_refl, Int.toNat_zero, denilL_Nd, hbt, hkc, beq_self_eq_true]; exact AX h_)
  refine aW (g := some (142, true)) rfl rfl fun K' hK' => ?_
  simp only [sH, ↓sP, sA, tyS, simprocAttr, Int.natCast_nonneg, Int.ofNat_lt, h0, aY h0, Int.natCast_pos, Int.le_refl, Int.toNat_zero, denilL_Nd, hbt, hkc, beq_self_eq_true]
  refine cZ (args := []) 0 nG rfl (by simp) ⟨rfl, rfl, rfl, rfl⟩ ?_
  rintro u rfl
  refine AX (hK' _ _ ?_)
  clear hK' K'
  iterate 2 refine S0 ?_ (e := fun _ h_ => by simp only [sH, ↓sP, sA, tyS, simprocAttr, Int.natCast_nonneg, Int.ofNat_lt, h0, aY h0, Int.natCast_pos, Int.le_refl, Int.toNat_zero, denilL_Nd, hbt, hkc, beq_self_eq_true]; exact AX h_)
  refine T2 (hK _ _ _ ?_)
  clear hK K
  refine aF (RT Tryd.results5 ?_)
  exact cG [] (.bool true) rfl rfl (by simp) rfl
 have h4 : T[0].k ≠ 4 := by simpa using hb
 refine aJ ?_
 refine T0 (hK _ _ _ ?_)
 clear hK K
 refine aC fun K hK => Rg ?_
 iterate 10 refine S0 ?_ (e := fun _ h_ => by simp only [sH, ↓sP, sA, tyS, simprocAttr, Int.natCast_nonneg, Int.ofNat_lt, h0, aY h0, Int.natCast_pos, Int.le_refl, Int.toNat_zero, denilL_Nd, hbt, hkc, beq_self_eq_true]; exact AX h_)
 refine aW (g := some (135, true)) rfl rfl fun K' hK' => ?_
 simp only [sH, ↓sP, sA, tyS, simprocAttr, Int.natCast_nonneg, Int.ofNat_lt, h0, aY h0, Int.natCast_pos, Int.le_refl, Int.toNat_zero, denilL_Nd, hbt, hkc, beq_self_eq_true]
 refine C2 (jT T hN tr htr) ?_
 rintro u rfl
 rw [hri, if_pos (by
  have h2 := aU4 (hI.node _ (List.getElem_mem h0)) hk1
  apply Classical.byContradiction
  exact fun h => h4 (h2 h h3)), hkc2]
 refine AX (hK' _ _ ?_)
 clear hK' K'
 iterate 4 refine S0 ?_ (e := fun _ h_ => by simp only [sH, ↓sP, sA, tyS, simprocAttr, Int.natCast_nonneg, Int.ofNat_lt, h0, aY h0, Int.natCast_pos, Int.le_refl, Int.toNat_zero, denilL_Nd, hbt, hkc, beq_self_eq_true]; exact AX h_)
 refine aW (g := some (142, true)) rfl rfl fun K' hK' => ?_
 simp only [sH, ↓sP, sA, tyS, simprocAttr, Int.natCast_nonneg, Int.ofNat_lt, h0, aY h0, Int.natCast_pos, Int.le_refl, Int.toNat_zero, denilL_Nd, hbt, hkc, beq_self_eq_true]
 refine cZ (args := []) 0 nG rfl (by simp) ⟨rfl, rfl, rfl, rfl⟩ ?_
 rintro u rfl
 refine AX (hK' _ _ ?_)
 clear hK' K'
 iterate 2 refine S0 ?_ (e := fun _ h_ => by simp only [sH, ↓sP, sA, tyS, simprocAttr, Int.natCast_nonneg, Int.ofNat_lt, h0, aY h0, Int.natCast_pos, Int.le_refl, Int.toNat_zero, denilL_Nd, hbt, hkc, beq_self_eq_true]; exact AX h_)
 refine T2 (hK _ _ _ ?_)
 clear hK K
 refine aF (RT Tryd.results5 ?_)
 exact cG [] (.bool true) rfl rfl (by simp) rfl

end Go.Proofs.YtlldglbooaefhaaDoor

namespace Go.Proofs.YtlldglbooaefhaaDoor
open Go Go.Hl Go.Pl
set_option linter.unusedVariables false
set_option maxRecDepth 100000

theorem wW {W : World} (h : laidMetH Tryd.prog Rows.policyPartsRow.laid W) : Lib.TabIs Tryd.prog W "internal/strconv.uint64pow10" .u64 Lib.pow10Tab := by
  rw [MakeChecks.laidMetH_plain _ _ _ (by kernel_rfl)] at h
  have h2 := laidMet.filter (fun x => x.1 == "internal/strconv.uint64pow10") h
  have e : (Rows.policyPartsRow.laid.filter fun x => x.1 == "internal/strconv.uint64pow10") = [("internal/strconv.uint64pow10", Lib.tabData .u64 Lib.pow10Tab)] := by kernel_rfl
  rw [e] at h2
  exact Lib.tabIs_of_head aB9 (by kernel_rfl) Tryd.underlying141 Tryd.underlying124 (by kernel_rfl) (by kernel_rfl) h2

theorem nH (H : Type) (enc : TypeId × Value → H) (W : World) (args : Array Value) (ds gs : List (DataW H)) (before : List MemPlace)
    (hL : laidMetH Tryd.prog Rows.policyPartsRow.laid W)
    (hval : ∀ (j : Nat) t v, Tryd.f5.params[j]? = some t → args[j]? = some v → Value.okWide Tryd.prog W .any 0 t v)
    (hW : DataW.Whole enc Tryd.prog Tryd.f5.params.toList Rows.policyPartsSpec.vars false W args.toList ds gs before) :
    Calls Tryd.prog 5 args W fun e W' => ∃ v, e = .returned v ∧ Rows.policyPartsSpec.post enc Tryd.prog Tryd.f5 false true false false W args v W' := by
  refine aX6 (mm := 6) (tb := 4) (tabs := tabs) (by kernel_rfl) kids aP3 rfl (by kernel_rfl) Tryd.underlying4 ?_ ?_ ?_ ?_ (fun j t v h1 h2 => ?_) hW
  · rw [Tryd.params5]
    intro H ds h
    match ds, h with
    | [c0, c1], _ => exact ⟨rfl, rfl, rfl⟩
  · rw [Tryd.params5]
    intro t ht
    simp only [List.mem_cons, List.not_mem_nil, or_false] at ht
    rcases ht with rfl | rfl
    · exact ⟨by kernel_rfl, of_decide_eq_true (by kernel_rfl)⟩
    · exact ⟨by kernel_rfl, of_decide_eq_true (by kernel_rfl)⟩
  · rw [Tryd.params5]
    intro cs hn hty
    match cs, hn, hty with
    | [c0, c1], _, hty =>
      obtain ⟨L, rfl, hw, hl⟩ := bS7 (hty 0 _ c0 rfl rfl)
      obtain ⟨tr, rfl, h1⟩ := bK8 (hty 1 _ c1 rfl rfl)
      unfold maxLen at h1
      exact bC4 L tr (by omega)
  · intro x hx
    simp only [tabs, List.mem_cons, List.not_mem_nil, or_false] at hx
    rcases hx with rfl
    · exact wN aB9 (wW hL)
  · exact hval j t v h1 h2

open Go.ChangeShapes Go.WideShapes Go.ChangeAt Go.RowKit in
set_option maxRecDepth 100000 in
theorem pD (os : Os) (started : os.Started) (H : Type) (enc : TypeId × Value → H) :
    ReturnsInHanded {} Tryd.checked os 5 .any (fun w args => (Rows.policyPartsSpec.pre enc Tryd.prog Tryd.f5 [] false w args ∧ laidMetH Tryd.prog Rows.policyPartsRow.laid w) ∧ sizedMet enc Tryd.prog Tryd.f5 (OpenSpec.ofChange Rows.policyPartsSpec) false w args)
      (Rows.policyPartsSpec.post enc Tryd.prog Tryd.f5 false true false false) := by
  refine returnsInHanded_of_change_and (C := Tryd.checked) (X := fun w _ => laidMetH Tryd.prog Rows.policyPartsRow.laid w) (fun _ _ _ hh h => h.of_heap hh) own started (by kernel_rfl) Tryd.func5
    (ChangeSpec.witness_shaped (enc := enc) (C := Tryd.checked) (os := os) (X := fun w _ => laidMetH Tryd.prog Rows.policyPartsRow.laid w) false (World.laidAll Tryd.prog os Rows.policyPartsRow.laid) #[.slice none 0 0, .slice none 0 0] 8 (World.laidAll_os _ _ _)
      (World.shaped_of_ZipB (by kernel_rfl) (by kernel_rfl)) (by kernel_rfl) (by kernel_rfl) (by kernel_rfl)
      (by rw [MakeChecks.laidMetH_plain _ _ _ (by kernel_rfl)]; exact laidMet_laidAll _ (by kernel_rfl) (by kernel_rfl))) ?_
  intro W base args ds gs before hval hW _ _ hL _
  exact nH H enc W args ds gs before hL (fun j t v h1 h2 => (hval j t v h1 h2)) hW

theorem tG : Rows.PolicyPartsSaid :=
  OpenClaim.holds_of_wide 5 Tryd.f5 rfl rfl rfl rfl rfl rfl rfl ⟨rfl, rfl, rfl, rfl, rfl⟩ rfl rfl rfl rfl rfl (by kernel_rfl) Tryd.func5 (by kernel_rfl)
    (of_decide_eq_true (by kernel_rfl)) (by unfold Func.isWrapper; first | (rw [if_pos (by decide +kernel)]; kernel_rfl) | (rw [if_neg (by decide +kernel)]; exact ⟨rfl, rfl⟩))
    (fun os started H enc _ => pD os started H enc)

theorem policyParts_said : Rows.PolicyPartsCardSaid :=
  Claim7.holds_tied_plain_at .later [] [.data, .data, .data, .data, .pinned] true (true, "15be7892ca1104b8b28cd8daee4937f8eb40532bd8673a52f437445d00da4649") false tG (fun _ h => by cases h) (by kernel_rfl) (fun _ h => by cases h) policyParts_row_tie rfl ⟨rfl, rfl⟩ (by kernel_rfl) rfl
    (fun f fn hf hfn => by
      obtain rfl : f = 5 := Option.some.inj ((show Tryd.prog.funcNamed "admission/admissionlaw28.PolicyParts" = some 5 by kernel_rfl).symm.trans hf) |>.symm
      obtain rfl : fn = Tryd.f5 := (Option.some.inj (Tryd.func5.symm.trans hfn)).symm
      exact ⟨by kernel_rfl, fun j t ht => by
        rw [Tryd.params5] at ht
        have hm : t ∈ [22, 38] := by simpa using Array.mem_of_getElem? ht
        have hall : ([22, 38].all fun u => !Tryd.prog.wantsStandIn u) = true := by kernel_rfl
        exact (show Tryd.prog.wantsStandIn t = false by simpa using List.all_eq_true.1 hall t hm)⟩)
    (by kernel_rfl)
#print axioms policyParts_said
end Go.Proofs.YtlldglbooaefhaaDoor
