/- PolicyRound: for any tape of numbers the law returns true and leaves it as it was: Decode of Encode returns the policy. The listed tables of the library are tied to the program's text by the card. By an AI agent. -/
import Derived.Test.YtlldglbooaefhaaDoorHvV1
import Derived.Test.YtlldglbooaefhaaDoorPl28s
import Derived.Test.YtlldglbooaefhaaDoorHlCl
import Derived.Test.YtlldglbooaefhaaDoorHvTp
import Derived.Test.YtlldglbooaefhaaDoorHvUd
import Derived.Test.YtlldglbooaefhaaDoorHlIt
import Derived.Test.YtlldglbooaefhaaDoorHvTd
import Derived.Test.YtlldglbooaefhaaDoorPl03e
import Derived.Test.YtlldglbooaefhaaDoorHvV3
import Derived.Lay
import Derived.SevenTiedAt
import Derived.Test.YtlldglbooaefhaaDoorRows
import Derived.Test.YtlldglbooaefhaaDoorCards
import Derived.Test.YtlldglbooaefhaaDoorTie
set_option linter.unusedSimpArgs false
set_option linter.unusedVariables false
set_option linter.defProp false
namespace Go.Proofs.YtlldglbooaefhaaDoor
open Go Go.Hl Go.Pl
set_option maxRecDepth 10000
set_option maxHeartbeats 16000000

theorem bV6 (b : aE) : LsB (eV b) := fun l hl w hw => by
 have := (bR7 (b := b) l hl).2.2 w hw
 omega

theorem bC5 (a b : aE) : cE Tryd.prog 24 [.slc (a.map dW), .slc (b.map dW)] (fun v => v = .bool (a == b)) := by
 refine FW Tryd.func24 ?_
 refine R0 ?_
 refine aC fun K hK => Rg ?_
 have F := @bytesC_map
 iterate 6 refine SF ?_
 refine T2 (hK _ _ _ ?_)
 clear hK K
 refine aF (RT Tryd.results24 ?_)
 exact aL [] (.bool (a == b)) rfl rfl


theorem aV3 (b : aE) (hl : b.length < 2 ^ 40) : aV2 Tryd.prog 9 tabs [.slc (b.map u8)] (fun u v x => u = (dpO b).cv ∧ v = .int .i64 (dpL b : Nat) ∧ x = .int .i64 (dpE b)) := by
 refine bP (args := [.c (.slc (b.map u8))]) Tryd.func9 rfl (by kernel_rfl) (fD tabs [.slc (b.map u8)]) (Nat.le_of_ble_eq_true rfl) ?_
 unfold eH
 have hlen := bI4 (b := b)
 refine R0 ?_
 refine aC fun K hK => Rg ?_
 have F := @denilL_u8
 refine SF ?_
 refine HS rfl rfl fun K' hK' => T6 ?_
 refine D1 (cA3 b hl) ?_
 rintro u v ⟨rfl, rfl⟩
 refine AX (hK' _ _ ?_)
 clear hK' K'
 iterate 5 refine SF ?_
 refine T2 (hK _ _ _ ?_)
 clear hK K
 refine aC fun K hK => ?_
 refine R0 ?_
 refine aG (b := !(gQ b == 0)) rfl (fun hb => ?_) (fun hb => ?_)
 ·
  have he : gQ b ≠ 0 := by simpa using hb
  have e1 : dpE b = gQ b := by rw [dpE, if_pos he]
  have e2 : dpL b = 0 := by rw [dpL, if_pos he]
  have e3 : dpO b = po0 := by rw [dpO, e1, if_neg he]
  clear hb
  refine aC fun K hK => Rg ?_
  iterate 5 refine S0 ?_
  refine T2 (hK _ _ _ ?_)
  clear hK K
  refine aF (RT Tryd.results9 ?_)
  exact iH [] po0.cv (.int .i64 0) (.int .i64 (gQ b)) (by simp [HV.close, HV.closeL, po0, Po.cv, CV.denil, CV.denilL, HV.norm, HV.toC, HV.toCL]) rfl (by simp) (by rw [e1, e2, e3]; exact ⟨rfl, rfl, rfl⟩)
 refine aJ ?_
 refine T0 (hK _ _ _ ?_)
 clear hK K
 have he : gQ b = 0 := by simpa using hb
 clear hb
 refine aC fun K hK => Rg ?_
 iterate 4 refine S0 ?_
 refine T2 (hK _ _ _ ?_)
 clear hK K
 refine aC fun K hK => Rg ?_
 refine S0 ?_
 refine HS rfl rfl fun K' hK' => T5 ?_
 refine dO (args := []) (bN5 (eV b) (by omega)) rfl (by simp) ⟨rfl, rfl, rfl, rfl⟩ ?_
 rintro u x v' ⟨q, rfl, rfl, rfl, hq⟩
 refine AX (hK' _ _ ?_)
 clear hK' K'
 iterate 5 refine S0 ?_
 refine T2 (hK _ _ _ ?_)
 clear hK K
 refine aC fun K hK => ?_
 refine R0 ?_
 refine aG (b := !(rdP (eV b)).1.isSome) rfl (fun hb => ?_) (fun hb => ?_)
 ·
  have hno : (rdP (eV b)).1 = none := by simpa using hb
  have e1 : dpE b = 2 := by rw [dpE, if_neg (by simpa using he), hno]
  have e2 : dpL b = (eV b).length - (rdP (eV b)).2.length := by
   rw [dpL, if_neg (by simpa using he)]
   match h : rdP (eV b) with
   | (none, r) => rfl
   | (some p, r) => rw [h] at hno; cases hno
  have e3 : dpO b = po0 := by rw [dpO, e1, if_neg (by decide)]
  clear hb
  refine aC fun K hK => DW [(0, [], []), (1, [], []), (2, [], []), (3, [], []), (4, [], []), (5, [], [1, 2, 3, 4]), (6, [], []), (7, [], [])] [0, 0, 2, 6, 14, 1, 63, 127] ?_
  iterate 8 refine W0 ?_ (e := fun _ h_ => by simp only [sH, ↓sP, sA, tyS, simprocAttr, rdr]; exact AX h_)
  refine T2 (hK _ _ _ ?_)
  clear hK K
  refine aF (RT Tryd.results9 ?_)
  exact iH [] po0.cv (.int .i64 ((eV b).length - (rdP (eV b)).2.length : Nat)) (.int .i64 2) (by simp [HV.close, HV.closeL, po0, Po.cv, CV.denil, CV.denilL, HV.norm, HV.toC, HV.toCL]) rfl (by simp) (by rw [e1, e2, e3]; exact ⟨rfl, rfl, rfl⟩)
 refine aJ ?_
 refine T0 (hK _ _ _ ?_)
 clear hK K
 refine aC fun K hK => ?_
 obtain ⟨p, hp⟩ : ∃ p, (rdP (eV b)).1 = some p := by
  cases h : (rdP (eV b)).1 with
  | none => rw [h] at hb; simp at hb
  | some p => exact ⟨p, rfl⟩
 obtain rfl := hq p hp
 have hsz := cF4 (bV6 b) (by omega) hp
 have hr : rdP (eV b) = (some q, (rdP (eV b)).2) := Prod.ext hp rfl
 have hiff := bZ2 he hr
 have e1 : dpE b = if fE q then 0 else 1 := by rw [dpE, if_neg (by simpa using he), hp]
 have e2 : dpL b = 0 := by rw [dpL, if_neg (by simpa using he), hr]
 clear hb
 refine aC fun K hK => Rg ?_
 refine S0 ?_
 refine HS rfl rfl fun K' hK' => T5 ?_
 refine mS (args := [_]) 0 (aC3 q hsz) rfl (by simp) ⟨rfl, rfl, rfl, rfl⟩ ?_
 rintro u v ⟨rfl, rfl⟩
 refine AX (hK' _ _ ?_)
 clear hK' K'
 iterate 5 refine S0 ?_
 refine T2 (hK _ _ _ ?_)
 clear hK K
 refine aC fun K hK => Rg ?_
 have F := aI @dR @denilL_u8
 iterate 3 refine SF ?_
 refine aH 40 rfl (fun h9_40 => ?_) (fun h9_40 => ?_)
 ·
  have F := aI @dR (aI @denilL_u8 h9_40)
  iterate 5 refine SF ?_
  refine T2 (hK _ _ _ ?_)
  clear hK K
  refine CT rfl ?_
  refine aC fun K hK => Rg ?_
  have F := h9_40
  iterate 4 refine SF ?_
  refine T2 (hK _ _ _ ?_)
  clear hK K
  refine aF (RT Tryd.results9 ?_)
  have hpo : fE q = false := by
   cases h : fE q with
   | false => rfl
   | true => exact absurd (hiff.2 h).1 (by simpa using h9_40)
  rw [hpo] at e1
  have e1 : dpE b = 1 := e1
  have e3 : dpO b = po0 := by rw [dpO, e1, if_neg (by decide)]
  exact iH [] po0.cv (.int .i64 0) (.int .i64 1) (by simp [HV.close, HV.closeL, po0, Po.cv, CV.denil, CV.denilL, HV.norm, HV.toC, HV.toCL]) rfl (by simp) (by rw [e1, e2, e3]; exact ⟨rfl, rfl, rfl⟩)
 have F := aI @dR (aI @denilL_u8 h9_40)
 iterate 2 refine SF ?_
 refine aY (g := some (41, false)) rfl rfl fun K' hK' => T6 ?_
 refine C2 (bC5 (lQ q) b) ?_
 rintro u rfl
 refine AX (hK' _ _ ?_)
 clear hK' K'
 iterate 2 refine SF ?_
 refine aH 44 rfl (fun h9_44 => ?_) (fun h9_44 => ?_)
 ·
  simp only [h9_44]
  refine T2 (hK _ _ _ ?_)
  clear hK K
  refine CF rfl ?_
  refine aJ ?_
  refine T0 (hK _ _ _ ?_)
  clear hK K
  refine aC fun K hK => Rg ?_
  have F := aI h9_40 h9_44
  iterate 4 refine SF ?_
  refine T2 (hK _ _ _ ?_)
  clear hK K
  refine aF (RT Tryd.results9 ?_)
  have hpo : fE q = true := hiff.1 ⟨by simpa using h9_40, by simpa using h9_44⟩
  rw [hpo] at e1
  have e1 : dpE b = 0 := e1
  have e3 : dpO b = q := by rw [dpO, if_pos e1, hp]; rfl
  exact iH [] q.cv (.int .i64 0) (.int .i64 0) (by simp [HV.close, HV.closeL, Po.denil, CV.denil, CV.denilL, HV.norm, HV.toC, HV.toCL]) rfl (by simp) (by rw [e1, e2, e3]; exact ⟨rfl, rfl, rfl⟩)
 simp only [h9_44]
 refine T2 (hK _ _ _ ?_)
 clear hK K
 refine CT rfl ?_
 refine aC fun K hK => Rg ?_
 have F := aI h9_40 h9_44
 iterate 4 refine SF ?_
 refine T2 (hK _ _ _ ?_)
 clear hK K
 refine aF (RT Tryd.results9 ?_)
 have hpo : fE q = false := by
  cases h : fE q with
  | false => rfl
  | true => exact absurd (hiff.2 h).2 (by simpa using h9_44)
 rw [hpo] at e1
 have e1 : dpE b = 1 := e1
 have e3 : dpO b = po0 := by rw [dpO, e1, if_neg (by decide)]
 exact iH [] po0.cv (.int .i64 0) (.int .i64 1) (by simp [HV.close, HV.closeL, po0, Po.cv, CV.denil, CV.denilL, HV.norm, HV.toC, HV.toCL]) rfl (by simp) (by rw [e1, e2, e3]; exact ⟨rfl, rfl, rfl⟩)

end Go.Proofs.YtlldglbooaefhaaDoor

namespace Go.Proofs.YtlldglbooaefhaaDoor
open Go Go.Hl Go.Pl
set_option maxRecDepth 10000
set_option maxHeartbeats 16000000

theorem bC6 (l : List Nd) (hl : l.length < 2 ^ 40) : aA8 Tryd.prog 52 [(39, .slc (l.map Nd.cv))] (bwL l) := by
 refine yE Tryd.func52 rfl (by kernel_rfl) (Nat.le_of_ble_eq_true rfl) rfl fun L J hS hY => ?_
 have e0 : jL [(39, CV.slc (l.map Nd.cv))] = fob [(0, .box 39 (.c (.slc (l.map Nd.cv))))] := by
  funext i
  match i with
  | 0 => rfl
  | i + 1 => simp [jL, fob, upd]
 have e1 : gI (List.range [((39 : Nat), CV.slc (l.map Nd.cv))].length) = [.ptr 0 0] := rfl
 rw [e0, e1]
 refine eO fun K hK => mT hS rfl (aM (by kernel_rfl) ?_)
 simp only [sR, simprocAttr]
 iterate 4 refine S0 ?_ (e := fun _ h_ => by simp only [sH, ↓sP, sA, tyS, simprocAttr, rI, cY ((l.length : Int) - 1) (by omega), List.length_map]; exact AX h_)
 simp only [sE, ↓reduceIte, simprocAttr, rI]
 refine hK _ _ _ _ _ ?_
 clear hK K
 refine nW ?_
 refine aH2 (α := {j : Nat // j ≤ l.length}) hS (fun j => (fin [(0, .opq (.func (.yield L) #[] #[])), (1, .ptr 0 0), (3, .c (.int .i64 ((l.length : Int) - 1 - j.1)))], fob [(0, .box 39 (.c (.slc (l.map Nd.cv))))])) (fun j => j.1) 100 (fun j => l.length - j.1) ⟨0, Nat.zero_le _⟩ rfl (fF) rfl ?_
 rintro ⟨j, hj⟩
 refine eO fun K hK => ?_
 refine eO fun K1 hK1 => mT hS rfl (aM (by kernel_rfl) ?_)
 simp only [sR, simprocAttr]
 have F := rI
 iterate 2 refine SF ?_
 simp only [sE, ↓reduceIte, simprocAttr, rI]
 refine hK1 _ _ _ _ _ ?_
 clear hK1 K1
 refine jD (b := decide ((0 : Int) ≤ (l.length : Int) - 1 - j)) rfl (fun hb => ?_) (fun hb => ?_)
 ·
  have hlt : j < l.length := by simp at hb; omega
  have hi2 : l.length - 1 - j < l.length := by omega
  have hxl : j < (bwL l).length := by rw [qE]; exact hlt
  have hx := bK7 hxl hi2
  have hcast : (l.length : Int) - 1 - j = ((l.length - 1 - j : Nat) : Int) := by omega
  have hw1 : IntKind.i64.wrap (((l.length - 1 - j : Nat) : Int) - 1) = (l.length : Int) - 1 - ((j : Int) + 1) := by rw [cY _ (by omega)]; omega
  refine mU ?_
  simp only [sE, ↓reduceIte, simprocAttr, rI]
  refine hK _ _ _ _ _ ?_
  clear hK K
  refine eO fun K hK => ?_
  refine nW ?_
  refine eO fun K1 hK1 => qZ (l := L) 6 hS hY rfl (by kernel_rfl) (by decide) ?_
  simp only [sR, List.range', simprocAttr]
  have F := aI rI (aI hcast (aI @List.length_map.{0,0} (aI @Int.natCast_nonneg (aI @Int.ofNat_lt (aI hi2 (nM hi2))))))
  iterate 6 refine SF ?_
  rw [hlex]
  refine ⟨_, _, _, hxl, rfl, rfl, rfl, rfl, rfl, ?_, ?_, ?_⟩
  ·
   rw [hx]; simp only [hcast]; rfl
  ·
   simp only [sR, List.range', simprocAttr]
   have F := rI
   refine SF ?_
   simp only [sE, ↓reduceIte, simprocAttr, rI]
   refine hK1 _ _ _ _ _ ?_
   clear hK1 K1
   refine jD (b := false) rfl (fun hb => by cases hb) (fun _ => ?_)
   refine mU ?_
   simp only [sE, ↓reduceIte, simprocAttr, rI]
   refine hK _ _ _ _ _ ?_
   clear hK K
   refine mT hS rfl (aM (by kernel_rfl) ?_)
   simp only [sR, simprocAttr]
   have F := aI rI (aI hcast hw1)
   iterate 3 refine SF ?_
   simp only [sE, ↓reduceIte, simprocAttr, rI]
   refine ⟨⟨j + 1, hlt⟩, fF, trivial, rfl, ?_⟩
   show l.length - (j + 1) < l.length - j
   omega
  simp only [sR, List.range', simprocAttr]
  have F := rI
  refine SF ?_
  simp only [sE, ↓reduceIte, simprocAttr, rI]
  refine hK1 _ _ _ _ _ ?_
  clear hK1 K1
  refine jD (b := true) rfl (fun _ => ?_) (fun hb => by cases hb)
  refine aS5 ?_
  simp only [sE, ↓reduceIte, simprocAttr, rI]
  exact ⟨by simp, fun h => by cases h⟩
 have hji : j = l.length := by simp at hb; omega
 refine aH1 ?_
 simp only [sE, ↓reduceIte, simprocAttr, rI]
 exact ⟨by simp, fun _ => by rw [qE]; exact hji⟩
end Go.Proofs.YtlldglbooaefhaaDoor

namespace Go.Proofs.YtlldglbooaefhaaDoor
open Go Go.Hl Go.Pl
set_option maxRecDepth 10000
set_option maxHeartbeats 16000000

theorem bV7 (l : List Nd) : aS6 Tryd.prog 30 52 [.slc (l.map Nd.cv)] [(39, .slc (l.map Nd.cv))] := by
 refine FW Tryd.func30 ?_
 refine R0 ?_
 refine R0 ?_
 refine aF (RT Tryd.results30 ?_)
 refine rB (gf := 52) (bs := [(39, .slc (l.map Nd.cv))]) (ids := [0]) rfl (by simp) (by decide) ?_ ?_
 ·
  intro j x hx
  match j, hx with
  | 0, hx => cases hx; rfl
 intro x hx
 simp only [List.mem_cons, List.not_mem_nil, or_false] at hx
 subst hx
 exact congrArg CV.slc (denilL_Nd l)


theorem aL0 (n : Nd) (L : List Bool) (lo m : Nat) (hl : L.length < 2 ^ 40) (h0 : 0 < L.length) (hlo : lo ≤ m) (hm : m ≤ L.length) :
  HGe Tryd.prog 31 [.c n.cv, .osl 0 L.length lo 1 m] [.row 4 1 (L.map bC)] (fun r os' => r = .c (.bool (kP n ((L.drop lo).take (m - lo)))) ∧ os' = [.row 4 1 (L.map bC)]) := by
 obtain ⟨V, hV⟩ : ∃ V, V = (L.drop lo).take (m - lo) := ⟨_, rfl⟩
 have hVl : V.length = m - lo := by rw [hV]; simp; omega
 rw [← hV]
 have hrd : List.take (m - lo) (List.drop lo (L.map bC)) = V.map bC := by rw [hV, List.map_take, List.map_drop]
 refine bP (args := [.c n.cv, .osl 0 L.length lo 1 m]) Tryd.func31 rfl (by kernel_rfl) (eW rfl (by simp [dZ, HO.men]) (by simp [HV.menL, HV.men])) (Nat.le_of_ble_eq_true rfl) ?_
 have e0 : lst [.row 4 1 (L.map bC)] = fob [(0, .row 4 1 (L.map bC))] := by
  funext i
  match i with
  | 0 => rfl
  | i + 1 => simp [lst, fob, upd]
 show Hw _ _ 1 _ _ _ (lst _) 1
 rw [e0]
 refine R0 ?_
 refine R0 ?_
 refine aC fun K hK => ?_
 refine R0 ?_ (e := fun _ h_ => by simp only [↓sP, sA, tyS, simprocAttr, hrd, List.length_map, h0, hlo, hm]; exact AX h_)
 refine aK ?_
 refine bM (α := {i : Nat // i ≤ V.length}) (fun i => (fin [(1, .osl 0 L.length lo 1 m), (2, .ptr 1 0), (5, .c (.int .i64 (cnt (V.take i.1) : Nat))), (8, .osl 0 L.length lo 1 m), (9, .c (.int .i64 V.length)), (10, .c (.int .i64 i.1))], fob [(0, .row 4 1 (L.map bC)), (1, .box 48 (.c n.cv))])) 100 (fun i => V.length - i.1) ⟨0, by omega⟩ (aO (by omega) (by simp [bB, fin_at, finA_at, upd_at, HV.men, HV.menL, HV.norm, HV.toC, HV.toCL, cnt]) (by simp [aZ, fob_at, upd_at, none0_at, bZ, HO.men, HV.men, HV.menL, HV.norm, HV.toC, HV.toCL, cnt])) ?_
 rintro ⟨i, hi⟩
 have hcn : cnt (V.take i) ≤ i := by have := bZ0 (V.take i); simp at this; omega
 refine R0 ?_
 refine aC fun K hK => ?_
 refine aG (b := decide ((i : Int) < V.length)) rfl (fun hb => ?_) (fun hb => ?_)
 ·
  have hlt : i < V.length := by simpa using hb
  have hct := oJ (l := V) (k := i) hlt
  have hw3 : IntKind.i64.wrap ((cnt (V.take i) : Int) + 1) = ((cnt (V.take i) + 1 : Nat) : Int) := by rw [cY _ (by omega)]; rfl
  have hli : lo + i < L.length := by omega
  have hvi : L[lo + i] = V[i] := by simp [hV]
  have hli2 : lo + i < (L.map bC).length := by simpa using hli
  have hml : i < m - lo := by omega
  clear hb
  refine aJ ?_
  refine T0 (hK _ _ _ ?_)
  clear hK K
  refine aC fun K hK => ?_
  refine aK ?_
  refine R0 ?_ (e := fun _ h_ => by simp only [↓sP, sA, tyS, simprocAttr, List.length_map, Int.natCast_nonneg, Int.ofNat_lt, h0, hm, hml, hli, bY hli, bC]; exact AX h_)
  refine R0 ?_
  refine aG (b := L[lo + i]) rfl (fun hb => ?_) (fun hb => ?_)
  ·
   rw [hvi] at hb
   rw [if_pos (by simpa [hlt] using hb)] at hct
   refine aM (by kernel_rfl) ?_
   refine TQ hw3 ?_
   refine AX (hK _ _ _ ?_)
   clear hK K
   refine aM (by kernel_rfl) ?_
   simp only [↓sP, sA, tyS, simprocAttr, cY ((i : Int) + 1) (by omega)]
   refine ⟨⟨i + 1, hlt⟩, aO (by omega) (by simp [bB, fin_at, finA_at, upd_at, HV.men, HV.menL, HV.norm, HV.toC, HV.toCL, hct]) (by simp [aZ, fob_at, upd_at, none0_at, bZ, HO.men, HV.men, HV.menL, HV.norm, HV.toC, HV.toCL, hct]), ?_⟩
   show V.length - (i + 1) < V.length - i
   omega
  rw [hvi] at hb
  rw [if_neg (by simp [hlt, hb])] at hct
  refine aJ ?_
  refine T0 (hK _ _ _ ?_)
  clear hK K
  refine aM (by kernel_rfl) ?_
  simp only [↓sP, sA, tyS, simprocAttr, cY ((i : Int) + 1) (by omega)]
  refine ⟨⟨i + 1, hlt⟩, aO (by omega) (by simp [bB, fin_at, finA_at, upd_at, HV.men, HV.menL, HV.norm, HV.toC, HV.toCL, hct]) (by simp [aZ, fob_at, upd_at, none0_at, bZ, HO.men, HV.men, HV.menL, HV.norm, HV.toC, HV.toCL, hct]), ?_⟩
  show V.length - (i + 1) < V.length - i
  omega
 refine bA (T3 ?_)
 clear hK K
 refine AX (hK _ _ _ ?_)
 clear hK K
 refine aC fun K hK => ?_
 have hei : i = V.length := by simp only [decide_eq_false_iff_not] at hb; omega
 subst hei
 rw [List.take_length] at hcn ⊢
 clear hb
 refine R0 ?_
 refine aK ?_
 refine R0 ?_
 refine aG (b := (n.k == 2)) rfl (fun hb => ?_) (fun hb => ?_)
 ·
  refine aC fun K hK => Rg ?_
  iterate 5 refine S0 ?_ (e := fun _ h_ => by simp only [sH, ↓sP, sA, tyS, simprocAttr, hrd, List.length_map, h0, hlo, hm]; exact AX h_)
  refine T2 (hK _ _ _ ?_)
  clear hK K
  refine aF (RT Tryd.results31 ?_)
  have h2 : n.k = 2 := by simpa using hb
  exact dY [] [] (.c (.bool ((cnt V : Int) == V.length))) [.row 4 1 (L.map bC)] rfl (by simp [HV.men]) ⟨⟨trivial, by simp, _, rfl, rfl⟩, trivial⟩ rfl List.nodup_nil (by simp) (by simp) ⟨by rw [kP, if_pos h2]; congr 2; rw [Bool.eq_iff_iff]; simp; omega, rfl⟩
 have h2 : n.k ≠ 2 := by simpa using hb
 refine R0 ?_
 refine aG (b := (n.k == 3)) rfl (fun hb => ?_) (fun hb => ?_)
 ·
  refine R0 ?_
  refine aF (RT Tryd.results31 ?_)
  have h3 : n.k = 3 := by simpa using hb
  exact dY [] [] (.c (.bool (decide ((1 : Int) ≤ cnt V)))) [.row 4 1 (L.map bC)] rfl (by simp [HV.men]) ⟨⟨trivial, by simp, _, rfl, rfl⟩, trivial⟩ rfl List.nodup_nil (by simp) (by simp) ⟨by rw [kP, if_neg h2, if_pos h3]; congr 2; rw [Bool.eq_iff_iff]; simp; omega, rfl⟩
 refine aJ ?_
 refine T0 (hK _ _ _ ?_)
 clear hK K
 refine aC fun K hK => Rg ?_
 iterate 5 refine S0 ?_
 refine T2 (hK _ _ _ ?_)
 clear hK K
 refine aF (RT Tryd.results31 ?_)
 have h3 : n.k ≠ 3 := by simpa using hb
 exact dY [] [] (.c (.bool (decide (n.n ≤ cnt V)))) [.row 4 1 (L.map bC)] rfl (by simp [HV.men]) ⟨⟨trivial, by simp, _, rfl, rfl⟩, trivial⟩ rfl List.nodup_nil (by simp) (by simp) ⟨by rw [kP, if_neg h2, if_neg h3], rfl⟩

end Go.Proofs.YtlldglbooaefhaaDoor

namespace Go.Pl
open Go Go.Hl

def kY (w : List Bool) (m : Nat) (b : Bool) : List Bool := w.take m ++ [b] ++ w.drop (m + 1)
theorem kZ {w : List Bool} {m : Nat} {b : Bool} (h : m + 1 ≤ w.length) : (kY w m b).length = w.length := by simp [kY]; omega
theorem zG {w : List Bool} {b : Bool} : kY w w.length b = w ++ [b] := by simp [kY]
theorem zH {w : List Bool} {m : Nat} {b : Bool} (h : m ≤ w.length) : (kY w m b).take (m + 1) = w.take m ++ [b] := by grind [kY, List.take_of_length_le]
def aQ3 (l : List Nd) (tr : List Bool) (p : Nat) (s : List Bool × Nat) : List Bool × Nat :=
 if (l.getD p nd0).k = 1 then (kY s.1 s.2 (tr.getD (lv (l.take p)) false), s.2 + 1)
 else (kY s.1 (s.2 - (l.getD p nd0).c.toNat) (kP (l.getD p nd0) ((s.1.drop (s.2 - (l.getD p nd0).c.toNat)).take (l.getD p nd0).c.toNat)), s.2 - (l.getD p nd0).c.toNat + 1)
def bW (l : List Nd) (tr : List Bool) : Nat → List Bool × Nat
 | 0 => ([], 0)
 | i + 1 => aQ3 l tr (l.length - 1 - i) (bW l tr i)
structure EvOk (l : List Nd) (tr : List Bool) (i : Nat) : Prop where
 le : i ≤ l.length
 m : (bW l tr i).2 = (evS (lv l) tr (l.drop (l.length - i))).length
 row : (bW l tr i).1.take (bW l tr i).2 = (evS (lv l) tr (l.drop (l.length - i))).reverse
 fit : (bW l tr i).2 ≤ (bW l tr i).1.length
 small : (bW l tr i).1.length ≤ i
theorem EvOk.zero (l : List Nd) (tr : List Bool) : EvOk l tr 0 := ⟨by omega, by simp [bW, evS], by simp [bW, evS], by simp [bW], by simp [bW]⟩
theorem xB (n : Nd) (l : List Bool) : kP n l.reverse = kP n l := by simp only [kP, aH6, List.length_reverse]
theorem bO0 {E : List Bool} {c : Nat} : E.reverse.take (E.length - c) = (E.drop c).reverse := by rw [List.reverse_drop]
theorem bO1 {E : List Bool} {c : Nat} (h : c ≤ E.length) : E.reverse.drop (E.length - c) = (E.take c).reverse := by rw [List.reverse_take]
theorem EvOk.at_ {l : List Nd} {tr : List Bool} {i : Nat} (hi : i < l.length) : l.drop (l.length - (i + 1)) = l[l.length - 1 - i]'(by omega) :: l.drop (l.length - i) := by grind [List.drop_eq_getElem_cons]
theorem EvOk.leaf {l : List Nd} {tr : List Bool} {i : Nat} (h : EvOk l tr i) (hi : i < l.length) (hk : (l[l.length - 1 - i]'(by omega)).k = 1) :
  EvOk l tr (i + 1) ∧ bW l tr (i + 1) = (kY (bW l tr i).1 (bW l tr i).2 (tr.getD (lv (l.take (l.length - 1 - i))) false), (bW l tr i).2 + 1) := by
 have hp : l.length - 1 - i < l.length := by omega
 have hg : l.getD (l.length - 1 - i) nd0 = l[l.length - 1 - i] := by simp [hp]
 have e : bW l tr (i + 1) = (kY (bW l tr i).1 (bW l tr i).2 (tr.getD (lv (l.take (l.length - 1 - i))) false), (bW l tr i).2 + 1) := by
  simp only [bW, aQ3, hg, if_pos hk]
 have hT := aB1 l (l.length - 1 - i)
 have hd := EvOk.at_ (tr := tr) hi
 rw [show l.length - (i + 1) = l.length - 1 - i from by omega] at hd
 have hE : evS (lv l) tr (l.drop (l.length - (i + 1))) = tr.getD (lv (l.take (l.length - 1 - i))) false :: evS (lv l) tr (l.drop (l.length - i)) := by
  rw [show l.length - (i + 1) = l.length - 1 - i from by omega, hd, evS, if_pos hk, ← hd]
  congr 2; omega
 refine ⟨⟨hi, ?_, ?_, ?_, ?_⟩, e⟩
 ·
  rw [e, hE]; simp [h.m]
 ·
  rw [e, hE]; simp only [List.reverse_cons]; rw [zH h.fit, h.row]
 ·
  rw [e]; have := h.fit; simp [kY]; omega
 ·
  rw [e]; have := h.fit; have := h.small; simp [kY]; omega
theorem EvOk.inner {l : List Nd} (ht : IsTree l) {tr : List Bool} {i : Nat} (h : EvOk l tr i) (hi : i < l.length) (hk : (l[l.length - 1 - i]'(by omega)).k ≠ 1) :
  (l[l.length - 1 - i]'(by omega)).c.toNat ≤ (bW l tr i).2 ∧ EvOk l tr (i + 1) ∧
  bW l tr (i + 1) = (kY (bW l tr i).1 ((bW l tr i).2 - (l[l.length - 1 - i]'(by omega)).c.toNat) (kP (l[l.length - 1 - i]'(by omega)) (((bW l tr i).1.drop ((bW l tr i).2 - (l[l.length - 1 - i]'(by omega)).c.toNat)).take (l[l.length - 1 - i]'(by omega)).c.toNat)), (bW l tr i).2 - (l[l.length - 1 - i]'(by omega)).c.toNat + 1) := by
 have hp : l.length - 1 - i < l.length := by omega
 have hg : l.getD (l.length - 1 - i) nd0 = l[l.length - 1 - i] := by simp [hp]
 have e : bW l tr (i + 1) = (kY (bW l tr i).1 ((bW l tr i).2 - (l[l.length - 1 - i]'(by omega)).c.toNat) (kP (l[l.length - 1 - i]'(by omega)) (((bW l tr i).1.drop ((bW l tr i).2 - (l[l.length - 1 - i]'(by omega)).c.toNat)).take (l[l.length - 1 - i]'(by omega)).c.toNat)), (bW l tr i).2 - (l[l.length - 1 - i]'(by omega)).c.toNat + 1) := by
  simp only [bW, aQ3, hg, if_neg hk]
 have hkl := bH4 ht (tr := tr) hp
 rw [show l.length - 1 - i + 1 = l.length - i from by omega] at hkl
 obtain ⟨_, _, _, c4⟩ := dL (ht.node _ (List.getElem_mem hp))
 have c5 := c4 hk
 have c6 : 1 ≤ l[l.length - 1 - i].c.toNat := by omega
 have hd := EvOk.at_ (tr := tr) hi
 have hm := h.m
 have hr := h.row
 have hf := h.fit
 have hs := h.small
 have hE : evS (lv l) tr (l.drop (l.length - (i + 1))) = kP l[l.length - 1 - i] ((evS (lv l) tr (l.drop (l.length - i))).take l[l.length - 1 - i].c.toNat) :: (evS (lv l) tr (l.drop (l.length - i))).drop l[l.length - 1 - i].c.toNat := by
  rw [hd, evS, if_neg hk]
 generalize evS (lv l) tr (l.drop (l.length - i)) = E at hm hr hkl hE
 generalize l[l.length - 1 - i].c.toNat = c at *
 have h1 : (bW l tr i).1.take ((bW l tr i).2 - c) = (E.drop c).reverse := by
  rw [← bO0, ← hr, List.take_take, hm, Nat.min_eq_left (by omega)]
 have h2 : ((bW l tr i).1.drop ((bW l tr i).2 - c)).take c = (E.take c).reverse := by
  rw [← bO1 hkl, ← hr, List.drop_take, hm]
  congr 1; omega
 refine ⟨by omega, ⟨hi, ?_, ?_, ?_, ?_⟩, e⟩
 ·
  rw [e, hE]; simp only [List.length_cons, List.length_drop]; omega
 ·
  rw [e, hE]
  simp only [List.reverse_cons]
  rw [zH (by omega), h1, h2, xB]
 ·
  rw [e]; simp only; rw [kZ (by omega)]; omega
 ·
  rw [e]; simp only; rw [kZ (by omega)]; omega
theorem EvOk.fin {l : List Nd} (ht : IsTree l) {tr : List Bool} (h : EvOk l tr l.length) : (bW l tr l.length).2 = 1 ∧ ∃ h0 : 0 < (bW l tr l.length).1.length, vN l tr = (bW l tr l.length).1[0] := by
 have hl := aB0 (T := lv l) (tr := tr) l 1 ht.node ht.skip
 have hm := h.m
 have hr := h.row
 have hf := h.fit
 rw [Nat.sub_self, List.drop_zero] at hm hr
 rw [hl] at hm
 have h0 : 0 < (bW l tr l.length).1.length := by omega
 refine ⟨hm, h0, ?_⟩
 have ht' := aI3 ht
 obtain ⟨x, hx⟩ : ∃ x, evS (lv l) tr l = [x] := by
  match hE : evS (lv l) tr l, hl with
  | [x], _ => exact ⟨x, rfl⟩
 rw [hx, hm] at hr
 rw [vN, ht', hx]
 have : (bW l tr l.length).1[0] = x := by
  have := congrArg (·.head?) hr
  simpa [List.head?_take, List.head?_eq_getElem?, h0] using this
 rw [this]; rfl
end Go.Pl

namespace Go.Proofs.YtlldglbooaefhaaDoor
open Go Go.Hl Go.Pl
set_option maxRecDepth 10000
set_option maxHeartbeats 16000000

theorem bX (id n sz m : Nat) : (gX id n sz m).sto = true := by unfold gX; split <;> rfl
theorem bO (id n sz m : Nat) : (gX id n sz m).cells = 1 := by unfold gX; split <;> rfl
theorem bR (id n sz m : Nat) : (gX id n sz m).toC = none := by unfold gX; split <;> rfl
theorem cQ (id n sz : Nat) : gX id n sz n = .own id n := by unfold gX; rw [if_pos rfl]
theorem cJ {id n sz m : Nat} (h : m ≠ n) : gX id n sz m = .osl id n 0 sz m := by unfold gX; rw [if_neg h]
theorem oA {M : Nat → Prop} {id n sz m : Nat} (h : M id) : (gX id n sz m).men M := by unfold gX; split <;> exact h

theorem aV4 (l : List Nd) (hn : ∀ n ∈ l, n.q.t.length < 2 ^ 63) (tr : List Bool) (htr : tr.length < 2 ^ 63) : cE Tryd.prog 14 [.slc (l.map Nd.cv), .slc (tr.map bC)] (fun v => v = .bool (vN l tr)) := by
 refine FW Tryd.func14 ?_
 have F := rI
 refine RF ?_
 refine aC fun K hK => Rg ?_
 refine SF ?_
 refine HS rfl rfl fun K' hK' => T6 ?_
 refine C1 (zA l hn) ?_
 rintro u rfl
 refine AX (hK' _ _ ?_)
 clear hK' K'
 iterate 3 refine SF ?_
 simp only [sE, ↓reduceIte, simprocAttr, rI]
 refine AX (hK _ _ _ ?_)
 clear hK K
 refine aC fun K hK => ?_
 refine RF ?_
 refine aG (b := (((iR l).length : Int) == 0)) rfl (fun hb => ?_) (fun hb => ?_)
 ·
  refine RF ?_
  refine aF ?_
  simp only [gE, Tryd.results14, fJ, gD, eT, ↓sP, sA, tyS, simprocAttr, rI]
  have hlv : iR l = [] := by simpa using hb
  have htf : dB l = false := by
   cases h : dB l with
   | false => rfl
   | true =>
    have h1 := aH5 (kL h)
    rw [oW h] at hlv
    have h2 := kO l 0
    rw [hlv] at h2
    simp at h2; omega
  exact aL [] (.bool false) rfl (by rw [vN, htf]; rfl)
 have htt : dB l = true := by
  cases h : dB l with
  | true => rfl
  | false => rw [sS h] at hb; simp at hb
 have ht := kL htt
 have hl := ht.len
 have hlen : (iR l).length = lv l := by rw [oW htt, kO]
 rw [hlen]
 clear hb
 refine aJ ?_
 refine TQ rI ?_
 refine AX (hK _ _ _ ?_)
 clear hK K
 refine RF ?_
 refine aC fun K hK => ?_
 refine aC fun K hK => Rg ?_
 refine S0 ?_ (e := fun _ h_ => by simp only [sH, ↓sP, sA, tyS, simprocAttr, rI, denilL_Nd, lO, gI, List.range', List.map_cons, List.map_nil]; exact AX h_)
 refine HS rfl rfl fun K' hK' => ?_
 simp only [sH, ↓sP, sA, tyS, simprocAttr, rI, denilL_Nd, lO, gI, List.range', List.map_cons, List.map_nil]
 refine rA (args := [_]) (bV7 l) (by simp) ⟨rfl, rfl, rfl, rfl⟩ ?_
 refine AX (hK' _ _ ?_)
 clear hK' K'
 simp only [sE, ↓reduceIte, simprocAttr, rI]
 refine AX (hK _ _ _ ?_)
 clear hK K
 refine aK ?_
 refine tI 36 0 4 1 rfl rfl rfl rfl ?_
 refine yD (ids := [44]) (fin [(3, .ptr 0 0), (5, .ptr 20 0), (6, .ptr 36 0)]) (fun i => fob [(0, .box 38 (.c (.slc (tr.map bC)))), (20, .box 3 (.c (.int .i64 (lv (l.take (l.length - i)) : Nat)))), (36, .box 38 (gX 48 (bW l tr i).1.length 1 (bW l tr i).2)), (48, .row 4 1 ((bW l tr i).1.map bC))]) 20000 (fun i => EvOk l tr i) (EvOk.zero l tr) (bC6 l (by omega)) rfl rfl (by decide) ?_ ?_ ?_ ?_ ?_ rfl rfl ?_ ?_
 ·
  intro j x hx
  match j, hx with
  | 0, hx => cases hx; rfl
 ·
  exact aO (by omega) (by simp [bB, fin_at, finA_at, upd_at, HV.men, HV.menL, HV.norm, HV.toC, HV.toCL, lO, bW, cQ, List.take_length]) (by simp [aZ, fob_at, upd_at, none0_at, bZ, HO.men, HV.men, HV.menL, HV.norm, HV.toC, HV.toCL, lO, bW, cQ, List.take_length])
 ·
  intro id hid
  simp only [List.mem_cons, List.not_mem_nil, or_false] at hid
  subst hid; rfl
 ·
  intro x hx
  obtain ⟨p, _, rfl⟩ := List.mem_map.1 hx
  rfl
 ·
  intro p hp
  simp only [List.mem_cons, List.not_mem_nil, or_false] at hp
  rcases hp with rfl | rfl <;> exact Nat.le_of_ble_eq_true rfl
 ·
  intro i hi hΦ K hK
  have hi2 : i < l.length := by rw [← qE l]; exact hi
  have hp : l.length - 1 - i < l.length := by omega
  rw [bK7 hi hp]
  simp only [vH]
  obtain ⟨w, hw⟩ : ∃ w, w = (bW l tr i).1 := ⟨_, rfl⟩
  obtain ⟨m, hm⟩ : ∃ m, m = (bW l tr i).2 := ⟨_, rfl⟩
  have hfit := hΦ.fit
  have hsmall := hΦ.small
  rw [← hw, ← hm] at hfit
  rw [← hw] at hsmall
  rw [← hw, ← hm]
  refine aM (by kernel_rfl) ?_
  refine TQ rI ?_
  refine AX (hK _ _ _ ?_)
  clear hK K
  refine aK ?_
  refine aC fun K hK => ?_
  refine RF ?_
  refine aG (b := (l[l.length - 1 - i].k == 1)) rfl (fun hb => ?_) (fun hb => ?_)
  ·
   have hk1 : l[l.length - 1 - i].k = 1 := by simpa using hb
   obtain ⟨hok, hst⟩ := hΦ.leaf hi2 hk1
   rw [← hw, ← hm] at hst
   have hlv := aU3 hp
   rw [if_pos hk1, show l.length - 1 - i + 1 = l.length - i from by omega] at hlv
   have hlb := aP3 l (l.length - 1 - i)
   have hw1 : IntKind.i64.wrap ((lv (l.take (l.length - i)) : Int) - 1) = ((lv (l.take (l.length - 1 - i)) : Nat) : Int) := by rw [hlv, cY _ (by omega)]; omega
   obtain ⟨x, hx⟩ : ∃ x, x = lv (l.take (l.length - 1 - i)) := ⟨_, rfl⟩
   have hxl : l.length - (i + 1) = l.length - 1 - i := by omega
   rw [← hx] at hw1 hst
   clear hb
   have F := aI rI hw1
   refine RF ?_
   by_cases hlt : x < tr.length
   ·
    by_cases hmw : m = w.length
    ·
     subst hmw
     have hg : tr.getD x false = tr[x] := by simp [hlt]
     refine aC fun K hK => eI mixed [(0, [], []), (1, [], []), (2, [], []), (3, [], []), (4, [], []), (5, [], []), (6, [], []), (7, [], []), (8, [], []), (9, [], []), (10, [], []), (11, [], []), (12, [], []), (13, [], [])] [0, 0, 0, 4, 14, 30, 62, 62, 254, 510, 1022, 2046, 4095, 8191] (by kernel_rfl) (by kernel_rfl) (by kernel_rfl) (by kernel_rfl) rfl (by kernel_rfl) ?_
     iterate 14 refine WG0 ?_ (e := fun _ h_ => by simp only [sH, ↓sP, sA, tyS, simprocAttr, rI, Int.natCast_nonneg, Int.ofNat_lt, hlt, bY hlt, bC, cQ, bX, bO, bR]; exact AX h_)
     simp only [sE, ↓reduceIte, simprocAttr, rI]
     refine AX (hK _ _ _ ?_)
     clear hK K
     refine bA ?_
     refine TQ rI ?_
     clear hK K
     rw [hg, zG] at hst
     refine ⟨(show Fits 20000 _ _ (fin []) _ 20000 from aO (by omega) trivial ?_), hok⟩
     rw [hst, hxl, ← hx]
     simp [aZ, fob_at, upd_at, none0_at, bZ, HO.men, HV.men, HV.menL, HV.norm, HV.toC, HV.toCL, cQ, bC]
    have hg : tr.getD x false = tr[x] := by simp [hlt]
    have hmw2 : m + 1 ≤ w.length := by omega
    have hw0 : 0 < w.length := by omega
    have hrow : (kY w m tr[x]).map bC = (w.map bC).take m ++ [.bool tr[x]] ++ (w.map bC).drop (m + 1) := by simp [kY, List.map_take, List.map_drop, bC]
    refine aC fun K hK => eI mixed [(0, [], []), (1, [], []), (2, [], []), (3, [], []), (4, [], []), (5, [], []), (6, [], []), (7, [], []), (8, [], []), (9, [], []), (10, [], []), (11, [], []), (12, [], []), (13, [], [])] [0, 0, 0, 4, 14, 30, 62, 62, 254, 510, 1022, 2046, 4095, 8191] (by kernel_rfl) (by kernel_rfl) (by kernel_rfl) (by kernel_rfl) rfl (by kernel_rfl) ?_
    iterate 12 refine WG0 ?_ (e := fun _ h_ => by simp only [sH, ↓sP, sA, tyS, simprocAttr, rI, Int.natCast_nonneg, Int.ofNat_lt, hlt, bY hlt, bC, cJ hmw, bX, bO, bR, hw0, hmw2]; exact AX h_)
    refine eK (g := none) rfl rfl fun K' hK' => ?_
    simp only [sN, ↓hopH.eq_def, sH, ↓sP, sA, tyS, simprocAttr, rI, Int.natCast_nonneg, Int.ofNat_lt, hlt, bY hlt, bC, cJ hmw, bX, bO, bR, hw0, hmw2]
    refine AX (hK' _ _ ?_)
    clear hK' K'
    refine WG0 ?_ (e := fun _ h_ => by simp only [sH, ↓sP, sA, tyS, simprocAttr, rI, Int.natCast_nonneg, Int.ofNat_lt, hlt, bY hlt, bC, cJ hmw, bX, bO, bR, hw0, hmw2]; exact AX h_)
    simp only [sE, ↓reduceIte, simprocAttr, rI]
    refine AX (hK _ _ _ ?_)
    clear hK K
    refine bA ?_
    refine TQ rI ?_
    clear hK K
    rw [hg] at hst
    refine ⟨(show Fits 20000 _ _ (fin []) _ 20000 from aO (by omega) trivial ?_), hok⟩
    rw [hst, hxl, ← hx]
    simp [aZ, fob_at, upd_at, none0_at, bZ, HO.men, HV.men, HV.menL, HV.norm, HV.toC, HV.toCL, kZ hmw2, hrow, oA, bR]
   by_cases hmw : m = w.length
   ·
    subst hmw
    have hg : tr.getD x false = false := by simp [List.getD_eq_getElem?_getD, List.getElem?_eq_none (Nat.le_of_not_lt hlt)]
    have hlt' : decide ((x : Int) < tr.length) = false := by simp; omega
    refine aC fun K hK => eI mixed [(0, [], []), (1, [], []), (2, [], []), (3, [], []), (4, [], []), (5, [], []), (6, [], []), (7, [], []), (8, [], []), (9, [], []), (10, [], []), (11, [], []), (12, [], []), (13, [], [])] [0, 0, 0, 4, 14, 30, 62, 62, 254, 510, 1022, 2046, 4095, 8191] (by kernel_rfl) (by kernel_rfl) (by kernel_rfl) (by kernel_rfl) rfl (by kernel_rfl) ?_
    have F := aI rI (aI hlt' (aI @cQ (aI @bX (aI @bO @bR))))
    iterate 14 refine WGF ?_
    simp only [sE, ↓reduceIte, simprocAttr, rI]
    refine AX (hK _ _ _ ?_)
    clear hK K
    refine bA ?_
    refine TQ rI ?_
    clear hK K
    rw [hg, zG] at hst
    refine ⟨(show Fits 20000 _ _ (fin []) _ 20000 from aO (by omega) trivial ?_), hok⟩
    rw [hst, hxl, ← hx]
    simp [aZ, fob_at, upd_at, none0_at, bZ, HO.men, HV.men, HV.menL, HV.norm, HV.toC, HV.toCL, cQ, bC]
   have hg : tr.getD x false = false := by simp [List.getD_eq_getElem?_getD, List.getElem?_eq_none (Nat.le_of_not_lt hlt)]
   have hlt' : decide ((x : Int) < tr.length) = false := by simp; omega
   have hmw2 : m + 1 ≤ w.length := by omega
   have hw0 : 0 < w.length := by omega
   have hrow : (kY w m false).map bC = (w.map bC).take m ++ [.bool false] ++ (w.map bC).drop (m + 1) := by simp [kY, List.map_take, List.map_drop, bC]
   refine aC fun K hK => eI mixed [(0, [], []), (1, [], []), (2, [], []), (3, [], []), (4, [], []), (5, [], []), (6, [], []), (7, [], []), (8, [], []), (9, [], []), (10, [], []), (11, [], []), (12, [], []), (13, [], [])] [0, 0, 0, 4, 14, 30, 62, 62, 254, 510, 1022, 2046, 4095, 8191] (by kernel_rfl) (by kernel_rfl) (by kernel_rfl) (by kernel_rfl) rfl (by kernel_rfl) ?_
   iterate 12 refine WG0 ?_ (e := fun _ h_ => by simp only [sH, ↓sP, sA, tyS, simprocAttr, rI, hlt', cJ hmw, bX, bO, bR, hw0, hmw2]; exact AX h_)
   refine eK (g := none) rfl rfl fun K' hK' => ?_
   simp only [sN, ↓hopH.eq_def, sH, ↓sP, sA, tyS, simprocAttr, rI, hlt', cJ hmw, bX, bO, bR, hw0, hmw2]
   refine AX (hK' _ _ ?_)
   clear hK' K'
   refine WG0 ?_ (e := fun _ h_ => by simp only [sH, ↓sP, sA, tyS, simprocAttr, rI, hlt', cJ hmw, bX, bO, bR, hw0, hmw2]; exact AX h_)
   simp only [sE, ↓reduceIte, simprocAttr, rI]
   refine AX (hK _ _ _ ?_)
   clear hK K
   refine bA ?_
   refine TQ rI ?_
   clear hK K
   rw [hg] at hst
   refine ⟨(show Fits 20000 _ _ (fin []) _ 20000 from aO (by omega) trivial ?_), hok⟩
   rw [hst, hxl, ← hx]
   simp [aZ, fob_at, upd_at, none0_at, bZ, HO.men, HV.men, HV.menL, HV.norm, HV.toC, HV.toCL, kZ hmw2, hrow, oA, bR]
  have hk1 : l[l.length - 1 - i].k ≠ 1 := by simpa using hb
  obtain ⟨hcm, hok, hst⟩ := hΦ.inner ht hi2 hk1
  rw [← hw, ← hm] at hst
  rw [← hm] at hcm
  obtain ⟨c1, c2, c3, c4⟩ := dL (ht.node _ (List.getElem_mem hp))
  have c5 := c4 hk1
  have hlv := aU3 hp
  rw [if_neg hk1, Nat.add_zero, show l.length - 1 - i + 1 = l.length - i from by omega] at hlv
  have hxl : l.length - (i + 1) = l.length - 1 - i := by omega
  obtain ⟨f, hf⟩ : ∃ f, f = m - l[l.length - 1 - i].c.toNat := ⟨_, rfl⟩
  have hfc : m - f = l[l.length - 1 - i].c.toNat := by omega
  rw [← hf, ← hfc] at hst
  have hw2 : IntKind.i64.wrap ((m : Int) - l[l.length - 1 - i].c) = (f : Int) := by rw [cY _ (by omega)]; omega
  have hf1 : f + 1 ≤ w.length := by omega
  have hfw : f ≤ w.length := by omega
  have hfm : f ≤ m := by omega
  have hw0 : 0 < w.length := by omega
  obtain ⟨h, hh⟩ : ∃ h, h = kP l[l.length - 1 - i] ((w.drop f).take (m - f)) := ⟨_, rfl⟩
  rw [← hh] at hst
  have hrow : (kY w f h).map bC = (w.map bC).take f ++ [.bool h] ++ (w.map bC).drop (f + 1) := by simp [kY, List.map_take, List.map_drop, bC]
  clear hb
  refine aJ ?_
  refine TQ rI ?_
  refine AX (hK _ _ _ ?_)
  clear hK K
  by_cases hmw : m = w.length
  ·
   rw [← hmw] at hw0 hf1 hfw
   refine aC fun K hK => Rg ?_
   iterate 6 refine S0 ?_ (e := fun _ h_ => by simp only [sH, ↓sP, sA, tyS, simprocAttr, rI, cQ, ← hmw, List.length_map, hw2]; exact AX h_)
   simp only [sE, ↓reduceIte, simprocAttr, rI]
   refine AX (hK _ _ _ ?_)
   clear hK K
   refine eI mixed [(0, [], []), (1, [], []), (2, [], []), (3, [], []), (4, [], []), (5, [], []), (6, [], []), (7, [], [0, 1, 2]), (8, [], []), (9, [], []), (10, [], [])] [0, 0, 3, 0, 0, 0, 48, 120, 248, 511, 1023] (by kernel_rfl) (by kernel_rfl) (by kernel_rfl) (by kernel_rfl) rfl (by kernel_rfl) ?_
   iterate 7 refine WG0 ?_ (e := fun _ h_ => by simp only [sH, ↓sP, sA, tyS, simprocAttr, rI, cQ, bX, bO, bR, ← hmw, List.length_map, Int.natCast_nonneg, Int.ofNat_le, hfw]; exact AX h_)
   refine oE (g := none) rfl rfl fun K' hK' => ?_
   simp only [sN, ↓hopH.eq_def, sH, ↓sP, sA, tyS, simprocAttr, rI, cQ, bX, bO, bR, ← hmw, List.length_map, Int.natCast_nonneg, Int.ofNat_le, hfw]
   refine aG3 [48] (aL0 l[l.length - 1 - i] w f m (by omega) (by omega) (by omega) (by omega)) (by first | rfl | (rw [← hmw]; rfl)) ⟨rfl, trivial⟩ (by simp) ?_ ?_ ?_ ?_ ?_
   ·
    intro j hj
    match j, hj with
    | 0, _ => exact .inr ⟨by decide, fun r os' h => by rw [h.2]⟩
   ·
    exact ⟨rfl, rfl, rfl, rfl⟩
   ·
    simp [dZ, HO.men]
   ·
    simp [HV.menL, HV.men]
   rintro r os' ⟨rfl, rfl⟩
   rw [← hh, show ∀ n ob, jK (sub [48] n) ob 0 [.row 4 1 (w.map bC)] = upd ob 48 (some (.row 4 1 (w.map bC))) from fun _ _ => rfl, show ∀ n b, HV.ren (sub [48] n) (.c b) = .c b from fun _ _ => rfl]
   refine AX (hK' _ _ ?_)
   clear hK' K'
   refine WG0 ?_ (e := fun _ h_ => by simp only [sH, ↓sP, sA, tyS, simprocAttr, rI, cQ, bX, bO, bR, ← hmw, List.length_map, Int.natCast_nonneg, Int.ofNat_le, hfw]; exact AX h_)
   refine eK (g := none) rfl rfl fun K' hK' => ?_
   simp only [sN, ↓hopH.eq_def, sH, ↓sP, sA, tyS, simprocAttr, rI, cQ, bX, bO, bR, ← hmw, List.length_map, Int.natCast_nonneg, Int.ofNat_le, hfw]
   refine AX (hK' _ _ ?_)
   clear hK' K'
   refine WG0 ?_ (e := fun _ h_ => by simp only [sH, ↓sP, sA, tyS, simprocAttr, rI, cQ, bX, bO, bR, ← hmw, List.length_map, Int.natCast_nonneg, Int.ofNat_le, hfw]; exact AX h_)
   simp only [sE, ↓reduceIte, simprocAttr, rI]
   refine ⟨(show Fits 20000 _ _ (fin []) _ 20000 from aO (by omega) trivial ?_), hok⟩
   rw [hst, hxl, hlv]
   simp [aZ, fob_at, upd_at, none0_at, bZ, HO.men, HV.men, HV.menL, HV.norm, HV.toC, HV.toCL, kZ (show f + 1 ≤ w.length by omega), hrow, oA, bR, ← hmw]
  refine aC fun K hK => Rg ?_
  iterate 6 refine S0 ?_ (e := fun _ h_ => by simp only [sH, ↓sP, sA, tyS, simprocAttr, rI, cJ hmw, List.length_map, hw0, hfit, Nat.zero_le, List.length_take, List.length_drop, Nat.sub_zero, Nat.min_eq_left hfit, hw2]; exact AX h_)
  simp only [sE, ↓reduceIte, simprocAttr, rI]
  refine AX (hK _ _ _ ?_)
  clear hK K
  refine eI mixed [(0, [], []), (1, [], []), (2, [], []), (3, [], []), (4, [], []), (5, [], []), (6, [], []), (7, [], [0, 1, 2]), (8, [], []), (9, [], []), (10, [], [])] [0, 0, 3, 0, 0, 0, 48, 120, 248, 511, 1023] (by kernel_rfl) (by kernel_rfl) (by kernel_rfl) (by kernel_rfl) rfl (by kernel_rfl) ?_
  iterate 2 refine WG0 ?_ (e := fun _ h_ => by simp only [sH, ↓sP, sA, tyS, simprocAttr, rI, bX, bO, bR, cJ hmw, List.length_map, Int.natCast_nonneg, Int.ofNat_le, hfw, hfm]; exact AX h_)
  refine eK (g := none) rfl rfl fun K' hK' => ?_
  simp only [sN, ↓hopH.eq_def, sH, ↓sP, sA, tyS, simprocAttr, rI, bX, bO, bR, cJ hmw, List.length_map, Int.natCast_nonneg, Int.ofNat_le, hfw, hfm]
  refine AX (hK' _ _ ?_)
  clear hK' K'
  iterate 3 refine WG0 ?_ (e := fun _ h_ => by simp only [sH, ↓sP, sA, tyS, simprocAttr, rI, bX, bO, bR, cJ hmw, List.length_map, Int.natCast_nonneg, Int.ofNat_le, hfw, hfm]; exact AX h_)
  refine eK (g := none) rfl rfl fun K' hK' => ?_
  simp only [sN, ↓hopH.eq_def, sH, ↓sP, sA, tyS, simprocAttr, rI, bX, bO, bR, cJ hmw, List.length_map, Int.natCast_nonneg, Int.ofNat_le, hfw, hfm]
  refine AX (hK' _ _ ?_)
  clear hK' K'
  refine oE (g := none) rfl rfl fun K' hK' => ?_
  simp only [sN, ↓hopH.eq_def, sH, ↓sP, sA, tyS, simprocAttr, rI, bX, bO, bR, cJ hmw, List.length_map, Int.natCast_nonneg, Int.ofNat_le, hfw, hfm]
  refine aG3 [48] (aL0 l[l.length - 1 - i] w f m (by omega) (by omega) (by omega) (by omega)) (by first | rfl | (rw [← hmw]; rfl)) ⟨rfl, trivial⟩ (by simp) ?_ ?_ ?_ ?_ ?_
  ·
   intro j hj
   match j, hj with
   | 0, _ => exact .inr ⟨by decide, fun r os' h => by rw [h.2]⟩
  ·
   exact ⟨rfl, rfl, rfl, rfl⟩
  ·
   simp [dZ, HO.men]
  ·
   simp [HV.menL, HV.men]
  rintro r os' ⟨rfl, rfl⟩
  rw [← hh, show ∀ n ob, jK (sub [48] n) ob 0 [.row 4 1 (w.map bC)] = upd ob 48 (some (.row 4 1 (w.map bC))) from fun _ _ => rfl, show ∀ n b, HV.ren (sub [48] n) (.c b) = .c b from fun _ _ => rfl]
  refine AX (hK' _ _ ?_)
  clear hK' K'
  refine WG0 ?_ (e := fun _ h_ => by simp only [sH, ↓sP, sA, tyS, simprocAttr, rI, bX, bO, bR, cJ hmw, List.length_map, Int.natCast_nonneg, Int.ofNat_le, hfw, hfm]; exact AX h_)
  refine eK (g := none) rfl rfl fun K' hK' => ?_
  simp only [sN, ↓hopH.eq_def, sH, ↓sP, sA, tyS, simprocAttr, rI, bX, bO, bR, cJ hmw, List.length_map, Int.natCast_nonneg, Int.ofNat_le, hfw, hfm]
  refine AX (hK' _ _ ?_)
  clear hK' K'
  refine WG0 ?_ (e := fun _ h_ => by simp only [sH, ↓sP, sA, tyS, simprocAttr, rI, bX, bO, bR, cJ hmw, List.length_map, Int.natCast_nonneg, Int.ofNat_le, hfw, hfm]; exact AX h_)
  simp only [sE, ↓reduceIte, simprocAttr, rI]
  refine ⟨(show Fits 20000 _ _ (fin []) _ 20000 from aO (by omega) trivial ?_), hok⟩
  rw [hst, hxl, hlv]
  simp [aZ, fob_at, upd_at, none0_at, bZ, HO.men, HV.men, HV.menL, HV.norm, HV.toC, HV.toCL, kZ hf1, hrow, oA, bR]
 intro hΦ
 simp only [sE, ↓reduceIte, simprocAttr, rI]
 have hfin := hΦ
 rw [qE] at hfin
 obtain ⟨h1, h0, h2⟩ := hfin.fin ht
 rw [qE, h1]
 obtain ⟨w, hw⟩ : ∃ w, w = (bW l tr l.length).1 := ⟨_, rfl⟩
 rw [← hw] at h0
 have h3 : vN l tr = w[0] := by rw [h2]; simp only [hw]
 rw [← hw]
 refine AX (hK _ _ _ ?_)
 clear hK K
 by_cases hw1 : w.length = 1
 ·
  rw [hw1]
  refine aC fun K hK => Rg ?_
  iterate 4 refine S0 ?_ (e := fun _ h_ => by simp only [sH, ↓sP, sA, tyS, simprocAttr, rI, cQ, bY h0, bC, Nat.lt_irrefl]; exact AX h_)
  simp only [sE, ↓reduceIte, simprocAttr, rI]
  refine AX (hK _ _ _ ?_)
  clear hK K
  refine aF ?_
  simp only [gE, Tryd.results14, fJ, gD, eT, ↓sP, sA, tyS, simprocAttr, rI]
  exact aL [] (.bool w[0]) rfl (by rw [h3])
 refine aC fun K hK => Rg ?_
 iterate 4 refine S0 ?_ (e := fun _ h_ => by simp only [sH, ↓sP, sA, tyS, simprocAttr, rI, cJ (Ne.symm hw1), bY h0, bC, h0]; exact AX h_)
 simp only [sE, ↓reduceIte, simprocAttr, rI]
 refine AX (hK _ _ _ ?_)
 clear hK K
 refine aF ?_
 simp only [gE, Tryd.results14, fJ, gD, eT, ↓sP, sA, tyS, simprocAttr, rI]
 exact aL [] (.bool w[0]) rfl (by rw [h3])

end Go.Proofs.YtlldglbooaefhaaDoor

namespace Go.Proofs.YtlldglbooaefhaaDoor
open Go Go.Hl Go.Pl
set_option maxRecDepth 10000
set_option maxHeartbeats 16000000

theorem aC4 (n : Int) : cE Tryd.prog 26 [.int .i64 n] (fun v => v = (aI4 n).cv) := by
 refine FW Tryd.func26 ?_
 refine R0 ?_
 refine aC fun K hK => Rg ?_
 iterate 4 refine S0 ?_
 refine T2 (hK _ _ _ ?_)
 clear hK K
 refine aF (RT Tryd.results26 ?_)
 exact aL [] (aI4 n).cv rfl rfl


theorem bO2 : PoSz awP := ⟨by decide, by decide, by decide, by decide⟩
theorem bO3 : ∀ n ∈ awT, n.q.t.length < 2 ^ 63 := by decide
theorem bO4 : rH awP = 0 := by decide +kernel
theorem cA9 : (lQ awP).length < 2 ^ 40 := by decide +kernel
theorem bO5 : mQ Tryd.prog 11 tabs [] (fun v => v = .bool true) := by
 refine bP (args := []) Tryd.func11 rfl (by kernel_rfl) (fD tabs []) (Nat.le_of_ble_eq_true rfl) ?_
 unfold eH
 obtain ⟨aw1, aw2, aw3⟩ := yQ bO4
 refine R0 ?_
 refine aC fun K hK => bD (by kernel_rfl) ?_
 simp only [sR, simprocAttr]
 refine SG0 ?_
 refine bK (g := none) rfl rfl fun K' hK' => T5 ?_
 refine C1 (aC4 1) ?_
 rintro u rfl
 refine AX (hK' _ _ ?_)
 clear hK' K'
 refine bK (g := none) rfl rfl fun K' hK' => T5 ?_
 refine C1 (aC4 2) ?_
 rintro u rfl
 refine AX (hK' _ _ ?_)
 clear hK' K'
 refine bK (g := none) rfl rfl fun K' hK' => T5 ?_
 refine C1 (aC4 3) ?_
 rintro u rfl
 refine AX (hK' _ _ ?_)
 clear hK' K'
 refine cT (g := none) 21 rfl rfl fun K' hK' => ?_
 simp only [fK, iQ, sH, ↓sP, sA, tyS, simprocAttr]
 repeat refine AI ?_
 refine cF (by first | rfl | simp) ?_
 try simp only [sH, ↓sP, sA, tyS, simprocAttr]
 refine AX (hK' _ _ ?_)
 clear hK' K'
 refine SG0 ?_
 refine T2 (hK _ _ _ ?_)
 clear hK K
 refine aC fun K hK => bD (by kernel_rfl) ?_
 simp only [sR, simprocAttr]
 iterate 2 refine SG0 ?_
 refine cT (g := none) 37 rfl rfl fun K' hK' => ?_
 simp only [fK, iQ, sH, ↓sP, sA, tyS, simprocAttr]
 repeat refine AI ?_
 refine cF (by first | rfl | simp) ?_
 try simp only [sH, ↓sP, sA, tyS, simprocAttr]
 refine AX (hK' _ _ ?_)
 clear hK' K'
 iterate 3 refine SG0 ?_
 refine T2 (hK _ _ _ ?_)
 clear hK K
 refine aC fun K hK => Rg ?_
 refine S0 ?_
 refine HS rfl rfl fun K' hK' => T5 ?_
 refine mS (args := [_]) 0 (aC3 awP bO2) rfl (by simp) ⟨rfl, rfl, rfl, rfl⟩ ?_
 rintro u v ⟨rfl, rfl⟩
 rw [bO4]
 refine AX (hK' _ _ ?_)
 clear hK' K'
 iterate 5 refine S0 ?_
 refine T2 (hK _ _ _ ?_)
 clear hK K
 refine aC fun K hK => Rg ?_
 have F := @dR
 refine SF ?_
 refine HS rfl rfl fun K' hK' => T6 ?_
 refine sU (args := [_]) 0 (aV3 (lQ awP) cA9) rfl (by simp) ⟨rfl, rfl, rfl, rfl⟩ ?_
 rintro u v x ⟨rfl, rfl, rfl⟩
 rw [aw1, aw2, aw3]
 refine AX (hK' _ _ ?_)
 clear hK' K'
 iterate 8 refine SF ?_
 refine T2 (hK _ _ _ ?_)
 clear hK K
 refine aC fun K hK => bD (by kernel_rfl) ?_
 simp only [sR, simprocAttr]
 have F := aI @List.length_map.{0,0} (aI @kU (aI @qA (show awP.r.length = 1 from rfl)))
 refine SGF ?_
 refine bK (g := none) rfl rfl fun K' hK' => T6 ?_
 refine C1 (tQ awT bO3) ?_
 rintro u rfl
 rw [bZ5]
 refine AX (hK' _ _ ?_)
 clear hK' K'
 iterate 2 refine SGF ?_
 refine bK (g := some (30, true)) rfl rfl fun K' hK' => T6 ?_
 refine C1 (rL awP bO2) ?_
 rintro u rfl
 rw [bZ6]
 refine AX (hK' _ _ ?_)
 clear hK' K'
 iterate 17 refine SGF ?_
 refine cT (g := some (48, true)) 209 rfl rfl fun K' hK' => ?_
 simp only [fK, iQ, sH, ↓sP, sA, tyS, simprocAttr, List.length_map, kU, qA, (show awP.r.length = 1 from rfl)]
 repeat refine AI ?_
 refine cF (by first | rfl | simp) ?_
 try simp only [sH, ↓sP, sA, tyS, simprocAttr, List.length_map, kU, qA, (show awP.r.length = 1 from rfl)]
 refine AX (hK' _ _ ?_)
 clear hK' K'
 refine bK (g := some (48, true)) rfl rfl fun K' hK' => T6 ?_
 refine C2 (aV4 awT bO3 [true, false, true] (by decide)) ?_
 rintro u rfl
 rw [bJ6]
 refine AX (hK' _ _ ?_)
 clear hK' K'
 iterate 3 refine SGF ?_
 refine cT (g := some (53, true)) 229 rfl rfl fun K' hK' => ?_
 simp only [fK, iQ, sH, ↓sP, sA, tyS, simprocAttr, List.length_map, kU, qA, (show awP.r.length = 1 from rfl)]
 repeat refine AI ?_
 refine cF (by first | rfl | simp) ?_
 try simp only [sH, ↓sP, sA, tyS, simprocAttr, List.length_map, kU, qA, (show awP.r.length = 1 from rfl)]
 refine AX (hK' _ _ ?_)
 clear hK' K'
 refine bK (g := some (53, true)) rfl rfl fun K' hK' => T6 ?_
 refine C2 (aV4 awT bO3 [true] (by decide)) ?_
 rintro u rfl
 rw [bJ7]
 refine AX (hK' _ _ ?_)
 clear hK' K'
 iterate 4 refine SGF ?_
 refine bK (g := some (59, true)) rfl rfl fun K' hK' => T6 ?_
 refine C3 (bU2 awP bO2 [112, 114, 111, 100, 47, 101, 117] [119, 101, 98]) ?_
 rintro u rfl
 rw [bZ7]
 refine AX (hK' _ _ ?_)
 clear hK' K'
 iterate 4 refine SGF ?_
 refine bK (g := some (64, true)) rfl rfl fun K' hK' => T6 ?_
 refine C1 (zA awT bO3) ?_
 rintro u rfl
 refine AX (hK' _ _ ?_)
 clear hK' K'
 iterate 5 refine SGF ?_
 refine bK (g := some (70, true)) rfl rfl fun K' hK' => T6 ?_
 refine C2 (aJ6 awT bO3 0) ?_
 rintro u rfl
 refine AX (hK' _ _ ?_)
 clear hK' K'
 iterate 4 refine SGF ?_
 refine T2 (hK _ _ _ ?_)
 clear hK K
 refine aF (RT Tryd.results11 ?_)
 exact dK [] (.bool true) rfl rfl (by simp) rfl

end Go.Proofs.YtlldglbooaefhaaDoor

namespace Go.Proofs.YtlldglbooaefhaaDoor
open Go Go.Hl Go.Pl
set_option maxRecDepth 10000
set_option maxHeartbeats 16000000

theorem bC7 (L : List Int) : mQ Tryd.prog 3 tabs [.slc (L.map (.int .i64))] (fun v => v = .bool true) := by
 refine bP (args := [.c (.slc (L.map (.int .i64)))]) Tryd.func3 rfl (by kernel_rfl) (fD tabs [.slc (L.map (.int .i64))]) (Nat.le_of_ble_eq_true rfl) ?_
 unfold eH
 refine R0 ?_
 refine aC fun K hK => Rg ?_
 have F := @denilL_int
 refine SF ?_
 refine HS rfl rfl fun K' hK' => T6 ?_
 refine fP [] (bU3 L 200) rfl trivial (by simp) (by simp) ⟨rfl, rfl, rfl, rfl⟩ (by simp [dZ]) (by simp [HV.menL, HV.men]) ?_
 rintro r os' ⟨rfl, rfl⟩
 rw [bM4, bB5]
 refine AX (hK' _ _ ?_)
 clear hK' K'
 refine HS rfl rfl fun K' hK' => T6 ?_
 refine bG (args := [_]) (aP8 (L.take 200) 0 3 (by omega)) rfl (by simp) ⟨rfl, rfl, rfl, rfl⟩ ?_
 rintro u v' ⟨rs, a', rfl, rfl, hrs, ha'⟩
 obtain ⟨p, hpd⟩ : ∃ p : Po, p = ⟨[112], 3, rs⟩ := ⟨_, rfl⟩
 have hsm : nD p := by rw [hpd]; exact hrs.fin (by omega) (by omega)
 rw [← hpd]
 clear hpd
 have hp : PoSz p := aV0 hsm.1
 obtain ⟨e1, e2, e3, e4⟩ := bU8 hsm
 obtain ⟨f1, f2, f3⟩ := yQ e1
 refine AX (hK' _ _ ?_)
 clear hK' K'
 iterate 2 refine SF ?_
 refine T2 (hK _ _ _ ?_)
 clear hK K
 refine aC fun K hK => Rg ?_
 refine S0 ?_
 refine HS rfl rfl fun K' hK' => T5 ?_
 refine mS (args := [_]) 0 (aC3 p hp) rfl (by simp) ⟨rfl, rfl, rfl, rfl⟩ ?_
 rintro u v ⟨rfl, rfl⟩
 rw [e1, show dW = u8 from rfl]
 refine AX (hK' _ _ ?_)
 clear hK' K'
 iterate 5 refine S0 ?_
 refine T2 (hK _ _ _ ?_)
 clear hK K
 refine aC fun K hK => Rg ?_
 have F := @denilL_u8
 refine SF ?_
 refine HS rfl rfl fun K' hK' => T6 ?_
 refine sU (args := [_]) 0 (aV3 (lQ p) (by omega)) rfl (by simp) ⟨rfl, rfl, rfl, rfl⟩ ?_
 rintro u v x ⟨rfl, rfl, rfl⟩
 rw [f1, f2, f3]
 refine AX (hK' _ _ ?_)
 clear hK' K'
 iterate 8 refine SF ?_
 refine T2 (hK _ _ _ ?_)
 clear hK K
 refine aC fun K hK => Rg ?_
 have F := @beq_self_eq_true.{0}
 iterate 13 refine SF ?_
 refine aY (g := some (33, true)) rfl rfl fun K' hK' => T6 ?_
 refine C2 (same_ok p p hp.r fun r hr => by have := (hsm.2.2 r hr).2.2; omega) ?_
 rintro u rfl
 rw [decide_eq_true (rfl : p = p)]
 refine AX (hK' _ _ ?_)
 clear hK' K'
 iterate 2 refine SF ?_
 refine aY (g := some (38, true)) rfl rfl fun K' hK' => T6 ?_
 refine eX (args := []) 0 bO5 rfl (by simp) ⟨rfl, rfl, rfl, rfl⟩ ?_
 rintro u rfl
 refine AX (hK' _ _ ?_)
 clear hK' K'
 iterate 2 refine SF ?_
 refine T2 (hK _ _ _ ?_)
 clear hK K
 refine aF (RT Tryd.results3 ?_)
 exact dK [] (.bool true) rfl rfl (by simp) rfl

end Go.Proofs.YtlldglbooaefhaaDoor

namespace Go.Proofs.YtlldglbooaefhaaDoor
open Go Go.Hl Go.Pl
set_option linter.unusedVariables false
set_option maxRecDepth 100000

theorem xC {W : World} (h : laidMetH Tryd.prog Rows.policyRoundRow.laid W) : Lib.TabIs Tryd.prog W "internal/strconv.uint64pow10" .u64 Lib.pow10Tab := by
  rw [MakeChecks.laidMetH_plain _ _ _ (by kernel_rfl)] at h
  have h2 := laidMet.filter (fun x => x.1 == "internal/strconv.uint64pow10") h
  have e : (Rows.policyRoundRow.laid.filter fun x => x.1 == "internal/strconv.uint64pow10") = [("internal/strconv.uint64pow10", Lib.tabData .u64 Lib.pow10Tab)] := by kernel_rfl
  rw [e] at h2
  exact Lib.tabIs_of_head aC2 (by kernel_rfl) Tryd.underlying141 Tryd.underlying124 (by kernel_rfl) (by kernel_rfl) h2

theorem nI (H : Type) (enc : TypeId × Value → H) (W : World) (args : Array Value) (ds gs : List (DataW H)) (before : List MemPlace)
    (hL : laidMetH Tryd.prog Rows.policyRoundRow.laid W)
    (hval : ∀ (j : Nat) t v, Tryd.f3.params[j]? = some t → args[j]? = some v → Value.okWide Tryd.prog W .any 0 t v)
    (hW : DataW.Whole enc Tryd.prog Tryd.f3.params.toList Rows.policyRoundSpec.vars false W args.toList ds gs before) :
    Calls Tryd.prog 3 args W fun e W' => ∃ v, e = .returned v ∧ Rows.policyRoundSpec.post enc Tryd.prog Tryd.f3 false true false false W args v W' := by
  refine aY2 (mm := 6) (tb := 4) (tabs := tabs) (by kernel_rfl) kids aP4 rfl (by kernel_rfl) Tryd.underlying4 ?_ ?_ ?_ ?_ (fun j t v h1 h2 => ?_) hW
  · rw [Tryd.params3]
    intro H ds h
    match ds, h with
    | [c0], _ => exact ⟨rfl, rfl, rfl⟩
  · rw [Tryd.params3]
    intro t ht
    simp only [List.mem_cons, List.not_mem_nil, or_false] at ht
    rcases ht with rfl
    · exact ⟨by kernel_rfl, of_decide_eq_true (by kernel_rfl)⟩
  · rw [Tryd.params3]
    intro cs hn hty
    match cs, hn, hty with
    | [c0], _, hty =>
      obtain ⟨L, rfl, hw, hl⟩ := bS9 (hty 0 _ c0 rfl rfl)
      exact bC7 L
  · intro x hx
    simp only [tabs, List.mem_cons, List.not_mem_nil, or_false] at hx
    rcases hx with rfl
    · exact wT aC2 (xC hL)
  · exact hval j t v h1 h2

open Go.ChangeShapes Go.WideShapes Go.ChangeAt Go.RowKit in
set_option maxRecDepth 100000 in
theorem oZ (os : Os) (started : os.Started) (H : Type) (enc : TypeId × Value → H) :
    ReturnsInHanded {} Tryd.checked os 3 .any (fun w args => (Rows.policyRoundSpec.pre enc Tryd.prog Tryd.f3 [] false w args ∧ laidMetH Tryd.prog Rows.policyRoundRow.laid w) ∧ sizedMet enc Tryd.prog Tryd.f3 (OpenSpec.ofChange Rows.policyRoundSpec) false w args)
      (Rows.policyRoundSpec.post enc Tryd.prog Tryd.f3 false true false false) := by
  refine returnsInHanded_of_change_and (C := Tryd.checked) (X := fun w _ => laidMetH Tryd.prog Rows.policyRoundRow.laid w) (fun _ _ _ hh h => h.of_heap hh) own started (by kernel_rfl) Tryd.func3
    (ChangeSpec.witness_shaped (enc := enc) (C := Tryd.checked) (os := os) (X := fun w _ => laidMetH Tryd.prog Rows.policyRoundRow.laid w) false (World.laidAll Tryd.prog os Rows.policyRoundRow.laid) #[.slice none 0 0] 8 (World.laidAll_os _ _ _)
      (World.shaped_of_ZipB (by kernel_rfl) (by kernel_rfl)) (by kernel_rfl) (by kernel_rfl) (by kernel_rfl)
      (by rw [MakeChecks.laidMetH_plain _ _ _ (by kernel_rfl)]; exact laidMet_laidAll _ (by kernel_rfl) (by kernel_rfl))) ?_
  intro W base args ds gs before hval hW _ _ hL _
  exact nI H enc W args ds gs before hL (fun j t v h1 h2 => (hval j t v h1 h2)) hW

theorem tE : Rows.PolicyRoundSaid :=
  OpenClaim.holds_of_wide 3 Tryd.f3 rfl rfl rfl rfl rfl rfl rfl ⟨rfl, rfl, rfl, rfl, rfl⟩ rfl rfl rfl rfl rfl (by kernel_rfl) Tryd.func3 (by kernel_rfl)
    (of_decide_eq_true (by kernel_rfl)) (by unfold Func.isWrapper; first | (rw [if_pos (by decide +kernel)]; kernel_rfl) | (rw [if_neg (by decide +kernel)]; exact ⟨rfl, rfl⟩))
    (fun os started H enc _ => oZ os started H enc)

theorem policyRound_said : Rows.PolicyRoundCardSaid :=
  Claim7.holds_tied_plain_at .later [] [.data, .data, .data, .data, .pinned] true (true, "15be7892ca1104b8b28cd8daee4937f8eb40532bd8673a52f437445d00da4649") false tE (fun _ h => by cases h) (by kernel_rfl) (fun _ h => by cases h) policyRound_row_tie rfl ⟨rfl, rfl⟩ (by kernel_rfl) rfl
    (fun f fn hf hfn => by
      obtain rfl : f = 3 := Option.some.inj ((show Tryd.prog.funcNamed "admission/admissionlaw28.PolicyRound" = some 3 by kernel_rfl).symm.trans hf) |>.symm
      obtain rfl : fn = Tryd.f3 := (Option.some.inj (Tryd.func3.symm.trans hfn)).symm
      exact ⟨by kernel_rfl, fun j t ht => by
        rw [Tryd.params3] at ht
        have hm : t ∈ [22] := by simpa using Array.mem_of_getElem? ht
        have hall : ([22].all fun u => !Tryd.prog.wantsStandIn u) = true := by kernel_rfl
        exact (show Tryd.prog.wantsStandIn t = false by simpa using List.all_eq_true.1 hall t hm)⟩)
    (by kernel_rfl)
#print axioms policyRound_said
end Go.Proofs.YtlldglbooaefhaaDoor
