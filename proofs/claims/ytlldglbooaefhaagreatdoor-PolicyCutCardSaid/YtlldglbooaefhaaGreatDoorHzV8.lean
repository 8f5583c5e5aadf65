/- Part of a proof: walks of functions of the program, by contracts, and the rules they use. By an AI agent. -/
import Derived.Test.YtlldglbooaefhaaGreatDoorHzU1
import Derived.Test.YtlldglbooaefhaaGreatDoorPl28s
import Derived.Test.YtlldglbooaefhaaGreatDoorHzSb
import Derived.Test.YtlldglbooaefhaaGreatDoorHzTt
import Derived.Test.YtlldglbooaefhaaGreatDoorHzTn
import Derived.Test.YtlldglbooaefhaaGreatDoorHzUj
import Derived.Test.YtlldglbooaefhaaGreatDoorHlIt
import Derived.Test.YtlldglbooaefhaaGreatDoorHzTc
import Derived.Test.YtlldglbooaefhaaGreatDoorPl28f
import Derived.Test.YtlldglbooaefhaaGreatDoorHzV2
import Derived.Test.YtlldglbooaefhaaGreatDoorPl11u
set_option linter.unusedSimpArgs false
set_option linter.unusedVariables false
set_option linter.defProp false
namespace Go.Proofs.YtlldglbooaefhaaGreatDoor
open Go Go.Hl Go.Pl
set_option maxRecDepth 10000
set_option maxHeartbeats 16000000

theorem cC6 (b : aJ) : LsB (eD b) := fun l hl w hw => by
 have := (bY8 (b := b) l hl).2.2 w hw
 omega

theorem bJ8 (a b : aJ) : bQ Tryz.prog 64 [.slc (a.map cP), .slc (b.map cP)] (fun v => v = .bool (a == b)) := by
 refine FW Tryz.func64 ?_
 refine R0 ?_
 refine RS ?_
 have F := @bytesC_map
 refine AU ?_
 refine aF (RT Tryz.results64 ?_)
 exact aH [] (.bool (a == b)) rfl rfl


theorem bC4 (b : aJ) (hl : b.length < 2 ^ 40) : bC3 Tryz.prog 32 tabs [.slc (b.map u8)] (fun u v x => u = (dpO b).cv ∧ v = .int .i64 (dpL b : Nat) ∧ x = .int .i64 (dpE b)) := by
 refine bR (args := [.c (.slc (b.map u8))]) Tryz.func32 rfl (by kernel_rfl) (fO tabs [.slc (b.map u8)]) (Nat.le_of_ble_eq_true rfl) ?_
 unfold eP
 have hlen := bQ0 (b := b)
 refine R0 ?_
 refine aC fun K hK => Rg ?_
 have F := @denilL_u8
 refine SF ?_
 refine HS rfl rfl fun K' hK' => T6 ?_
 refine D1 (cH5 b hl) ?_
 rintro u v ⟨rfl, rfl⟩
 refine AX (hK' _ _ ?_)
 clear hK' K'
 iterate 5 refine SF ?_
 refine T2 (hK _ _ _ ?_)
 clear hK K
 refine aC fun K hK => ?_
 refine R0 ?_
 refine aG (b := !(eC b == 0)) rfl (fun hb => ?_) (fun hb => ?_)
 ·
  have he : eC b ≠ 0 := by simpa using hb
  have e1 : dpE b = eC b := by rw [dpE, if_pos he]
  have e2 : dpL b = 0 := by rw [dpL, if_pos he]
  have e3 : dpO b = po0 := by rw [dpO, e1, if_neg he]
  clear hb
  refine aC fun K hK => Rg ?_
  iterate 5 refine S0 ?_
  refine T2 (hK _ _ _ ?_)
  clear hK K
  refine aF (RT Tryz.results32 ?_)
  exact jB [] po0.cv (.int .i64 0) (.int .i64 (eC b)) (by simp [HV.close, HV.closeL, po0, Po.cv, CV.denil, CV.denilL, HV.norm, HV.toC, HV.toCL]) rfl (by simp) (by rw [e1, e2, e3]; exact ⟨rfl, rfl, rfl⟩)
 refine aK ?_
 refine T0 (hK _ _ _ ?_)
 clear hK K
 have he : eC b = 0 := by simpa using hb
 clear hb
 refine aC fun K hK => Rg ?_
 iterate 4 refine S0 ?_
 refine T2 (hK _ _ _ ?_)
 clear hK K
 refine aC fun K hK => Rg ?_
 refine S0 ?_
 refine HS rfl rfl fun K' hK' => T5 ?_
 refine eA (args := []) (bU6 (eD b) (by omega)) rfl (by simp) ⟨rfl, rfl, rfl, rfl⟩ ?_
 rintro u x v' ⟨q, rfl, rfl, rfl, hq⟩
 refine AX (hK' _ _ ?_)
 clear hK' K'
 iterate 5 refine S0 ?_
 refine T2 (hK _ _ _ ?_)
 clear hK K
 refine aC fun K hK => ?_
 refine R0 ?_
 refine aG (b := !(rdP (eD b)).1.isSome) rfl (fun hb => ?_) (fun hb => ?_)
 ·
  have hno : (rdP (eD b)).1 = none := by simpa using hb
  have e1 : dpE b = 2 := by rw [dpE, if_neg (by simpa using he), hno]
  have e2 : dpL b = (eD b).length - (rdP (eD b)).2.length := by
   rw [dpL, if_neg (by simpa using he)]
   match h : rdP (eD b) with
   | (none, r) => rfl
   | (some p, r) => rw [h] at hno; cases hno
  have e3 : dpO b = po0 := by rw [dpO, e1, if_neg (by decide)]
  clear hb
  refine aC fun K hK => DW [(0, [], []), (1, [], []), (2, [], []), (3, [], []), (4, [], []), (5, [], [1, 2, 3, 4]), (6, [], []), (7, [], [])] [0, 0, 2, 6, 14, 1, 63, 127] ?_
  iterate 8 refine W0 ?_ (e := fun _ h_ => by simp only [sH, ↓sP, sA, tyS, simprocAttr, rdr]; exact AX h_)
  refine T2 (hK _ _ _ ?_)
  clear hK K
  refine aF (RT Tryz.results32 ?_)
  exact jB [] po0.cv (.int .i64 ((eD b).length - (rdP (eD b)).2.length : Nat)) (.int .i64 2) (by simp [HV.close, HV.closeL, po0, Po.cv, CV.denil, CV.denilL, HV.norm, HV.toC, HV.toCL]) rfl (by simp) (by rw [e1, e2, e3]; exact ⟨rfl, rfl, rfl⟩)
 refine aK ?_
 refine T0 (hK _ _ _ ?_)
 clear hK K
 refine aC fun K hK => ?_
 obtain ⟨p, hp⟩ : ∃ p, (rdP (eD b)).1 = some p := by
  cases h : (rdP (eD b)).1 with
  | none => rw [h] at hb; simp at hb
  | some p => exact ⟨p, rfl⟩
 obtain rfl := hq p hp
 have hsz := cM7 (cC6 b) (by omega) hp
 have hr : rdP (eD b) = (some q, (rdP (eD b)).2) := Prod.ext hp rfl
 have hiff := cG3 he hr
 have e1 : dpE b = if eK q then 0 else 1 := by rw [dpE, if_neg (by simpa using he), hp]
 have e2 : dpL b = 0 := by rw [dpL, if_neg (by simpa using he), hr]
 clear hb
 refine aC fun K hK => Rg ?_
 refine S0 ?_
 refine HS rfl rfl fun K' hK' => T5 ?_
 refine uF (args := [_]) 0 (bC2 q hsz) rfl (by simp) ⟨rfl, rfl, rfl, rfl⟩ ?_
 rintro u v ⟨rfl, rfl⟩
 refine AX (hK' _ _ ?_)
 clear hK' K'
 iterate 5 refine S0 ?_
 refine T2 (hK _ _ _ ?_)
 clear hK K
 refine aC fun K hK => Rg ?_
 have F := aI @cM @denilL_u8
 iterate 3 refine SF ?_
 refine aE 40 rfl (fun h9_40 => ?_) (fun h9_40 => ?_)
 ·
  have F := aI @cM (aI @denilL_u8 h9_40)
  iterate 5 refine SF ?_
  refine T2 (hK _ _ _ ?_)
  clear hK K
  refine CT rfl ?_
  refine aC fun K hK => Rg ?_
  have F := h9_40
  iterate 4 refine SF ?_
  refine T2 (hK _ _ _ ?_)
  clear hK K
  refine aF (RT Tryz.results32 ?_)
  have hpo : eK q = false := by
   cases h : eK q with
   | false => rfl
   | true => exact absurd (hiff.2 h).1 (by simpa using h9_40)
  rw [hpo] at e1
  have e1 : dpE b = 1 := e1
  have e3 : dpO b = po0 := by rw [dpO, e1, if_neg (by decide)]
  exact jB [] po0.cv (.int .i64 0) (.int .i64 1) (by simp [HV.close, HV.closeL, po0, Po.cv, CV.denil, CV.denilL, HV.norm, HV.toC, HV.toCL]) rfl (by simp) (by rw [e1, e2, e3]; exact ⟨rfl, rfl, rfl⟩)
 have F := aI @cM (aI @denilL_u8 h9_40)
 iterate 2 refine SF ?_
 refine bM (g := some (41, false)) rfl rfl fun K' hK' => T6 ?_
 refine C2 (bJ8 (lA q) b) ?_
 rintro u rfl
 refine AX (hK' _ _ ?_)
 clear hK' K'
 iterate 2 refine SF ?_
 refine aE 44 rfl (fun h9_44 => ?_) (fun h9_44 => ?_)
 ·
  simp only [h9_44]
  refine T2 (hK _ _ _ ?_)
  clear hK K
  refine CF rfl ?_
  refine aK ?_
  refine T0 (hK _ _ _ ?_)
  clear hK K
  refine aC fun K hK => Rg ?_
  have F := aI h9_40 h9_44
  iterate 4 refine SF ?_
  refine T2 (hK _ _ _ ?_)
  clear hK K
  refine aF (RT Tryz.results32 ?_)
  have hpo : eK q = true := hiff.1 ⟨by simpa using h9_40, by simpa using h9_44⟩
  rw [hpo] at e1
  have e1 : dpE b = 0 := e1
  have e3 : dpO b = q := by rw [dpO, if_pos e1, hp]; rfl
  exact jB [] q.cv (.int .i64 0) (.int .i64 0) (by simp [HV.close, HV.closeL, Po.denil, CV.denil, CV.denilL, HV.norm, HV.toC, HV.toCL]) rfl (by simp) (by rw [e1, e2, e3]; exact ⟨rfl, rfl, rfl⟩)
 simp only [h9_44]
 refine T2 (hK _ _ _ ?_)
 clear hK K
 refine CT rfl ?_
 refine aC fun K hK => Rg ?_
 have F := aI h9_40 h9_44
 iterate 4 refine SF ?_
 refine T2 (hK _ _ _ ?_)
 clear hK K
 refine aF (RT Tryz.results32 ?_)
 have hpo : eK q = false := by
  cases h : eK q with
  | false => rfl
  | true => exact absurd (hiff.2 h).2 (by simpa using h9_44)
 rw [hpo] at e1
 have e1 : dpE b = 1 := e1
 have e3 : dpO b = po0 := by rw [dpO, e1, if_neg (by decide)]
 exact jB [] po0.cv (.int .i64 0) (.int .i64 1) (by simp [HV.close, HV.closeL, po0, Po.cv, CV.denil, CV.denilL, HV.norm, HV.toC, HV.toCL]) rfl (by simp) (by rw [e1, e2, e3]; exact ⟨rfl, rfl, rfl⟩)

end Go.Proofs.YtlldglbooaefhaaGreatDoor

namespace Go.Proofs.YtlldglbooaefhaaGreatDoor
open Go Go.Hl Go.Pl
set_option maxRecDepth 10000
set_option maxHeartbeats 16000000

theorem bJ9 (l : List Nd) (hl : l.length < 2 ^ 40) : aF3 Tryz.prog 76 [(22, .slc (l.map Nd.cv))] (bwL l) := by
 refine zV Tryz.func76 rfl (by kernel_rfl) (Nat.le_of_ble_eq_true rfl) rfl fun L J hS hY => ?_
 have e0 : kI [(22, CV.slc (l.map Nd.cv))] = fob [(0, .box 22 (.c (.slc (l.map Nd.cv))))] := by
  funext i
  match i with
  | 0 => rfl
  | i + 1 => simp [kI, fob, upd]
 have e1 : gX (List.range [((22 : Nat), CV.slc (l.map Nd.cv))].length) = [.ptr 0 0] := rfl
 rw [e0, e1]
 refine eY fun K hK => nO hS rfl (aM (by kernel_rfl) ?_)
 simp only [sR, simprocAttr]
 iterate 4 refine S0 ?_ (e := fun _ h_ => by simp only [sH, ↓sP, sA, tyS, simprocAttr, rI, cR ((l.length : Int) - 1) (by omega), List.length_map]; exact AX h_)
 simp only [sE, ↓reduceIte, simprocAttr, rI]
 refine hK _ _ _ _ _ ?_
 clear hK K
 refine oN ?_
 refine aM6 (α := {j : Nat // j ≤ l.length}) hS (fun j => (fin [(0, .opq (.func (.yield L) #[] #[])), (1, .ptr 0 0), (3, .c (.int .i64 ((l.length : Int) - 1 - j.1)))], fob [(0, .box 22 (.c (.slc (l.map Nd.cv))))])) (fun j => j.1) 100 (fun j => l.length - j.1) ⟨0, Nat.zero_le _⟩ rfl (fF) rfl ?_
 rintro ⟨j, hj⟩
 refine eY fun K hK => ?_
 refine eY fun K1 hK1 => nO hS rfl (aM (by kernel_rfl) ?_)
 simp only [sR, simprocAttr]
 have F := rI
 refine AU ?_
 simp only [sE, ↓reduceIte, simprocAttr, rI]
 refine hK1 _ _ _ _ _ ?_
 clear hK1 K1
 refine jY (b := decide ((0 : Int) ≤ (l.length : Int) - 1 - j)) rfl (fun hb => ?_) (fun hb => ?_)
 ·
  have hlt : j < l.length := by simp at hb; omega
  have hi2 : l.length - 1 - j < l.length := by omega
  have hxl : j < (bwL l).length := by rw [rQ]; exact hlt
  have hx := bS3 hxl hi2
  have hcast : (l.length : Int) - 1 - j = ((l.length - 1 - j : Nat) : Int) := by omega
  have hw1 : IntKind.i64.wrap (((l.length - 1 - j : Nat) : Int) - 1) = (l.length : Int) - 1 - ((j : Int) + 1) := by rw [cR _ (by omega)]; omega
  refine nP ?_
  simp only [sE, ↓reduceIte, simprocAttr, rI]
  refine hK _ _ _ _ _ ?_
  clear hK K
  refine eY fun K hK => ?_
  refine oN ?_
  refine eY fun K1 hK1 => sY (l := L) 6 hS hY rfl (by kernel_rfl) (by decide) ?_
  simp only [sR, List.range', simprocAttr]
  have F := aI rI (aI hcast (aI @List.length_map.{0,0} (aI @Int.natCast_nonneg (aI @Int.ofNat_lt (aI hi2 (nM hi2))))))
  refine AU ?_
  rw [hlex]
  refine ⟨_, _, _, hxl, rfl, rfl, rfl, rfl, rfl, ?_, ?_, ?_⟩
  ·
   rw [hx]; simp only [hcast]; rfl
  ·
   simp only [sR, List.range', simprocAttr]
   have F := rI
   refine SF ?_
   simp only [sE, ↓reduceIte, simprocAttr, rI]
   refine hK1 _ _ _ _ _ ?_
   clear hK1 K1
   refine jY (b := false) rfl (fun hb => by cases hb) (fun _ => ?_)
   refine nP ?_
   simp only [sE, ↓reduceIte, simprocAttr, rI]
   refine hK _ _ _ _ _ ?_
   clear hK K
   refine nO hS rfl (aM (by kernel_rfl) ?_)
   simp only [sR, simprocAttr]
   have F := aI rI (aI hcast hw1)
   refine AU ?_
   simp only [sE, ↓reduceIte, simprocAttr, rI]
   refine ⟨⟨j + 1, hlt⟩, fF, trivial, rfl, ?_⟩
   show l.length - (j + 1) < l.length - j
   omega
  simp only [sR, List.range', simprocAttr]
  have F := rI
  refine SF ?_
  simp only [sE, ↓reduceIte, simprocAttr, rI]
  refine hK1 _ _ _ _ _ ?_
  clear hK1 K1
  refine jY (b := true) rfl (fun _ => ?_) (fun hb => by cases hb)
  refine aY8 ?_
  simp only [sE, ↓reduceIte, simprocAttr, rI]
  exact ⟨by simp, fun h => by cases h⟩
 have hji : j = l.length := by simp at hb; omega
 refine aM5 ?_
 simp only [sE, ↓reduceIte, simprocAttr, rI]
 exact ⟨by simp, fun _ => by rw [rQ]; exact hji⟩
end Go.Proofs.YtlldglbooaefhaaGreatDoor

namespace Go.Proofs.YtlldglbooaefhaaGreatDoor
open Go Go.Hl Go.Pl
set_option maxRecDepth 10000
set_option maxHeartbeats 16000000

theorem cC7 (l : List Nd) : aY9 Tryz.prog 46 76 [.slc (l.map Nd.cv)] [(22, .slc (l.map Nd.cv))] := by
 refine FW Tryz.func46 ?_
 refine AU ?_
 refine aF (RT Tryz.results46 ?_)
 refine tA (gf := 76) (bs := [(22, .slc (l.map Nd.cv))]) (ids := [0]) rfl (by simp) (by decide) ?_ ?_
 ·
  intro j x hx
  match j, hx with
  | 0, hx => cases hx; rfl
 intro x hx
 simp only [List.mem_cons, List.not_mem_nil, or_false] at hx
 subst hx
 exact congrArg CV.slc (denilL_Nd l)


theorem aQ7 (n : Nd) (L : List Bool) (lo m : Nat) (hl : L.length < 2 ^ 40) (h0 : 0 < L.length) (hlo : lo ≤ m) (hm : m ≤ L.length) :
  HGe Tryz.prog 47 [.c n.cv, .osl 0 L.length lo 1 m] [.row 4 1 (L.map bC)] (fun r os' => r = .c (.bool (lM n ((L.drop lo).take (m - lo)))) ∧ os' = [.row 4 1 (L.map bC)]) := by
 obtain ⟨V, hV⟩ : ∃ V, V = (L.drop lo).take (m - lo) := ⟨_, rfl⟩
 have hVl : V.length = m - lo := by rw [hV]; simp; omega
 rw [← hV]
 have hrd : List.take (m - lo) (List.drop lo (L.map bC)) = V.map bC := by rw [hV, List.map_take, List.map_drop]
 refine bR (args := [.c n.cv, .osl 0 L.length lo 1 m]) Tryz.func47 rfl (by kernel_rfl) (fX rfl (by simp [eO, HO.men]) (by simp [HV.menL, HV.men])) (Nat.le_of_ble_eq_true rfl) ?_
 have e0 : lst [.row 4 1 (L.map bC)] = fob [(0, .row 4 1 (L.map bC))] := by
  funext i
  match i with
  | 0 => rfl
  | i + 1 => simp [lst, fob, upd]
 show Hw _ _ 1 _ _ _ (lst _) 1
 rw [e0]
 refine R0 ?_
 refine R0 ?_
 refine aC fun K hK => ?_
 refine R0 ?_ (e := fun _ h_ => by simp only [↓sP, sA, tyS, simprocAttr, hrd, List.length_map, h0, hlo, hm]; exact AX h_)
 refine aL ?_
 refine bE (α := {i : Nat // i ≤ V.length}) (fun i => (fin [(1, .osl 0 L.length lo 1 m), (2, .ptr 1 0), (5, .c (.int .i64 (cnt (V.take i.1) : Nat))), (8, .osl 0 L.length lo 1 m), (9, .c (.int .i64 V.length)), (10, .c (.int .i64 i.1))], fob [(0, .row 4 1 (L.map bC)), (1, .box 40 (.c n.cv))])) 100 (fun i => V.length - i.1) ⟨0, by omega⟩ (aN (by omega) (by simp [aW, fin_at, finA_at, upd_at, HV.men, HV.menL, HV.norm, HV.toC, HV.toCL, cnt]) (by simp [aY, fob_at, upd_at, none0_at, bX, HO.men, HV.men, HV.menL, HV.norm, HV.toC, HV.toCL, cnt])) ?_
 rintro ⟨i, hi⟩
 have hcn : cnt (V.take i) ≤ i := by have := cG1 (V.take i); simp at this; omega
 refine R0 ?_
 refine aC fun K hK => ?_
 refine aG (b := decide ((i : Int) < V.length)) rfl (fun hb => ?_) (fun hb => ?_)
 ·
  have hlt : i < V.length := by simpa using hb
  have hct := pF (l := V) (k := i) hlt
  have hw3 : IntKind.i64.wrap ((cnt (V.take i) : Int) + 1) = ((cnt (V.take i) + 1 : Nat) : Int) := by rw [cR _ (by omega)]; rfl
  have hli : lo + i < L.length := by omega
  have hvi : L[lo + i] = V[i] := by simp [hV]
  have hli2 : lo + i < (L.map bC).length := by simpa using hli
  have hml : i < m - lo := by omega
  clear hb
  refine aK ?_
  refine T0 (hK _ _ _ ?_)
  clear hK K
  refine aC fun K hK => ?_
  refine aL ?_
  refine R0 ?_ (e := fun _ h_ => by simp only [↓sP, sA, tyS, simprocAttr, List.length_map, Int.natCast_nonneg, Int.ofNat_lt, h0, hm, hml, hli, bK hli, bC]; exact AX h_)
  refine R0 ?_
  refine aG (b := L[lo + i]) rfl (fun hb => ?_) (fun hb => ?_)
  ·
   rw [hvi] at hb
   rw [if_pos (by simpa [hlt] using hb)] at hct
   refine aM (by kernel_rfl) ?_
   refine TQ hw3 ?_
   refine AX (hK _ _ _ ?_)
   clear hK K
   refine aM (by kernel_rfl) ?_
   simp only [↓sP, sA, tyS, simprocAttr, cR ((i : Int) + 1) (by omega)]
   refine ⟨⟨i + 1, hlt⟩, aN (by omega) (by simp [aW, fin_at, finA_at, upd_at, HV.men, HV.menL, HV.norm, HV.toC, HV.toCL, hct]) (by simp [aY, fob_at, upd_at, none0_at, bX, HO.men, HV.men, HV.menL, HV.norm, HV.toC, HV.toCL, hct]), ?_⟩
   show V.length - (i + 1) < V.length - i
   omega
  rw [hvi] at hb
  rw [if_neg (by simp [hlt, hb])] at hct
  refine aK ?_
  refine T0 (hK _ _ _ ?_)
  clear hK K
  refine aM (by kernel_rfl) ?_
  simp only [↓sP, sA, tyS, simprocAttr, cR ((i : Int) + 1) (by omega)]
  refine ⟨⟨i + 1, hlt⟩, aN (by omega) (by simp [aW, fin_at, finA_at, upd_at, HV.men, HV.menL, HV.norm, HV.toC, HV.toCL, hct]) (by simp [aY, fob_at, upd_at, none0_at, bX, HO.men, HV.men, HV.menL, HV.norm, HV.toC, HV.toCL, hct]), ?_⟩
  show V.length - (i + 1) < V.length - i
  omega
 refine bA (T3 ?_)
 clear hK K
 refine AX (hK _ _ _ ?_)
 clear hK K
 refine aC fun K hK => ?_
 have hei : i = V.length := by simp only [decide_eq_false_iff_not] at hb; omega
 subst hei
 rw [List.take_length] at hcn ⊢
 clear hb
 refine R0 ?_
 refine aL ?_
 refine R0 ?_
 refine aG (b := (n.k == 2)) rfl (fun hb => ?_) (fun hb => ?_)
 ·
  refine RS ?_
  iterate 5 refine S0 ?_ (e := fun _ h_ => by simp only [sH, ↓sP, sA, tyS, simprocAttr, hrd, List.length_map, h0, hlo, hm]; exact AX h_)
  refine RE ?_
  refine aF (RT Tryz.results47 ?_)
  have h2 : n.k = 2 := by simpa using hb
  exact eE [] [] (.c (.bool ((cnt V : Int) == V.length))) [.row 4 1 (L.map bC)] rfl (by simp [HV.men]) ⟨⟨trivial, by simp, _, rfl, rfl⟩, trivial⟩ rfl List.nodup_nil (by simp) (by simp) ⟨by rw [lM, if_pos h2]; congr 2; rw [Bool.eq_iff_iff]; simp; omega, rfl⟩
 have h2 : n.k ≠ 2 := by simpa using hb
 refine R0 ?_
 refine aG (b := (n.k == 3)) rfl (fun hb => ?_) (fun hb => ?_)
 ·
  refine R0 ?_
  refine aF (RT Tryz.results47 ?_)
  have h3 : n.k = 3 := by simpa using hb
  exact eE [] [] (.c (.bool (decide ((1 : Int) ≤ cnt V)))) [.row 4 1 (L.map bC)] rfl (by simp [HV.men]) ⟨⟨trivial, by simp, _, rfl, rfl⟩, trivial⟩ rfl List.nodup_nil (by simp) (by simp) ⟨by rw [lM, if_neg h2, if_pos h3]; congr 2; rw [Bool.eq_iff_iff]; simp; omega, rfl⟩
 refine aK ?_
 refine T0 (hK _ _ _ ?_)
 clear hK K
 refine AU ?_
 refine aF (RT Tryz.results47 ?_)
 have h3 : n.k ≠ 3 := by simpa using hb
 exact eE [] [] (.c (.bool (decide (n.n ≤ cnt V)))) [.row 4 1 (L.map bC)] rfl (by simp [HV.men]) ⟨⟨trivial, by simp, _, rfl, rfl⟩, trivial⟩ rfl List.nodup_nil (by simp) (by simp) ⟨by rw [lM, if_neg h2, if_neg h3], rfl⟩

end Go.Proofs.YtlldglbooaefhaaGreatDoor

namespace Go.Pl
open Go Go.Hl

def lW (w : List Bool) (m : Nat) (b : Bool) : List Bool := w.take m ++ [b] ++ w.drop (m + 1)
theorem lX {w : List Bool} {m : Nat} {b : Bool} (h : m + 1 ≤ w.length) : (lW w m b).length = w.length := by simp [lW]; omega
theorem aC4 {w : List Bool} {b : Bool} : lW w w.length b = w ++ [b] := by simp [lW]
theorem aC5 {w : List Bool} {m : Nat} {b : Bool} (h : m ≤ w.length) : (lW w m b).take (m + 1) = w.take m ++ [b] := by grind [lW, List.take_of_length_le]
def aW2 (l : List Nd) (tr : List Bool) (p : Nat) (s : List Bool × Nat) : List Bool × Nat :=
 if (l.getD p nd0).k = 1 then (lW s.1 s.2 (tr.getD (lv (l.take p)) false), s.2 + 1)
 else (lW s.1 (s.2 - (l.getD p nd0).c.toNat) (lM (l.getD p nd0) ((s.1.drop (s.2 - (l.getD p nd0).c.toNat)).take (l.getD p nd0).c.toNat)), s.2 - (l.getD p nd0).c.toNat + 1)
def cA (l : List Nd) (tr : List Bool) : Nat → List Bool × Nat
 | 0 => ([], 0)
 | i + 1 => aW2 l tr (l.length - 1 - i) (cA l tr i)
structure EvOk (l : List Nd) (tr : List Bool) (i : Nat) : Prop where
 le : i ≤ l.length
 m : (cA l tr i).2 = (evS (lv l) tr (l.drop (l.length - i))).length
 row : (cA l tr i).1.take (cA l tr i).2 = (evS (lv l) tr (l.drop (l.length - i))).reverse
 fit : (cA l tr i).2 ≤ (cA l tr i).1.length
 small : (cA l tr i).1.length ≤ i
theorem EvOk.zero (l : List Nd) (tr : List Bool) : EvOk l tr 0 := ⟨by omega, by simp [cA, evS], by simp [cA, evS], by simp [cA], by simp [cA]⟩
theorem yP (n : Nd) (l : List Bool) : lM n l.reverse = lM n l := by simp only [lM, aN4, List.length_reverse]
theorem bV2 {E : List Bool} {c : Nat} : E.reverse.take (E.length - c) = (E.drop c).reverse := by rw [List.reverse_drop]
theorem bV3 {E : List Bool} {c : Nat} (h : c ≤ E.length) : E.reverse.drop (E.length - c) = (E.take c).reverse := by rw [List.reverse_take]
theorem EvOk.at_ {l : List Nd} {tr : List Bool} {i : Nat} (hi : i < l.length) : l.drop (l.length - (i + 1)) = l[l.length - 1 - i]'(by omega) :: l.drop (l.length - i) := by grind [List.drop_eq_getElem_cons]
theorem EvOk.leaf {l : List Nd} {tr : List Bool} {i : Nat} (h : EvOk l tr i) (hi : i < l.length) (hk : (l[l.length - 1 - i]'(by omega)).k = 1) :
  EvOk l tr (i + 1) ∧ cA l tr (i + 1) = (lW (cA l tr i).1 (cA l tr i).2 (tr.getD (lv (l.take (l.length - 1 - i))) false), (cA l tr i).2 + 1) := by
 have hp : l.length - 1 - i < l.length := by omega
 have hg : l.getD (l.length - 1 - i) nd0 = l[l.length - 1 - i] := by simp [hp]
 have e : cA l tr (i + 1) = (lW (cA l tr i).1 (cA l tr i).2 (tr.getD (lv (l.take (l.length - 1 - i))) false), (cA l tr i).2 + 1) := by
  simp only [cA, aW2, hg, if_pos hk]
 have hT := aF6 l (l.length - 1 - i)
 have hd := EvOk.at_ (tr := tr) hi
 rw [show l.length - (i + 1) = l.length - 1 - i from by omega] at hd
 have hE : evS (lv l) tr (l.drop (l.length - (i + 1))) = tr.getD (lv (l.take (l.length - 1 - i))) false :: evS (lv l) tr (l.drop (l.length - i)) := by
  rw [show l.length - (i + 1) = l.length - 1 - i from by omega, hd, evS, if_pos hk, ← hd]
  congr 2; omega
 refine ⟨⟨hi, ?_, ?_, ?_, ?_⟩, e⟩
 ·
  rw [e, hE]; simp [h.m]
 ·
  rw [e, hE]; simp only [List.reverse_cons]; rw [aC5 h.fit, h.row]
 ·
  rw [e]; have := h.fit; simp [lW]; omega
 ·
  rw [e]; have := h.fit; have := h.small; simp [lW]; omega
theorem EvOk.inner {l : List Nd} (ht : IsTree l) {tr : List Bool} {i : Nat} (h : EvOk l tr i) (hi : i < l.length) (hk : (l[l.length - 1 - i]'(by omega)).k ≠ 1) :
  (l[l.length - 1 - i]'(by omega)).c.toNat ≤ (cA l tr i).2 ∧ EvOk l tr (i + 1) ∧
  cA l tr (i + 1) = (lW (cA l tr i).1 ((cA l tr i).2 - (l[l.length - 1 - i]'(by omega)).c.toNat) (lM (l[l.length - 1 - i]'(by omega)) (((cA l tr i).1.drop ((cA l tr i).2 - (l[l.length - 1 - i]'(by omega)).c.toNat)).take (l[l.length - 1 - i]'(by omega)).c.toNat)), (cA l tr i).2 - (l[l.length - 1 - i]'(by omega)).c.toNat + 1) := by
 have hp : l.length - 1 - i < l.length := by omega
 have hg : l.getD (l.length - 1 - i) nd0 = l[l.length - 1 - i] := by simp [hp]
 have e : cA l tr (i + 1) = (lW (cA l tr i).1 ((cA l tr i).2 - (l[l.length - 1 - i]'(by omega)).c.toNat) (lM (l[l.length - 1 - i]'(by omega)) (((cA l tr i).1.drop ((cA l tr i).2 - (l[l.length - 1 - i]'(by omega)).c.toNat)).take (l[l.length - 1 - i]'(by omega)).c.toNat)), (cA l tr i).2 - (l[l.length - 1 - i]'(by omega)).c.toNat + 1) := by
  simp only [cA, aW2, hg, if_neg hk]
 have hkl := bO5 ht (tr := tr) hp
 rw [show l.length - 1 - i + 1 = l.length - i from by omega] at hkl
 obtain ⟨_, _, _, c4⟩ := dG (ht.node _ (List.getElem_mem hp))
 have c5 := c4 hk
 have c6 : 1 ≤ l[l.length - 1 - i].c.toNat := by omega
 have hd := EvOk.at_ (tr := tr) hi
 have hm := h.m
 have hr := h.row
 have hf := h.fit
 have hs := h.small
 have hE : evS (lv l) tr (l.drop (l.length - (i + 1))) = lM l[l.length - 1 - i] ((evS (lv l) tr (l.drop (l.length - i))).take l[l.length - 1 - i].c.toNat) :: (evS (lv l) tr (l.drop (l.length - i))).drop l[l.length - 1 - i].c.toNat := by
  rw [hd, evS, if_neg hk]
 generalize evS (lv l) tr (l.drop (l.length - i)) = E at hm hr hkl hE
 generalize l[l.length - 1 - i].c.toNat = c at *
 have h1 : (cA l tr i).1.take ((cA l tr i).2 - c) = (E.drop c).reverse := by
  rw [← bV2, ← hr, List.take_take, hm, Nat.min_eq_left (by omega)]
 have h2 : ((cA l tr i).1.drop ((cA l tr i).2 - c)).take c = (E.take c).reverse := by
  rw [← bV3 hkl, ← hr, List.drop_take, hm]
  congr 1; omega
 refine ⟨by omega, ⟨hi, ?_, ?_, ?_, ?_⟩, e⟩
 ·
  rw [e, hE]; simp only [List.length_cons, List.length_drop]; omega
 ·
  rw [e, hE]
  simp only [List.reverse_cons]
  rw [aC5 (by omega), h1, h2, yP]
 ·
  rw [e]; simp only; rw [lX (by omega)]; omega
 ·
  rw [e]; simp only; rw [lX (by omega)]; omega
theorem EvOk.fin {l : List Nd} (ht : IsTree l) {tr : List Bool} (h : EvOk l tr l.length) : (cA l tr l.length).2 = 1 ∧ ∃ h0 : 0 < (cA l tr l.length).1.length, xC l tr = (cA l tr l.length).1[0] := by
 have hl := aF5 (T := lv l) (tr := tr) l 1 ht.node ht.skip
 have hm := h.m
 have hr := h.row
 have hf := h.fit
 rw [Nat.sub_self, List.drop_zero] at hm hr
 rw [hl] at hm
 have h0 : 0 < (cA l tr l.length).1.length := by omega
 refine ⟨hm, h0, ?_⟩
 have ht' := aO2 ht
 obtain ⟨x, hx⟩ : ∃ x, evS (lv l) tr l = [x] := by
  match hE : evS (lv l) tr l, hl with
  | [x], _ => exact ⟨x, rfl⟩
 rw [hx, hm] at hr
 rw [xC, ht', hx]
 have : (cA l tr l.length).1[0] = x := by
  have := congrArg (·.head?) hr
  simpa [List.head?_take, List.head?_eq_getElem?, h0] using this
 rw [this]; rfl
end Go.Pl

namespace Go.Proofs.YtlldglbooaefhaaGreatDoor
open Go Go.Hl Go.Pl
set_option maxRecDepth 10000
set_option maxHeartbeats 16000000

theorem cD (id n sz m : Nat) : (iV id n sz m).sto = true := by unfold iV; split <;> rfl
theorem bP (id n sz m : Nat) : (iV id n sz m).cells = 1 := by unfold iV; split <;> rfl
theorem bU (id n sz m : Nat) : (iV id n sz m).toC = none := by unfold iV; split <;> rfl
theorem dA (id n sz : Nat) : iV id n sz n = .own id n := by unfold iV; rw [if_pos rfl]
theorem cS {id n sz m : Nat} (h : m ≠ n) : iV id n sz m = .osl id n 0 sz m := by unfold iV; rw [if_neg h]
theorem oV {M : Nat → Prop} {id n sz m : Nat} (h : M id) : (iV id n sz m).men M := by unfold iV; split <;> exact h

theorem bC5 (l : List Nd) (hn : ∀ n ∈ l, n.q.t.length < 2 ^ 63) (tr : List Bool) (htr : tr.length < 2 ^ 63) : bQ Tryz.prog 20 [.slc (l.map Nd.cv), .slc (tr.map bC)] (fun v => v = .bool (xC l tr)) := by
 refine FW Tryz.func20 ?_
 have F := rI
 refine AU ?_
 refine SCF (aB6 l hn) ?_
 iterate 3 refine SF ?_
 refine RE ?_
 refine aC fun K hK => ?_
 refine RF ?_
 refine aG (b := (((jJ l).length : Int) == 0)) rfl (fun hb => ?_) (fun hb => ?_)
 ·
  refine RF ?_
  refine aF ?_
  simp only [gU, Tryz.results20, fV, gT, fD, ↓sP, sA, tyS, simprocAttr, rI]
  have hlv : jJ l = [] := by simpa using hb
  have htf : dH l = false := by
   cases h : dH l with
   | false => rfl
   | true =>
    have h1 := aN3 (lG h)
    rw [pW h] at hlv
    have h2 := lL l 0
    rw [hlv] at h2
    simp at h2; omega
  exact aH [] (.bool false) rfl (by rw [xC, htf]; rfl)
 have htt : dH l = true := by
  cases h : dH l with
  | true => rfl
  | false => rw [uK h] at hb; simp at hb
 have ht := lG htt
 have hl := ht.len
 have hlen : (jJ l).length = lv l := by rw [pW htt, lL]
 rw [hlen]
 clear hb
 refine aK ?_
 refine TQ rI ?_
 refine AX (hK _ _ _ ?_)
 clear hK K
 refine RF ?_
 refine aC fun K hK => ?_
 refine aC fun K hK => Rg ?_
 refine S0 ?_ (e := fun _ h_ => by simp only [sH, ↓sP, sA, tyS, simprocAttr, rI, denilL_Nd, mP, gX, List.range', List.map_cons, List.map_nil]; exact AX h_)
 refine HS rfl rfl fun K' hK' => ?_
 simp only [sH, ↓sP, sA, tyS, simprocAttr, rI, denilL_Nd, mP, gX, List.range', List.map_cons, List.map_nil]
 refine sZ (args := [_]) (cC7 l) (by simp) ⟨rfl, rfl, rfl, rfl⟩ ?_
 refine AX (hK' _ _ ?_)
 clear hK' K'
 simp only [sE, ↓reduceIte, simprocAttr, rI]
 refine AX (hK _ _ _ ?_)
 clear hK K
 refine aL ?_
 refine aE3 36 0 4 1 rfl rfl rfl rfl ?_
 refine zU (ids := [44]) (fin [(3, .ptr 0 0), (5, .ptr 20 0), (6, .ptr 36 0)]) (fun i => fob [(0, .box 24 (.c (.slc (tr.map bC)))), (20, .box 3 (.c (.int .i64 (lv (l.take (l.length - i)) : Nat)))), (36, .box 24 (iV 48 (cA l tr i).1.length 1 (cA l tr i).2)), (48, .row 4 1 ((cA l tr i).1.map bC))]) 20000 (fun i => EvOk l tr i) (EvOk.zero l tr) (bJ9 l (by omega)) rfl rfl (by decide) ?_ ?_ ?_ ?_ ?_ rfl rfl ?_ ?_
 ·
  intro j x hx
  match j, hx with
  | 0, hx => cases hx; rfl
 ·
  exact aN (by omega) (by simp [aW, fin_at, finA_at, upd_at, HV.men, HV.menL, HV.norm, HV.toC, HV.toCL, mP, cA, dA, List.take_length]) (by simp [aY, fob_at, upd_at, none0_at, bX, HO.men, HV.men, HV.menL, HV.norm, HV.toC, HV.toCL, mP, cA, dA, List.take_length])
 ·
  intro id hid
  simp only [List.mem_cons, List.not_mem_nil, or_false] at hid
  subst hid; rfl
 ·
  intro x hx
  obtain ⟨p, _, rfl⟩ := List.mem_map.1 hx
  rfl
 ·
  intro p hp
  simp only [List.mem_cons, List.not_mem_nil, or_false] at hp
  rcases hp with rfl | rfl <;> exact Nat.le_of_ble_eq_true rfl
 ·
  intro i hi hΦ K hK
  have hi2 : i < l.length := by rw [← rQ l]; exact hi
  have hp : l.length - 1 - i < l.length := by omega
  rw [bS3 hi hp]
  simp only [wT]
  obtain ⟨w, hw⟩ : ∃ w, w = (cA l tr i).1 := ⟨_, rfl⟩
  obtain ⟨m, hm⟩ : ∃ m, m = (cA l tr i).2 := ⟨_, rfl⟩
  have hfit := hΦ.fit
  have hsmall := hΦ.small
  rw [← hw, ← hm] at hfit
  rw [← hw] at hsmall
  rw [← hw, ← hm]
  refine aM (by kernel_rfl) ?_
  refine TQ rI ?_
  refine AX (hK _ _ _ ?_)
  clear hK K
  refine aL ?_
  refine aC fun K hK => ?_
  refine RF ?_
  refine aG (b := (l[l.length - 1 - i].k == 1)) rfl (fun hb => ?_) (fun hb => ?_)
  ·
   have hk1 : l[l.length - 1 - i].k = 1 := by simpa using hb
   obtain ⟨hok, hst⟩ := hΦ.leaf hi2 hk1
   rw [← hw, ← hm] at hst
   have hlv := bA7 hp
   rw [if_pos hk1, show l.length - 1 - i + 1 = l.length - i from by omega] at hlv
   have hlb := aV0 l (l.length - 1 - i)
   have hw1 : IntKind.i64.wrap ((lv (l.take (l.length - i)) : Int) - 1) = ((lv (l.take (l.length - 1 - i)) : Nat) : Int) := by rw [hlv, cR _ (by omega)]; omega
   obtain ⟨x, hx⟩ : ∃ x, x = lv (l.take (l.length - 1 - i)) := ⟨_, rfl⟩
   have hxl : l.length - (i + 1) = l.length - 1 - i := by omega
   rw [← hx] at hw1 hst
   clear hb
   have F := aI rI hw1
   refine RF ?_
   by_cases hlt : x < tr.length
   ·
    by_cases hmw : m = w.length
    ·
     subst hmw
     have hg : tr.getD x false = tr[x] := by simp [hlt]
     refine aC fun K hK => eF mixed [(0, [], []), (1, [], []), (2, [], []), (3, [], []), (4, [], []), (5, [], []), (6, [], []), (7, [], []), (8, [], []), (9, [], []), (10, [], []), (11, [], []), (12, [], []), (13, [], [])] [0, 0, 0, 4, 14, 30, 62, 62, 254, 510, 1022, 2046, 4095, 8191] (by kernel_rfl) (by kernel_rfl) (by kernel_rfl) (by kernel_rfl) rfl (by kernel_rfl) ?_
     iterate 14 refine WG0 ?_ (e := fun _ h_ => by simp only [sH, ↓sP, sA, tyS, simprocAttr, rI, Int.natCast_nonneg, Int.ofNat_lt, hlt, bK hlt, bC, dA, cD, bP, bU]; exact AX h_)
     simp only [sE, ↓reduceIte, simprocAttr, rI]
     refine AX (hK _ _ _ ?_)
     clear hK K
     refine bA ?_
     refine TQ rI ?_
     clear hK K
     rw [hg, aC4] at hst
     refine ⟨(show Fits 20000 _ _ (fin []) _ 20000 from aN (by omega) trivial ?_), hok⟩
     rw [hst, hxl, ← hx]
     simp [aY, fob_at, upd_at, none0_at, bX, HO.men, HV.men, HV.menL, HV.norm, HV.toC, HV.toCL, dA, bC]
    have hg : tr.getD x false = tr[x] := by simp [hlt]
    have hmw2 : m + 1 ≤ w.length := by omega
    have hw0 : 0 < w.length := by omega
    have hrow : (lW w m tr[x]).map bC = (w.map bC).take m ++ [.bool tr[x]] ++ (w.map bC).drop (m + 1) := by simp [lW, List.map_take, List.map_drop, bC]
    refine aC fun K hK => eF mixed [(0, [], []), (1, [], []), (2, [], []), (3, [], []), (4, [], []), (5, [], []), (6, [], []), (7, [], []), (8, [], []), (9, [], []), (10, [], []), (11, [], []), (12, [], []), (13, [], [])] [0, 0, 0, 4, 14, 30, 62, 62, 254, 510, 1022, 2046, 4095, 8191] (by kernel_rfl) (by kernel_rfl) (by kernel_rfl) (by kernel_rfl) rfl (by kernel_rfl) ?_
    iterate 12 refine WG0 ?_ (e := fun _ h_ => by simp only [sH, ↓sP, sA, tyS, simprocAttr, rI, Int.natCast_nonneg, Int.ofNat_lt, hlt, bK hlt, bC, cS hmw, cD, bP, bU, hw0, hmw2]; exact AX h_)
    refine eT (g := none) rfl rfl fun K' hK' => ?_
    simp only [sN, ↓hopH.eq_def, sH, ↓sP, sA, tyS, simprocAttr, rI, Int.natCast_nonneg, Int.ofNat_lt, hlt, bK hlt, bC, cS hmw, cD, bP, bU, hw0, hmw2]
    refine AX (hK' _ _ ?_)
    clear hK' K'
    refine WG0 ?_ (e := fun _ h_ => by simp only [sH, ↓sP, sA, tyS, simprocAttr, rI, Int.natCast_nonneg, Int.ofNat_lt, hlt, bK hlt, bC, cS hmw, cD, bP, bU, hw0, hmw2]; exact AX h_)
    simp only [sE, ↓reduceIte, simprocAttr, rI]
    refine AX (hK _ _ _ ?_)
    clear hK K
    refine bA ?_
    refine TQ rI ?_
    clear hK K
    rw [hg] at hst
    refine ⟨(show Fits 20000 _ _ (fin []) _ 20000 from aN (by omega) trivial ?_), hok⟩
    rw [hst, hxl, ← hx]
    simp [aY, fob_at, upd_at, none0_at, bX, HO.men, HV.men, HV.menL, HV.norm, HV.toC, HV.toCL, lX hmw2, hrow, oV, bU]
   by_cases hmw : m = w.length
   ·
    subst hmw
    have hg : tr.getD x false = false := by simp [List.getD_eq_getElem?_getD, List.getElem?_eq_none (Nat.le_of_not_lt hlt)]
    have hlt' : decide ((x : Int) < tr.length) = false := by simp; omega
    refine aC fun K hK => eF mixed [(0, [], []), (1, [], []), (2, [], []), (3, [], []), (4, [], []), (5, [], []), (6, [], []), (7, [], []), (8, [], []), (9, [], []), (10, [], []), (11, [], []), (12, [], []), (13, [], [])] [0, 0, 0, 4, 14, 30, 62, 62, 254, 510, 1022, 2046, 4095, 8191] (by kernel_rfl) (by kernel_rfl) (by kernel_rfl) (by kernel_rfl) rfl (by kernel_rfl) ?_
    have F := aI rI (aI hlt' (aI @dA (aI @cD (aI @bP @bU))))
    iterate 14 refine WGF ?_
    simp only [sE, ↓reduceIte, simprocAttr, rI]
    refine AX (hK _ _ _ ?_)
    clear hK K
    refine bA ?_
    refine TQ rI ?_
    clear hK K
    rw [hg, aC4] at hst
    refine ⟨(show Fits 20000 _ _ (fin []) _ 20000 from aN (by omega) trivial ?_), hok⟩
    rw [hst, hxl, ← hx]
    simp [aY, fob_at, upd_at, none0_at, bX, HO.men, HV.men, HV.menL, HV.norm, HV.toC, HV.toCL, dA, bC]
   have hg : tr.getD x false = false := by simp [List.getD_eq_getElem?_getD, List.getElem?_eq_none (Nat.le_of_not_lt hlt)]
   have hlt' : decide ((x : Int) < tr.length) = false := by simp; omega
   have hmw2 : m + 1 ≤ w.length := by omega
   have hw0 : 0 < w.length := by omega
   have hrow : (lW w m false).map bC = (w.map bC).take m ++ [.bool false] ++ (w.map bC).drop (m + 1) := by simp [lW, List.map_take, List.map_drop, bC]
   refine aC fun K hK => eF mixed [(0, [], []), (1, [], []), (2, [], []), (3, [], []), (4, [], []), (5, [], []), (6, [], []), (7, [], []), (8, [], []), (9, [], []), (10, [], []), (11, [], []), (12, [], []), (13, [], [])] [0, 0, 0, 4, 14, 30, 62, 62, 254, 510, 1022, 2046, 4095, 8191] (by kernel_rfl) (by kernel_rfl) (by kernel_rfl) (by kernel_rfl) rfl (by kernel_rfl) ?_
   iterate 12 refine WG0 ?_ (e := fun _ h_ => by simp only [sH, ↓sP, sA, tyS, simprocAttr, rI, hlt', cS hmw, cD, bP, bU, hw0, hmw2]; exact AX h_)
   refine eT (g := none) rfl rfl fun K' hK' => ?_
   simp only [sN, ↓hopH.eq_def, sH, ↓sP, sA, tyS, simprocAttr, rI, hlt', cS hmw, cD, bP, bU, hw0, hmw2]
   refine AX (hK' _ _ ?_)
   clear hK' K'
   refine WG0 ?_ (e := fun _ h_ => by simp only [sH, ↓sP, sA, tyS, simprocAttr, rI, hlt', cS hmw, cD, bP, bU, hw0, hmw2]; exact AX h_)
   simp only [sE, ↓reduceIte, simprocAttr, rI]
   refine AX (hK _ _ _ ?_)
   clear hK K
   refine bA ?_
   refine TQ rI ?_
   clear hK K
   rw [hg] at hst
   refine ⟨(show Fits 20000 _ _ (fin []) _ 20000 from aN (by omega) trivial ?_), hok⟩
   rw [hst, hxl, ← hx]
   simp [aY, fob_at, upd_at, none0_at, bX, HO.men, HV.men, HV.menL, HV.norm, HV.toC, HV.toCL, lX hmw2, hrow, oV, bU]
  have hk1 : l[l.length - 1 - i].k ≠ 1 := by simpa using hb
  obtain ⟨hcm, hok, hst⟩ := hΦ.inner ht hi2 hk1
  rw [← hw, ← hm] at hst
  rw [← hm] at hcm
  obtain ⟨c1, c2, c3, c4⟩ := dG (ht.node _ (List.getElem_mem hp))
  have c5 := c4 hk1
  have hlv := bA7 hp
  rw [if_neg hk1, Nat.add_zero, show l.length - 1 - i + 1 = l.length - i from by omega] at hlv
  have hxl : l.length - (i + 1) = l.length - 1 - i := by omega
  obtain ⟨f, hf⟩ : ∃ f, f = m - l[l.length - 1 - i].c.toNat := ⟨_, rfl⟩
  have hfc : m - f = l[l.length - 1 - i].c.toNat := by omega
  rw [← hf, ← hfc] at hst
  have hw2 : IntKind.i64.wrap ((m : Int) - l[l.length - 1 - i].c) = (f : Int) := by rw [cR _ (by omega)]; omega
  have hf1 : f + 1 ≤ w.length := by omega
  have hfw : f ≤ w.length := by omega
  have hfm : f ≤ m := by omega
  have hw0 : 0 < w.length := by omega
  obtain ⟨h, hh⟩ : ∃ h, h = lM l[l.length - 1 - i] ((w.drop f).take (m - f)) := ⟨_, rfl⟩
  rw [← hh] at hst
  have hrow : (lW w f h).map bC = (w.map bC).take f ++ [.bool h] ++ (w.map bC).drop (f + 1) := by simp [lW, List.map_take, List.map_drop, bC]
  clear hb
  refine aK ?_
  refine TQ rI ?_
  refine AX (hK _ _ _ ?_)
  clear hK K
  by_cases hmw : m = w.length
  ·
   rw [← hmw] at hw0 hf1 hfw
   refine RS ?_
   iterate 6 refine S0 ?_ (e := fun _ h_ => by simp only [sH, ↓sP, sA, tyS, simprocAttr, rI, dA, ← hmw, List.length_map, hw2]; exact AX h_)
   refine RE ?_
   refine eF mixed [(0, [], []), (1, [], []), (2, [], []), (3, [], []), (4, [], []), (5, [], []), (6, [], []), (7, [], [0, 1, 2]), (8, [], []), (9, [], []), (10, [], [])] [0, 0, 3, 0, 0, 0, 48, 120, 248, 511, 1023] (by kernel_rfl) (by kernel_rfl) (by kernel_rfl) (by kernel_rfl) rfl (by kernel_rfl) ?_
   iterate 7 refine WG0 ?_ (e := fun _ h_ => by simp only [sH, ↓sP, sA, tyS, simprocAttr, rI, dA, cD, bP, bU, ← hmw, List.length_map, Int.natCast_nonneg, Int.ofNat_le, hfw]; exact AX h_)
   refine pA (g := none) rfl rfl fun K' hK' => ?_
   simp only [sN, ↓hopH.eq_def, sH, ↓sP, sA, tyS, simprocAttr, rI, dA, cD, bP, bU, ← hmw, List.length_map, Int.natCast_nonneg, Int.ofNat_le, hfw]
   refine aL7 [48] (aQ7 l[l.length - 1 - i] w f m (by omega) (by omega) (by omega) (by omega)) (by first | rfl | (rw [← hmw]; rfl)) ⟨rfl, trivial⟩ (by simp) ?_ ?_ ?_ ?_ ?_
   ·
    intro j hj
    match j, hj with
    | 0, _ => exact .inr ⟨by decide, fun r os' h => by rw [h.2]⟩
   ·
    exact ⟨rfl, rfl, rfl, rfl⟩
   ·
    simp [eO, HO.men]
   ·
    simp [HV.menL, HV.men]
   rintro r os' ⟨rfl, rfl⟩
   rw [← hh, show ∀ n ob, kH (sub [48] n) ob 0 [.row 4 1 (w.map bC)] = upd ob 48 (some (.row 4 1 (w.map bC))) from fun _ _ => rfl, show ∀ n b, HV.ren (sub [48] n) (.c b) = .c b from fun _ _ => rfl]
   refine AX (hK' _ _ ?_)
   clear hK' K'
   refine WG0 ?_ (e := fun _ h_ => by simp only [sH, ↓sP, sA, tyS, simprocAttr, rI, dA, cD, bP, bU, ← hmw, List.length_map, Int.natCast_nonneg, Int.ofNat_le, hfw]; exact AX h_)
   refine eT (g := none) rfl rfl fun K' hK' => ?_
   simp only [sN, ↓hopH.eq_def, sH, ↓sP, sA, tyS, simprocAttr, rI, dA, cD, bP, bU, ← hmw, List.length_map, Int.natCast_nonneg, Int.ofNat_le, hfw]
   refine AX (hK' _ _ ?_)
   clear hK' K'
   refine WG0 ?_ (e := fun _ h_ => by simp only [sH, ↓sP, sA, tyS, simprocAttr, rI, dA, cD, bP, bU, ← hmw, List.length_map, Int.natCast_nonneg, Int.ofNat_le, hfw]; exact AX h_)
   simp only [sE, ↓reduceIte, simprocAttr, rI]
   refine ⟨(show Fits 20000 _ _ (fin []) _ 20000 from aN (by omega) trivial ?_), hok⟩
   rw [hst, hxl, hlv]
   simp [aY, fob_at, upd_at, none0_at, bX, HO.men, HV.men, HV.menL, HV.norm, HV.toC, HV.toCL, lX (show f + 1 ≤ w.length by omega), hrow, oV, bU, ← hmw]
  refine RS ?_
  iterate 6 refine S0 ?_ (e := fun _ h_ => by simp only [sH, ↓sP, sA, tyS, simprocAttr, rI, cS hmw, List.length_map, hw0, hfit, Nat.zero_le, List.length_take, List.length_drop, Nat.sub_zero, Nat.min_eq_left hfit, hw2]; exact AX h_)
  refine RE ?_
  refine eF mixed [(0, [], []), (1, [], []), (2, [], []), (3, [], []), (4, [], []), (5, [], []), (6, [], []), (7, [], [0, 1, 2]), (8, [], []), (9, [], []), (10, [], [])] [0, 0, 3, 0, 0, 0, 48, 120, 248, 511, 1023] (by kernel_rfl) (by kernel_rfl) (by kernel_rfl) (by kernel_rfl) rfl (by kernel_rfl) ?_
  iterate 2 refine WG0 ?_ (e := fun _ h_ => by simp only [sH, ↓sP, sA, tyS, simprocAttr, rI, cD, bP, bU, cS hmw, List.length_map, Int.natCast_nonneg, Int.ofNat_le, hfw, hfm]; exact AX h_)
  refine eT (g := none) rfl rfl fun K' hK' => ?_
  simp only [sN, ↓hopH.eq_def, sH, ↓sP, sA, tyS, simprocAttr, rI, cD, bP, bU, cS hmw, List.length_map, Int.natCast_nonneg, Int.ofNat_le, hfw, hfm]
  refine AX (hK' _ _ ?_)
  clear hK' K'
  iterate 3 refine WG0 ?_ (e := fun _ h_ => by simp only [sH, ↓sP, sA, tyS, simprocAttr, rI, cD, bP, bU, cS hmw, List.length_map, Int.natCast_nonneg, Int.ofNat_le, hfw, hfm]; exact AX h_)
  refine eT (g := none) rfl rfl fun K' hK' => ?_
  simp only [sN, ↓hopH.eq_def, sH, ↓sP, sA, tyS, simprocAttr, rI, cD, bP, bU, cS hmw, List.length_map, Int.natCast_nonneg, Int.ofNat_le, hfw, hfm]
  refine AX (hK' _ _ ?_)
  clear hK' K'
  refine pA (g := none) rfl rfl fun K' hK' => ?_
  simp only [sN, ↓hopH.eq_def, sH, ↓sP, sA, tyS, simprocAttr, rI, cD, bP, bU, cS hmw, List.length_map, Int.natCast_nonneg, Int.ofNat_le, hfw, hfm]
  refine aL7 [48] (aQ7 l[l.length - 1 - i] w f m (by omega) (by omega) (by omega) (by omega)) (by first | rfl | (rw [← hmw]; rfl)) ⟨rfl, trivial⟩ (by simp) ?_ ?_ ?_ ?_ ?_
  ·
   intro j hj
   match j, hj with
   | 0, _ => exact .inr ⟨by decide, fun r os' h => by rw [h.2]⟩
  ·
   exact ⟨rfl, rfl, rfl, rfl⟩
  ·
   simp [eO, HO.men]
  ·
   simp [HV.menL, HV.men]
  rintro r os' ⟨rfl, rfl⟩
  rw [← hh, show ∀ n ob, kH (sub [48] n) ob 0 [.row 4 1 (w.map bC)] = upd ob 48 (some (.row 4 1 (w.map bC))) from fun _ _ => rfl, show ∀ n b, HV.ren (sub [48] n) (.c b) = .c b from fun _ _ => rfl]
  refine AX (hK' _ _ ?_)
  clear hK' K'
  refine WG0 ?_ (e := fun _ h_ => by simp only [sH, ↓sP, sA, tyS, simprocAttr, rI, cD, bP, bU, cS hmw, List.length_map, Int.natCast_nonneg, Int.ofNat_le, hfw, hfm]; exact AX h_)
  refine eT (g := none) rfl rfl fun K' hK' => ?_
  simp only [sN, ↓hopH.eq_def, sH, ↓sP, sA, tyS, simprocAttr, rI, cD, bP, bU, cS hmw, List.length_map, Int.natCast_nonneg, Int.ofNat_le, hfw, hfm]
  refine AX (hK' _ _ ?_)
  clear hK' K'
  refine WG0 ?_ (e := fun _ h_ => by simp only [sH, ↓sP, sA, tyS, simprocAttr, rI, cD, bP, bU, cS hmw, List.length_map, Int.natCast_nonneg, Int.ofNat_le, hfw, hfm]; exact AX h_)
  simp only [sE, ↓reduceIte, simprocAttr, rI]
  refine ⟨(show Fits 20000 _ _ (fin []) _ 20000 from aN (by omega) trivial ?_), hok⟩
  rw [hst, hxl, hlv]
  simp [aY, fob_at, upd_at, none0_at, bX, HO.men, HV.men, HV.menL, HV.norm, HV.toC, HV.toCL, lX hf1, hrow, oV, bU]
 intro hΦ
 simp only [sE, ↓reduceIte, simprocAttr, rI]
 have hfin := hΦ
 rw [rQ] at hfin
 obtain ⟨h1, h0, h2⟩ := hfin.fin ht
 rw [rQ, h1]
 obtain ⟨w, hw⟩ : ∃ w, w = (cA l tr l.length).1 := ⟨_, rfl⟩
 rw [← hw] at h0
 have h3 : xC l tr = w[0] := by rw [h2]; simp only [hw]
 rw [← hw]
 refine AX (hK _ _ _ ?_)
 clear hK K
 by_cases hw1 : w.length = 1
 ·
  rw [hw1]
  refine RS ?_
  iterate 4 refine S0 ?_ (e := fun _ h_ => by simp only [sH, ↓sP, sA, tyS, simprocAttr, rI, dA, bK h0, bC, Nat.lt_irrefl]; exact AX h_)
  refine RE ?_
  refine aF ?_
  simp only [gU, Tryz.results20, fV, gT, fD, ↓sP, sA, tyS, simprocAttr, rI]
  exact aH [] (.bool w[0]) rfl (by rw [h3])
 refine RS ?_
 iterate 4 refine S0 ?_ (e := fun _ h_ => by simp only [sH, ↓sP, sA, tyS, simprocAttr, rI, cS (Ne.symm hw1), bK h0, bC, h0]; exact AX h_)
 refine RE ?_
 refine aF ?_
 simp only [gU, Tryz.results20, fV, gT, fD, ↓sP, sA, tyS, simprocAttr, rI]
 exact aH [] (.bool w[0]) rfl (by rw [h3])

end Go.Proofs.YtlldglbooaefhaaGreatDoor

namespace Go.Proofs.YtlldglbooaefhaaGreatDoor
open Go Go.Hl Go.Pl
set_option maxRecDepth 10000
set_option maxHeartbeats 16000000

theorem aH6 (n : Int) : bQ Tryz.prog 49 [.int .i64 n] (fun v => v = (aO3 n).cv) := by
 refine FW Tryz.func49 ?_
 refine AU ?_
 refine aF (RT Tryz.results49 ?_)
 exact aH [] (aO3 n).cv rfl rfl


theorem bV4 : PoSz awP := ⟨by decide, by decide, by decide, by decide⟩
theorem bV5 : ∀ n ∈ awT, n.q.t.length < 2 ^ 63 := by decide
theorem bV6 : oW awP = 0 := by decide +kernel
theorem cI1 : (lA awP).length < 2 ^ 40 := by decide +kernel
theorem bV7 : nL Tryz.prog 22 tabs [] (fun v => v = .bool true) := by
 refine bR (args := []) Tryz.func22 rfl (by kernel_rfl) (fO tabs []) (Nat.le_of_ble_eq_true rfl) ?_
 unfold eP
 obtain ⟨aw1, aw2, aw3⟩ := bG9 bV6
 refine R0 ?_
 refine aC fun K hK => bB (by kernel_rfl) ?_
 simp only [sR, simprocAttr]
 refine SG0 ?_
 refine bI (g := none) rfl rfl fun K' hK' => T5 ?_
 refine C1 (aH6 1) ?_
 rintro u rfl
 refine AX (hK' _ _ ?_)
 clear hK' K'
 refine bI (g := none) rfl rfl fun K' hK' => T5 ?_
 refine C1 (aH6 2) ?_
 rintro u rfl
 refine AX (hK' _ _ ?_)
 clear hK' K'
 refine bI (g := none) rfl rfl fun K' hK' => T5 ?_
 refine C1 (aH6 3) ?_
 rintro u rfl
 refine AX (hK' _ _ ?_)
 clear hK' K'
 refine bZ (g := none) 21 rfl rfl fun K' hK' => ?_
 simp only [eN, iD, sH, ↓sP, sA, tyS, simprocAttr]
 repeat refine AI ?_
 refine cB (by first | rfl | simp) ?_
 try simp only [sH, ↓sP, sA, tyS, simprocAttr]
 refine AX (hK' _ _ ?_)
 clear hK' K'
 refine SG0 ?_
 refine T2 (hK _ _ _ ?_)
 clear hK K
 refine aC fun K hK => bB (by kernel_rfl) ?_
 simp only [sR, simprocAttr]
 iterate 2 refine SG0 ?_
 refine bZ (g := none) 37 rfl rfl fun K' hK' => ?_
 simp only [eN, iD, sH, ↓sP, sA, tyS, simprocAttr]
 repeat refine AI ?_
 refine cB (by first | rfl | simp) ?_
 try simp only [sH, ↓sP, sA, tyS, simprocAttr]
 refine AX (hK' _ _ ?_)
 clear hK' K'
 iterate 3 refine SG0 ?_
 refine T2 (hK _ _ _ ?_)
 clear hK K
 refine aC fun K hK => Rg ?_
 refine S0 ?_
 refine HS rfl rfl fun K' hK' => T5 ?_
 refine uF (args := [_]) 0 (bC2 awP bV4) rfl (by simp) ⟨rfl, rfl, rfl, rfl⟩ ?_
 rintro u v ⟨rfl, rfl⟩
 rw [bV6]
 refine AX (hK' _ _ ?_)
 clear hK' K'
 refine AU ?_
 refine T2 (hK _ _ _ ?_)
 clear hK K
 refine aC fun K hK => Rg ?_
 have F := @cM
 refine SF ?_
 refine HS rfl rfl fun K' hK' => T6 ?_
 refine uN (args := [_]) 0 (bC4 (lA awP) cI1) rfl (by simp) ⟨rfl, rfl, rfl, rfl⟩ ?_
 rintro u v x ⟨rfl, rfl, rfl⟩
 rw [aw1, aw2, aw3]
 refine AX (hK' _ _ ?_)
 clear hK' K'
 refine AU ?_
 refine T2 (hK _ _ _ ?_)
 clear hK K
 refine aC fun K hK => bB (by kernel_rfl) ?_
 simp only [sR, simprocAttr]
 have F := aI @List.length_map.{0,0} (aI @lT (aI @rH (show awP.r.length = 1 from rfl)))
 refine SGF ?_
 refine bI (g := none) rfl rfl fun K' hK' => T6 ?_
 refine C1 (vI awT bV5) ?_
 rintro u rfl
 rw [cG6]
 refine AX (hK' _ _ ?_)
 clear hK' K'
 iterate 2 refine SGF ?_
 refine bI (g := some (30, true)) rfl rfl fun K' hK' => T6 ?_
 refine C1 (tJ awP bV4) ?_
 rintro u rfl
 rw [cG7]
 refine AX (hK' _ _ ?_)
 clear hK' K'
 iterate 17 refine SGF ?_
 refine bZ (g := some (48, true)) 209 rfl rfl fun K' hK' => ?_
 simp only [eN, iD, sH, ↓sP, sA, tyS, simprocAttr, List.length_map, lT, rH, (show awP.r.length = 1 from rfl)]
 repeat refine AI ?_
 refine cB (by first | rfl | simp) ?_
 try simp only [sH, ↓sP, sA, tyS, simprocAttr, List.length_map, lT, rH, (show awP.r.length = 1 from rfl)]
 refine AX (hK' _ _ ?_)
 clear hK' K'
 refine bI (g := some (48, true)) rfl rfl fun K' hK' => T6 ?_
 refine C2 (bC5 awT bV5 [true, false, true] (by decide)) ?_
 rintro u rfl
 rw [bR1]
 refine AX (hK' _ _ ?_)
 clear hK' K'
 iterate 3 refine SGF ?_
 refine bZ (g := some (53, true)) 229 rfl rfl fun K' hK' => ?_
 simp only [eN, iD, sH, ↓sP, sA, tyS, simprocAttr, List.length_map, lT, rH, (show awP.r.length = 1 from rfl)]
 repeat refine AI ?_
 refine cB (by first | rfl | simp) ?_
 try simp only [sH, ↓sP, sA, tyS, simprocAttr, List.length_map, lT, rH, (show awP.r.length = 1 from rfl)]
 refine AX (hK' _ _ ?_)
 clear hK' K'
 refine bI (g := some (53, true)) rfl rfl fun K' hK' => T6 ?_
 refine C2 (bC5 awT bV5 [true] (by decide)) ?_
 rintro u rfl
 rw [bR2]
 refine AX (hK' _ _ ?_)
 clear hK' K'
 iterate 4 refine SGF ?_
 refine bI (g := some (59, true)) rfl rfl fun K' hK' => T6 ?_
 refine C3 (cB0 awP bV4 [112, 114, 111, 100, 47, 101, 117] [119, 101, 98]) ?_
 rintro u rfl
 rw [cG8]
 refine AX (hK' _ _ ?_)
 clear hK' K'
 iterate 4 refine SGF ?_
 refine bI (g := some (64, true)) rfl rfl fun K' hK' => T6 ?_
 refine C1 (aB6 awT bV5) ?_
 rintro u rfl
 refine AX (hK' _ _ ?_)
 clear hK' K'
 iterate 5 refine SGF ?_
 refine bI (g := some (70, true)) rfl rfl fun K' hK' => T6 ?_
 refine C2 (aP4 awT bV5 0) ?_
 rintro u rfl
 refine AX (hK' _ _ ?_)
 clear hK' K'
 iterate 4 refine SGF ?_
 refine T2 (hK _ _ _ ?_)
 clear hK K
 refine aF (RT Tryz.results22 ?_)
 exact dX [] (.bool true) rfl rfl (by simp) rfl

end Go.Proofs.YtlldglbooaefhaaGreatDoor

namespace Go.Proofs.YtlldglbooaefhaaGreatDoor
open Go Go.Hl Go.Pl
set_option maxRecDepth 10000
set_option maxHeartbeats 16000000

theorem cC8 (s : aJ) (hl : s.length < 2 ^ 40) : fR Tryz.prog 69 [.str s] (fun u v => u = .str ((unW s).getD []) ∧ v = .bool (unW s).isSome) := by
 refine FW Tryz.func69 ?_
 refine R0 ?_
 refine aC fun K hK => ?_
 refine R0 ?_
 refine aG (b := s == [126]) rfl (fun hb => ?_) (fun hb => ?_)
 ·
  refine R0 ?_
  refine aF (RT Tryz.results69 ?_)
  have hs : s = [126] := by simpa using hb
  subst hs
  exact aR [] (.str []) (.bool true) rfl ⟨rfl, rfl⟩
 refine aK ?_
 refine T0 (hK _ _ _ ?_)
 clear hK K
 refine aC fun K hK => ?_
 have hne : s ≠ [126] := by simpa using hb
 clear hb
 refine R0 ?_
 refine aG (b := s == []) rfl (fun hb => ?_) (fun hb => ?_)
 ·
  refine R0 ?_
  refine aF (RT Tryz.results69 ?_)
  have hs : s = [] := by simpa using hb
  subst hs
  exact aR [] (.str []) (.bool false) rfl ⟨rfl, rfl⟩
 refine aK ?_
 refine T0 (hK _ _ _ ?_)
 clear hK K
 have hne0 : s ≠ [] := by simpa using hb
 clear hb
 refine R0 ?_
 refine aC fun K hK => ?_
 refine R0 ?_
 refine aL ?_
 refine jW 4 0 5 1 rfl rfl rfl rfl ?_
 refine bE (α := {y : Nat × aJ // UnSt s y.1 y.2}) (fun y => (fin [(0, .c (.str s)), (4, .own 32 y.1.2.length), (5, .c (.int .i64 y.1.1))], fob [(32, .row 5 1 (y.1.2.map cP))])) 100 (fun y => s.length - y.1.1) ⟨(0, []), UnSt.init s⟩ (fF) ?_
 rintro ⟨⟨i, out⟩, hst⟩
 simp only at hst
 have hi := hst.1
 have ho := hst.2.2.2
 refine aC fun K hK => ?_
 refine AU ?_
 refine aG (b := decide ((i : Int) < s.length)) rfl (fun hb => ?_) (fun hb => ?_)
 ·
  have hlt : i < s.length := by simpa using hb
  clear hb
  have hgd : s.getD i 0 = s[i] := by simp [hlt]
  refine aK ?_
  refine T0 (hK _ _ _ ?_)
  clear hK K
  refine aC fun K hK => ?_
  refine aL ?_
  refine aC fun K hK => ?_
  refine aC fun K hK => Rg ?_
  iterate 3 refine S0 ?_ (e := fun _ h_ => by simp only [sH, ↓sP, sA, tyS, simprocAttr, Int.natCast_nonneg, Int.ofNat_lt, hlt, hgd]; exact AX h_)
  refine HS rfl rfl fun K' hK' => ?_
  simp only [sH, ↓sP, sA, tyS, simprocAttr, Int.natCast_nonneg, Int.ofNat_lt, hlt, hgd]
  refine C1 (tB s[i]) ?_
  rintro u rfl
  refine AX (hK' _ _ ?_)
  clear hK' K'
  refine T2 (hK _ _ _ ?_)
  clear hK K
  refine aG (b := cG s[i]) rfl (fun hb => ?_) (fun hb => ?_)
  ·
   refine RS ?_
   iterate 7 refine S0 ?_ (e := fun _ h_ => by simp only [sH, ↓sP, sA, tyS, simprocAttr, Int.natCast_nonneg, Int.ofNat_lt, hlt, hgd, List.length_append, List.length_map]; exact AX h_)
   refine RE ?_
   refine bA (T3 ?_)
   clear hK K
   refine AX (hK _ _ _ ?_)
   clear hK K
   refine aM (by kernel_rfl) ?_
   refine TQ (iN i) ?_
   refine ⟨⟨(i + 1, out ++ [s[i]]), hst.plain hlt hb⟩, aN (by omega) ?_ ?_, ?_⟩
   ·
    simp [aW, upd_at, fin_at, HV.men]
   ·
    simp only [aY, List.map_append]
    exact ⟨rfl, by omega, trivial, trivial⟩
   show s.length - (i + 1) < s.length - i
   omega
  refine aK ?_
  refine T0 (hK _ _ _ ?_)
  clear hK K
  refine aC fun K hK => ?_
  have hp : cG s[i] = false := hb
  clear hb
  have hw1 : IntKind.i64.wrap ((i : Int) + 1) = ((i + 1 : Nat) : Int) := by rw [IntWalk.i64_in _ (by omega)]; rfl
  have hw2 : IntKind.i64.wrap ((i : Int) + 2) = ((i + 2 : Nat) : Int) := by rw [IntWalk.i64_in _ (by omega)]; rfl
  have hw3 : IntKind.i64.wrap (((i + 2 : Nat) : Int) + 1) = ((i + 3 : Nat) : Int) := by rw [IntWalk.i64_in _ (by omega)]; rfl
  have hwd : IntKind.i64.wrap ((s.length : Int) - (i : Int)) = ((s.length - i : Nat) : Int) := by rw [IntWalk.i64_in _ (by omega)]; omega
  refine RS ?_
  iterate 5 refine S0 ?_ (e := fun _ h_ => by simp only [sH, ↓sP, sA, tyS, simprocAttr, Int.natCast_nonneg, Int.ofNat_lt, hlt, hgd, hwd]; exact AX h_)
  refine aE 31 rfl (fun h11_31 => ?_) (fun h11_31 => ?_)
  ·
   iterate 6 refine S0 ?_ (e := fun _ h_ => by simp only [sH, ↓sP, sA, tyS, simprocAttr, Int.natCast_nonneg, Int.ofNat_lt, hlt, hgd, hwd, h11_31]; exact AX h_)
   refine RE ?_
   refine CT rfl ?_
   refine R0 ?_
   refine aF (RT Tryz.results69 ?_)
   have h37 : s[i] ≠ 37 := by rintro h; rw [h] at h11_31; simp at h11_31
   have hn := fW (hst.bad1 hlt hp (.inl h37)) hne
   exact aR [] (.str []) (.bool false) rfl ⟨by rw [hn]; rfl, by rw [hn]; rfl⟩
  iterate 6 refine S0 ?_ (e := fun _ h_ => by simp only [sH, ↓sP, sA, tyS, simprocAttr, Int.natCast_nonneg, Int.ofNat_lt, hlt, hgd, hwd, h11_31]; exact AX h_)
  refine aE 37 rfl (fun h11_37 => ?_) (fun h11_37 => ?_)
  ·
   simp only [h11_37]
   refine RE ?_
   refine CT rfl ?_
   refine R0 ?_
   refine aF (RT Tryz.results69 ?_)
   have hi2 : s.length ≤ i + 2 := by simp at h11_37; omega
   have hn := fW (hst.bad1 hlt hp (.inr hi2)) hne
   exact aR [] (.str []) (.bool false) rfl ⟨by rw [hn]; rfl, by rw [hn]; rfl⟩
  simp only [h11_37]
  refine RE ?_
  refine CF rfl ?_
  refine aK ?_
  refine T0 (hK _ _ _ ?_)
  clear hK K
  have h37 : s[i] = 37 := by
   simp only [bne_eq_false_iff_eq] at h11_31
   exact UInt8.toNat_inj.1 (by show s[i].toNat = 37; omega)
  have hi2 : i + 2 < s.length := by simp at h11_37; omega
  have hi1 : i + 1 < s.length := by omega
  have hg1 : s.getD (i + 1) 0 = s[i + 1] := by simp [hi1]
  have hg2 : s.getD (i + 2) 0 = s[i + 2] := by simp [hi2]
  refine aC fun K hK => DW [(0, [], []), (1, [], []), (2, [], []), (3, [], []), (5, [], []), (6, [], []), (7, [], []), (8, [], []), (4, [], [5, 6, 7, 8]), (9, [], []), (10, [], []), (11, [], [])] [0, 0, 2, 7, 15, 0, 0, 64, 224, 511, 1023, 2047] ?_
  have F := aI @Int.natCast_nonneg (aI @Int.ofNat_lt (aI hw1 (aI hw2 (aI hg1 (aI hg2 (aI hi1 (aI hi2 (aI h11_31 h11_37))))))))
  iterate 8 refine WF ?_
  refine cF (g := none) rfl rfl fun K' hK' => T6 ?_
  refine C1 (aQ2 s[i + 1]) ?_
  rintro u rfl
  refine AX (hK' _ _ ?_)
  clear hK' K'
  refine cF (g := none) rfl rfl fun K' hK' => T6 ?_
  refine C1 (aQ2 s[i + 2]) ?_
  rintro u rfl
  refine AX (hK' _ _ ?_)
  clear hK' K'
  iterate 2 refine WF ?_
  refine T2 (hK _ _ _ ?_)
  clear hK K
  refine aC fun K hK => ?_
  by_cases hx : valH s[i + 1] < 16
  ·
   by_cases hy : valH s[i + 2] < 16
   ·
    have hx0 : (((valH s[i + 1] : Nat) : Int) == 16) = false := by rw [beq_eq_false_iff_ne]; omega
    have hy0 : (((valH s[i + 2] : Nat) : Int) == 16) = false := by rw [beq_eq_false_iff_ne]; omega
    have e1 : IntKind.i64.wrap (16 * ((valH s[i + 1] : Nat) : Int)) = ((16 * valH s[i + 1] : Nat) : Int) := by rw [IntWalk.i64_in _ (by omega)]; omega
    have e2 : IntKind.i64.wrap (((16 * valH s[i + 1] : Nat) : Int) + ((valH s[i + 2] : Nat) : Int)) = ((16 * valH s[i + 1] + valH s[i + 2] : Nat) : Int) := by rw [IntWalk.i64_in _ (by omega)]; omega
    have e3 : IntKind.u8.wrap ((16 * valH s[i + 1] + valH s[i + 2] : Nat) : Int) = ((byteH s[i + 1] s[i + 2]).toNat : Int) := by rw [IntWalk.u8_in _ (by omega), sV hx hy]
    refine RS ?_
    have F := aI hx0 (aI hy0 (aI e1 (aI e2 (aI e3 (aI h11_31 h11_37)))))
    refine AU ?_
    refine SCF (tB (byteH s[i + 1] s[i + 2])) ?_
    refine AU ?_
    refine aG (b := cG (byteH s[i + 1] s[i + 2])) rfl (fun hb => ?_) (fun hb => ?_)
    ·
     refine R0 ?_
     refine aF (RT Tryz.results69 ?_)
     have hn := fW (hst.bad2 hi2 h37 (by simp [okH, hx, hy, hb])) hne
     exact aR [] (.str []) (.bool false) rfl ⟨by rw [hn]; rfl, by rw [hn]; rfl⟩
    refine aK ?_
    refine T0 (hK _ _ _ ?_)
    clear hK K
    refine RS ?_
    have F := aI @Int.natCast_nonneg (aI @List.length_append.{0} (aI @List.length_map.{0,0} (aI e1 (aI e2 (aI e3 (aI h11_31 h11_37))))))
    refine AU ?_
    refine aM (by kernel_rfl) ?_
    refine TQ hw2 ?_
    refine AX (hK _ _ _ ?_)
    clear hK K
    refine aM (by kernel_rfl) ?_
    refine TQ hw3 ?_
    refine ⟨⟨(i + 3, out ++ [byteH s[i + 1] s[i + 2]]), hst.esc hi2 h37 (by simp [okH, hx, hy, hb])⟩, aN (by omega) ?_ ?_, ?_⟩
    ·
     simp [aW, upd_at, fin_at, HV.men]
    ·
     simp only [aY, List.map_append]
     exact ⟨rfl, by omega, trivial, trivial⟩
    show s.length - (i + 3) < s.length - i
    omega
   have hx0 : (((valH s[i + 1] : Nat) : Int) == 16) = false := by rw [beq_eq_false_iff_ne]; omega
   have hy0 : (((valH s[i + 2] : Nat) : Int) == 16) = true := by have := aY3 s[i + 2]; rw [beq_iff_eq]; omega
   refine RS ?_
   have F := aI hx0 (aI hy0 (aI h11_31 h11_37))
   refine AU ?_
   refine CT rfl ?_
   refine R0 ?_
   refine aF (RT Tryz.results69 ?_)
   have hn := fW (hst.bad2 hi2 h37 (by simp [okH, hx, hy])) hne
   exact aR [] (.str []) (.bool false) rfl ⟨by rw [hn]; rfl, by rw [hn]; rfl⟩
  have hx0 : (((valH s[i + 1] : Nat) : Int) == 16) = true := by have := aY3 s[i + 1]; rw [beq_iff_eq]; omega
  refine RS ?_
  have F := aI hx0 (aI h11_31 h11_37)
  refine AU ?_
  refine CT rfl ?_
  refine R0 ?_
  refine aF (RT Tryz.results69 ?_)
  have hn := fW (hst.bad2 hi2 h37 (by simp [okH, hx])) hne
  exact aR [] (.str []) (.bool false) rfl ⟨by rw [hn]; rfl, by rw [hn]; rfl⟩
 refine bA (T3 ?_)
 clear hK K
 refine AX (hK _ _ _ ?_)
 clear hK K
 have hei : i = s.length := by simp at hb; omega
 have hfin := hst.fin hei hne
 have ho0 : out ≠ [] := fun h => hne0 (List.eq_nil_of_length_eq_zero (by have := hst.2.2.1 h; omega))
 rw [if_neg ho0] at hfin
 refine dW [32] (bG (fr2 := fin [(4, .c (.slc (out.map cP)))]) (ob2 := fob []) (nx2 := 200) (aN (by omega) (by simp [aW, gJ, fin_at, finA_at, upd_at, fob_at, HV.close, HV.closeL, CV.denil, CV.denilL, cM, HV.men, HV.menL, HV.norm, HV.toC, HV.toCL]) (by simp [aY, gK, fob_at, upd_at, none0_at, bX, HO.close, HV.close, HV.closeL, HO.men, HV.men, HV.menL, HV.norm, HV.toC, HV.toCL])) ?_)
 refine RS ?_
 have F := aI @bytesC_map @List.length_map.{0,0}
 refine AU ?_
 refine aF (RT Tryz.results69 ?_)
 exact aR [] (.str out) (.bool true) rfl ⟨by rw [hfin]; rfl, by rw [hfin]; rfl⟩

end Go.Proofs.YtlldglbooaefhaaGreatDoor

namespace Go.Proofs.YtlldglbooaefhaaGreatDoor
open Go Go.Hl Go.Pl
set_option maxRecDepth 10000
set_option maxHeartbeats 16000000

theorem cC9 (b : aJ) (hl : b.length < 2 ^ 40) : fR Tryz.prog 38 [.slc (b.map u8)] (fun u v => u = .slc ((eD b).map lsC) ∧ v = .int .i64 (eC b)) := by
 refine FW Tryz.func38 ?_
 refine R0 ?_
 refine aC fun K hK => ?_
 have F := @List.length_map.{0,0}
 refine RF ?_
 refine aG (b := decide ((262144 : Int) < b.length)) rfl (fun hb => ?_) (fun hb => ?_)
 ·
  refine R0 ?_
  refine aF (RT Tryz.results38 ?_)
  have hE : eC b = 3 := by unfold eC; rw [if_pos (by simp at hb; omega)]
  refine aR [] (.slc []) (.int .i64 3) ?_ ⟨by simp only [eD, hE]; rfl, by rw [hE]⟩
  simp [HV.close, HV.closeL, CV.denil, CV.denilL, HV.norm, HV.toC, HV.toCL]
 refine aK ?_
 refine T0 (hK _ _ _ ?_)
 clear hK K
 refine aC fun K hK => ?_
 have hle : ¬ 262144 < b.length := by simp at hb; omega
 clear hb
 refine RF ?_
 refine aG (b := (b.length : Int) == 0) rfl (fun hb => ?_) (fun hb => ?_)
 ·
  refine R0 ?_
  refine aF (RT Tryz.results38 ?_)
  have hbe : b = [] := by simpa using hb
  subst hbe
  refine aR [] (.slc []) (.int .i64 0) ?_ ⟨rfl, rfl⟩
  simp [HV.close, HV.closeL, CV.denil, CV.denilL, HV.norm, HV.toC, HV.toCL]
 refine aK ?_
 refine T0 (hK _ _ _ ?_)
 clear hK K
 refine aC fun K hK => ?_
 have hne : b ≠ [] := by rintro rfl; simp at hb
 clear hb
 have hpos : 0 < b.length := List.length_pos_iff.2 hne
 have hlt1 : b.length - 1 < b.length := by omega
 have hwl : IntKind.i64.wrap ((b.length : Int) - 1) = ((b.length - 1 : Nat) : Int) := by rw [IntWalk.i64_in _ (by omega)]; omega
 refine aC fun K hK => Rg ?_
 have F := aI @List.length_map.{0,0} (aI hwl (aI @Int.natCast_nonneg (aI @Int.ofNat_lt (aI hlt1 (aI (nM hlt1) @u8.eq_1)))))
 iterate 7 refine SF ?_
 refine T2 (hK _ _ _ ?_)
 clear hK K
 refine aG (b := ((b[b.length - 1]).toNat : Int) != 10) rfl (fun hb => ?_) (fun hb => ?_)
 ·
  refine R0 ?_
  refine aF (RT Tryz.results38 ?_)
  have hE : eC b = 2 := bG2 hle hne (by
   intro h
   rw [List.getD_eq_getElem?_getD, List.getElem?_eq_getElem hlt1] at h
   simp only [Option.getD_some] at h
   rw [h] at hb
   simp at hb)
  refine aR [] (.slc []) (.int .i64 2) ?_ ⟨by simp only [eD, hE]; rfl, by rw [hE]⟩
  simp [HV.close, HV.closeL, CV.denil, CV.denilL, HV.norm, HV.toC, HV.toCL]
 refine aK ?_
 refine T0 (hK _ _ _ ?_)
 clear hK K
 have hl10 : b[b.length - 1] = 10 := by
  simp only [bne_eq_false_iff_eq] at hb
  exact UInt8.toNat_inj.1 (by show b[b.length - 1].toNat = 10; omega)
 clear hb
 obtain ⟨m, hm⟩ : ∃ m, b = m ++ [10] := ⟨b.dropLast, by rw [← hl10, ← List.getLast_eq_getElem hne]; exact (List.dropLast_concat_getLast hne).symm⟩
 have htk : List.take (b.length - 1) (b.map u8) = m.map u8 := by rw [hm]; simp
 have hbc : iJ (m.map u8) = some m := bytesC_map m
 have hml : m.length + 1 = b.length := by rw [hm]; simp
 have hml3 : (m ++ [(10 : UInt8)]).length = m.length + 1 := by simp
 rw [hm] at hle
 refine aC fun K hK => Rg ?_
 have F := aI @List.length_map.{0,0} (aI hwl (aI @Int.natCast_nonneg (aI @Int.ofNat_le (aI @Nat.sub_le (aI @lF (aI @List.drop_zero.{0} (aI @Nat.sub_zero (aI htk hbc))))))))
 iterate 6 refine SF ?_
 refine HS rfl rfl fun K' hK' => T6 ?_
 refine C2 (aN2 m 10 (by omega)) ?_
 rintro u rfl
 refine AX (hK' _ _ ?_)
 clear hK' K'
 refine SF ?_
 refine T2 (hK _ _ _ ?_)
 clear hK K
 obtain ⟨rows, hrows⟩ : ∃ rows, rows = aP 10 m := ⟨_, rfl⟩
 have hrl := eB 10 m
 have hrs := mF 10 m
 rw [← hrows] at hrl hrs ⊢
 have hE2 : rows.mapM unL = none → eC b = 2 := fun h => by rw [hm]; exact bG3 hle (by rw [← hrows]; exact h)
 refine R0 ?_
 refine aC fun K hK => ?_
 refine R0 ?_
 refine aL ?_
 refine jW 5 0 60 1 rfl rfl rfl rfl ?_
 refine bE (α := {i : Nat // i ≤ rows.length ∧ ∀ r ∈ rows.take i, (unL r).isSome = true}) (fun i => (fin [(4, .c (.slc (rows.map .str))), (5, .own 100 i.1), (6, .c (.int .i64 i.1))], fob [(100, .row 60 1 ((lsT rows i.1).map lsC))])) 200 (fun i => rows.length - i.1) ⟨0, by omega, by simp⟩ (by simp only [lsT, List.take_zero, List.map_nil]; exact fF) ?_
 rintro ⟨i, hi, hok⟩
 simp only
 have hlsl := aU4 hi
 refine aC fun K hK => ?_
 refine aC fun K hK => Rg ?_
 have F := @List.length_map.{0,0}
 iterate 4 refine SF ?_
 refine T2 (hK _ _ _ ?_)
 clear hK K
 refine aG (b := decide ((i : Int) < rows.length)) rfl (fun hb => ?_) (fun hb => ?_)
 ·
  have hlt : i < rows.length := by simpa using hb
  clear hb
  obtain ⟨r, hr⟩ : ∃ r, r = rows[i] := ⟨_, rfl⟩
  have hrin : r ∈ rows := by rw [hr]; exact List.getElem_mem hlt
  have hrn := hrs r hrin
  have hnr : nth (rows.map CV.str) i = .str r := by rw [bK hlt, hr]
  refine aK ?_
  refine T0 (hK _ _ _ ?_)
  clear hK K
  refine aC fun K hK => ?_
  refine aL ?_
  refine aC fun K hK => Rg ?_
  have F := aI @Int.natCast_nonneg (aI @Int.ofNat_lt (aI hlt (aI hnr @List.length_map.{0,0})))
  iterate 4 refine SF ?_
  refine HS rfl rfl fun K' hK' => T6 ?_
  refine C2 (aN2 r 32 (by omega)) ?_
  rintro u rfl
  refine AX (hK' _ _ ?_)
  clear hK' K'
  refine SF ?_
  refine T2 (hK _ _ _ ?_)
  clear hK K
  refine R0 ?_
  refine aC fun K hK => ?_
  refine R0 ?_
  refine aL ?_
  refine jW 8 0 9 1 rfl rfl rfl rfl ?_
  refine bE (α := {k : Nat // k ≤ (aP 32 r).length ∧ aL2 r k}) (fun k => (fin [(4, .c (.slc (rows.map .str))), (5, .own 100 i), (6, .c (.int .i64 i)), (7, .c (.slc ((aP 32 r).map .str))), (8, .own 248 k.1), (9, .c (.int .i64 k.1))], fob [(100, .row 60 1 ((lsT rows i).map lsC)), (248, .row 9 1 ((wsT r k.1).map .str))])) 300 (fun k => (aP 32 r).length - k.1) ⟨0, by omega, fun p hp => by simp at hp⟩ (by simp only [wsT, List.take_zero, List.map_nil]; exact fF) ?_
  rintro ⟨k, hk, hwo⟩
  simp only
  have hwl2 := pM hk
  have hsl := eB 32 r
  refine aC fun K hK => ?_
  refine aC fun K hK => Rg ?_
  have F := @List.length_map.{0,0}
  iterate 4 refine SF ?_
  refine T2 (hK _ _ _ ?_)
  clear hK K
  refine aG (b := decide ((k : Int) < (aP 32 r).length)) rfl (fun hb => ?_) (fun hb => ?_)
  ·
   have hkl : k < (aP 32 r).length := by simpa using hb
   clear hb
   obtain ⟨p, hp⟩ : ∃ p, p = (aP 32 r)[k] := ⟨_, rfl⟩
   have hpl := mF 32 r p (by rw [hp]; exact List.getElem_mem hkl)
   have hnp : nth ((aP 32 r).map CV.str) k = .str p := by rw [bK hkl, hp]
   refine aK ?_
   refine T0 (hK _ _ _ ?_)
   clear hK K
   refine aC fun K hK => ?_
   refine aL ?_
   refine aC fun K hK => Rg ?_
   have F := aI @Int.natCast_nonneg (aI @Int.ofNat_lt (aI hkl (aI hnp @List.length_map.{0,0})))
   iterate 4 refine SF ?_
   refine HS rfl rfl fun K' hK' => T6 ?_
   refine D1 (cC8 p (by omega)) ?_
   rintro u v ⟨rfl, rfl⟩
   refine AX (hK' _ _ ?_)
   clear hK' K'
   iterate 5 refine SF ?_
   refine T2 (hK _ _ _ ?_)
   clear hK K
   refine aC fun K hK => ?_
   refine R0 ?_
   refine aG (b := !(unW p).isSome) rfl (fun hb => ?_) (fun hb => ?_)
   ·
    refine R0 ?_
    refine aF (RT Tryz.results38 ?_)
    have hE := hE2 (oL hrin (bP1 hkl (by rw [← hp]; simpa using hb)))
    refine aR [] (.slc []) (.int .i64 2) ?_ ⟨by simp only [eD, hE]; rfl, by rw [hE]⟩
    simp [HV.close, HV.closeL, CV.denil, CV.denilL, HV.norm, HV.toC, HV.toCL]
   refine aK ?_
   refine T0 (hK _ _ _ ?_)
   clear hK K
   refine Rg ?_
   have F := aI @List.length_append.{0} (aI @List.length_map.{0,0} hwl2)
   iterate 5 refine SF ?_
   refine T2 (hK _ _ _ ?_)
   clear hK K
   refine aM (by kernel_rfl) ?_
   refine TQ (iN k) ?_
   refine ⟨⟨k + 1, hkl, zO hkl hwo (by rw [← hp]; simpa using hb)⟩, aN (by omega) ?_ ?_, ?_⟩
   ·
    simp [aW, upd_at, fin_at, HV.men]
   ·
    simp only [aL3 hkl, ← hp, aY, List.map_append]
    exact ⟨rfl, by omega, trivial, rfl, by omega, trivial, trivial⟩
   show (aP 32 r).length - (k + 1) < (aP 32 r).length - k
   omega
  refine bA (T3 ?_)
  clear hK K
  refine AX (hK _ _ _ ?_)
  clear hK K
  have hke : k = (aP 32 r).length := by simp at hb; omega
  subst hke
  have hul := bY4 hwo
  obtain ⟨ws, hws⟩ : ∃ ws, ws = wsT r (aP 32 r).length := ⟨_, rfl⟩
  rw [← hws] at hul hwl2 ⊢
  rw [← hwl2]
  refine dW [248] (bG (fr2 := fin [(4, .c (.slc (rows.map .str))), (5, .own 100 i), (6, .c (.int .i64 i)), (8, .c (.slc (ws.map .str)))]) (ob2 := fob [(100, .row 60 1 ((lsT rows i).map lsC))]) (nx2 := 400) (aN (by omega) (by simp [aW, gJ, fin_at, finA_at, upd_at, fob_at, HV.close, HV.closeL, CV.denil, CV.denilL, denilL_str, HV.men, HV.menL, HV.norm, HV.toC, HV.toCL]) (by simp [aY, gK, fob_at, upd_at, none0_at, bX, HO.close, HV.close, HV.closeL, HO.men, HV.men, HV.menL, HV.norm, HV.toC, HV.toCL])) ?_)
  refine Rg ?_
  have F := aI @List.length_append.{0} (aI @List.length_map.{0,0} hlsl)
  iterate 5 refine SF ?_
  refine T2 (hK _ _ _ ?_)
  clear hK K
  refine aM (by kernel_rfl) ?_
  refine TQ (iN i) ?_
  have hok1 : ∀ x ∈ rows.take (i + 1), (unL x).isSome = true := by
   intro x hx
   rw [List.take_succ_eq_append_getElem hlt, List.mem_append, List.mem_singleton] at hx
   rcases hx with hx | rfl
   ·
    exact hok x hx
   rw [← hr, hul]; rfl
  refine ⟨⟨i + 1, hlt, hok1⟩, aN (by omega) ?_ ?_, ?_⟩
  ·
   simp [aW, upd_at, fin_at, HV.men]
  ·
   simp only [bP0 hlt, ← hr, hul, aY, List.map_append, Option.getD_some]
   exact ⟨rfl, by omega, trivial, trivial⟩
  show rows.length - (i + 1) < rows.length - i
  omega
 refine bA (T3 ?_)
 clear hK K
 refine AX (hK _ _ _ ?_)
 clear hK K
 refine aC fun K hK => ?_
 have hie : i = rows.length := by simp at hb; omega
 subst hie
 have hml2 := bY5 hok
 have hlens := bP2 (rows := rows) (n := 2 ^ 39) (fun r hr => by have := hrs r hr; omega)
 obtain ⟨ls, hls⟩ : ∃ ls, ls = lsT rows rows.length := ⟨_, rfl⟩
 rw [← hls] at hml2 hlsl hlens ⊢
 rw [hrows] at hml2
 obtain ⟨hE0, hEn⟩ := bO9 hle hml2
 rw [← hm] at hE0 hEn
 rw [← hlsl]
 refine dW [100] (bG (fr2 := fin [(5, .c (.slc (ls.map lsC)))]) (ob2 := fob []) (nx2 := 300) (aN (by omega) (by simp [aW, gJ, fin_at, finA_at, upd_at, fob_at, HV.close, HV.closeL, CV.denil, CV.denilL, aQ, HV.men, HV.menL, HV.norm, HV.toC, HV.toCL]) (by simp [aY, gK, fob_at, upd_at, none0_at, bX, HO.close, HV.close, HV.closeL, HO.men, HV.men, HV.menL, HV.norm, HV.toC, HV.toCL])) ?_)
 refine aC fun K hK => Rg ?_
 have F := @aQ
 refine SF ?_
 refine HS rfl rfl fun K' hK' => T6 ?_
 refine D1 (bB9 ls (by omega) (fun l hl => by have := hlens l hl; omega)) ?_
 rintro u v ⟨rfl, rfl⟩
 refine AX (hK' _ _ ?_)
 clear hK' K'
 iterate 5 refine SF ?_
 refine T2 (hK _ _ _ ?_)
 clear hK K
 refine R0 ?_
 refine aG (b := gM ls != 0) rfl (fun hb => ?_) (fun hb => ?_)
 ·
  refine R0 ?_
  refine aF (RT Tryz.results38 ?_)
  have hE := hEn (by simpa using hb)
  refine aR [] (.slc []) (.int .i64 2) ?_ ⟨by simp only [eD, hE]; rfl, by rw [hE]⟩
  simp [HV.close, HV.closeL, CV.denil, CV.denilL, HV.norm, HV.toC, HV.toCL]
 refine aK ?_
 refine T0 (hK _ _ _ ?_)
 clear hK K
 refine R0 ?_
 refine aF (RT Tryz.results38 ?_)
 obtain ⟨hE, hO⟩ := hE0 (by simpa using hb)
 refine aR [] (.slc (ls.map lsC)) (.int .i64 0) ?_ ⟨by rw [hO], by rw [hE]⟩
 simp [HV.close, HV.closeL, CV.denil, CV.denilL, HV.norm, HV.toC, HV.toCL, aQ]

end Go.Proofs.YtlldglbooaefhaaGreatDoor
