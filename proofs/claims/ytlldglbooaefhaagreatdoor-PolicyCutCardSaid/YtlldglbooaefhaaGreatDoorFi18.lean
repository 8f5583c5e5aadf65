/- PolicyCut: for any tape of numbers and any index the law returns true and leaves them as they were: of a policy text that is cut off within its first rule a syntax error is found at its end. The listed tables of the library are tied to the program's text by the card. By an AI agent. -/
import Derived.Test.YtlldglbooaefhaaGreatDoorHzU1
import Derived.Test.YtlldglbooaefhaaGreatDoorHzV2
import Derived.Test.YtlldglbooaefhaaGreatDoorHzSb
import Derived.Test.YtlldglbooaefhaaGreatDoorPl28s
import Derived.Test.YtlldglbooaefhaaGreatDoorHzV8
import Derived.Test.YtlldglbooaefhaaGreatDoorHzUj
import Derived.Lay
import Derived.SevenTiedAt
import Derived.Test.YtlldglbooaefhaaGreatDoorRows
import Derived.Test.YtlldglbooaefhaaGreatDoorCards
import Derived.Test.YtlldglbooaefhaaGreatDoorTie
set_option linter.unusedSimpArgs false
set_option linter.unusedVariables false
set_option linter.defProp false
namespace Go.Proofs.YtlldglbooaefhaaGreatDoor
open Go Go.Hl Go.Pl
set_option maxRecDepth 10000
set_option maxHeartbeats 16000000

theorem cI2 (T : List Nd) : CV.agg [.str [112], .int .i64 1, .slc [Pr.cv ⟨[114], [42], [42], 0, T⟩]] = (tK T).cv := rfl
theorem bC6 : cP = u8 := rfl

theorem cD0 (L : List Int) (i : Int) : nL Tryz.prog 10 tabs [.slc (L.map (.int .i64)), .int .i64 i] (fun v => v = .bool true) := by
 refine bR (args := [.c (.slc (L.map (.int .i64))), .c (.int .i64 i)]) Tryz.func10 rfl (by kernel_rfl) (fO tabs [.slc (L.map (.int .i64)), .int .i64 i]) (Nat.le_of_ble_eq_true rfl) ?_
 unfold eP
 refine R0 ?_
 refine aC fun K hK => Rg ?_
 have F := @denilL_int
 refine SF ?_
 refine HS rfl rfl fun K' hK' => T6 ?_
 refine gW [] (cB2 L 200) rfl trivial (by simp) (by simp) ⟨rfl, rfl, rfl, rfl⟩ (by simp [eO]) (by simp [HV.menL, HV.men]) ?_
 rintro r os' ⟨rfl, rfl⟩
 rw [bT8, bI7]
 refine AX (hK' _ _ ?_)
 clear hK' K'
 refine SF ?_
 refine T2 (hK _ _ _ ?_)
 clear hK K
 refine aC fun K hK => bB (by kernel_rfl) ?_
 simp only [sR, simprocAttr]
 refine SG0 ?_
 refine bI (g := none) rfl rfl fun K' hK' => T5 ?_
 refine bS (args := []) (bI9 (L.take 200) 0 (by omega)) rfl (by simp) ⟨rfl, rfl, rfl, rfl⟩ ?_
 rintro u v' ⟨T, a', rfl, rfl, hT, ha'⟩
 refine AX (hK' _ _ ?_)
 clear hK' K'
 refine SG0 ?_
 refine bZ (g := none) 29 rfl rfl fun K' hK' => ?_
 simp only [eN, iD, sH, ↓sP, sA, tyS, simprocAttr]
 repeat refine AI ?_
 refine cB (by first | rfl | simp) ?_
 try simp only [sH, ↓sP, sA, tyS, simprocAttr]
 refine AX (hK' _ _ ?_)
 clear hK' K'
 iterate 3 refine SG0 ?_
 refine T2 (hK _ _ _ ?_)
 clear hK K
 rw [cI2]
 obtain ⟨p, hpd⟩ : ∃ p : Po, p = tK T := ⟨_, rfl⟩
 have hsm : lS p := by rw [hpd]; exact aH4 hT
 have hp : PoSz p := bB7 hsm.1
 have hl3 : 3 ≤ (dS p).length := by rw [hpd]; exact bU2 hT
 have hcut : ∀ k, 2 ≤ k → k < (dS p).length → gM ((dS p).take k) = 0 ∧ (iM ((dS p).take k)).length ≤ 255000 ∧ dpE (iM ((dS p).take k)) = 2 ∧ dpL (iM ((dS p).take k)) = k := fun k h2 hk => by rw [hpd] at hk ⊢; exact bJ2 hT h2 hk
 obtain ⟨e1, e2, e3, e4⟩ := cB7 hsm
 obtain ⟨h3, h4⟩ := vG hsm
 rw [← hpd]
 clear hpd
 refine aC fun K hK => Rg ?_
 refine S0 ?_
 refine HS rfl rfl fun K' hK' => T5 ?_
 refine D1 (cC5 p hp) ?_
 rintro u v ⟨rfl, rfl⟩
 rw [e1, bC6]
 refine AX (hK' _ _ ?_)
 clear hK' K'
 refine AU ?_
 refine T2 (hK _ _ _ ?_)
 clear hK K
 refine aC fun K hK => Rg ?_
 have F := @denilL_u8
 refine SF ?_
 refine HS rfl rfl fun K' hK' => T6 ?_
 refine D1 (cC9 (lA p) (by omega)) ?_
 rintro u v ⟨rfl, rfl⟩
 rw [e3, e4]
 refine AX (hK' _ _ ?_)
 clear hK' K'
 refine AU ?_
 refine T2 (hK _ _ _ ?_)
 clear hK K
 refine aC fun K hK => ?_
 refine RS ?_
 have F := @bne_self_eq_false.{0}
 refine AU ?_
 refine CF rfl ?_
 refine aK ?_
 refine T0 (hK _ _ _ ?_)
 clear hK K
 have hw1 : IntKind.i64.wrap (((dS p).length : Int) - 2) = ((dS p).length : Int) - 2 := IntWalk.i64_in _ (by omega)
 refine RS ?_
 have F := aI @List.length_map.{0,0} hw1
 refine AU ?_
 refine SRF (aV7 i (((dS p).length : Int) - 2) (by omega) (by omega)) ?_
 rintro u ⟨x, hx, rfl⟩
 refine AU ?_
 obtain ⟨k, hk⟩ : ∃ k : Nat, IntKind.i64.wrap (2 + (x : Int)) = k ∧ 2 ≤ k ∧ k < (dS p).length := ⟨2 + x, by rw [IntWalk.i64_in _ (by omega)]; omega, by omega, by omega⟩
 obtain ⟨hk, hk2, hkl⟩ := hk
 rw [hk]
 obtain ⟨c1, c2, c3, c4⟩ := hcut k hk2 hkl
 refine aC fun K hK => Rg ?_
 iterate 3 refine S0 ?_ (e := fun _ h_ => by simp only [sH, ↓sP, sA, tyS, simprocAttr, lV, Int.natCast_nonneg, Int.ofNat_le, Nat.le_of_lt hkl, Int.toNat_natCast, Nat.sub_zero, List.drop_zero, ← List.map_take, List.length_map, aQ]; exact AX h_)
 refine HS rfl rfl fun K' hK' => ?_
 simp only [sH, ↓sP, sA, tyS, simprocAttr, lV, Int.natCast_nonneg, Int.ofNat_le, Nat.le_of_lt hkl, Int.toNat_natCast, Nat.sub_zero, List.drop_zero, ← List.map_take, List.length_map, aQ]
 refine D1 (aC3 ((dS p).take k) (by simp; omega) (fun l hl => by have := (h3 l (List.mem_of_mem_take hl)).2.1; omega)) ?_
 rintro u v ⟨rfl, rfl⟩
 rw [c1, bC6]
 refine AX (hK' _ _ ?_)
 clear hK' K'
 iterate 5 refine S0 ?_ (e := fun _ h_ => by simp only [sH, ↓sP, sA, tyS, simprocAttr, lV, Int.natCast_nonneg, Int.ofNat_le, Nat.le_of_lt hkl, Int.toNat_natCast, Nat.sub_zero, List.drop_zero, ← List.map_take, List.length_map, aQ]; exact AX h_)
 refine T2 (hK _ _ _ ?_)
 clear hK K
 refine aC fun K hK => Rg ?_
 have F := @denilL_u8
 refine SF ?_
 refine HS rfl rfl fun K' hK' => T6 ?_
 refine uN (args := [_]) 0 (bC4 (iM ((dS p).take k)) (by omega)) rfl (by simp) ⟨rfl, rfl, rfl, rfl⟩ ?_
 rintro u v x ⟨rfl, rfl, rfl⟩
 rw [c3, c4]
 refine AX (hK' _ _ ?_)
 clear hK' K'
 refine AU ?_
 refine T2 (hK _ _ _ ?_)
 clear hK K
 refine aC fun K hK => Rg ?_
 have F := @beq_self_eq_true.{0}
 refine AU ?_
 refine bM (g := some (70, true)) rfl rfl fun K' hK' => T6 ?_
 refine fH (args := []) 0 bV7 rfl (by simp) ⟨rfl, rfl, rfl, rfl⟩ ?_
 rintro u rfl
 refine AX (hK' _ _ ?_)
 clear hK' K'
 refine AU ?_
 refine T2 (hK _ _ _ ?_)
 clear hK K
 refine aF (RT Tryz.results10 ?_)
 exact dX [] (.bool true) rfl rfl (by simp) rfl

end Go.Proofs.YtlldglbooaefhaaGreatDoor

namespace Go.Proofs.YtlldglbooaefhaaGreatDoor
open Go Go.Hl Go.Pl
set_option linter.unusedVariables false
set_option maxRecDepth 100000

theorem yQ {W : World} (h : laidMetH Tryz.prog Rows.policyCutRow.laid W) : Lib.TabIs Tryz.prog W "internal/strconv.uint64pow10" .u64 Lib.pow10Tab := by
  rw [MakeChecks.laidMetH_plain _ _ _ (by kernel_rfl)] at h
  have h2 := laidMet.filter (fun x => x.1 == "internal/strconv.uint64pow10") h
  have e : (Rows.policyCutRow.laid.filter fun x => x.1 == "internal/strconv.uint64pow10") = [("internal/strconv.uint64pow10", Lib.tabData .u64 Lib.pow10Tab)] := by kernel_rfl
  rw [e] at h2
  exact Lib.tabIs_of_head aH5 (by kernel_rfl) Tryz.underlying169 Tryz.underlying116 (by kernel_rfl) (by kernel_rfl) h2

theorem pZ (H : Type) (enc : TypeId × Value → H) (W : World) (args : Array Value) (ds gs : List (DataW H)) (before : List MemPlace)
    (hL : laidMetH Tryz.prog Rows.policyCutRow.laid W)
    (hval : ∀ (j : Nat) t v, Tryz.f10.params[j]? = some t → args[j]? = some v → Value.okWide Tryz.prog W .any 0 t v)
    (hW : DataW.Whole enc Tryz.prog Tryz.f10.params.toList Rows.policyCutSpec.vars false W args.toList ds gs before) :
    Calls Tryz.prog 10 args W fun e W' => ∃ v, e = .returned v ∧ Rows.policyCutSpec.post enc Tryz.prog Tryz.f10 false true false false W args v W' := by
  refine bE8 (mm := 6) (tb := 4) (tabs := tabs) (by kernel_rfl) kids aV1 rfl (by kernel_rfl) Tryz.underlying4 ?_ ?_ ?_ ?_ (fun j t v h1 h2 => ?_) hW
  · rw [Tryz.params10]
    intro H ds h
    match ds, h with
    | [c0, c1], _ => exact ⟨rfl, rfl, rfl⟩
  · rw [Tryz.params10]
    intro t ht
    simp only [List.mem_cons, List.not_mem_nil, or_false] at ht
    rcases ht with rfl | rfl
    · exact ⟨by kernel_rfl, of_decide_eq_true (by kernel_rfl)⟩
    · exact ⟨by kernel_rfl, of_decide_eq_true (by kernel_rfl)⟩
  · rw [Tryz.params10]
    intro cs hn hty
    match cs, hn, hty with
    | [c0, c1], _, hty =>
      obtain ⟨L, rfl, hw, hl⟩ := cA2 (hty 0 _ c0 rfl rfl)
      obtain ⟨i, rfl, hi⟩ := (hty 1 _ c1 rfl rfl).of_int Tryz.underlying3
      exact cD0 L i
  · intro x hx
    simp only [tabs, List.mem_cons, List.not_mem_nil, or_false] at hx
    rcases hx with rfl
    · exact yK aH5 (yQ hL)
  · exact hval j t v h1 h2

open Go.ChangeShapes Go.WideShapes Go.ChangeAt Go.RowKit in
set_option maxRecDepth 100000 in
theorem tM (os : Os) (started : os.Started) (H : Type) (enc : TypeId × Value → H) :
    ReturnsInHanded {} Tryz.checked os 10 .any (fun w args => (Rows.policyCutSpec.pre enc Tryz.prog Tryz.f10 [] false w args ∧ laidMetH Tryz.prog Rows.policyCutRow.laid w) ∧ sizedMet enc Tryz.prog Tryz.f10 (OpenSpec.ofChange Rows.policyCutSpec) false w args)
      (Rows.policyCutSpec.post enc Tryz.prog Tryz.f10 false true false false) := by
  refine returnsInHanded_of_change_and (C := Tryz.checked) (X := fun w _ => laidMetH Tryz.prog Rows.policyCutRow.laid w) (fun _ _ _ hh h => h.of_heap hh) own started (by kernel_rfl) Tryz.func10
    (ChangeSpec.witness_shaped (enc := enc) (C := Tryz.checked) (os := os) (X := fun w _ => laidMetH Tryz.prog Rows.policyCutRow.laid w) false (World.laidAll Tryz.prog os Rows.policyCutRow.laid) #[.slice none 0 0, .int .i64 0] 8 (World.laidAll_os _ _ _)
      (World.shaped_of_ZipB (by kernel_rfl) (by kernel_rfl)) (by kernel_rfl) (by kernel_rfl) (by kernel_rfl)
      (by rw [MakeChecks.laidMetH_plain _ _ _ (by kernel_rfl)]; exact laidMet_laidAll _ (by kernel_rfl) (by kernel_rfl))) ?_
  intro W base args ds gs before hval hW _ _ hL _
  exact pZ H enc W args ds gs before hL (fun j t v h1 h2 => (hval j t v h1 h2)) hW

theorem yR : Rows.PolicyCutSaid :=
  OpenClaim.holds_of_wide 10 Tryz.f10 rfl rfl rfl rfl rfl rfl rfl ⟨rfl, rfl, rfl, rfl, rfl⟩ rfl rfl rfl rfl rfl (by kernel_rfl) Tryz.func10 (by kernel_rfl)
    (of_decide_eq_true (by kernel_rfl)) (by unfold Func.isWrapper; first | (rw [if_pos (by decide +kernel)]; kernel_rfl) | (rw [if_neg (by decide +kernel)]; exact ⟨rfl, rfl⟩))
    (fun os started H enc _ => tM os started H enc)

theorem policyCut_said : Rows.PolicyCutCardSaid :=
  Claim7.holds_tied_plain_at .later [] [.data, .data, .data, .data, .pinned] true (true, "ff5d47cd62c7d13f21802cca9c8b9512cc3c2844dd4407b78ea0f3c0525ec3f2") false yR (fun _ h => by cases h) (by kernel_rfl) (fun _ h => by cases h) policyCut_row_tie rfl ⟨rfl, rfl⟩ (by kernel_rfl) rfl
    (fun f fn hf hfn => by
      obtain rfl : f = 10 := Option.some.inj ((show Tryz.prog.funcNamed "admission/admissionlaw28.PolicyCut" = some 10 by kernel_rfl).symm.trans hf) |>.symm
      obtain rfl : fn = Tryz.f10 := (Option.some.inj (Tryz.func10.symm.trans hfn)).symm
      exact ⟨by kernel_rfl, fun j t ht => by
        rw [Tryz.params10] at ht
        have hm : t ∈ [23, 3] := by simpa using Array.mem_of_getElem? ht
        have hall : ([23, 3].all fun u => !Tryz.prog.wantsStandIn u) = true := by kernel_rfl
        exact (show Tryz.prog.wantsStandIn t = false by simpa using List.all_eq_true.1 hall t hm)⟩)
    (by kernel_rfl)
#print axioms policyCut_said
end Go.Proofs.YtlldglbooaefhaaGreatDoor
