/- PolicyTree: for any list of nodes, any tape of numbers, any index and any truth values the law returns true and leaves them as they were: Tree, Children, Leaves and Eval of the program answer as the reference's do. The listed tables of the library are tied to the program's text by the card. By an AI agent. -/
import Derived.Test.YtlldglbooaefhaaGreatDoorHzTz
import Derived.Test.YtlldglbooaefhaaGreatDoorHzUe
import Derived.Lay
import Derived.SevenTiedAt
import Derived.Test.YtlldglbooaefhaaGreatDoorRows
import Derived.Test.YtlldglbooaefhaaGreatDoorCards
import Derived.Test.YtlldglbooaefhaaGreatDoorTie
set_option linter.unusedSimpArgs false
set_option linter.unusedVariables false
set_option linter.defProp false
namespace Go.Proofs.YtlldglbooaefhaaGreatDoor
open Go Go.Hl Go.Pl
set_option linter.unusedVariables false
set_option maxRecDepth 100000

theorem xM {W : World} (h : laidMetH Tryz.prog Rows.policyTreeRow.laid W) : Lib.TabIs Tryz.prog W "internal/strconv.uint64pow10" .u64 Lib.pow10Tab := by
  rw [MakeChecks.laidMetH_plain _ _ _ (by kernel_rfl)] at h
  have h2 := laidMet.filter (fun x => x.1 == "internal/strconv.uint64pow10") h
  have e : (Rows.policyTreeRow.laid.filter fun x => x.1 == "internal/strconv.uint64pow10") = [("internal/strconv.uint64pow10", Lib.tabData .u64 Lib.pow10Tab)] := by kernel_rfl
  rw [e] at h2
  exact Lib.tabIs_of_head aD0 (by kernel_rfl) Tryz.underlying169 Tryz.underlying116 (by kernel_rfl) (by kernel_rfl) h2

theorem oK (H : Type) (enc : TypeId × Value → H) (W : World) (args : Array Value) (ds gs : List (DataW H)) (before : List MemPlace)
    (hL : laidMetH Tryz.prog Rows.policyTreeRow.laid W)
    (hval : ∀ (j : Nat) t v, Tryz.f3.params[j]? = some t → args[j]? = some v → Value.okWide Tryz.prog W .any 0 t v)
    (hW : DataW.Whole enc Tryz.prog Tryz.f3.params.toList Rows.policyTreeSpec.vars false W args.toList ds gs before) :
    Calls Tryz.prog 3 args W fun e W' => ∃ v, e = .returned v ∧ Rows.policyTreeSpec.post enc Tryz.prog Tryz.f3 false true false false W args v W' := by
  refine aY7 (mm := 6) (tb := 4) (tabs := tabs) (by kernel_rfl) kids aQ4 rfl (by kernel_rfl) Tryz.underlying4 ?_ ?_ ?_ ?_ (fun j t v h1 h2 => ?_) hW
  · rw [Tryz.params3]
    intro H ds h
    match ds, h with
    | [c0, c1, c2, c3], _ => exact ⟨rfl, rfl, rfl⟩
  · rw [Tryz.params3]
    intro t ht
    simp only [List.mem_cons, List.not_mem_nil, or_false] at ht
    rcases ht with rfl | rfl | rfl | rfl
    · exact ⟨by kernel_rfl, of_decide_eq_true (by kernel_rfl)⟩
    · exact ⟨by kernel_rfl, of_decide_eq_true (by kernel_rfl)⟩
    · exact ⟨by kernel_rfl, of_decide_eq_true (by kernel_rfl)⟩
    · exact ⟨by kernel_rfl, of_decide_eq_true (by kernel_rfl)⟩
  · rw [Tryz.params3]
    intro cs hn hty
    match cs, hn, hty with
    | [c0, c1, c2, c3], _, hty =>
      obtain ⟨l, rfl, hq, hl⟩ := bZ6 (hty 0 _ c0 rfl rfl)
      obtain ⟨L, rfl, hw, hl2⟩ := bT5 (hty 1 _ c1 rfl rfl)
      obtain ⟨i, rfl, hi⟩ := (hty 2 _ c2 rfl rfl).of_int Tryz.underlying3
      obtain ⟨tr, rfl, ht⟩ := bM1 (hty 3 _ c3 rfl rfl)
      exact bP0 l (fun n hn => by have := hq n hn; unfold maxLen at this; omega) L i tr (by unfold maxLen at ht; omega)
  · intro x hx
    simp only [tabs, List.mem_cons, List.not_mem_nil, or_false] at hx
    rcases hx with rfl
    · exact xD aD0 (xM hL)
  · exact hval j t v h1 h2

open Go.ChangeShapes Go.WideShapes Go.ChangeAt Go.RowKit in
set_option maxRecDepth 100000 in
theorem qV (os : Os) (started : os.Started) (H : Type) (enc : TypeId × Value → H) :
    ReturnsInHanded {} Tryz.checked os 3 .any (fun w args => (Rows.policyTreeSpec.pre enc Tryz.prog Tryz.f3 [] false w args ∧ laidMetH Tryz.prog Rows.policyTreeRow.laid w) ∧ sizedMet enc Tryz.prog Tryz.f3 (OpenSpec.ofChange Rows.policyTreeSpec) false w args)
      (Rows.policyTreeSpec.post enc Tryz.prog Tryz.f3 false true false false) := by
  refine returnsInHanded_of_change_and (C := Tryz.checked) (X := fun w _ => laidMetH Tryz.prog Rows.policyTreeRow.laid w) (fun _ _ _ hh h => h.of_heap hh) own started (by kernel_rfl) Tryz.func3
    (ChangeSpec.witness_shaped (enc := enc) (C := Tryz.checked) (os := os) (X := fun w _ => laidMetH Tryz.prog Rows.policyTreeRow.laid w) false (World.laidAll Tryz.prog os Rows.policyTreeRow.laid) #[.slice none 0 0, .slice none 0 0, .int .i64 0, .slice none 0 0] 8 (World.laidAll_os _ _ _)
      (World.shaped_of_ZipB (by kernel_rfl) (by kernel_rfl)) (by kernel_rfl) (by kernel_rfl) (by kernel_rfl)
      (by rw [MakeChecks.laidMetH_plain _ _ _ (by kernel_rfl)]; exact laidMet_laidAll _ (by kernel_rfl) (by kernel_rfl))) ?_
  intro W base args ds gs before hval hW _ _ hL _
  exact oK H enc W args ds gs before hL (fun j t v h1 h2 => (hval j t v h1 h2)) hW

theorem wS : Rows.PolicyTreeSaid :=
  OpenClaim.holds_of_wide 3 Tryz.f3 rfl rfl rfl rfl rfl rfl rfl ⟨rfl, rfl, rfl, rfl, rfl⟩ rfl rfl rfl rfl rfl (by kernel_rfl) Tryz.func3 (by kernel_rfl)
    (of_decide_eq_true (by kernel_rfl)) (by unfold Func.isWrapper; first | (rw [if_pos (by decide +kernel)]; kernel_rfl) | (rw [if_neg (by decide +kernel)]; exact ⟨rfl, rfl⟩))
    (fun os started H enc _ => qV os started H enc)

theorem policyTree_said : Rows.PolicyTreeCardSaid :=
  Claim7.holds_tied_plain_at .later [] [.data, .data, .data, .data, .pinned] true (true, "ff5d47cd62c7d13f21802cca9c8b9512cc3c2844dd4407b78ea0f3c0525ec3f2") false wS (fun _ h => by cases h) (by kernel_rfl) (fun _ h => by cases h) policyTree_row_tie rfl ⟨rfl, rfl⟩ (by kernel_rfl) rfl
    (fun f fn hf hfn => by
      obtain rfl : f = 3 := Option.some.inj ((show Tryz.prog.funcNamed "admission/admissionlaw28.PolicyTree" = some 3 by kernel_rfl).symm.trans hf) |>.symm
      obtain rfl : fn = Tryz.f3 := (Option.some.inj (Tryz.func3.symm.trans hfn)).symm
      exact ⟨by kernel_rfl, fun j t ht => by
        rw [Tryz.params3] at ht
        have hm : t ∈ [22, 23, 3, 24] := by simpa using Array.mem_of_getElem? ht
        have hall : ([22, 23, 3, 24].all fun u => !Tryz.prog.wantsStandIn u) = true := by kernel_rfl
        exact (show Tryz.prog.wantsStandIn t = false by simpa using List.all_eq_true.1 hall t hm)⟩)
    (by kernel_rfl)
#print axioms policyTree_said
end Go.Proofs.YtlldglbooaefhaaGreatDoor
