/- RebuildMade: for any tape of numbers the law returns true and leaves the tape as it was: at every time the judgement of made reports, and its state, are those of the document. No condition. By an AI agent. -/
import Derived.Test.YtbmeabkgdpfpbaaHlTd
import Derived.Test.YtbmeabkgdpfpbaaHlTe
import Derived.Test.YtbmeabkgdpfpbaaRows
set_option linter.unusedSimpArgs false
set_option linter.unusedVariables false
namespace Go.Proofs.Ytbmeabkgdpfpbaa
open Go Go.Hl Go.Pl
set_option linter.unusedVariables false

theorem rebuildMade_contract (H : Type) (enc : TypeId × Value → H) (W : World) (base : Nat) (args : Array Value) (ds gs : List (DataW H)) (before : List MemPlace)
    (hval : ∀ (j : Nat) t v, Try.f4.params[j]? = some t → args[j]? = some v → Value.okWide Try.prog W .any base t v)
    (hW : DataW.Whole enc Try.prog Try.f4.params.toList Rows.rebuildMadeSpec.vars false W args.toList ds gs before) :
    Calls Try.prog 4 args W fun e W' => ∃ v, e = .returned v ∧ Rows.rebuildMadeSpec.post enc Try.prog Try.f4 false true false false W args v W' := by
  refine law_post (mm := 6) (tb := 4) kids slicesFull rfl (by kernel_rfl) Try.underlying4 ?_ ?_ ?_ (fun j t v h1 h2 => ?_) hW
  · rw [Try.params4]
    intro H ds h
    match ds, h with
    | [c0], _ => exact ⟨rfl, rfl, rfl⟩
  · rw [Try.params4]
    intro t ht
    simp only [List.mem_cons, List.not_mem_nil, or_false] at ht
    rcases ht with rfl
    · exact ⟨by kernel_rfl, of_decide_eq_true (by kernel_rfl)⟩
  · rw [Try.params4]
    intro cs hn hty
    match cs, hn, hty with
    | [c0], _, hty =>
      obtain ⟨L, rfl, hw, hl⟩ := of_ints (hty 0 _ c0 rfl rfl)
      exact made_law L
  · exact hval j t v h1 h2

open Go.ChangeShapes Go.WideShapes Go.ChangeAt Go.RowKit in
set_option maxRecDepth 100000 in
theorem rebuildMade_lifted (os : Os) (started : os.Started) (H : Type) (enc : TypeId × Value → H) :
    ReturnsInHanded {} Try.checked os 4 .any (Rows.rebuildMadeSpec.pre6 enc Try.prog Try.f4 Rows.rebuildMadeRow.domain false) (Rows.rebuildMadeSpec.post enc Try.prog Try.f4 false true false false) := by
  refine returnsInHanded_of_change (C := Try.checked) own started (by kernel_rfl) Try.func4
    (ChangeSpec.witness6 (enc := enc) (C := Try.checked) false ⟨#[], #[.slice none 0 0], []⟩ 8 (by kernel_rfl) (by kernel_rfl) (by kernel_rfl) (by kernel_rfl)) ?_
  intro W base args ds gs before hval hW _ _
  exact rebuildMade_contract H enc W base args ds gs before hval hW

/-- THE STATEMENT. -/
theorem rebuildMade_said : Rows.RebuildMadeSaid :=
  OpenClaim.holds_of_wide 4 Try.f4 rfl rfl rfl rfl rfl rfl rfl ⟨rfl, rfl, rfl, rfl, rfl⟩ rfl rfl rfl rfl rfl (by kernel_rfl) Try.func4 (by kernel_rfl)
    (of_decide_eq_true (by kernel_rfl)) (by unfold Func.isWrapper; first | (rw [if_pos (by decide +kernel)]; kernel_rfl) | (rw [if_neg (by decide +kernel)]; exact ⟨rfl, rfl⟩))
    (fun os started H enc _ => rebuildMade_lifted os started H enc)
#print axioms rebuildMade_said
end Go.Proofs.Ytbmeabkgdpfpbaa
