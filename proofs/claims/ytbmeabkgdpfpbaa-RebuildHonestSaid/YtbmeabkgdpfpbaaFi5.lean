/- RebuildHonest: for any tape and any number the law returns true and leaves its arguments as they were: if more owners agree than are not honest, the output is the true one. No condition. By an AI agent. -/
import Derived.Test.YtbmeabkgdpfpbaaHlTd
import Derived.Test.YtbmeabkgdpfpbaaHlTg
import Derived.Test.YtbmeabkgdpfpbaaRows
set_option linter.unusedSimpArgs false
set_option linter.unusedVariables false
namespace Go.Proofs.Ytbmeabkgdpfpbaa
open Go Go.Hl Go.Pl
set_option linter.unusedVariables false

theorem rebuildHonest_contract (H : Type) (enc : TypeId × Value → H) (W : World) (base : Nat) (args : Array Value) (ds gs : List (DataW H)) (before : List MemPlace)
    (hval : ∀ (j : Nat) t v, Try.f7.params[j]? = some t → args[j]? = some v → Value.okWide Try.prog W .any base t v)
    (hW : DataW.Whole enc Try.prog Try.f7.params.toList Rows.rebuildHonestSpec.vars false W args.toList ds gs before) :
    Calls Try.prog 7 args W fun e W' => ∃ v, e = .returned v ∧ Rows.rebuildHonestSpec.post enc Try.prog Try.f7 false true false false W args v W' := by
  refine law_post (mm := 6) (tb := 4) kids slicesFull rfl (by kernel_rfl) Try.underlying4 ?_ ?_ ?_ (fun j t v h1 h2 => ?_) hW
  · rw [Try.params7]
    intro H ds h
    match ds, h with
    | [c0, c1], _ => exact ⟨rfl, rfl, rfl⟩
  · rw [Try.params7]
    intro t ht
    simp only [List.mem_cons, List.not_mem_nil, or_false] at ht
    rcases ht with rfl | rfl
    · exact ⟨by kernel_rfl, of_decide_eq_true (by kernel_rfl)⟩
    · exact ⟨by kernel_rfl, of_decide_eq_true (by kernel_rfl)⟩
  · rw [Try.params7]
    intro cs hn hty
    match cs, hn, hty with
    | [c0, c1], _, hty =>
      obtain ⟨L, rfl, hw, hl⟩ := of_ints (hty 0 _ c0 rfl rfl)
      obtain ⟨a, rfl, ha⟩ := (hty 1 _ c1 rfl rfl).of_int Try.underlying3
      exact honest_law L a
  · exact hval j t v h1 h2

open Go.ChangeShapes Go.WideShapes Go.ChangeAt Go.RowKit in
set_option maxRecDepth 100000 in
theorem rebuildHonest_lifted (os : Os) (started : os.Started) (H : Type) (enc : TypeId × Value → H) :
    ReturnsInHanded {} Try.checked os 7 .any (Rows.rebuildHonestSpec.pre6 enc Try.prog Try.f7 Rows.rebuildHonestRow.domain false) (Rows.rebuildHonestSpec.post enc Try.prog Try.f7 false true false false) := by
  refine returnsInHanded_of_change (C := Try.checked) own started (by kernel_rfl) Try.func7
    (ChangeSpec.witness6 (enc := enc) (C := Try.checked) false ⟨#[], #[.slice none 0 0, .int .i64 0], []⟩ 8 (by kernel_rfl) (by kernel_rfl) (by kernel_rfl) (by kernel_rfl)) ?_
  intro W base args ds gs before hval hW _ _
  exact rebuildHonest_contract H enc W base args ds gs before hval hW

/-- THE STATEMENT. -/
theorem rebuildHonest_said : Rows.RebuildHonestSaid :=
  OpenClaim.holds_of_wide 7 Try.f7 rfl rfl rfl rfl rfl rfl rfl ⟨rfl, rfl, rfl, rfl, rfl⟩ rfl rfl rfl rfl rfl (by kernel_rfl) Try.func7 (by kernel_rfl)
    (of_decide_eq_true (by kernel_rfl)) (by unfold Func.isWrapper; first | (rw [if_pos (by decide +kernel)]; kernel_rfl) | (rw [if_neg (by decide +kernel)]; exact ⟨rfl, rfl⟩))
    (fun os started H enc _ => rebuildHonest_lifted os started H enc)
#print axioms rebuildHonest_said
end Go.Proofs.Ytbmeabkgdpfpbaa
