/- RebuildReplaces: for any tape and any byte the law returns true and leaves its arguments as they were: a later report of an owner replaces the earlier ones, and all others are as before. No condition. By an AI agent. -/
import Derived.Test.YtbmeabkgdpfpbaaHlTd
import Derived.Test.YtbmeabkgdpfpbaaHlTi
import Derived.Test.YtbmeabkgdpfpbaaRows
set_option linter.unusedSimpArgs false
set_option linter.unusedVariables false
namespace Go.Proofs.Ytbmeabkgdpfpbaa
open Go Go.Hl Go.Pl
set_option linter.unusedVariables false

theorem rebuildReplaces_contract (H : Type) (enc : TypeId × Value → H) (W : World) (base : Nat) (args : Array Value) (ds gs : List (DataW H)) (before : List MemPlace)
    (hval : ∀ (j : Nat) t v, Try.f6.params[j]? = some t → args[j]? = some v → Value.okWide Try.prog W .any base t v)
    (hW : DataW.Whole enc Try.prog Try.f6.params.toList Rows.rebuildReplacesSpec.vars false W args.toList ds gs before) :
    Calls Try.prog 6 args W fun e W' => ∃ v, e = .returned v ∧ Rows.rebuildReplacesSpec.post enc Try.prog Try.f6 false true false false W args v W' := by
  refine law_post (mm := 6) (tb := 4) kids slicesFull rfl (by kernel_rfl) Try.underlying4 ?_ ?_ ?_ (fun j t v h1 h2 => ?_) hW
  · rw [Try.params6]
    intro H ds h
    match ds, h with
    | [c0, c1], _ => exact ⟨rfl, rfl, rfl⟩
  · rw [Try.params6]
    intro t ht
    simp only [List.mem_cons, List.not_mem_nil, or_false] at ht
    rcases ht with rfl | rfl
    · exact ⟨by kernel_rfl, of_decide_eq_true (by kernel_rfl)⟩
    · exact ⟨by kernel_rfl, of_decide_eq_true (by kernel_rfl)⟩
  · rw [Try.params6]
    intro cs hn hty
    match cs, hn, hty with
    | [c0, c1], _, hty =>
      obtain ⟨L, rfl, hw, hl⟩ := of_ints (hty 0 _ c0 rfl rfl)
      obtain ⟨a, rfl, ha⟩ := (hty 1 _ c1 rfl rfl).of_int Try.underlying5
      have hb : 0 ≤ a ∧ a ≤ 255 := by simpa [Lit.wf, IntKind.min, IntKind.max, IntKind.signed, IntKind.bits] using ha
      exact replaces_law L a hb
  · exact hval j t v h1 h2

open Go.ChangeShapes Go.WideShapes Go.ChangeAt Go.RowKit in
set_option maxRecDepth 100000 in
theorem rebuildReplaces_lifted (os : Os) (started : os.Started) (H : Type) (enc : TypeId × Value → H) :
    ReturnsInHanded {} Try.checked os 6 .any (Rows.rebuildReplacesSpec.pre6 enc Try.prog Try.f6 Rows.rebuildReplacesRow.domain false) (Rows.rebuildReplacesSpec.post enc Try.prog Try.f6 false true false false) := by
  refine returnsInHanded_of_change (C := Try.checked) own started (by kernel_rfl) Try.func6
    (ChangeSpec.witness6 (enc := enc) (C := Try.checked) false ⟨#[], #[.slice none 0 0, .int .u8 0], []⟩ 8 (by kernel_rfl) (by kernel_rfl) (by kernel_rfl) (by kernel_rfl)) ?_
  intro W base args ds gs before hval hW _ _
  exact rebuildReplaces_contract H enc W base args ds gs before hval hW

/-- THE STATEMENT. -/
theorem rebuildReplaces_said : Rows.RebuildReplacesSaid :=
  OpenClaim.holds_of_wide 6 Try.f6 rfl rfl rfl rfl rfl rfl rfl ⟨rfl, rfl, rfl, rfl, rfl⟩ rfl rfl rfl rfl rfl (by kernel_rfl) Try.func6 (by kernel_rfl)
    (of_decide_eq_true (by kernel_rfl)) (by unfold Func.isWrapper; first | (rw [if_pos (by decide +kernel)]; kernel_rfl) | (rw [if_neg (by decide +kernel)]; exact ⟨rfl, rfl⟩))
    (fun os started H enc _ => rebuildReplaces_lifted os started H enc)
#print axioms rebuildReplaces_said
end Go.Proofs.Ytbmeabkgdpfpbaa
