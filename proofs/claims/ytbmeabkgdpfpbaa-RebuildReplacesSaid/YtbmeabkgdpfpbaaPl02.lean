/- What the functions of admissionref02 compute, in plain Lean. By an AI agent. -/
import Derived.Test.YtbmeabkgdpfpbaaHlV
set_option linter.unusedSimpArgs false
set_option linter.unusedVariables false
namespace Go.Pl
open Go Go.Hl

abbrev Word := List UInt8
def ascB : List Word → Bool
  | a :: b :: l => slt a b && ascB (b :: l)
  | _ => true
theorem ascB_iff : ∀ {l : List Word}, ascB l = true ↔ ∀ i (h : i + 1 < l.length), slt l[i] l[i + 1] = true
  | [] => by simp [ascB]
  | [a] => by simp [ascB]
  | a :: b :: l => by
    simp only [ascB, Bool.and_eq_true, ascB_iff (l := b :: l)]
    constructor
    · rintro ⟨h1, h2⟩ i hi
      cases i with
      | zero => simpa using h1
      | succ i => exact h2 i (by simpa using hi)
    · intro h
      exact ⟨by simpa using h 0 (by simp), fun i hi => h (i + 1) (by simpa using hi)⟩

/-- An ascending list with one more word, once. -/
def addW (l : List Word) (w : Word) : List Word :=
  if l.contains w then l else l.takeWhile (slt · w) ++ w :: l.dropWhile (slt · w)
theorem addW_eq {l : List Word} {w : Word} {i : Nat} (hc : l.contains w = false) (hi : i ≤ l.length) (h : ∀ j (h : j < i) (h' : j < l.length), slt l[j] w = true) (he : ∀ h : i < l.length, slt l[i] w = false) : addW l w = l.take i ++ w :: l.drop i := by
  have key : ∀ (l : List Word) (i : Nat), i ≤ l.length → (∀ j (h : j < i) (h' : j < l.length), slt l[j] w = true) → (∀ h : i < l.length, slt l[i] w = false) → l.takeWhile (slt · w) = l.take i ∧ l.dropWhile (slt · w) = l.drop i := by
    intro l
    induction l with
    | nil => intro i _ _ _; simp
    | cons a l ih =>
      intro i hi h he
      cases i with
      | zero =>
        have := he (by simp)
        simp at this
        simp [List.takeWhile_cons, List.dropWhile_cons, this]
      | succ i =>
        have h0 := h 0 (by omega) (by simp)
        simp at h0
        have := ih i (by simpa using hi) (fun j h1 h2 => h (j + 1) (by omega) (by simpa using h2)) (fun h1 => he (by simpa using h1))
        simp [List.takeWhile_cons, List.dropWhile_cons, h0, this]
  simp only [addW, hc, Bool.false_eq_true, if_false, (key l i hi h he).1, (key l i hi h he).2]
end Go.Pl
