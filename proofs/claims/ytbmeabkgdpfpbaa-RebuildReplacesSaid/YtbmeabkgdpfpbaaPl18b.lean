/- Reports: more on how they lie; the plain laws of the functions that choose among them. By an AI agent. -/
import Derived.Test.YtbmeabkgdpfpbaaPl18
import Derived.Test.YtbmeabkgdpfpbaaHlY
set_option linter.unusedSimpArgs false
set_option linter.unusedVariables false
namespace Go.Pl
open Go Go.Hl

theorem Rp.getO (p : Rp) : CV.getAt 64 32 true p.cv = some (dg p.o) := by
  simp [Rp.cv, CV.getAt, CV.getAtL, CV.cells, CV.cellsL, dg_cells, dg_getAt]
theorem Rp.setAll (p : Rp) (x : HV) : CV.setAt 0 97 x p.cv = some x := by
  have := Rp.cells p
  simp only [Rp.cv, CV.cells] at this
  simp only [Rp.cv, CV.setAt, this, and_self, if_true]

/-- The place of the first element with 'p', or -1. -/
def idxP {α : Type} (p : α → Bool) (l : List α) : Int := match l.findIdx? p with | some i => i | none => -1

theorem idxP_hit {α : Type} {p : α → Bool} {l : List α} {i : Nat} (hi : i < l.length) (h : p l[i] = true) (h0 : ∀ x ∈ l.take i, p x = false) : idxP p l = i := by
  unfold idxP
  have : l.findIdx? p = some i := by
    rw [List.findIdx?_eq_some_iff_getElem]
    refine ⟨hi, h, fun j hj => ?_⟩
    have := h0 (l[j]'(by omega)) (by rw [List.mem_take_iff_getElem]; exact ⟨j, by omega, rfl⟩)
    simp [this]
  rw [this]
theorem idxP_none {α : Type} {p : α → Bool} {l : List α} (h0 : ∀ x ∈ l, p x = false) : idxP p l = -1 := by
  unfold idxP
  have : l.findIdx? p = none := by rw [List.findIdx?_eq_none_iff]; exact h0
  rw [this]
theorem idxP_ge {α : Type} {p : α → Bool} {l : List α} : (0 ≤ idxP p l) ↔ l.any p = true := by
  unfold idxP
  cases h : l.findIdx? p with
  | none =>
    rw [List.findIdx?_eq_none_iff] at h
    simp only [List.any_eq_true]
    constructor
    · intro h'; omega
    · rintro ⟨x, hx, hp⟩; rw [h x hx] at hp; cases hp
  | some i =>
    obtain ⟨hi, hp, _⟩ := List.findIdx?_eq_some_iff_getElem.1 h
    simp only [List.any_eq_true]
    exact ⟨fun _ => ⟨l[i], List.getElem_mem hi, hp⟩, fun _ => by omega⟩
/-- What 'idxP' says. -/
theorem idxP_cases {α : Type} (p : α → Bool) (l : List α) : (idxP p l = -1 ∧ ∀ x ∈ l, p x = false) ∨ ∃ (i : Nat) (hi : i < l.length), idxP p l = i ∧ p l[i] = true ∧ ∀ x ∈ l.take i, p x = false := by
  unfold idxP
  cases h : l.findIdx? p with
  | none => rw [List.findIdx?_eq_none_iff] at h; exact .inl ⟨rfl, h⟩
  | some i =>
    obtain ⟨hi, hp, hj⟩ := List.findIdx?_eq_some_iff_getElem.1 h
    refine .inr ⟨i, hi, rfl, hp, fun x hx => ?_⟩
    obtain ⟨j, hj', rfl⟩ := List.mem_take_iff_getElem.1 hx
    have := hj j (by omega)
    simpa using this

/-- The state of slices.DeleteFunc's loop: the first 'i' are what stays of the first 'j'; the rest of the row is what it was. -/
theorem del_step {α : Type} {p : α → Bool} {l r : List α} {i j : Nat} (hr : r.length = l.length) (hij : i < j) (hj : j < l.length) (h1 : r.take i = (l.take j).filter (fun x => !p x)) (h2 : r.drop j = l.drop j) :
    r[j]'(by omega) = l[j] ∧ (p l[j] = true → r.take i = (l.take (j + 1)).filter (fun x => !p x) ∧ r.drop (j + 1) = l.drop (j + 1)) ∧
    (p l[j] = false → (r.set i l[j]).take (i + 1) = (l.take (j + 1)).filter (fun x => !p x) ∧ (r.set i l[j]).drop (j + 1) = l.drop (j + 1)) := by
  have hrj : r[j]'(by omega) = l[j] := by
    have e1 : (r.drop j)[0]? = (l.drop j)[0]? := by rw [h2]
    rw [List.getElem?_drop, List.getElem?_drop, Nat.add_zero, List.getElem?_eq_getElem (by omega), List.getElem?_eq_getElem hj] at e1
    exact Option.some.inj e1
  have e2 : r.drop (j + 1) = l.drop (j + 1) := by
    rw [← List.drop_drop, ← List.drop_drop, h2]
  have e3 : l.take (j + 1) = l.take j ++ [l[j]] := List.take_succ_eq_append_getElem hj
  refine ⟨hrj, fun hp => ⟨?_, e2⟩, fun hp => ⟨?_, ?_⟩⟩
  · rw [e3, List.filter_append, h1]; simp [hp]
  · rw [e3, List.filter_append, ← h1]
    rw [List.take_set, List.take_succ_eq_append_getElem (by omega)]
    simp only [List.filter_cons, hp, Bool.not_false, if_true, List.filter_nil]
    rw [List.set_append_right _ _ (by simp; omega)]
    have : i - (List.take i r).length = 0 := by simp; omega
    rw [this]; rfl
  · rw [List.drop_set_of_lt (by omega)]; exact e2

/-- The greatest time. -/
def maxAt (a : Int) (l : List Rp) : Int := l.foldl (fun a r => if r.at_ > a then r.at_ else a) a
theorem maxAt_succ (a : Int) {l : List Rp} {i : Nat} (h : i < l.length) : maxAt a (l.take (i + 1)) = if l[i].at_ > maxAt a (l.take i) then l[i].at_ else maxAt a (l.take i) := by
  rw [List.take_succ_eq_append_getElem h]
  simp only [maxAt, List.foldl_append, List.foldl_cons, List.foldl_nil]
  rfl
/-- The reports with the greatest time. -/
def latestL (l : List Rp) : List Rp := match l with
  | [] => []
  | x :: _ => l.filter fun r => r.at_ == maxAt x.at_ l
theorem latestL_eq (l : List Rp) (h : 0 < l.length) : latestL l = l.filter fun r => r.at_ == maxAt l[0].at_ l := by
  cases l with
  | nil => simp at h
  | cons x l => rfl
end Go.Pl
