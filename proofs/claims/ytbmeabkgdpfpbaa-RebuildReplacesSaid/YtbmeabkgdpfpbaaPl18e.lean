/- More plain laws of the judgement. By an AI agent. -/
import Derived.Test.YtbmeabkgdpfpbaaPl18d
set_option linter.unusedSimpArgs false
set_option linter.unusedVariables false
namespace Go.Pl
open Go Go.Hl

section
variable {s r o : Dig} {t : Int} {l l' : List Rb}
theorem SM_congr (h : ∀ x, x ∈ l ↔ x ∈ l') {x : Rb} : SM s r t l x ↔ SM s r t l' x := by
  simp only [SM, h]
theorem judge_congr (h : ∀ x, x ∈ l ↔ x ∈ l') : judge18 s r o t l = judge18 s r o t l' := by
  obtain ⟨a1, a2, a3, a4, a5, a6⟩ := judge18_spec (s := s) (r := r) (o := o) (t := t) (l := l)
  obtain ⟨b1, b2, b3, b4, b5, b6⟩ := judge18_spec (s := s) (r := r) (o := o) (t := t) (l := l')
  have hs : ∀ x, SM s r t l x ↔ SM s r t l' x := fun x => SM_congr h
  have f : ∀ w, InF s r t l w ↔ InF s r t l' w := fun w => by simp only [InF, hs]
  have e1 := asc_ext a4 b4 (fun w => (a1 w).trans ((by simp only [InA, hs] : InA s r o t l w ↔ InA s r o t l' w).trans (b1 w).symm))
  have e2 := asc_ext a5 b5 (fun w => (a2 w).trans ((by simp only [InD, hs, f] : InD s r o t l w ↔ InD s r o t l' w).trans (b2 w).symm))
  have e3 := asc_ext a6 b6 (fun w => (a3 w).trans ((f w).trans (b3 w).symm))
  generalize judge18 s r o t l = j at *
  generalize judge18 s r o t l' = k at *
  cases j; cases k
  simp only at e1 e2 e3
  rw [e1, e2, e3]
theorem judge_apart {w : Word} (h : w ∈ (judge18 s r o t l).a) : w ∉ (judge18 s r o t l).d ∧ w ∉ (judge18 s r o t l).f := by
  obtain ⟨a1, a2, a3, _⟩ := judge18_spec (s := s) (r := r) (o := o) (t := t) (l := l)
  rw [a1] at h
  rw [a2, a3]
  refine ⟨fun ⟨⟨x, hx, hw, ho⟩, _⟩ => ho (h.2 x hx hw), fun ⟨x, y, hx, hy, hxw, hyw, hne⟩ => hne ((h.2 x hx hxw).trans (h.2 y hy hyw).symm)⟩
end
theorem asc_ascB : ∀ {l : List Word}, Asc l → ascB l = true
  | [], _ => rfl
  | [a], _ => rfl
  | a :: b :: l, h => by
    obtain ⟨h1, h2⟩ := List.pairwise_cons.1 h
    simp only [ascB, Bool.and_eq_true]
    exact ⟨slt_iff.2 (h1 b (by simp)), asc_ascB h2⟩
theorem contains_false {l : List Word} {w : Word} (h : w ∉ l) : l.contains w = false := by simpa using h
theorem cv_cells {l : List CV} (m : List Rb) (h : ∀ v ∈ l, v ∈ m.map Rb.cv) : ∀ v ∈ l, v.cells = 98 := fun v hv => by
  obtain ⟨x, _, rfl⟩ := List.mem_map.1 (h v hv); exact Rb.cells x

theorem rot_mem {m : List Rb} {k i : Nat} (hi : i < m.length) (x : Rb) : x ∈ (m.drop k ++ m.take k) ++ [m[i]] ↔ x ∈ m := by
  simp only [List.mem_append, List.mem_singleton]
  constructor
  · rintro ((h | h) | rfl)
    · exact List.mem_of_mem_drop h
    · exact List.mem_of_mem_take h
    · exact List.getElem_mem hi
  · intro h
    rw [← List.take_append_drop k m] at h
    rcases List.mem_append.1 h with h | h
    · exact .inl (.inr h)
    · exact .inl (.inl h)

theorem nodup_len : ∀ (s l : List Word), l.Nodup → (∀ x ∈ l, x ∈ s) → l.length ≤ s.length
  | [], l, _, h => by
    cases l with
    | nil => exact Nat.le_refl _
    | cons x l => exact absurd (h x (by simp)) (by simp)
  | a :: s, l, hn, h => by
    by_cases ha : a ∈ l
    · have h1 := nodup_len s (l.erase a) (hn.erase a) (fun x hx => by
        obtain ⟨hne, hx⟩ := (List.Nodup.mem_erase_iff hn).1 hx
        exact (List.mem_cons.1 (h x hx)).resolve_left hne)
      rw [List.length_erase_of_mem ha] at h1
      simp only [List.length_cons]; omega
    · have h1 := nodup_len s l hn (fun x hx => (List.mem_cons.1 (h x hx)).resolve_left (fun e => ha (e ▸ hx)))
      simp only [List.length_cons]; omega
theorem honest {s r o d : Dig} {t : Int} {l : List Rb} {ws : List Word} (h : ∀ x ∈ l, x.w ∈ ws ∨ x.p.o = d) (hlt : ws.length < (judge18 s r o t l).a.length) : d = o := by
  obtain ⟨a1, _, _, h4, _, _⟩ := judge18_spec (s := s) (r := r) (o := o) (t := t) (l := l)
  have nd : (judge18 s r o t l).a.Nodup := h4.imp (fun {x y} h e => by subst e; exact List.lt_irrefl _ h)
  apply Classical.byContradiction
  intro hne
  have := nodup_len ws _ nd (fun w hw => by
    obtain ⟨⟨x, hx, rfl⟩, hall⟩ := (a1 w).1 hw
    rcases h x hx.1 with h | h
    · exact h
    · exact absurd (h.symm.trans (hall x hx rfl)) hne)
  omega

section
variable {s r o d : Dig} {t : Int} {m : List Rb} {w : Word}
/-- A later report of an owner. -/
theorem SM_later (hm : ∀ x ∈ m, x.p.at_ < 15) (ht : 15 ≤ t) {x : Rb} (hx : x.w = w) : SM s r t (m ++ [⟨w, ⟨s, r, d, 15⟩⟩]) x ↔ x = ⟨w, ⟨s, r, d, 15⟩⟩ := by
  have hp : pick1 s r t ⟨w, ⟨s, r, d, 15⟩⟩ = true := by simp [pick1, ht]
  simp only [SM, List.mem_append, List.mem_singleton]
  constructor
  · rintro ⟨h1, h2, h3⟩
    rcases h1 with h1 | h1
    · have := h3 _ (.inr rfl) hp hx.symm
      have h4 := hm x h1
      simp only at this
      omega
    · exact h1
  · rintro rfl
    refine ⟨.inr rfl, hp, fun y hy _ _ => ?_⟩
    rcases hy with hy | rfl
    · have := hm y hy; simp only; omega
    · exact Int.le_refl _
theorem SM_other {x : Rb} (hx : x.w ≠ w) : SM s r t (m ++ [⟨w, ⟨s, r, d, 15⟩⟩]) x ↔ SM s r t m x := by
  simp only [SM, List.mem_append, List.mem_singleton]
  constructor
  · rintro ⟨h1, h2, h3⟩
    refine ⟨h1.resolve_right (fun e => hx (by rw [e])), h2, fun y hy => h3 y (.inl hy)⟩
  · rintro ⟨h1, h2, h3⟩
    refine ⟨.inl h1, h2, fun y hy hp hw => ?_⟩
    rcases hy with hy | rfl
    · exact h3 y hy hp hw
    · exact absurd hw.symm hx
theorem replaced (hm : ∀ x ∈ m, x.p.at_ < 15) (ht : 15 ≤ t) : let j := judge18 s r o t (m ++ [⟨w, ⟨s, r, d, 15⟩⟩])
    (j.a.contains w = (d == o)) ∧ (j.d.contains w = !(d == o)) ∧ j.f.contains w = false := by
  obtain ⟨a1, a2, a3, _⟩ := judge18_spec (s := s) (r := r) (o := o) (t := t) (l := m ++ [⟨w, ⟨s, r, d, 15⟩⟩])
  have hs := fun x hx => SM_later (s := s) (r := r) (d := d) (t := t) (m := m) (w := w) hm ht (x := x) hx
  have hF : ¬ InF s r t (m ++ [⟨w, ⟨s, r, d, 15⟩⟩]) w := by
    rintro ⟨x, y, hx, hy, hxw, hyw, hne⟩
    rw [(hs x hxw).1 hx, (hs y hyw).1 hy] at hne
    exact hne rfl
  have hA : InA s r o t (m ++ [⟨w, ⟨s, r, d, 15⟩⟩]) w ↔ d = o := by
    constructor
    · rintro ⟨_, h⟩; exact h _ ((hs _ rfl).2 rfl) rfl
    · rintro rfl
      exact ⟨⟨_, (hs _ rfl).2 rfl, rfl⟩, fun x hx hxw => by rw [(hs x hxw).1 hx]⟩
  have hD : InD s r o t (m ++ [⟨w, ⟨s, r, d, 15⟩⟩]) w ↔ d ≠ o := by
    constructor
    · rintro ⟨⟨x, hx, hxw, ho⟩, _⟩; rw [(hs x hxw).1 hx] at ho; exact ho
    · intro h; exact ⟨⟨_, (hs _ rfl).2 rfl, rfl, h⟩, hF⟩
  refine ⟨?_, ?_, ?_⟩
  · rw [Bool.eq_iff_iff, List.contains_iff_mem, a1, hA, beq_iff_eq]
  · rw [Bool.eq_iff_iff, List.contains_iff_mem, a2, hD, Bool.not_eq_true', beq_eq_false_iff_ne]
  · exact contains_false (fun h => hF ((a3 w).1 h))
theorem replaced_other {p : Word} (hp : p ≠ w) : let j := judge18 s r o t m
    let k := judge18 s r o t (m ++ [⟨w, ⟨s, r, d, 15⟩⟩])
    (j.a.contains p = k.a.contains p) ∧ (j.d.contains p = k.d.contains p) ∧ (j.f.contains p = k.f.contains p) := by
  obtain ⟨a1, a2, a3, _⟩ := judge18_spec (s := s) (r := r) (o := o) (t := t) (l := m ++ [⟨w, ⟨s, r, d, 15⟩⟩])
  obtain ⟨b1, b2, b3, _⟩ := judge18_spec (s := s) (r := r) (o := o) (t := t) (l := m)
  have hs := fun x (hx : x.w = p) => SM_other (s := s) (r := r) (d := d) (t := t) (m := m) (w := w) (x := x) (by rw [hx]; exact hp)
  have hF : InF s r t (m ++ [⟨w, ⟨s, r, d, 15⟩⟩]) p ↔ InF s r t m p := by
    constructor
    · rintro ⟨x, y, hx, hy, hxw, hyw, hne⟩; exact ⟨x, y, (hs x hxw).1 hx, (hs y hyw).1 hy, hxw, hyw, hne⟩
    · rintro ⟨x, y, hx, hy, hxw, hyw, hne⟩; exact ⟨x, y, (hs x hxw).2 hx, (hs y hyw).2 hy, hxw, hyw, hne⟩
  refine ⟨?_, ?_, ?_⟩
  · rw [Bool.eq_iff_iff, List.contains_iff_mem, List.contains_iff_mem, a1, b1]
    constructor
    · rintro ⟨⟨x, hx, hxw⟩, h⟩; exact ⟨⟨x, (hs x hxw).2 hx, hxw⟩, fun y hy hyw => h y ((hs y hyw).1 hy) hyw⟩
    · rintro ⟨⟨x, hx, hxw⟩, h⟩; exact ⟨⟨x, (hs x hxw).1 hx, hxw⟩, fun y hy hyw => h y ((hs y hyw).2 hy) hyw⟩
  · rw [Bool.eq_iff_iff, List.contains_iff_mem, List.contains_iff_mem, a2, b2]
    constructor
    · rintro ⟨⟨x, hx, hxw, h⟩, hn⟩; exact ⟨⟨x, (hs x hxw).2 hx, hxw, h⟩, fun h => hn (hF.1 h)⟩
    · rintro ⟨⟨x, hx, hxw, h⟩, hn⟩; exact ⟨⟨x, (hs x hxw).1 hx, hxw, h⟩, fun h => hn (hF.2 h)⟩
  · rw [Bool.eq_iff_iff, List.contains_iff_mem, List.contains_iff_mem, a3, b3, hF]
end
theorem dg1_inj {a b : UInt8} (h : dg1 a = dg1 b) : a = b := by
  have := congrArg Subtype.val h
  simp only [dg1, List.cons.injEq] at this
  exact this.1
end Go.Pl
