/- The program's judgement and the reference's are the same: plain laws. By an AI agent. -/
import Derived.Test.YtbmeabkgdpfpbaaPl18c
set_option linter.unusedSimpArgs false
set_option linter.unusedVariables false
namespace Go.Pl
open Go Go.Hl

/-! ## Words in their order -/
abbrev Asc (l : List Word) : Prop := l.Pairwise (· < ·)
theorem bl_iff : ∀ (a b : Word), Op.bytesLess a b = true ↔ a < b
  | _, [] => by simp [Op.bytesLess]
  | [], _ :: _ => by simp [Op.bytesLess]
  | a :: x, b :: y => by
    simp only [Op.bytesLess, Bool.or_eq_true, decide_eq_true_eq, Bool.and_eq_true, beq_iff_eq, bl_iff x y, List.cons_lt_cons_iff]
theorem slt_iff {a b : Word} : slt a b = true ↔ a < b := bl_iff a b
theorem asc_ext {a b : List Word} (ha : Asc a) (hb : Asc b) (h : ∀ w, w ∈ a ↔ w ∈ b) : a = b := by
  have nd : ∀ {l : List Word}, Asc l → l.Nodup := fun hl => hl.imp (fun {x y} h e => by subst e; exact List.lt_irrefl _ h)
  refine List.Perm.eq_of_pairwise (le := (· < ·)) (fun x y _ _ h1 h2 => absurd (List.lt_trans h1 h2) (List.lt_irrefl _)) ha hb ((List.perm_ext_iff_of_nodup (nd ha) (nd hb)).2 h)
theorem lt_of_le_ne {a b : Word} (h : a ≤ b) (hne : a ≠ b) : a < b := by
  apply Classical.byContradiction
  intro h2
  exact hne (List.le_antisymm h (List.not_lt.1 h2))
theorem asc_keys (m : List Rb) : Asc (keysOf m) := by
  have h1 : (keysOf m).Pairwise (fun x y => leW x y = true) := by
    refine List.pairwise_mergeSort (fun x y z => ?_) (fun x y => ?_) _
    · simp only [leW, decide_eq_true_eq]; exact List.le_trans
    · simp only [leW, Bool.or_eq_true, decide_eq_true_eq]; exact List.le_total x y
  have h2 := keysOf_nodup m
  exact (List.pairwise_and_iff.2 ⟨h1, h2⟩).imp (fun {x y} ⟨h, hne⟩ => lt_of_le_ne (by simpa [leW] using h) hne)

theorem mem_tw {α : Type} {p : α → Bool} : ∀ {l : List α} {x : α}, x ∈ l.takeWhile p → p x = true
  | [], x, h => by simp at h
  | a :: l, x, h => by
    by_cases ha : p a = true
    · rw [List.takeWhile_cons_of_pos ha, List.mem_cons] at h
      rcases h with rfl | h
      · exact ha
      · exact mem_tw h
    · rw [List.takeWhile_cons_of_neg ha] at h; simp at h
theorem mem_addW {l : List Word} {w v : Word} : v ∈ addW l w ↔ v ∈ l ∨ v = w := by
  unfold addW
  split
  · rename_i h
    have : w ∈ l := by simpa using h
    constructor
    · exact .inl
    · rintro (h | rfl)
      · exact h
      · exact this
  · have : l = l.takeWhile (slt · w) ++ l.dropWhile (slt · w) := (List.takeWhile_append_dropWhile).symm
    constructor
    · intro h
      simp only [List.mem_append, List.mem_cons] at h
      rcases h with h | rfl | h
      · exact .inl (by rw [this]; exact List.mem_append_left _ h)
      · exact .inr rfl
      · exact .inl (by rw [this]; exact List.mem_append_right _ h)
    · rintro (h | rfl)
      · rw [this] at h
        simp only [List.mem_append, List.mem_cons]
        rcases List.mem_append.1 h with h | h
        · exact .inl h
        · exact .inr (.inr h)
      · simp
theorem asc_addW {l : List Word} (h : Asc l) (w : Word) : Asc (addW l w) := by
  unfold addW
  split
  · exact h
  · rename_i hc
    have hw : w ∉ l := by simpa using hc
    have e : l = l.takeWhile (slt · w) ++ l.dropWhile (slt · w) := (List.takeWhile_append_dropWhile).symm
    have h' := h
    rw [e] at h'
    obtain ⟨p1, p2, p3⟩ := List.pairwise_append.1 h'
    have t1 : ∀ x ∈ l.takeWhile (slt · w), x < w := fun x hx => slt_iff.1 (mem_tw (p := (slt · w)) hx)
    have t2 : ∀ y ∈ l.dropWhile (slt · w), w < y := by
      cases hd : l.dropWhile (slt · w) with
      | nil => simp
      | cons y r =>
        rw [hd] at p2 e
        have hy : slt y w = false := by
          have := List.head_dropWhile_not (slt · w) (l := l) (by rw [hd]; simp)
          simpa [hd] using this
        have hyl : y ∈ l := by rw [e]; simp
        have hwy : w < y := by
          have h1 : ¬ y < w := fun h => by rw [slt_iff.2 h] at hy; cases hy
          exact lt_of_le_ne (List.not_lt.1 h1) (fun h => hw (h ▸ hyl))
        intro z hz
        rcases List.mem_cons.1 hz with rfl | hz
        · exact hwy
        · exact List.lt_trans hwy ((List.pairwise_cons.1 p2).1 z hz)
    refine List.pairwise_append.2 ⟨p1, List.pairwise_cons.2 ⟨t2, p2⟩, fun x hx y hy => ?_⟩
    rcases List.mem_cons.1 hy with rfl | hy
    · exact t1 x hx
    · exact List.lt_trans (t1 x hx) (t2 y hy)

/-! ## Who is judged how -/
/-- The reports that count: no later one of the same owner. -/
def SM (s r : Dig) (t : Int) (l : List Rb) (x : Rb) : Prop := x ∈ l ∧ pick1 s r t x = true ∧ ∀ y ∈ l, pick1 s r t y = true → y.w = x.w → y.p.at_ ≤ x.p.at_
def InA (s r o : Dig) (t : Int) (l : List Rb) (w : Word) : Prop := (∃ x, SM s r t l x ∧ x.w = w) ∧ ∀ x, SM s r t l x → x.w = w → x.p.o = o
def InF (s r : Dig) (t : Int) (l : List Rb) (w : Word) : Prop := ∃ x y, SM s r t l x ∧ SM s r t l y ∧ x.w = w ∧ y.w = w ∧ x.p.o ≠ y.p.o
def InD (s r o : Dig) (t : Int) (l : List Rb) (w : Word) : Prop := (∃ x, SM s r t l x ∧ x.w = w ∧ x.p.o ≠ o) ∧ ¬ InF s r t l w

section
variable {s r o : Dig} {t : Int} {l : List Rb}
theorem mem_considered {x : Rb} : x ∈ considered s r t l ↔ SM s r t l x := by
  simp only [considered, later, SM, List.mem_filter, List.all_eq_true, Bool.or_eq_true, Bool.not_eq_true', beq_eq_false_iff_ne, decide_eq_true_eq]
  constructor
  · rintro ⟨⟨h1, h2⟩, h3⟩
    exact ⟨h1, h2, fun y hy hp hw => (h3 y ⟨hy, hp⟩).resolve_left (fun h => h hw)⟩
  · rintro ⟨h1, h2, h3⟩
    refine ⟨⟨h1, h2⟩, fun y ⟨hy, hp⟩ => ?_⟩
    by_cases hw : y.w = x.w
    · exact .inr (h3 y hy hp hw)
    · exact .inl hw
theorem faulty_iff {x : Rb} (hx : SM s r t l x) : faulty (considered s r t l) x = true ↔ InF s r t l x.w := by
  simp only [faulty, List.any_eq_true, Bool.and_eq_true, beq_iff_eq, Bool.not_eq_true', beq_eq_false_iff_ne, mem_considered]
  constructor
  · rintro ⟨y, hy, hw, ho⟩
    exact ⟨x, y, hx, hy, rfl, hw, fun e => ho e.symm⟩
  · rintro ⟨y, z, hy, hz, hyw, hzw, hne⟩
    by_cases e : y.p.o = x.p.o
    · exact ⟨z, hz, hzw, fun e2 => hne (e.trans e2.symm)⟩
    · exact ⟨y, hy, hyw, e⟩
theorem fold18 (xs : List Rb) (sm : List Rb) (j : Jd) : let k := xs.foldl (jstep sm o) j
    (∀ w, w ∈ k.f ↔ w ∈ j.f ∨ ∃ x ∈ xs, x.w = w ∧ faulty sm x = true) ∧ (∀ w, w ∈ k.a ↔ w ∈ j.a ∨ ∃ x ∈ xs, x.w = w ∧ faulty sm x = false ∧ x.p.o = o) ∧
      (∀ w, w ∈ k.d ↔ w ∈ j.d ∨ ∃ x ∈ xs, x.w = w ∧ faulty sm x = false ∧ x.p.o ≠ o) ∧ (Asc j.a → Asc k.a) ∧ (Asc j.d → Asc k.d) ∧ (Asc j.f → Asc k.f) := by
  induction xs generalizing j with
  | nil => simp
  | cons x xs ih =>
    have := ih (jstep sm o j x)
    simp only [List.foldl_cons] at this ⊢
    obtain ⟨h1, h2, h3, h4, h5, h6⟩ := this
    unfold jstep at *
    by_cases hf : faulty sm x = true
    · rw [if_pos hf] at h1 h2 h3 h4 h5 h6 ⊢
      refine ⟨fun w => ?_, fun w => ?_, fun w => ?_, h4, h5, fun h => h6 (asc_addW h _)⟩
      · rw [h1]; simp only [mem_addW, List.mem_cons]
        constructor
        · rintro ((h | rfl) | ⟨y, hy, h⟩)
          · exact .inl h
          · exact .inr ⟨x, .inl rfl, rfl, hf⟩
          · exact .inr ⟨y, .inr hy, h⟩
        · rintro (h | ⟨y, rfl | hy, h, hh⟩)
          · exact .inl (.inl h)
          · exact .inl (.inr h.symm)
          · exact .inr ⟨y, hy, h, hh⟩
      · rw [h2]; simp only [List.mem_cons]
        constructor
        · rintro (h | ⟨y, hy, h⟩)
          · exact .inl h
          · exact .inr ⟨y, .inr hy, h⟩
        · rintro (h | ⟨y, rfl | hy, h, hh, hhh⟩)
          · exact .inl h
          · rw [hf] at hh; cases hh
          · exact .inr ⟨y, hy, h, hh, hhh⟩
      · rw [h3]; simp only [List.mem_cons]
        constructor
        · rintro (h | ⟨y, hy, h⟩)
          · exact .inl h
          · exact .inr ⟨y, .inr hy, h⟩
        · rintro (h | ⟨y, rfl | hy, h, hh, hhh⟩)
          · exact .inl h
          · rw [hf] at hh; cases hh
          · exact .inr ⟨y, hy, h, hh, hhh⟩
    · have hf' : faulty sm x = false := by simpa using hf
      rw [if_neg hf] at h1 h2 h3 h4 h5 h6 ⊢
      have ff : ∀ w, (w ∈ j.f ∨ ∃ y ∈ xs, y.w = w ∧ faulty sm y = true) ↔ (w ∈ j.f ∨ ∃ y ∈ x :: xs, y.w = w ∧ faulty sm y = true) := fun w => by
        simp only [List.mem_cons]
        constructor
        · rintro (h | ⟨y, hy, h⟩)
          · exact .inl h
          · exact .inr ⟨y, .inr hy, h⟩
        · rintro (h | ⟨y, rfl | hy, h, hh⟩)
          · exact .inl h
          · rw [hf'] at hh; cases hh
          · exact .inr ⟨y, hy, h, hh⟩
      by_cases ho : x.p.o = o
      · have ho' : (x.p.o == o) = true := beq_iff_eq.2 ho
        rw [if_pos ho'] at h1 h2 h3 h4 h5 h6 ⊢
        refine ⟨fun w => by rw [h1]; exact ff w, fun w => ?_, fun w => ?_, fun h => h4 (asc_addW h _), h5, h6⟩
        · rw [h2]; simp only [mem_addW, List.mem_cons]
          constructor
          · rintro ((h | rfl) | ⟨y, hy, h⟩)
            · exact .inl h
            · exact .inr ⟨x, .inl rfl, rfl, hf', ho⟩
            · exact .inr ⟨y, .inr hy, h⟩
          · rintro (h | ⟨y, rfl | hy, h, hh⟩)
            · exact .inl (.inl h)
            · exact .inl (.inr h.symm)
            · exact .inr ⟨y, hy, h, hh⟩
        · rw [h3]; simp only [List.mem_cons]
          constructor
          · rintro (h | ⟨y, hy, h⟩)
            · exact .inl h
            · exact .inr ⟨y, .inr hy, h⟩
          · rintro (h | ⟨y, rfl | hy, h, hh, hhh⟩)
            · exact .inl h
            · exact absurd ho hhh
            · exact .inr ⟨y, hy, h, hh, hhh⟩
      · have ho' : ¬ (x.p.o == o) = true := fun h => ho (beq_iff_eq.1 h)
        rw [if_neg ho'] at h1 h2 h3 h4 h5 h6 ⊢
        refine ⟨fun w => by rw [h1]; exact ff w, fun w => ?_, fun w => ?_, h4, fun h => h5 (asc_addW h _), h6⟩
        · rw [h2]; simp only [List.mem_cons]
          constructor
          · rintro (h | ⟨y, hy, h⟩)
            · exact .inl h
            · exact .inr ⟨y, .inr hy, h⟩
          · rintro (h | ⟨y, rfl | hy, h, hh, hhh⟩)
            · exact .inl h
            · exact absurd hhh ho
            · exact .inr ⟨y, hy, h, hh, hhh⟩
        · rw [h3]; simp only [mem_addW, List.mem_cons]
          constructor
          · rintro ((h | rfl) | ⟨y, hy, h⟩)
            · exact .inl h
            · exact .inr ⟨x, .inl rfl, rfl, hf', ho⟩
            · exact .inr ⟨y, .inr hy, h⟩
          · rintro (h | ⟨y, rfl | hy, h, hh⟩)
            · exact .inl (.inl h)
            · exact .inl (.inr h.symm)
            · exact .inr ⟨y, hy, h, hh⟩

/-- What the reference says. -/
theorem judge18_spec : (∀ w, w ∈ (judge18 s r o t l).a ↔ InA s r o t l w) ∧ (∀ w, w ∈ (judge18 s r o t l).d ↔ InD s r o t l w) ∧ (∀ w, w ∈ (judge18 s r o t l).f ↔ InF s r t l w) ∧
    Asc (judge18 s r o t l).a ∧ Asc (judge18 s r o t l).d ∧ Asc (judge18 s r o t l).f := by
  obtain ⟨h1, h2, h3, h4, h5, h6⟩ := fold18 (o := o) (considered s r t l) (considered s r t l) ⟨[], [], []⟩
  refine ⟨fun w => ?_, fun w => ?_, fun w => ?_, h4 (by simp), h5 (by simp), h6 (by simp)⟩
  · have := h2 w
    simp only [List.not_mem_nil, false_or] at this
    unfold judge18
    rw [this]
    constructor
    · rintro ⟨x, hx, rfl, hf, ho⟩
      have hx' := mem_considered.1 hx
      refine ⟨⟨x, hx', rfl⟩, fun y hy hw => ?_⟩
      apply Classical.byContradiction
      intro hne
      have : faulty (considered s r t l) x = true := (faulty_iff hx').2 ⟨x, y, hx', hy, rfl, hw, fun e => hne (e.symm.trans ho)⟩
      rw [hf] at this; cases this
    · rintro ⟨⟨x, hx, rfl⟩, h⟩
      refine ⟨x, mem_considered.2 hx, rfl, ?_, h x hx rfl⟩
      cases hf : faulty (considered s r t l) x with
      | false => rfl
      | true =>
        obtain ⟨y, z, hy, hz, hyw, hzw, hne⟩ := (faulty_iff hx).1 hf
        exact absurd ((h y hy hyw).trans (h z hz hzw).symm) hne
  · have := h3 w
    simp only [List.not_mem_nil, false_or] at this
    unfold judge18
    rw [this]
    constructor
    · rintro ⟨x, hx, rfl, hf, ho⟩
      have hx' := mem_considered.1 hx
      exact ⟨⟨x, hx', rfl, ho⟩, fun h => by rw [(faulty_iff hx').2 h] at hf; cases hf⟩
    · rintro ⟨⟨x, hx, rfl, ho⟩, hn⟩
      refine ⟨x, mem_considered.2 hx, rfl, ?_, ho⟩
      cases hf : faulty (considered s r t l) x with
      | false => rfl
      | true => exact absurd ((faulty_iff hx).1 hf) hn
  · have := h1 w
    simp only [List.not_mem_nil, false_or] at this
    unfold judge18
    rw [this]
    constructor
    · rintro ⟨x, hx, rfl, hf⟩; exact (faulty_iff (mem_considered.1 hx)).1 hf
    · rintro ⟨x, y, hx, hy, rfl, hyw, hne⟩
      exact ⟨x, mem_considered.2 hx, rfl, (faulty_iff hx).2 ⟨x, y, hx, hy, rfl, hyw, hne⟩⟩

theorem mem_repsL {w : Word} {p : Rp} : p ∈ latestL (repsOf (l.filter (pick1 s r t)) w) ↔ ∃ x, SM s r t l x ∧ x.w = w ∧ x.p = p := by
  rw [mem_latest]
  simp only [repsOf, List.mem_map, List.mem_filter, beq_iff_eq]
  constructor
  · rintro ⟨⟨x, ⟨⟨h1, h2⟩, h3⟩, rfl⟩, h4⟩
    refine ⟨x, ⟨h1, h2, fun y hy hp hw => h4 _ ⟨y, ⟨⟨hy, hp⟩, hw.trans h3⟩, rfl⟩⟩, h3, rfl⟩
  · rintro ⟨x, ⟨h1, h2, h3⟩, rfl, rfl⟩
    refine ⟨⟨x, ⟨⟨h1, h2⟩, rfl⟩, rfl⟩, ?_⟩
    rintro q ⟨y, ⟨⟨hy, hp⟩, hw⟩, rfl⟩
    exact h3 y hy hp hw

def clsR (m : List Rb) (o : Dig) (w : Word) : Nat :=
  match latestL (repsOf m w) with
  | [] => 3
  | x :: rs => if (x :: rs).any (fun r => !(r.o == x.o)) then 2 else if x.o == o then 0 else 1
theorem foldR (m : List Rb) (o : Dig) (ks : List Word) (j : Jd) : ks.foldl (jstepR m o) j = ⟨j.a ++ ks.filter (fun w => clsR m o w == 0), j.d ++ ks.filter (fun w => clsR m o w == 1), j.f ++ ks.filter (fun w => clsR m o w == 2)⟩ := by
  induction ks generalizing j with
  | nil => simp
  | cons w ks ih =>
    rw [List.foldl_cons, ih]
    unfold jstepR
    cases hL : latestL (repsOf m w) with
    | nil =>
      have hc : clsR m o w = 3 := by unfold clsR; rw [hL]
      simp [List.filter_cons, hc]
    | cons x rs =>
      simp only
      by_cases h1 : (x :: rs).any (fun r => !(r.o == x.o)) = true
      · have hc : clsR m o w = 2 := by unfold clsR; rw [hL]; simp only; rw [if_pos h1]
        rw [if_pos h1]
        simp [List.filter_cons, hc]
      · rw [if_neg h1]
        by_cases h2 : (x.o == o) = true
        · have hc : clsR m o w = 0 := by unfold clsR; rw [hL]; simp only; rw [if_neg h1, if_pos h2]
          rw [if_pos h2]
          simp [List.filter_cons, hc]
        · have hc : clsR m o w = 1 := by unfold clsR; rw [hL]; simp only; rw [if_neg h1, if_neg h2]
          rw [if_neg h2]
          simp [List.filter_cons, hc]

theorem clsR_spec {w : Word} (hw : w ∈ keysOf (l.filter (pick1 s r t))) : (clsR (l.filter (pick1 s r t)) o w = 0 ↔ InA s r o t l w) ∧ (clsR (l.filter (pick1 s r t)) o w = 1 ↔ InD s r o t l w) ∧ (clsR (l.filter (pick1 s r t)) o w = 2 ↔ InF s r t l w) := by
  have hne := latest_ne (mem_keysOf.1 hw)
  have hm := fun p => mem_repsL (s := s) (r := r) (t := t) (l := l) (w := w) (p := p)
  unfold clsR
  cases hL : latestL (repsOf (l.filter (pick1 s r t)) w) with
  | nil => exact absurd hL hne
  | cons x rs =>
    rw [hL] at hm
    simp only
    obtain ⟨x0, hx0, hx0w, hx0p⟩ := (hm x).1 (by simp)
    by_cases h1 : (x :: rs).any (fun r => !(r.o == x.o)) = true
    · rw [if_pos h1]
      obtain ⟨q, hq, hqo⟩ := List.any_eq_true.1 h1
      simp only [Bool.not_eq_true', beq_eq_false_iff_ne] at hqo
      obtain ⟨y, hy, hyw, hyp⟩ := (hm q).1 hq
      have hF : InF s r t l w := ⟨y, x0, hy, hx0, hyw, hx0w, by rw [hyp, hx0p]; exact hqo⟩
      refine ⟨⟨fun h => (by cases h), fun h => ?_⟩, ⟨fun h => (by cases h), fun h => absurd hF h.2⟩, ⟨fun _ => hF, fun _ => rfl⟩⟩
      obtain ⟨_, h⟩ := h
      exact absurd (by rw [← hyp, ← hx0p, h y hy hyw, h x0 hx0 hx0w]) hqo
    · have hall : ∀ z, SM s r t l z → z.w = w → z.p.o = x.o := fun z hz hzw => by
        have hzm := (hm z.p).2 ⟨z, hz, hzw, rfl⟩
        apply Classical.byContradiction
        intro hne'
        exact h1 (List.any_eq_true.2 ⟨z.p, hzm, by rw [Bool.not_eq_true', beq_eq_false_iff_ne]; exact hne'⟩)
      have hnF : ¬ InF s r t l w := by
        rintro ⟨y, z, hy, hz, hyw, hzw, hne'⟩
        exact hne' ((hall y hy hyw).trans (hall z hz hzw).symm)
      rw [if_neg h1]
      by_cases h2 : x.o = o
      · rw [if_pos (beq_iff_eq.2 h2)]
        refine ⟨⟨fun _ => ⟨⟨x0, hx0, hx0w⟩, fun z hz hzw => (hall z hz hzw).trans h2⟩, fun _ => rfl⟩, ⟨fun h => (by cases h), fun h => ?_⟩, ⟨fun h => (by cases h), fun h => absurd h hnF⟩⟩
        obtain ⟨⟨y, hy, hyw, hyo⟩, _⟩ := h
        exact absurd ((hall y hy hyw).trans h2) hyo
      · rw [if_neg (fun h => h2 (beq_iff_eq.1 h))]
        refine ⟨⟨fun h => (by cases h), fun h => ?_⟩, ⟨fun _ => ⟨⟨x0, hx0, hx0w, by rw [hx0p]; exact h2⟩, hnF⟩, fun _ => rfl⟩, ⟨fun h => (by cases h), fun h => absurd h hnF⟩⟩
        have := h.2 x0 hx0 hx0w
        rw [hx0p] at this; exact absurd this h2

theorem keys_of_SM {x : Rb} (hx : SM s r t l x) : x.w ∈ keysOf (l.filter (pick1 s r t)) :=
  mem_keysOf.2 (repsOf_ne.2 ⟨x, List.mem_filter.2 ⟨hx.1, hx.2.1⟩, rfl⟩)

/-- What the program says. -/
theorem judgeR_spec : (∀ w, w ∈ (judgeR s r o t l).a ↔ InA s r o t l w) ∧ (∀ w, w ∈ (judgeR s r o t l).d ↔ InD s r o t l w) ∧ (∀ w, w ∈ (judgeR s r o t l).f ↔ InF s r t l w) ∧
    Asc (judgeR s r o t l).a ∧ Asc (judgeR s r o t l).d ∧ Asc (judgeR s r o t l).f := by
  unfold judgeR
  rw [foldR]
  simp only [List.nil_append]
  have hk := asc_keys (l.filter (pick1 s r t))
  refine ⟨fun w => ?_, fun w => ?_, fun w => ?_, hk.filter _, hk.filter _, hk.filter _⟩
  · rw [List.mem_filter, beq_iff_eq]
    constructor
    · rintro ⟨h1, h2⟩; exact (clsR_spec h1).1.1 h2
    · intro h
      have h' := h
      obtain ⟨⟨x, hx, rfl⟩, _⟩ := h
      exact ⟨keys_of_SM hx, (clsR_spec (keys_of_SM hx)).1.2 h'⟩
  · rw [List.mem_filter, beq_iff_eq]
    constructor
    · rintro ⟨h1, h2⟩; exact (clsR_spec h1).2.1.1 h2
    · intro h
      have h' := h
      obtain ⟨⟨x, hx, rfl, _⟩, _⟩ := h
      exact ⟨keys_of_SM hx, (clsR_spec (keys_of_SM hx)).2.1.2 h'⟩
  · rw [List.mem_filter, beq_iff_eq]
    constructor
    · rintro ⟨h1, h2⟩; exact (clsR_spec h1).2.2.1 h2
    · intro h
      have h' := h
      obtain ⟨x, y, hx, _, rfl, _⟩ := h
      exact ⟨keys_of_SM hx, (clsR_spec (keys_of_SM hx)).2.2.2 h'⟩

/-- THE SAME. -/
theorem judge_same : judgeR s r o t l = judge18 s r o t l := by
  obtain ⟨a1, a2, a3, a4, a5, a6⟩ := judgeR_spec (s := s) (r := r) (o := o) (t := t) (l := l)
  obtain ⟨b1, b2, b3, b4, b5, b6⟩ := judge18_spec (s := s) (r := r) (o := o) (t := t) (l := l)
  have e1 := asc_ext a4 b4 (fun w => (a1 w).trans (b1 w).symm)
  have e2 := asc_ext a5 b5 (fun w => (a2 w).trans (b2 w).symm)
  have e3 := asc_ext a6 b6 (fun w => (a3 w).trans (b3 w).symm)
  generalize judgeR s r o t l = j at *
  generalize judge18 s r o t l = k at *
  cases j; cases k
  simp only at e1 e2 e3
  rw [e1, e2, e3]
end
end Go.Pl
