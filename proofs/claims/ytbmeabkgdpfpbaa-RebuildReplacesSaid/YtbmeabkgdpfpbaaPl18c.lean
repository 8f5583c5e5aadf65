/- Reports by owner, as a map; the program's judgement. By an AI agent. -/
import Derived.Test.YtbmeabkgdpfpbaaPl18b
import Derived.Test.YtbmeabkgdpfpbaaHlZ
set_option linter.unusedSimpArgs false
set_option linter.unusedVariables false
namespace Go.Pl
open Go Go.Hl

theorem Rb.getSub (x : Rb) : CV.getAt 1 96 true x.cv = some (.agg [dg x.p.s, dg x.p.r, dg x.p.o]) := by
  simp [Rb.cv, Rp.cv, CV.getAt, CV.getAtL, CV.cells, CV.cellsL, dg_cells]
theorem Rb.getTime (x : Rb) : CV.getAt 97 1 false x.cv = some (.int .i64 x.p.at_) := by
  simp [Rb.cv, Rp.cv, CV.getAt, CV.getAtL, CV.cells, CV.cellsL, dg_cells]

theorem rowOf_pend (l : List CV) : rowOf (some (.pend l)) = l := rfl
theorem rowOf_row (l : List CV) : rowOf (some (.row l)) = l := rfl
theorem isRowP_pend (l : List CV) : isRowP (some (.pend l)) = true := rfl
theorem isRowM_row (l : List CV) : isRowM (some (.row l)) = true := rfl

def addR (D : MD) (x : Rb) : MD := mput D x.w (.row (rowOf (mget D x.w) ++ [x.p.cv]))
def grp (m : List Rb) : MD := m.foldl addR []
def repsOf (m : List Rb) (w : Word) : List Rp := (m.filter fun x => x.w == w).map (·.p)
theorem grp_snoc (m : List Rb) (x : Rb) : grp (m ++ [x]) = addR (grp m) x := by simp [grp, List.foldl_append]

theorem keys_put (D : MD) (k : Word) (v : MV) : (mput D k v).map (·.1) = if k ∈ D.map (·.1) then D.map (·.1) else D.map (·.1) ++ [k] := by
  induction D with
  | nil => simp [mput]
  | cons p D ih =>
    obtain ⟨k', v'⟩ := p
    by_cases e : k' = k
    · simp [mput, e]
    · have e2 : ¬ k = k' := fun h => e h.symm
      simp only [mput, e, if_false, List.map_cons, ih, List.mem_cons, e2, false_or]
      split <;> rfl
theorem mem_put (D : MD) (k : Word) (v : MV) (p : Word × MV) (h : p ∈ mput D k v) : p ∈ D ∨ p = (k, v) := by
  induction D with
  | nil => simp [mput] at h; exact .inr h
  | cons q D ih =>
    obtain ⟨k', v'⟩ := q
    by_cases e : k' = k
    · simp only [mput, e, if_true, List.mem_cons] at h
      rcases h with h | h
      · exact .inr h
      · exact .inl (List.mem_cons_of_mem _ h)
    · simp only [mput, e, if_false, List.mem_cons] at h
      rcases h with h | h
      · exact .inl (by rw [h]; simp)
      · exact (ih h).imp (List.mem_cons_of_mem _) (fun x => x)
theorem mok_put {D : MD} (h : MOk D) (k : Word) {v : MV} (hv : v.there = true) : MOk (mput D k v) := by
  refine ⟨?_, fun p hp => ?_⟩
  · rw [keys_put]
    split
    · exact h.nd
    · rename_i hk
      rw [List.nodup_append]
      refine ⟨h.nd, by simp, fun a ha b hb => ?_⟩
      simp only [List.mem_singleton] at hb
      subst hb
      intro e; subst e; exact hk ha
  · rcases mem_put D k v p hp with hp | rfl
    · exact h.th p hp
    · exact hv

theorem grp_spec : ∀ (m : List Rb), MOk (grp m) ∧ (grp m).length ≤ m.length ∧ ∀ w, mget (grp m) w = if repsOf m w = [] then none else some (.row ((repsOf m w).map Rp.cv)) := by
  intro m
  induction m using List.reverseRecOn' with
  | nil => exact ⟨⟨by simp [grp], by simp [grp]⟩, by simp [grp], fun w => by simp [grp, mget, repsOf]⟩
  | snoc m x ih =>
    obtain ⟨h1, h2, h3⟩ := ih
    rw [grp_snoc]
    refine ⟨mok_put h1 _ rfl, ?_, fun w => ?_⟩
    · unfold addR
      rw [mput_length]
      split <;> simp <;> omega
    · have hr : rowOf (mget (grp m) x.w) = (repsOf m x.w).map Rp.cv := by
        rw [h3]; split
        · rename_i h; rw [h]; rfl
        · rfl
      have hs : repsOf (m ++ [x]) w = repsOf m w ++ if x.w == w then [x.p] else [] := by
        simp only [repsOf, List.filter_append, List.map_append, List.filter_cons, List.filter_nil]
        split <;> simp
      unfold addR
      by_cases e : w = x.w
      · subst e
        rw [mget_put_same, hr, hs]
        simp
      · have e2 : (x.w == w) = false := by simp; exact fun h => e h.symm
        rw [mget_put_other _ _ e, h3, hs, e2]
        simp
where
  List.reverseRecOn' {α : Type} {C : List α → Prop} (m : List α) (nil : C []) (snoc : ∀ m x, C m → C (m ++ [x])) : C m := by
    have : ∀ r : List α, C r.reverse := fun r => by
      induction r with
      | nil => exact nil
      | cons x r ih => rw [List.reverse_cons]; exact snoc _ _ ih
    have := this m.reverse
    rwa [List.reverse_reverse] at this
theorem grp_isRowM (m : List Rb) (w : Word) : isRowM (mget (grp m) w) = true := by
  rw [(grp_spec m).2.2]; split <;> rfl
theorem grp_isRowP (m : List Rb) (w : Word) : isRowP (mget (grp m) w) = true := by
  rw [(grp_spec m).2.2]; split <;> rfl
theorem grp_row (m : List Rb) (w : Word) : rowOf (mget (grp m) w) = (repsOf m w).map Rp.cv := by
  rw [(grp_spec m).2.2]; split
  · rename_i h; rw [h]; rfl
  · rfl
theorem repsOf_len (m : List Rb) (w : Word) : (repsOf m w).length ≤ m.length := by
  simp only [repsOf, List.length_map]; exact List.length_filter_le _ _
theorem grp_rowLen (m : List Rb) (w : Word) : (rowOf (mget (grp m) w)).length ≤ m.length := by
  rw [grp_row, List.length_map]; exact repsOf_len m w

/-- The owners in their order. -/
def keysOf (m : List Rb) : List Word := sortedKeys (grp m)
theorem keysOf_perm (m : List Rb) : (keysOf m).Perm ((grp m).map (·.1)) := List.mergeSort_perm _ _
theorem keysOf_nodup (m : List Rb) : (keysOf m).Nodup := (keysOf_perm m).nodup_iff.2 (grp_spec m).1.nd
theorem keysOf_len (m : List Rb) : (keysOf m).length ≤ m.length := by
  rw [(keysOf_perm m).length_eq, List.length_map]; exact (grp_spec m).2.1
theorem mem_keysOf {m : List Rb} {w : Word} : w ∈ keysOf m ↔ repsOf m w ≠ [] := by
  rw [(keysOf_perm m).mem_iff, ← mget_isSome, (grp_spec m).2.2]
  split
  · rename_i h; simp [h]
  · rename_i h; simp [h]
theorem repsOf_ne {m : List Rb} {w : Word} : repsOf m w ≠ [] ↔ ∃ x ∈ m, x.w = w := by
  simp only [repsOf, ne_eq, List.map_eq_nil_iff, List.filter_eq_nil_iff, beq_iff_eq]
  constructor
  · intro h
    apply Classical.byContradiction
    intro h2
    exact h (fun x hx e => h2 ⟨x, hx, e⟩)
  · rintro ⟨x, hx, e⟩ h; exact h x hx e

def lends (D : MD) (ks : List Word) : MD := ks.foldl (fun D k => mput D k .lent) D
theorem lends_get (D : MD) : ∀ (ks : List Word) {w : Word}, w ∉ ks → mget (lends D ks) w = mget D w
  | [], w, _ => rfl
  | k :: ks, w, h => by
    simp only [List.mem_cons, not_or] at h
    have := lends_get (mput D k .lent) ks h.2
    simp only [lends, List.foldl_cons] at this ⊢
    rw [this, mget_put_other _ _ h.1]
theorem lends_succ (D : MD) {ks : List Word} {i : Nat} (h : i < ks.length) : lends D (ks.take (i + 1)) = mput (lends D (ks.take i)) ks[i] .lent := foldl_take _ _ _ _ h
theorem keys_fresh (m : List Rb) {i : Nat} (h : i < (keysOf m).length) : (keysOf m)[i] ∉ (keysOf m).take i := by
  have hn := keysOf_nodup m
  intro hm
  obtain ⟨j, hj, e⟩ := List.mem_take_iff_getElem.1 hm
  have := (List.pairwise_iff_getElem.1 hn) j i (by omega) h (by omega)
  exact this e
theorem lends_row (m : List Rb) {i : Nat} (h : i < (keysOf m).length) : mget (lends (grp m) ((keysOf m).take i)) (keysOf m)[i] = some (.row ((repsOf m (keysOf m)[i]).map Rp.cv)) := by
  rw [lends_get _ _ (keys_fresh m h), (grp_spec m).2.2, if_neg (mem_keysOf.1 (List.getElem_mem h))]

/-! ## The latest reports -/
theorem maxAt_spec : ∀ (l : List Rp) (a : Int), a ≤ maxAt a l ∧ (∀ r ∈ l, r.at_ ≤ maxAt a l) ∧ (maxAt a l = a ∨ ∃ r ∈ l, r.at_ = maxAt a l)
  | [], a => by simp [maxAt]
  | x :: l, a => by
    have ih := maxAt_spec l (if x.at_ > a then x.at_ else a)
    simp only [maxAt, List.foldl_cons] at ih ⊢
    generalize hm : List.foldl (fun a r => if r.at_ > a then r.at_ else a) (if x.at_ > a then x.at_ else a) l = mx at ih ⊢
    obtain ⟨h1, h2, h3⟩ := ih
    refine ⟨by split at h1 <;> omega, fun r hr => ?_, ?_⟩
    · rcases List.mem_cons.1 hr with rfl | hr
      · split at h1 <;> omega
      · exact h2 r hr
    · rcases h3 with h3 | ⟨r, hr, e⟩
      · split at h3
        · exact .inr ⟨x, by simp, h3.symm⟩
        · exact .inl h3
      · exact .inr ⟨r, List.mem_cons_of_mem _ hr, e⟩
theorem mem_latest {l : List Rp} {r : Rp} : r ∈ latestL l ↔ r ∈ l ∧ ∀ q ∈ l, q.at_ ≤ r.at_ := by
  cases l with
  | nil => simp [latestL]
  | cons x l =>
    obtain ⟨h1, h2, h3⟩ := maxAt_spec (x :: l) x.at_
    simp only [latestL, List.mem_filter, beq_iff_eq]
    constructor
    · rintro ⟨hr, e⟩; exact ⟨hr, fun q hq => by rw [e]; exact h2 q hq⟩
    · rintro ⟨hr, hq⟩
      refine ⟨hr, ?_⟩
      have := h2 r hr
      rcases h3 with h3 | ⟨q, hq', e⟩
      · have := hq x (by simp); omega
      · have := hq q hq'; omega
theorem latest_ne {l : List Rp} (h : l ≠ []) : latestL l ≠ [] := by
  cases l with
  | nil => exact absurd rfl h
  | cons x l =>
    obtain ⟨h1, h2, h3⟩ := maxAt_spec (x :: l) x.at_
    intro e
    have hx : ∃ r ∈ x :: l, r.at_ = maxAt x.at_ (x :: l) := by
      rcases h3 with h3 | h3
      · exact ⟨x, by simp, h3.symm⟩
      · exact h3
    obtain ⟨r, hr, hra⟩ := hx
    have : r ∈ latestL (x :: l) := by simp only [latestL, List.mem_filter, beq_iff_eq]; exact ⟨hr, hra⟩
    rw [e] at this; simp at this
theorem latest_len (l : List Rp) : (latestL l).length ≤ l.length := by
  cases l with
  | nil => exact Nat.le_refl _
  | cons x l => exact List.length_filter_le _ _

/-- The program's judgement. -/
def jstepR (m : List Rb) (o : Dig) (j : Jd) (w : Word) : Jd :=
  match latestL (repsOf m w) with
  | [] => j
  | x :: rs => if (x :: rs).any (fun r => !(r.o == x.o)) then { j with f := j.f ++ [w] } else if x.o == o then { j with a := j.a ++ [w] } else { j with d := j.d ++ [w] }
def judgeR (s r o : Dig) (t : Int) (l : List Rb) : Jd := (keysOf (l.filter (pick1 s r t))).foldl (jstepR (l.filter (pick1 s r t)) o) ⟨[], [], []⟩
theorem jstepR_at {m : List Rb} {o : Dig} {j : Jd} {w : Word} (h : 0 < (latestL (repsOf m w)).length) :
    jstepR m o j w = if (latestL (repsOf m w)).any (fun r => !(r.o == (latestL (repsOf m w))[0].o)) then { j with f := j.f ++ [w] } else if (latestL (repsOf m w))[0].o == o then { j with a := j.a ++ [w] } else { j with d := j.d ++ [w] } := by
  unfold jstepR
  revert h
  generalize latestL (repsOf m w) = L
  intro h
  cases L with
  | nil => simp at h
  | cons x rs => rfl
theorem jfoldR_len (m : List Rb) (o : Dig) (ks : List Word) : let j := ks.foldl (jstepR m o) ⟨[], [], []⟩; j.a.length ≤ ks.length ∧ j.d.length ≤ ks.length ∧ j.f.length ≤ ks.length := by
  have key : ∀ (ks : List Word) (j : Jd) (n : Nat), j.a.length ≤ n ∧ j.d.length ≤ n ∧ j.f.length ≤ n → let k := ks.foldl (jstepR m o) j; k.a.length ≤ n + ks.length ∧ k.d.length ≤ n + ks.length ∧ k.f.length ≤ n + ks.length := by
    intro ks
    induction ks with
    | nil => intro j n h; simpa using h
    | cons x l ih =>
      intro j n h
      have h1 : (jstepR m o j x).a.length ≤ n + 1 ∧ (jstepR m o j x).d.length ≤ n + 1 ∧ (jstepR m o j x).f.length ≤ n + 1 := by
        unfold jstepR
        split
        · omega
        · split
          · simp only [List.length_append, List.length_singleton]; omega
          · split <;> simp only [List.length_append, List.length_singleton] <;> omega
      have := ih (jstepR m o j x) (n + 1) h1
      simp only [List.foldl_cons, List.length_cons] at this ⊢
      omega
  have := key ks ⟨[], [], []⟩ 0 (by simp)
  simpa using this
end Go.Pl
