/- HL, part U: steps that only change what is known. By an AI agent. -/
import Derived.Test.YtbmeabkgdpfpbaaHlS
set_option linter.unusedSimpArgs false
set_option linter.unusedVariables false
namespace Go.Hl
open Go

section
variable {P : Program} {n k : Nat} {Q : HPost} {fr : Fr} {ob : Ob} {nx : Nat}

def HO.close (ob : Ob) (cl : List Nat) : HO → HO
  | .box t v => .box t (v.close ob cl).norm
  | .row e sz l => .row e sz l
  | .mp e sz D => .mp e sz D
def clF (ob : Ob) (cl : List Nat) (fr : Fr) : Fr := fun t => ((fr t).close ob cl).norm
def clO (ob : Ob) (cl : List Nat) : Ob := fun id => if cl.contains id = true then none else (ob id).map (HO.close ob cl)
theorem clF_at (cl : List Nat) (t : Nat) : clF ob cl fr t = ((fr t).close ob cl).norm := rfl
theorem clO_at (cl : List Nat) (id : Nat) : clO ob cl id = if cl.contains id = true then none else (ob id).map (HO.close ob cl) := rfl

mutual
theorem HV.close_men {cl : List Nat} {M : Nat → Prop} : ∀ {v : HV}, v.men M → (v.close ob cl).men M
  | .junk, h => h
  | .c _, _ => by simp [HV.close, HV.men]
  | .agg l, h => by simp only [HV.close, HV.men] at h ⊢; exact HV.closeL_men h
  | .own id n, h => by
    simp only [HV.close]
    split
    · split
      · split
        · simp [HV.men]
        · exact h
      · exact h
    · exact h
  | .ptr .., h => h
  | .eptr .., h => h
  | .osl id n lo sz hi, h => by
    simp only [HV.close]
    split
    · split
      · split
        · simp [HV.men]
        · exact h
      · exact h
    · exact h
  | .mapr .., h => h
  | .mrow .., h => h
  | .clo .., h => h
  | .tup l, h => by simp only [HV.close, HV.men] at h ⊢; exact HV.closeL_men h
theorem HV.closeL_men {cl : List Nat} {M : Nat → Prop} : ∀ {l : List HV}, HV.menL M l → HV.menL M (HV.closeL ob cl l)
  | [], h => by simp [HV.closeL, HV.menL]
  | v :: l, h => by simp only [HV.closeL, HV.menL] at h ⊢; exact ⟨HV.norm_men (HV.close_men h.1), HV.closeL_men h.2⟩
end

theorem HV.close_junk {cl : List Nat} {v : HV} (h : (v.close ob cl).norm ≠ .junk) : v ≠ .junk := by
  intro e; subst e; exact h rfl

theorem hw_close {code : Code} (cl : List Nat) (h : Hw P n k code Q (clF ob cl fr) (clO ob cl) nx) : Hw P n k code Q fr ob nx := by
  intro c a w hn hk hA
  refine h c a w hn hk ?_
  obtain ⟨ρ, h⟩ := hA
  let ρ2 : Env := fun id => if cl.contains id = true then none else ρ id
  have hρ2 : ∀ id L, ρ2 id = some L → ρ id = some L := fun id L hL => by
    simp only [ρ2] at hL
    split at hL
    · cases hL
    · exact hL
  have hcl : ∀ id ∈ cl, ρ2 id = none := fun id hid => by
    have : cl.contains id = true := by simpa using hid
    simp only [ρ2, this, if_true]
  have hown : ∀ b, Own ρ2 b → Own ρ b := fun b ⟨id, L, h1, h2⟩ => ⟨id, L, hρ2 id L h1, h2⟩
  have hst : Stay w (Owned ρ c.X) w (Owned ρ2 c.X) := Stay.same (fun b _ hb => hb.imp id (hown b))
  refine ⟨ρ2, ⟨fun id o ho => ?_, fun id hid => ?_, fun id id' L L' b h1 h2 h3 h4 => h.s.apart id id' L L' b (hρ2 _ _ h1) (hρ2 _ _ h2) h3 h4, fun id L b h1 h2 => h.s.xb id L b (hρ2 _ _ h1) h2⟩, fun t ht => ?_, fun t => HV.norm_men (HV.close_men (h.mf t)), fun id o ho => ?_, h.m0, ?_, ?_, h.defers, h.size, h.xlt⟩
  · simp only [clO] at ho
    split at ho
    · cases ho
    · rename_i hc
      obtain ⟨o', ho', rfl⟩ := Option.map_eq_some_iff.1 ho
      have hid : ρ2 id = ρ id := by simp only [ρ2, hc]; rfl
      have hobj := h.s.objs id o' ho'
      cases o' with
      | box t v =>
        obtain ⟨b, cs, e1, e2, e3⟩ := hobj
        exact ⟨b, cs, by rw [hid]; exact e1, e2, HV.norm_rep (close_rep h.s hcl hρ2 hst e3)⟩
      | row e sz l =>
        obtain ⟨hd, xs, e1, e2, e3, e4⟩ := hobj
        exact ⟨hd, xs, by rw [hid]; exact e1, e2.stay hst, e3, e4⟩
      | mp e sz D =>
        obtain ⟨b, hf, e1, e2⟩ := hobj
        exact ⟨b, hf, by rw [hid]; exact e1, e2.stay hst rfl (fun _ _ _ _ _ => rfl)⟩
  · simp only [clO] at hid
    simp only [ρ2]
    split
    · rfl
    · rename_i hc
      rw [if_neg hc, Option.map_eq_none_iff] at hid
      exact h.s.none id hid
  · have := h.f t (HV.close_junk ht)
    exact ⟨HV.norm_rep (close_rep h.s hcl hρ2 hst this.1), by rw [clF, HV.norm_agg, HV.close_agg]; exact this.2⟩
  · simp only [clO] at ho
    split at ho
    · cases ho
    · obtain ⟨o', ho', rfl⟩ := Option.map_eq_some_iff.1 ho
      obtain ⟨m1, m2⟩ := h.mo id o' ho'
      refine ⟨m1, ?_⟩
      cases o' with
      | box t v => exact HV.norm_men (HV.close_men m2)
      | row e sz l => trivial
      | mp e sz D => trivial
  · exact h.base.trans ⟨fun _ _ _ => rfl, fun b hb => .inl (hown b hb), Nat.le_refl _, rfl, rfl, rfl⟩
  · exact Moves.trans (fun _ h => h) h.moves (fun id L _ hL => ⟨L, hρ2 id L hL, .inl rfl⟩)

theorem ownsRow_nil {w : World} {e sz : Nat} : w.ownsRow 0 e sz (.slice none 0 0) 0 [] := by
  refine ⟨by simp, .inl ⟨rfl, rfl⟩⟩

/-- The state with a row of no elements, which nothing owns. -/
theorem RepA'.emptyRow {c : Ctx} {M M' : Nat → Prop} {a : Act} {w : World} {ρ : Env} (h : RepA' c M fr ob a w ρ) {id e sz : Nat} (hn : ¬ M id) (hM : ∀ i, M i → M' i) (hM' : M' id) :
    RepA' c M' fr (upd ob id (some (.row e sz []))) a w (upd ρ id (some (.hdr (.slice none 0 0)))) := by
  obtain ⟨hob, hρ⟩ := h.nid_none hn
  have hown : ∀ b, Own (upd ρ id (some (.hdr (.slice none 0 0)))) b → Own ρ b := by
    rintro b ⟨i, L, h1, h2⟩
    by_cases e : i = id
    · subst e; rw [upd_same] at h1; cases h1; cases h2
    · rw [upd_ne _ _ e] at h1; exact ⟨i, L, h1, h2⟩
  have hst : Stay w (Owned ρ c.X) w (Owned (upd ρ id (some (.hdr (.slice none 0 0)))) c.X) := Stay.same (fun b _ hb => hb.imp (fun x => x) (hown b))
  have hmv : Moves M ρ (upd ρ id (some (.hdr (.slice none 0 0)))) := Moves.upd_new hn
  refine ⟨⟨fun i o ho => ?_, fun i hi => ?_, fun i i' L L' b h1 h2 h3 h4 => ?_, fun i L b h1 h2 => ?_⟩, fun t ht => ⟨RepH.stay hst hmv (h.mf t) (h.f t ht).1, (h.f t ht).2⟩, fun t => HV.men_mono hM (h.mf t), fun i o ho => ?_, fun i hi => hM i (h.m0 i hi), ?_, ?_, h.defers, h.size, h.xlt⟩
  · by_cases e' : i = id
    · subst e'
      rw [upd_same] at ho
      cases ho
      exact ⟨.slice none 0 0, [], upd_same _ _ _, by simp [RepL], by simp, ownsRow_nil⟩
    · rw [upd_ne _ _ e'] at ho
      exact RepO.stay hst hmv (h.mo i o ho).2 (upd_ne _ _ e') (fun _ _ _ _ => rfl) (h.s.objs i o ho)
  · by_cases e' : i = id
    · subst e'; rw [upd_same] at hi; cases hi
    · rw [upd_ne _ _ e'] at hi ⊢; exact h.s.none i hi
  · by_cases e1 : i = id
    · subst e1; rw [upd_same] at h1; cases h1; cases h3
    · by_cases e2 : i' = id
      · subst e2; rw [upd_same] at h2; cases h2; cases h4
      · rw [upd_ne _ _ e1] at h1; rw [upd_ne _ _ e2] at h2
        exact h.s.apart i i' L L' b h1 h2 h3 h4
  · by_cases e1 : i = id
    · subst e1; rw [upd_same] at h1; cases h1; cases h2
    · rw [upd_ne _ _ e1] at h1; exact h.s.xb i L b h1 h2
  · by_cases e' : i = id
    · subst e'; rw [upd_same] at ho; cases ho; exact ⟨hM', trivial⟩
    · rw [upd_ne _ _ e'] at ho
      exact ⟨hM _ (h.mo i o ho).1, HO.men_mono hM (h.mo i o ho).2⟩
  · exact h.base.trans ⟨fun _ _ _ => rfl, fun b hb => .inl (hown b hb), Nat.le_refl _, rfl, rfl, rfl⟩
  · exact Moves.trans h.m0 h.moves hmv

/-- A nil slice within a value, seen as a row of one's own. -/
theorem nil_to_own {w : World} {ρ : Env} {O : Nat → Prop} {v v' : HV} {off id : Nat} {cs : List Value} (hg : HV.getAt off 1 false v = some (.c .nils)) (hs : v.sto = true) (hv : HV.setAt off 1 (.own id 0) v = some v') (hρ : ρ id = some (.hdr (.slice none 0 0)))
    (h : RepH w ρ O v cs) : RepH w ρ O v' cs := by
  obtain ⟨c1, c2, c3, e0, e1, e2, e3, _⟩ := HV.getAt_spec hg hs h
  obtain ⟨d1, d2, d3, f0, f1, f2, f3, _⟩ := HV.setAt_spec (x := .own id 0) rfl hv hs h
  have : c1 = d1 ∧ c2 ++ c3 = d2 ++ d3 := by
    have := e0.symm.trans f0
    rw [List.append_assoc, List.append_assoc] at this
    exact List.append_inj this (by omega)
  obtain ⟨rfl, h23⟩ := this
  have h23 := List.append_inj h23 (by omega)
  obtain ⟨rfl, rfl⟩ := h23
  rw [e0]
  refine f3 c2 ?_
  simp only [RepH, RepC] at e3 ⊢
  refine ⟨_, e3, rfl, fun hd hh => ?_⟩
  rw [hρ] at hh
  cases hh
  exact ⟨Nat.le_refl _, fun _ => rfl⟩

/-- A slot's nil slice as a new row. -/
theorem hw_own {code : Code} (t off e sz : Nat) {v' : HV} (hg : HV.getAt off 1 false (fr t) = some (.c .nils)) (hs : (fr t).sto = true) (hv : HV.setAt off 1 (.own nx 0) (fr t) = some v') (ha : v'.isAgg = (fr t).isAgg)
    (h : Hw P n k code Q (upd fr t v') (upd ob nx (some (.row e sz []))) (nx + 1)) : Hw P n k code Q fr ob nx := by
  intro c a w hn hk hA
  refine h c a w hn hk ?_
  obtain ⟨ρ, hA⟩ := hA
  have hA' := hA.emptyRow (M' := (· < nx + 1)) (id := nx) (e := e) (sz := sz) (by omega) (fun i hi => by omega) (by omega)
  refine ⟨_, hA'.s, fun t' ht' => ?_, fun t' => ?_, hA'.mo, hA'.m0, hA'.base, hA'.moves, hA'.defers, hA'.size, hA'.xlt⟩
  · by_cases e' : t' = t
    · subst e'
      rw [upd_same]
      have hj : fr t' ≠ .junk := by intro e'; rw [e'] at hs; simp [HV.sto] at hs
      have hf := hA'.f t' hj
      have hr := nil_to_own hg hs hv (upd_same _ _ _) hf.1
      exact ⟨hr, by rw [ha]; exact hf.2⟩
    · rw [upd_ne _ _ e'] at ht' ⊢
      exact hA'.f t' ht'
  · by_cases e' : t' = t
    · subst e'
      rw [upd_same]
      have hj : fr t' ≠ .junk := by intro e'; rw [e'] at hs; simp [HV.sto] at hs
      obtain ⟨d1, d2, d3, f0, f1, f2, f3, f4, f5⟩ := HV.setAt_spec (x := .own nx 0) rfl hv hs (hA'.f t' hj).1
      exact f5 _ (by simp [HV.men]) (hA'.mf t')
    · rw [upd_ne _ _ e']; exact hA'.mf t'
/-- A box's nil slice as a new row. -/
theorem hw_ownb {code : Code} (id off e sz : Nat) {T : TypeId} {v v' : HV} (hb : ob id = some (.box T v)) (hg : HV.getAt off 1 false v = some (.c .nils)) (hs : v.sto = true) (hv : HV.setAt off 1 (.own nx 0) v = some v')
    (h : Hw P n k code Q fr (upd (upd ob nx (some (.row e sz []))) id (some (.box T v'))) (nx + 1)) : Hw P n k code Q fr ob nx := by
  intro c a w hn hk hA
  refine h c a w hn hk ?_
  obtain ⟨ρ, hA⟩ := hA
  have hid : id < nx := (hA.mo id _ hb).1
  have hA' := hA.emptyRow (M' := (· < nx + 1)) (id := nx) (e := e) (sz := sz) (by omega) (fun i hi => by omega) (by omega)
  have hb' : upd ob nx (some (.row e sz [])) id = some (.box T v) := by rw [upd_ne _ _ (by omega)]; exact hb
  obtain ⟨b, cs, e1, e2, e3⟩ := hA'.s.objs id _ hb'
  refine ⟨_, ⟨fun i o ho => ?_, fun i hi => ?_, hA'.s.apart, hA'.s.xb⟩, hA'.f, hA'.mf, fun i o ho => ?_, hA'.m0, hA'.base, hA'.moves, hA'.defers, hA'.size, hA'.xlt⟩
  · by_cases e' : i = id
    · subst e'
      rw [upd_same] at ho
      cases ho
      exact ⟨b, cs, e1, e2, nil_to_own hg hs hv (upd_same _ _ _) e3⟩
    · rw [upd_ne _ _ e'] at ho
      exact hA'.s.objs i o ho
  · by_cases e' : i = id
    · subst e'; rw [upd_same] at hi; cases hi
    · rw [upd_ne _ _ e'] at hi
      exact hA'.s.none i hi
  · by_cases e' : i = id
    · subst e'
      rw [upd_same] at ho
      cases ho
      obtain ⟨d1, d2, d3, f0, f1, f2, f3, f4, f5⟩ := HV.setAt_spec (x := .own nx 0) rfl hv hs e3
      exact ⟨(hA'.mo i _ hb').1, f5 _ (by simp [HV.men]) (hA'.mo i _ hb').2⟩
    · rw [upd_ne _ _ e'] at ho
      exact hA'.mo i o ho
end
end Go.Hl
