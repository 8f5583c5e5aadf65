/- Reports: more on how they lie; the plain laws of the functions that choose among them. By an AI agent. -/
import Derived.Test.YtenbfeemmpjdhaaGreatHlS
set_option linter.unusedSimpArgs false
set_option linter.unusedVariables false
set_option linter.defProp false
namespace Go.Hl
open Go

section
variable {P : Program} {n k : Nat} {Q : HPost} {fr : Fr} {ob : Ob} {nx : Nat}

def HO.close (ob : Ob) (cl : List Nat) : HO → HO
  | .box t v => .box t (v.close ob cl).norm
  | .row e sz l => .row e sz l
  | .mp e sz D => .mp e sz D
  | .dead => .dead
def clF (ob : Ob) (cl : List Nat) (fr : Fr) : Fr := fun t => ((fr t).close ob cl).norm
def clO (ob : Ob) (cl : List Nat) : Ob := fun id => if cl.contains id = true then none else (ob id).map (HO.close ob cl)
theorem clF_at (cl : List Nat) (t : Nat) : clF ob cl fr t = ((fr t).close ob cl).norm := rfl
theorem clO_at (cl : List Nat) (id : Nat) : clO ob cl id = if cl.contains id = true then none else (ob id).map (HO.close ob cl) := rfl

mutual
theorem HV.close_men {cl : List Nat} {M : Nat → Prop} : ∀ {v : HV}, v.men M → (v.close ob cl).men M
  | .junk, h => h
  | .c _, _ => by simp [HV.close, HV.men]
  | .agg l, h => by simp only [HV.close, HV.men] at h ⊢; exact HV.closeL_men h
  | .own id n, h => by
    simp only [HV.close]
    split
    · split
      · split
        · simp [HV.men]
        · exact h
      · exact h
    · exact h
  | .ptr .., h => h
  | .eptr .., h => h
  | .osl id n lo sz hi, h => by
    simp only [HV.close]
    split
    · split
      · split
        · simp [HV.men]
        · exact h
      · exact h
    · exact h
  | .mapr .., h => h
  | .mrow .., h => h
  | .clo .., h => h
  | .tup l, h => by simp only [HV.close, HV.men] at h ⊢; exact HV.closeL_men h
theorem HV.closeL_men {cl : List Nat} {M : Nat → Prop} : ∀ {l : List HV}, HV.menL M l → HV.menL M (HV.closeL ob cl l)
  | [], h => by simp [HV.closeL, HV.menL]
  | v :: l, h => by simp only [HV.closeL, HV.menL] at h ⊢; exact ⟨HV.norm_men (HV.close_men h.1), HV.closeL_men h.2⟩
end

theorem HV.close_junk {cl : List Nat} {v : HV} (h : (v.close ob cl).norm ≠ .junk) : v ≠ .junk := by
  intro e; subst e; exact h rfl

theorem hw_close {code : Code} (cl : List Nat) (h : Hw P n k code Q (clF ob cl fr) (clO ob cl) nx) : Hw P n k code Q fr ob nx := by
  intro c a w hn hk hA
  refine h c a w hn hk ?_
  obtain ⟨ρ, h⟩ := hA
  let ρ2 : Env := fun id => if cl.contains id = true then none else ρ id
  have hρ2 : ∀ id L, ρ2 id = some L → ρ id = some L := fun id L hL => by
    simp only [ρ2] at hL
    split at hL
    · cases hL
    · exact hL
  have hcl : ∀ id ∈ cl, ρ2 id = none := fun id hid => by
    have : cl.contains id = true := by simpa using hid
    simp only [ρ2, this, if_true]
  have hown : ∀ b, Own ρ2 b → Own ρ b := fun b ⟨id, L, h1, h2⟩ => ⟨id, L, hρ2 id L h1, h2⟩
  have hst : Stay w (Owned ρ c.X) w (Owned ρ2 c.X) := Stay.same (fun b _ hb => hb.imp id (hown b))
  refine ⟨ρ2, ⟨fun id o ho => ?_, fun id hid => ?_, fun id id' L L' b h1 h2 h3 h4 => h.s.apart id id' L L' b (hρ2 _ _ h1) (hρ2 _ _ h2) h3 h4, fun id L b h1 h2 => h.s.xb id L b (hρ2 _ _ h1) h2⟩, fun t ht => ?_, fun t => HV.norm_men (HV.close_men (h.mf t)), fun id o ho => ?_, h.m0, ?_, ?_, h.defers, h.size, h.xlt⟩
  · simp only [clO] at ho
    split at ho
    · cases ho
    · rename_i hc
      obtain ⟨o', ho', rfl⟩ := Option.map_eq_some_iff.1 ho
      have hid : ρ2 id = ρ id := by simp only [ρ2, hc]; rfl
      have hobj := h.s.objs id o' ho'
      cases o' with
      | box t v =>
        obtain ⟨b, cs, e1, e2, e3⟩ := hobj
        exact ⟨b, cs, by rw [hid]; exact e1, e2, HV.norm_rep (close_rep h.s hcl hρ2 hst e3)⟩
      | row e sz l =>
        obtain ⟨hd, xs, e1, e2, e3, e4⟩ := hobj
        exact ⟨hd, xs, by rw [hid]; exact e1, e2.stay hst, e3, e4⟩
      | mp e sz D =>
        obtain ⟨b, hf, e1, e2⟩ := hobj
        exact ⟨b, hf, by rw [hid]; exact e1, e2.stay hst rfl (fun _ _ _ _ _ => rfl)⟩
      | dead => exact hid.trans hobj
  · simp only [clO] at hid
    simp only [ρ2]
    split
    · rfl
    · rename_i hc
      rw [if_neg hc, Option.map_eq_none_iff] at hid
      exact h.s.none id hid
  · have := h.f t (HV.close_junk ht)
    exact ⟨HV.norm_rep (close_rep h.s hcl hρ2 hst this.1), by rw [clF, HV.norm_agg, HV.close_agg]; exact this.2⟩
  · simp only [clO] at ho
    split at ho
    · cases ho
    · obtain ⟨o', ho', rfl⟩ := Option.map_eq_some_iff.1 ho
      obtain ⟨m1, m2⟩ := h.mo id o' ho'
      refine ⟨m1, ?_⟩
      cases o' with
      | box t v => exact HV.norm_men (HV.close_men m2)
      | row e sz l => trivial
      | mp e sz D => trivial
      | dead => trivial
  · exact h.base.trans ⟨fun _ _ _ => rfl, fun b hb => .inl (hown b hb), Nat.le_refl _, rfl, rfl, rfl⟩
  · exact Moves.trans (fun _ h => h) h.moves (fun id L _ hL => ⟨L, hρ2 id L hL, .inl rfl⟩)

theorem ownsRow_nil {w : World} {e sz : Nat} : w.ownsRow 0 e sz (.slice none 0 0) 0 [] := by
  refine ⟨by simp, .inl ⟨rfl, rfl⟩⟩

theorem RepA'.emptyRow {c : Ctx} {M M' : Nat → Prop} {a : Act} {w : World} {ρ : Env} (h : RepA' c M fr ob a w ρ) {id e sz : Nat} (hn : ¬ M id) (hM : ∀ i, M i → M' i) (hM' : M' id) :
    RepA' c M' fr (upd ob id (some (.row e sz []))) a w (upd ρ id (some (.hdr (.slice none 0 0)))) := by
  obtain ⟨hob, hρ⟩ := h.nid_none hn
  have hown : ∀ b, Own (upd ρ id (some (.hdr (.slice none 0 0)))) b → Own ρ b := by
    rintro b ⟨i, L, h1, h2⟩
    by_cases e : i = id
    · subst e; rw [upd_same] at h1; cases h1; cases h2
    · rw [upd_ne _ _ e] at h1; exact ⟨i, L, h1, h2⟩
  have hst : Stay w (Owned ρ c.X) w (Owned (upd ρ id (some (.hdr (.slice none 0 0)))) c.X) := Stay.same (fun b _ hb => hb.imp (fun x => x) (hown b))
  have hmv : Moves M ρ (upd ρ id (some (.hdr (.slice none 0 0)))) := Moves.upd_new hn
  refine ⟨⟨fun i o ho => ?_, fun i hi => ?_, fun i i' L L' b h1 h2 h3 h4 => ?_, fun i L b h1 h2 => ?_⟩, fun t ht => ⟨RepH.stay hst hmv (h.mf t) (h.f t ht).1, (h.f t ht).2⟩, fun t => HV.men_mono hM (h.mf t), fun i o ho => ?_, fun i hi => hM i (h.m0 i hi), ?_, ?_, h.defers, h.size, h.xlt⟩
  · by_cases e' : i = id
    · subst e'
      rw [upd_same] at ho
      cases ho
      exact ⟨.slice none 0 0, [], upd_same _ _ _, by simp [RepL], by simp, ownsRow_nil⟩
    · rw [upd_ne _ _ e'] at ho
      exact RepO.stay hst hmv (h.mo i o ho).2 (upd_ne _ _ e') (fun _ _ _ _ => rfl) (h.s.objs i o ho)
  · by_cases e' : i = id
    · subst e'; rw [upd_same] at hi; cases hi
    · rw [upd_ne _ _ e'] at hi ⊢; exact h.s.none i hi
  · by_cases e1 : i = id
    · subst e1; rw [upd_same] at h1; cases h1; cases h3
    · by_cases e2 : i' = id
      · subst e2; rw [upd_same] at h2; cases h2; cases h4
      · rw [upd_ne _ _ e1] at h1; rw [upd_ne _ _ e2] at h2
        exact h.s.apart i i' L L' b h1 h2 h3 h4
  · by_cases e1 : i = id
    · subst e1; rw [upd_same] at h1; cases h1; cases h2
    · rw [upd_ne _ _ e1] at h1; exact h.s.xb i L b h1 h2
  · by_cases e' : i = id
    · subst e'; rw [upd_same] at ho; cases ho; exact ⟨hM', trivial⟩
    · rw [upd_ne _ _ e'] at ho
      exact ⟨hM _ (h.mo i o ho).1, HO.men_mono hM (h.mo i o ho).2⟩
  · exact h.base.trans ⟨fun _ _ _ => rfl, fun b hb => .inl (hown b hb), Nat.le_refl _, rfl, rfl, rfl⟩
  · exact Moves.trans h.m0 h.moves hmv

theorem nil_to_own {w : World} {ρ : Env} {O : Nat → Prop} {v v' : HV} {off id : Nat} {cs : List Value} (hg : HV.getAt off 1 false v = some (.c .nils)) (hs : v.sto = true) (hv : HV.setAt off 1 (.own id 0) v = some v') (hρ : ρ id = some (.hdr (.slice none 0 0)))
    (h : RepH w ρ O v cs) : RepH w ρ O v' cs := by
  obtain ⟨c1, c2, c3, e0, e1, e2, e3, _⟩ := HV.getAt_spec hg hs h
  obtain ⟨d1, d2, d3, f0, f1, f2, f3, _⟩ := HV.setAt_spec (x := .own id 0) rfl hv hs h
  have : c1 = d1 ∧ c2 ++ c3 = d2 ++ d3 := by
    have := e0.symm.trans f0
    rw [List.append_assoc, List.append_assoc] at this
    exact List.append_inj this (by omega)
  obtain ⟨rfl, h23⟩ := this
  have h23 := List.append_inj h23 (by omega)
  obtain ⟨rfl, rfl⟩ := h23
  rw [e0]
  refine f3 c2 ?_
  simp only [RepH, RepC] at e3 ⊢
  refine ⟨_, e3, rfl, fun hd hh => ?_⟩
  rw [hρ] at hh
  cases hh
  exact ⟨Nat.le_refl _, fun _ => rfl⟩

theorem hw_own {code : Code} (t off e sz : Nat) {v' : HV} (hg : HV.getAt off 1 false (fr t) = some (.c .nils)) (hs : (fr t).sto = true) (hv : HV.setAt off 1 (.own nx 0) (fr t) = some v') (ha : v'.isAgg = (fr t).isAgg)
    (h : Hw P n k code Q (upd fr t v') (upd ob nx (some (.row e sz []))) (nx + 1)) : Hw P n k code Q fr ob nx := by
  intro c a w hn hk hA
  refine h c a w hn hk ?_
  obtain ⟨ρ, hA⟩ := hA
  have hA' := hA.emptyRow (M' := (· < nx + 1)) (id := nx) (e := e) (sz := sz) (by omega) (fun i hi => by omega) (by omega)
  refine ⟨_, hA'.s, fun t' ht' => ?_, fun t' => ?_, hA'.mo, hA'.m0, hA'.base, hA'.moves, hA'.defers, hA'.size, hA'.xlt⟩
  · by_cases e' : t' = t
    · subst e'
      rw [upd_same]
      have hj : fr t' ≠ .junk := by intro e'; rw [e'] at hs; simp [HV.sto] at hs
      have hf := hA'.f t' hj
      have hr := nil_to_own hg hs hv (upd_same _ _ _) hf.1
      exact ⟨hr, by rw [ha]; exact hf.2⟩
    · rw [upd_ne _ _ e'] at ht' ⊢
      exact hA'.f t' ht'
  · by_cases e' : t' = t
    · subst e'
      rw [upd_same]
      have hj : fr t' ≠ .junk := by intro e'; rw [e'] at hs; simp [HV.sto] at hs
      obtain ⟨d1, d2, d3, f0, f1, f2, f3, f4, f5⟩ := HV.setAt_spec (x := .own nx 0) rfl hv hs (hA'.f t' hj).1
      exact f5 _ (by simp [HV.men]) (hA'.mf t')
    · rw [upd_ne _ _ e']; exact hA'.mf t'
theorem hw_ownb {code : Code} (id off e sz : Nat) {T : TypeId} {v v' : HV} (hb : ob id = some (.box T v)) (hg : HV.getAt off 1 false v = some (.c .nils)) (hs : v.sto = true) (hv : HV.setAt off 1 (.own nx 0) v = some v')
    (h : Hw P n k code Q fr (upd (upd ob nx (some (.row e sz []))) id (some (.box T v'))) (nx + 1)) : Hw P n k code Q fr ob nx := by
  intro c a w hn hk hA
  refine h c a w hn hk ?_
  obtain ⟨ρ, hA⟩ := hA
  have hid : id < nx := (hA.mo id _ hb).1
  have hA' := hA.emptyRow (M' := (· < nx + 1)) (id := nx) (e := e) (sz := sz) (by omega) (fun i hi => by omega) (by omega)
  have hb' : upd ob nx (some (.row e sz [])) id = some (.box T v) := by rw [upd_ne _ _ (by omega)]; exact hb
  obtain ⟨b, cs, e1, e2, e3⟩ := hA'.s.objs id _ hb'
  refine ⟨_, ⟨fun i o ho => ?_, fun i hi => ?_, hA'.s.apart, hA'.s.xb⟩, hA'.f, hA'.mf, fun i o ho => ?_, hA'.m0, hA'.base, hA'.moves, hA'.defers, hA'.size, hA'.xlt⟩
  · by_cases e' : i = id
    · subst e'
      rw [upd_same] at ho
      cases ho
      exact ⟨b, cs, e1, e2, nil_to_own hg hs hv (upd_same _ _ _) e3⟩
    · rw [upd_ne _ _ e'] at ho
      exact hA'.s.objs i o ho
  · by_cases e' : i = id
    · subst e'; rw [upd_same] at hi; cases hi
    · rw [upd_ne _ _ e'] at hi
      exact hA'.s.none i hi
  · by_cases e' : i = id
    · subst e'
      rw [upd_same] at ho
      cases ho
      obtain ⟨d1, d2, d3, f0, f1, f2, f3, f4, f5⟩ := HV.setAt_spec (x := .own nx 0) rfl hv hs e3
      exact ⟨(hA'.mo i _ hb').1, f5 _ (by simp [HV.men]) (hA'.mo i _ hb').2⟩
    · rw [upd_ne _ _ e'] at ho
      exact hA'.mo i o ho

def gone (ob : Ob) (id : Nat) : Ob := fun i => if i = id then none else ob i
theorem gone_at (ob : Ob) (id i : Nat) : gone ob id i = if i = id then none else ob i := rfl
theorem hw_freeze {code : Code} (t id : Nat) {T : TypeId} {v : CV} (ht : fr t = .ptr id 0) (hb : ob id = some (.box T (.c v)))
    (h : Hw P n k code Q (upd fr t (.c (.rp v))) (gone ob id) nx) : Hw P n k code Q fr ob nx := by
  intro c a w hn hk hA
  refine h c a w hn hk ?_
  obtain ⟨ρ, h⟩ := hA
  let ρ2 : Env := fun i => if i = id then none else ρ i
  have hρ2 : ∀ i L, ρ2 i = some L → ρ i = some L := fun i L hL => by
    simp only [ρ2] at hL
    split at hL
    · cases hL
    · exact hL
  have hown : ∀ b, Own ρ2 b → Own ρ b := fun b ⟨i, L, h1, h2⟩ => ⟨i, L, hρ2 i L h1, h2⟩
  have hst : Stay w (Owned ρ c.X) w (Owned ρ2 c.X) := Stay.same (fun b _ hb => hb.imp (fun x => x) (hown b))
  have hmv : ∀ M : Nat → Prop, Moves M ρ ρ2 := fun M i L _ hL => ⟨L, hρ2 i L hL, .inl rfl⟩
  obtain ⟨b, cs, e1, e2, e3⟩ := h.s.objs id _ hb
  obtain ⟨b', e1', he⟩ := ptr_live (x := .tmp t) h ht (by rw [hb]; rfl)
  rw [e1] at e1'
  cases e1'
  have hnb : ¬ Owned ρ2 c.X b := by
    rintro (hx | ⟨i, L, h1, h2⟩)
    · exact h.s.xb id _ b e1 rfl hx
    · have := h.s.apart i id L _ b (hρ2 i L h1) e1 h2 rfl
      subst this
      simp only [ρ2, if_true] at h1
      cases h1
  refine ⟨ρ2, ⟨fun i o ho => ?_, fun i hi => ?_, fun i i' L L' b h1 h2 h3 h4 => h.s.apart i i' L L' b (hρ2 _ _ h1) (hρ2 _ _ h2) h3 h4, fun i L b h1 h2 => h.s.xb i L b (hρ2 _ _ h1) h2⟩, fun t' ht' => ?_, fun t' => ?_, fun i o ho => ?_, h.m0, ?_, ?_, h.defers, h.size, h.xlt⟩
  · simp only [gone] at ho
    split at ho
    · cases ho
    · rename_i hne
      exact RepO.stay hst (hmv _) (h.mo i o ho).2 (by simp only [ρ2, hne, if_false]) (fun _ _ _ _ => rfl) (h.s.objs i o ho)
  · simp only [gone] at hi
    simp only [ρ2]
    split
    · rfl
    · rename_i hne
      rw [if_neg hne] at hi
      exact h.s.none i hi
  · by_cases e : t' = t
    · subst e
      rw [upd_same]
      have he' : a.tmps.getD t' undef = .pointer (some ⟨b, 0, none⟩) := he
      rw [he']
      refine repV_single ?_ rfl rfl
      simp only [RepC]
      simp only [RepH] at e3
      refine ⟨⟨b, 0, none⟩, cs, rfl, e3.stay hst, fun j u hj => ?_, fun _ => hnb⟩
      have hlt : j < cs.length := (List.getElem?_eq_some_iff.1 hj).1
      rw [addr_add0, cell_of_row w b _ _ _ _ e2]
      simpa using hj
    · rw [upd_ne _ _ e] at ht' ⊢
      exact ⟨RepH.stay hst (hmv _) (h.mf t') (h.f t' ht').1, (h.f t' ht').2⟩
  · by_cases e : t' = t
    · subst e; rw [upd_same]; simp [HV.men]
    · rw [upd_ne _ _ e]; exact h.mf t'
  · simp only [gone] at ho
    split at ho
    · cases ho
    · exact h.mo i o ho
  · exact h.base.trans ⟨fun _ _ _ => rfl, fun b hb => .inl (hown b hb), Nat.le_refl _, rfl, rfl, rfl⟩
  · exact Moves.trans (fun _ h => h) h.moves (hmv _)
end
end Go.Hl

namespace Go.Hl
open Go

def quietAt (ops : Array Oper) (p : Nat) : Bool := match ops[p]? with | some o => isQuiet o.op | none => true
def effAt (ops : Array Oper) (p : Nat) : Bool := match ops[p]? with | some o => isEff o.op | none => false
def ids4 (nx p : Nat) : List Nat := [nx + 4 * p, nx + 4 * p + 1, nx + 4 * p + 2, nx + 4 * p + 3]
def getF (C : Pend) (p : Nat) : List Nat := C.flatMap fun q => if q.1 = p then q.2 else []

abbrev Plan := List (Nat × List Nat × List Nat)
def hwalk2G (P : Program) (ops : Array Oper) (nx : Nat) (Q : Fr → Ob → Prop) : Plan → Pend → Fr → Ob → Prop
  | [], _, fr, ob => Q fr ob
  | (i, cr, rd) :: rest, C, fr, ob => hopIG P ops nx (cr.flatMap (ids4 nx) ++ rd.flatMap (getF C)) i (hwalk2G P ops nx Q rest (match ops[i]? with
      | some o => if isEff o.op = true then C else (i, if hguard ops o fr = some true then touch o.op (ev fr) else []) :: C
      | none => C)) fr ob

def chk (ops : Array Oper) (wt : Nat → Nat → Bool) : Plan → List Nat → Bool
  | [], _ => true
  | (i, cr, rd) :: rest, T => T.all (fun p => wt i p || ((quietAt ops p || cr.contains p) && (!(effAt ops i) || rd.contains p))) && chk ops wt rest (if effAt ops i then T else i :: T)

theorem hopIG_av {P : Program} {ops : Array Oper} {nx : Nat} {av av' : List Nat} {i : Nat} {K : Fr → Ob → Prop} {fr : Fr} {ob : Ob} (hav : ∀ id, (ob id).isSome = true → id ∈ av → id ∈ av') (h : hopIG P ops nx av' i K fr ob) :
    hopIG P ops nx av i (fun fr' ob' => K fr' ob' ∧ (∀ id, ob id = none → (quietAt ops i = true ∨ ¬ (nx + 4 * i ≤ id ∧ id < nx + 4 * i + 4)) → ob' id = none)) fr ob := by
  unfold hopIG at h ⊢
  cases ho : ops[i]? with
  | none => rw [ho] at h; exact h.elim
  | some o =>
    rw [ho] at h
    simp only at h ⊢
    cases hg : hguard ops o fr with
    | none => rw [hg] at h; exact h.elim
    | some b =>
      rw [hg] at h
      cases b with
      | false => exact ⟨h, fun id h1 _ => h1⟩
      | true =>
        simp only at h ⊢
        unfold hstepG at h ⊢
        cases hc : hcallOf o.op with
        | none =>
          rw [hc] at h
          simp only at h ⊢
          obtain ⟨v, u, hK, hform, hid, hq⟩ := hop2_form2 h.2
          refine ⟨fun id hi => ⟨fun hin => (h.1 id hi).1 (hav id (h.1 id hi).2 hin), (h.1 id hi).2⟩, hform ob (fun _ _ => rfl) _ ⟨hK, fun id h1 h2 => ?_⟩⟩
          rw [app_other (fun p hp e => ?_)]
          · exact h1
          · rcases hid p hp with h3 | ⟨_, h3⟩
            · rcases h2 with h2 | h2
              · simp only [quietAt, ho] at h2
                rw [hq h2] at hp; cases hp
              · exact h2 ⟨by omega, by omega⟩
            · have := (h.1 _ h3).2
              rw [e, h1] at this; cases this
        | some p =>
          obtain ⟨f, xs⟩ := p
          rw [hc] at h
          simp only at h ⊢
          refine ⟨h.1, ?_⟩
          have h := h.2
          have hnq : quietAt ops i = false := by
            simp only [quietAt, ho]
            cases hop' : o.op <;> rw [hop'] at hc <;> simp only [hcallOf] at hc <;> try cases hc
            rename_i cl
            cases hcc : cl.callee <;> rw [hcc] at hc <;> simp only at hc <;> first | (cases hc; done) | simp [isQuiet, hcc]
          have hcall : ∀ g args, HCall P av' g args ob (nx + 4 * i) (fun v ob' => K (updo fr o.dst v) ob') → HCall P av g args ob (nx + 4 * i) (fun v ob' => K (updo fr o.dst v) ob' ∧ (∀ id, ob id = none → (quietAt ops i = true ∨ ¬ (nx + 4 * i ≤ id ∧ id < nx + 4 * i + 4)) → ob' id = none)) := by
            rintro g args ⟨σ, largs, lob, R, h1, h2, h3, h5, h6, h7⟩
            have hσ : ∀ j, j < σ.length → (ob (σ.getD j 0)).isSome = true := fun j hj => by
              obtain ⟨o', ho'⟩ := h2.all j hj
              rw [h6 j o' ho']; rfl
            refine ⟨σ, largs, lob, R, h1, h2, ⟨h3.1, fun s hs hin => ?_⟩, h5, h6, fun r lob' hR hr => ⟨h7 r lob' hR hr, fun id e1 e2 => ?_⟩⟩
            · obtain ⟨j, hj, rfl⟩ := List.getElem_of_mem hs
              have := hσ j hj
              rw [List.getD_eq_getElem?_getD, List.getElem?_eq_getElem hj, Option.getD_some] at this
              exact h3.2 _ hs (hav _ this hin)
            · unfold obAfter
              split
              · rename_i j hj
                exfalso
                rw [List.findIdx?_eq_some_iff_getElem] at hj
                obtain ⟨hj1, hj2, _⟩ := hj
                have := hσ j hj1
                rw [List.getD_eq_getElem?_getD, List.getElem?_eq_getElem hj1, Option.getD_some] at this
                simp only [beq_iff_eq] at hj2
                rw [hj2, e1] at this; cases this
              · rcases e2 with e2 | e2
                · rw [hnq] at e2; cases e2
                · rw [if_neg e2]; exact e1
          split at h
          · exact hcall _ _ h
          · exact hcall _ _ h
          · exact h.elim

theorem hwalkG_of2 {P : Program} {ops : Array Oper} {nx : Nat} {wt : Nat → Nat → Bool} {Q : Fr → Ob → Prop} : ∀ (plan : Plan) (C : Pend) (fr : Fr) (ob : Ob), chk ops wt plan (C.map (·.1)) = true →
    (∀ p, quietAt ops p = true → ∀ t, t < 4 → ob (nx + 4 * p + t) = none) → hwalk2G P ops nx Q plan C fr ob → hwalkG P ops nx wt Q (plan.map (·.1)) C fr ob
  | [], C, fr, ob, _, _, h => h
  | (i, cr, rd) :: rest, C, fr, ob, hc, hn, h => by
    simp only [hwalk2G, hwalkG, List.map_cons, chk, Bool.and_eq_true] at h hc ⊢
    have hav : ∀ id, (ob id).isSome = true → id ∈ avoid ops nx wt C i → id ∈ cr.flatMap (ids4 nx) ++ rd.flatMap (getF C) := by
      intro id hs hid
      simp only [avoid, List.mem_flatMap] at hid
      obtain ⟨p, hp, hid⟩ := hid
      have hT := List.all_eq_true.1 hc.1 p.1 (List.mem_map.2 ⟨p, hp, rfl⟩)
      split at hid
      · simp at hid
      · rename_i hw
        have hw' : wt i p.1 = false := by simpa using hw
        simp only [hw', Bool.false_or, Bool.and_eq_true, Bool.or_eq_true, Bool.not_eq_true'] at hT
        rcases List.mem_append.1 hid with hid | hid
        · rcases hT.1 with hq | hq
          · simp only [List.mem_cons, List.not_mem_nil, or_false] at hid
            have : ∃ t, t < 4 ∧ id = nx + 4 * p.1 + t := by
              rcases hid with e | e | e | e
              · exact ⟨0, by omega, e⟩
              · exact ⟨1, by omega, e⟩
              · exact ⟨2, by omega, e⟩
              · exact ⟨3, by omega, e⟩
            obtain ⟨t, ht, rfl⟩ := this
            rw [hn _ hq t ht] at hs; cases hs
          · refine List.mem_append_left _ (List.mem_flatMap.2 ⟨p.1, by simpa using hq, hid⟩)
        · split at hid
          · rename_i he
            have he' : effAt ops i = true := by
              simp only [effAt]
              cases ho : ops[i]? with
              | none => exact absurd h (by simp [hopIG, ho])
              | some o => rw [ho] at he; simpa using he
            rcases hT.2 with h' | h'
            · rw [he'] at h'; cases h'
            · refine List.mem_append_right _ (List.mem_flatMap.2 ⟨p.1, by simpa using h', ?_⟩)
              exact List.mem_flatMap.2 ⟨p, hp, by simpa using hid⟩
          · simp at hid
    refine hopIG_mono (fun _ h => h) (fun fr' ob' hK => ?_) (hopIG_av hav h)
    refine hwalkG_of2 rest _ fr' ob' ?_ (fun p hq t ht => ?_) hK.1
    · have := hc.2
      cases ho : ops[i]? with
      | none => simp only [effAt, ho] at this; exact absurd h (by simp [hopIG, ho])
      | some o =>
        simp only [effAt, ho] at this ⊢
        by_cases he : isEff o.op = true
        · simpa [he] using this
        · simpa [he] using this
    · refine hK.2 _ (hn p hq t ht) ?_
      by_cases e : i = p
      · subst e; exact .inl hq
      · exact .inr (by omega)

theorem hw_draw2G {P : Program} {n k : Nat} {Q : HPost} {fr : Fr} {ob : Ob} {nx id : Nat} {ops : Array Oper} (hm : P.follows .mixedOrders = true) (plan : Plan) (ms : List Nat) (hd : dstOk n ops = true) (hp : planOk ops (plan.map (·.1)) (Array.replicate ops.size false) = true) (hw1 : wtOkB ops ms = true)
    (hw2 : ms.all (fun m => decide (m < 2 ^ ms.length)) = true) (hl : plan.length = ops.size) (hc : chk ops (wtOf ms) plan [] = true)
    (h : hwalk2G P ops nx (fun fr' ob' => Q .normal fr' ob' (nx + 4 * ops.size)) plan [] fr ob) : Hw P n k (.region id ops true) Q fr ob nx := by
  intro c a w hn hk hA
  have hf : ∀ id, nx ≤ id → ob id = none := fun id hid => by
    obtain ⟨ρ, hA'⟩ := hA
    exact (hA'.nid_none (nid := id) (by omega)).1
  exact hw_draw hm (plan.map (·.1)) ms hd hp hw1 hw2 (by simpa using hl) (hwalkG_of2 plan [] fr ob hc (fun p _ t _ => hf _ (by omega)) h) c a w hn hk hA

def hwalk2 (P : Program) (ops : Array Oper) (nx : Nat) (Q : Fr → Ob → Prop) : Plan → Pend → Fr → Ob → Prop
  | [], _, fr, ob => Q fr ob
  | (i, cr, rd) :: rest, C, fr, ob => hopI P ops nx (cr.flatMap (ids4 nx) ++ rd.flatMap (getF C)) i (hwalk2 P ops nx Q rest (match ops[i]? with
      | some o => if isEff o.op = true then C else (i, if hguard ops o fr = some true then touch o.op (ev fr) else []) :: C
      | none => C)) fr ob
theorem hwalk2_G {P : Program} {ops : Array Oper} {nx : Nat} {Q : Fr → Ob → Prop} : ∀ {l : Plan} {C : Pend} {fr : Fr} {ob : Ob}, hwalk2 P ops nx Q l C fr ob → hwalk2G P ops nx Q l C fr ob
  | [], _, _, _, h => h
  | (_, _, _) :: _, _, _, _, h => hopI_G (fun _ _ => hwalk2_G) h
theorem hw_draw2 {P : Program} {n k : Nat} {Q : HPost} {fr : Fr} {ob : Ob} {nx id : Nat} {ops : Array Oper} (hm : P.follows .mixedOrders = true) (plan : Plan) (ms : List Nat) (hd : dstOk n ops = true) (hp : planOk ops (plan.map (·.1)) (Array.replicate ops.size false) = true) (hw1 : wtOkB ops ms = true)
    (hw2 : ms.all (fun m => decide (m < 2 ^ ms.length)) = true) (hl : plan.length = ops.size) (hc : chk ops (wtOf ms) plan [] = true)
    (h : hwalk2 P ops nx (fun fr' ob' => Q .normal fr' ob' (nx + 4 * ops.size)) plan [] fr ob) : Hw P n k (.region id ops true) Q fr ob nx :=
  hw_draw2G hm plan ms hd hp hw1 hw2 hl hc (hwalk2_G h)

theorem call_pure {P : Program} {av : List Nat} {f : FuncId} {ob : Ob} {nid : Nat} {K : HV → Ob → Prop} {args : List CV} {R : CV → Prop} (h : HPure P f args R) (hfree : ob nid = none ∧ ob (nid + 1) = none ∧ ob (nid + 2) = none ∧ ob (nid + 3) = none) (hK : ∀ v, R v → K (.c v) ob) :
    HCall P av f (args.map .c) ob nid K := by
  refine ⟨[], args.map .c, none0, _, h, locOk_nil args, ⟨List.nodup_nil, by simp⟩, (HV.renL_c _ _).symm, fun j o h => by simp [none0] at h, fun r lob' hR _ => ?_⟩
  obtain ⟨v, rfl, hv, rfl⟩ := hR
  rw [obAfter_nil (fun i h1 h2 => ?_)]
  · exact hK v hv
  · have : i = nid ∨ i = nid + 1 ∨ i = nid + 2 ∨ i = nid + 3 := by omega
    rcases this with rfl | rfl | rfl | rfl
    · exact hfree.1
    · exact hfree.2.1
    · exact hfree.2.2.1
    · exact hfree.2.2.2

def HPureH (P : Program) (f : FuncId) (args : List HV) (R : CV → Prop) : Prop :=
  HFn P f args 0 none0 (fun r ob' => ∃ v, r = .c v ∧ R v ∧ ob' = none0)
theorem locOk_h {args : List HV} (hm : HV.menL (· < 0) args) : LocOk 0 args none0 := ⟨fun j h => by omega, fun id o h => by simp [none0] at h, hm⟩
theorem call_pureh {P : Program} {av : List Nat} {f : FuncId} {ob : Ob} {nid : Nat} {K : HV → Ob → Prop} {args : List HV} {R : CV → Prop} (h : HPureH P f args R) (hm : HV.menL (· < 0) args) (hr : ∀ m, HV.renL m args = args)
    (hfree : ob nid = none ∧ ob (nid + 1) = none ∧ ob (nid + 2) = none ∧ ob (nid + 3) = none) (hK : ∀ v, R v → K (.c v) ob) : HCall P av f args ob nid K := by
  refine ⟨[], args, none0, _, h, locOk_h hm, ⟨List.nodup_nil, by simp⟩, (hr _).symm, fun j o h => by simp [none0] at h, fun r lob' hR _ => ?_⟩
  obtain ⟨v, rfl, hv, rfl⟩ := hR
  rw [obAfter_nil (fun i h1 h2 => ?_)]
  · exact hK v hv
  · have : i = nid ∨ i = nid + 1 ∨ i = nid + 2 ∨ i = nid + 3 := by omega
    rcases this with rfl | rfl | rfl | rfl
    · exact hfree.1
    · exact hfree.2.1
    · exact hfree.2.2.1
    · exact hfree.2.2.2

theorem denilL_map {α : Type} {f : α → CV} (h : ∀ x, (f x).denil = f x) : ∀ l : List α, CV.denilL (l.map f) = l.map f
  | [] => rfl
  | x :: l => by simp only [List.map_cons, CV.denilL, h, denilL_map h l]
theorem denilL_str (l : List (List UInt8)) : CV.denilL (l.map .str) = l.map .str := denilL_map (fun _ => rfl) l
theorem denilL_int (k : IntKind) (l : List Int) : CV.denilL (l.map (.int k)) = l.map (.int k) := denilL_map (fun _ => rfl) l
theorem cells_mem_str {l : List (List UInt8)} : (∀ v ∈ l.map CV.str, v.cells = 1) ↔ True := by simp [CV.cells]

def HBox (P : Program) (f : FuncId) (T : TypeId) (v : CV) (args : List CV) (R : CV → CV → Prop) : Prop :=
  HFn P f (.ptr 0 0 :: args.map .c) 1 (fob [(0, .box T (.c v))]) (fun r ob' => ∃ u v', r = .c u ∧ ob' = fob [(0, .box T (.c v'))] ∧ R u v')

theorem locOk_box (T : TypeId) (v : CV) (args : List CV) : LocOk 1 (.ptr 0 0 :: args.map .c) (fob [(0, .box T (.c v))]) := by
  refine ⟨fun j h => ?_, fun id o h => ?_, ?_⟩
  · have : j = 0 := by omega
    subst this
    exact ⟨_, rfl⟩
  · by_cases e : id = 0
    · subst e
      simp only [fob_at, if_true, Option.some.injEq] at h
      subst h
      exact ⟨by omega, by simp [HO.men, HV.men]⟩
    · simp [fob_at, fob_nil, e] at h
  · simp only [HV.menL, HV.men]
    exact ⟨by omega, HV.menL_c⟩

theorem hret_box {ob : Ob} {r w : HV} {T : TypeId} {R : CV → CV → Prop} (cl : List Nat) (u v' : CV) (h : (r.close ob cl).norm = .c u) (hb : ob 0 = some (.box T w)) (hw : (w.close ob cl).norm = .c v') (h0 : 0 ∉ cl) (hR : R u v') :
    HRet 1 r ob (fun r ob' => ∃ u v', r = .c u ∧ ob' = fob [(0, .box T (.c v'))] ∧ R u v') := by
  refine ⟨cl, id, .c u, fob [(0, .box T (.c v'))], ⟨u, v', rfl, rfl, hR⟩, by rw [h]; rfl, fun _ _ => rfl, fun _ _ _ _ h => h, by simp [HV.men], fun j o ho => ?_⟩
  by_cases e : j = 0
  · subst e
    simp only [fob_at, if_true, Option.some.injEq] at ho
    subst ho
    refine ⟨by omega, by simp [HO.men, HV.men], h0, .box T w, hb, ?_⟩
    simp only [hw]
    rfl
  · simp [fob_at, fob_nil, e] at ho

theorem call_box {P : Program} {av : List Nat} {f : FuncId} {ob : Ob} {nid id : Nat} {K : HV → Ob → Prop} {T : TypeId} {v : CV} {args : List CV} {R : CV → CV → Prop} (h : HBox P f T v args R) (hid : ob id = some (.box T (.c v))) (hav : id ∉ av)
    (hfree : ob nid = none ∧ ob (nid + 1) = none ∧ ob (nid + 2) = none ∧ ob (nid + 3) = none) (hK : ∀ u v', R u v' → K (.c u) (upd ob id (some (.box T (.c v'))))) :
    HCall P av f (.ptr id 0 :: args.map .c) ob nid K := by
  refine ⟨[id], .ptr 0 0 :: args.map .c, _, _, h, locOk_box T v args, ⟨by simp, by simpa using hav⟩, ?_, fun j o hj => ?_, fun r lob' hR _ => ?_⟩
  · simp only [HV.renL, HV.ren, HV.renL_c]
    rfl
  · by_cases e : j = 0
    · subst e
      simp only [fob_at, if_true, Option.some.injEq] at hj
      subst hj
      simpa [HO.ren, HV.ren] using hid
    · simp [fob_at, fob_nil, e] at hj
  · obtain ⟨u, v', rfl, rfl, hR⟩ := hR
    have e : obAfter ob [id] nid (fob [(0, .box T (.c v'))]) = upd ob id (some (.box T (.c v'))) := by
      funext i
      by_cases e : i = id
      · subst e
        simp only [obAfter, upd_same, List.findIdx?_cons, beq_self_eq_true, if_true, fob_at, Option.map_some]
        rfl
      · have e' : (id == i) = false := by simp; exact fun h => e h.symm
        simp only [obAfter, List.findIdx?_cons, e', List.findIdx?_nil, Option.map_none, upd_ne _ _ e]
        simp only [Bool.false_eq_true, if_false]
        split
        · rename_i hr
          have h1 : [id].length + (i - nid) ≠ 0 := by simp
          rw [fob_at, if_neg h1, fob_nil]
          have : i = nid ∨ i = nid + 1 ∨ i = nid + 2 ∨ i = nid + 3 := by omega
          rcases this with rfl | rfl | rfl | rfl
          · exact hfree.1.symm
          · exact hfree.2.1.symm
          · exact hfree.2.2.1.symm
          · exact hfree.2.2.2.symm
        · rfl
    rw [e]
    exact hK u v' hR

section
variable {P : Program} {ti : TyI} {t t2 f nid nx i : Nat} {a a' b b' x x' y y' : HV} {ob ob' : Ob} {K : HV → Prop} {KO : HV → Ob → Prop} {KC : CV → Prop}
@[congr] theorem hload_cg (h : a = a') : hload ti a ob K = hload ti a' ob K := by rw [h]
@[congr] theorem hstore_cg (h : a = a') (h2 : b = b') : hstore ti a b ob KO = hstore ti a' b' ob KO := by rw [h, h2]
@[congr] theorem hfieldAddr_cg (h : a = a') : hfieldAddr P t a f ob K = hfieldAddr P t a' f ob K := by rw [h]
@[congr] theorem hindexAddr_cg (h : a = a') (h2 : b = b') : hindexAddr P t a b ob K = hindexAddr P t a' b' ob K := by rw [h, h2]
@[congr] theorem hbuild_cg {ps : List (Nat × Operand)} {e : Operand → HV} {ps' : List (Nat × Operand)} (h : ps = ps') : hbuild ti ps e K = hbuild ti ps' e K := by rw [h]
@[congr] theorem hslice_cg {lo lo' hi hi' : Option HV} (h : a = a') (h1 : lo = lo') (h2 : hi = hi') : hslice P t a lo hi K = hslice P t a' lo' hi' K := by rw [h, h1, h2]
@[congr] theorem hindex_cg (h : a = a') (h2 : b = b') : hindex P t a b K = hindex P t a' b' K := by rw [h, h2]
@[congr] theorem hext_cg (h : a = a') : hext a i K = hext a' i K := by rw [h]
@[congr] theorem hconv_cg (h : a = a') : hconv P t t2 a K = hconv P t t2 a' K := by rw [h]
@[congr] theorem hun_cg {op : UnOp} (h : a = a') : hun op a K = hun op a' K := by rw [h]
@[congr] theorem hclo_cg {l l' : List HV} (h : l = l') : hclo f l K = hclo f l' K := by rw [h]
@[congr] theorem hmax_cg {mx : Bool} (h : a = a') (h2 : b = b') : hmax mx a b K = hmax mx a' b' K := by rw [h, h2]
@[congr] theorem hpick_cg (h : x = x') (h1 : a = a') (h2 : b = b') : hpick x a b K = hpick x' a' b' K := by rw [h, h1, h2]
@[congr] theorem happend_cg (h : a = a') (h2 : b = b') : happend P t a b nid ob KO = happend P t a' b' nid ob KO := by rw [h, h2]
@[congr] theorem happend2_cg (h : a = a') (h2 : b = b') : happend2 P t a b nid ob KO = happend2 P t a' b' nid ob KO := by rw [h, h2]
@[congr] theorem hslice2_cg {lo lo' hi hi' : Option HV} (h : a = a') (h1 : lo = lo') (h2 : hi = hi') (h3 : ob = ob') : hslice2 P t a lo hi ob K = hslice2 P t a' lo' hi' ob' K := by rw [h, h1, h2, h3]
@[congr] theorem hcopy_cg (h : a = a') (h2 : b = b') (h3 : ob = ob') : hcopy P t a b ob KO = hcopy P t a' b' ob' KO := by rw [h, h2, h3]
@[congr] theorem hclear_cg (h : a = a') : hclear P t a ob KO = hclear P t a' ob KO := by rw [h]
@[congr] theorem hlookup_cg (h : a = a') (h2 : b = b') : hlookup P t a b ob K = hlookup P t a' b' ob K := by rw [h, h2]
@[congr] theorem hmapUpdate_cg (h : a = a') (h2 : b = b') (h3 : x = x') : hmapUpdate P t a b x ob KO = hmapUpdate P t a' b' x' ob KO := by rw [h, h2, h3]
@[congr] theorem hbin_cg {op : BinOp} (h : a = a') (h2 : b = b') : hbin P op t a b KC = hbin P op t a' b' KC := by rw [h, h2]
@[congr] theorem hint_cg {op : BinOp} {k : IntKind} {m m' n n' : Int} (h : m = m') (h2 : n = n') : hint op k m n KC = hint op k m' n' KC := by rw [h, h2]
@[congr] theorem hshift_cg {op : BinOp} {k : IntKind} {m m' n n' : Int} (h : m = m') (h2 : n = n') : hshift op k m n KC = hshift op k m' n' KC := by rw [h, h2]
@[congr] theorem hstr_cg {op : BinOp} {m m' n n' : List UInt8} (h : m = m') (h2 : n = n') : hstr op m n KC = hstr op m' n' KC := by rw [h, h2]
@[congr] theorem hlexG_cg {ops : Array Oper} {G : Fr → Ob → Prop} {l l' : List Nat} {fr fr' : Fr} (h : l = l') (h1 : fr = fr') (h2 : ob = ob') : hlexG P ops nx G l fr ob = hlexG P ops nx G l' fr' ob' := by rw [h, h1, h2]
@[congr] theorem hwalk2G_cg {ops : Array Oper} {G : Fr → Ob → Prop} {l : Plan} {C C' : Pend} {fr fr' : Fr} (h : C = C') (h1 : fr = fr') (h2 : ob = ob') : hwalk2G P ops nx G l C fr ob = hwalk2G P ops nx G l C' fr' ob' := by rw [h, h1, h2]
@[congr] theorem HCall_cg {av av' : List Nat} {l l' : List HV} {n n' : Nat} (h1 : av = av') (h2 : l = l') (h3 : ob = ob') (h4 : n = n') : HCall P av f l ob n KO = HCall P av' f l' ob' n' KO := by rw [h1, h2, h3, h4]
theorem updo_at (fr : Fr) (d : Nat) (v : HV) (t : Nat) : updo fr (some d) v t = if t = d then v else fr t := rfl
theorem updo_none (fr : Fr) (v : HV) : updo fr none v = fr := rfl
theorem hbin_int {op : BinOp} {k k' : IntKind} {m n : Int} : hbin P op t (.c (.int k m)) (.c (.int k' n)) KC = if isShift op then hshift op k m n KC else k = k' ∧ hint op k m n KC := rfl
theorem hbin_str {op : BinOp} {m n : List UInt8} : hbin P op t (.c (.str m)) (.c (.str n)) KC = hstr op m n KC := rfl
theorem hbin_bool {op : BinOp} {m n : Bool} : hbin P op t (.c (.bool m)) (.c (.bool n)) KC = hlift (tyOf P t) fun ti => ti.d = .bool ∧ match op with
    | .eql => KC (.bool (m == n))
    | .neq => KC (.bool (!(m == n)))
    | _ => False := rfl
end
end Go.Hl

namespace Go.Pl
open Go Go.Hl

abbrev Word := List UInt8
def ascB : List Word → Bool
  | a :: b :: l => slt a b && ascB (b :: l)
  | _ => true
theorem ascB_iff : ∀ {l : List Word}, ascB l = true ↔ ∀ i (h : i + 1 < l.length), slt l[i] l[i + 1] = true
  | [] => by simp [ascB]
  | [a] => by simp [ascB]
  | a :: b :: l => by
    simp only [ascB, Bool.and_eq_true, ascB_iff (l := b :: l)]
    constructor
    · rintro ⟨h1, h2⟩ i hi
      cases i with
      | zero => simpa using h1
      | succ i => exact h2 i (by simpa using hi)
    · intro h
      exact ⟨by simpa using h 0 (by simp), fun i hi => h (i + 1) (by simpa using hi)⟩

def addW (l : List Word) (w : Word) : List Word :=
  if l.contains w then l else l.takeWhile (slt · w) ++ w :: l.dropWhile (slt · w)
theorem addW_eq {l : List Word} {w : Word} {i : Nat} (hc : l.contains w = false) (hi : i ≤ l.length) (h : ∀ j (h : j < i) (h' : j < l.length), slt l[j] w = true) (he : ∀ h : i < l.length, slt l[i] w = false) : addW l w = l.take i ++ w :: l.drop i := by
  have key : ∀ (l : List Word) (i : Nat), i ≤ l.length → (∀ j (h : j < i) (h' : j < l.length), slt l[j] w = true) → (∀ h : i < l.length, slt l[i] w = false) → l.takeWhile (slt · w) = l.take i ∧ l.dropWhile (slt · w) = l.drop i := by
    intro l
    induction l with
    | nil => intro i _ _ _; simp
    | cons a l ih =>
      intro i hi h he
      cases i with
      | zero =>
        have := he (by simp)
        simp at this
        simp [List.takeWhile_cons, List.dropWhile_cons, this]
      | succ i =>
        have h0 := h 0 (by omega) (by simp)
        simp at h0
        have := ih i (by simpa using hi) (fun j h1 h2 => h (j + 1) (by omega) (by simpa using h2)) (fun h1 => he (by simpa using h1))
        simp [List.takeWhile_cons, List.dropWhile_cons, h0, this]
  simp only [addW, hc, Bool.false_eq_true, if_false, (key l i hi h he).1, (key l i hi h he).2]
end Go.Pl

namespace Go.Pl
open Go Go.Hl

abbrev Dig := {l : List UInt8 // l.length = 32}
def dgl (d : Dig) : List CV := d.1.map fun b => .int .u8 b.toNat
def dg (d : Dig) : CV := .agg (dgl d)
def dg1 (b : UInt8) : Dig := ⟨b :: List.replicate 31 0, by simp⟩
def zdg : Dig := ⟨List.replicate 32 0, by simp⟩
def zd : CV := dg zdg
def dgi (k : IntKind) (n : Int) : CV := .agg (.int k n :: List.replicate 31 (.int .u8 0))
theorem dgi_1 : dgi .u8 1 = dg (dg1 1) := rfl
theorem dgi_2 : dgi .u8 2 = dg (dg1 2) := rfl
theorem dgi_3 : dgi .u8 3 = dg (dg1 3) := rfl
theorem cellsL_ints : ∀ {α : Type} (l : List α) (k : IntKind) (f : α → Int), CV.cellsL (l.map fun b => .int k (f b)) = l.length
  | _, [], _, _ => rfl
  | _, x :: l, k, f => by simp only [List.map_cons, CV.cellsL, CV.cells, cellsL_ints l, List.length_cons]; omega
theorem dg_cells (d : Dig) : (dg d).cells = 32 := by simp only [dg, dgl, CV.cells, cellsL_ints, d.2]
theorem dg_isAgg (d : Dig) : (dg d).isAgg = true := rfl
theorem denilL_ints : ∀ {α : Type} (l : List α) (k : IntKind) (f : α → Int), CV.denilL (l.map fun b => .int k (f b)) = l.map fun b => .int k (f b)
  | _, [], _, _ => rfl
  | _, x :: l, k, f => by simp only [List.map_cons, CV.denilL, CV.denil, denilL_ints l]
theorem dg_denil (d : Dig) : (dg d).denil = dg d := by simp only [dg, dgl, CV.denil, denilL_ints]
theorem dg_getAt (d : Dig) : CV.getAt 0 32 true (dg d) = some (dg d) := by
  have := dg_cells d
  simp only [dg, CV.cells] at this
  simp only [dg, CV.getAt, this, and_self, if_true]
theorem dg_setAt (d : Dig) (x : HV) : CV.setAt 0 32 x (dg d) = some x := by
  have := dg_cells d
  simp only [dg, CV.cells] at this
  simp only [dg, CV.setAt, this, and_self, if_true]
theorem zd_cells : zd.cells = 32 := dg_cells _
theorem zd_isAgg : zd.isAgg = true := rfl
theorem zd_denil : zd.denil = zd := dg_denil _
theorem zd_getAt : CV.getAt 0 32 true zd = some zd := dg_getAt _
theorem zd_setAt (x : HV) : CV.setAt 0 32 x zd = some x := dg_setAt _ x
theorem dgi_cells (k : IntKind) (n : Int) : (dgi k n).cells = 32 := rfl
theorem dgi_isAgg (k : IntKind) (n : Int) : (dgi k n).isAgg = true := rfl
theorem dgi_denil (k : IntKind) (n : Int) : (dgi k n).denil = dgi k n := rfl
theorem dgi_getAt (k : IntKind) (n : Int) : CV.getAt 0 32 true (dgi k n) = some (dgi k n) := rfl

def hbuildElse (ti : TyI) (v : HV) (K : HV → Prop) : Prop := hbuild ti [(0, .tmp 0)] (fun _ => v) K
def hbuildDig (ti : TyI) (v : HV) (K : HV → Prop) : Prop :=
  match v with
  | .c (.int k n) => K (.c (dgi k n))
  | v => hbuildElse ti v K
@[congr] theorem hbuildDig_cg {ti : TyI} {v v' : HV} {K : HV → Prop} (h : v = v') : hbuildDig ti v K = hbuildDig ti v' K := by rw [h]
theorem hbuild_dig {bytes : Nat} {t : TypeId} {e : Operand → HV} {x : Operand} {K : HV → Prop} : hbuild ⟨32, bytes, .array 32 t, zd⟩ [(0, x)] e K = hbuildDig ⟨32, bytes, .array 32 t, zd⟩ (e x) K := by
  have key : hbuild ⟨32, bytes, .array 32 t, zd⟩ [(0, x)] e K = hbuild ⟨32, bytes, .array 32 t, zd⟩ [(0, .tmp 0)] (fun _ => e x) K := rfl
  rw [key]
  unfold hbuildDig
  split
  · rename_i k n h
    rw [h]
    have : hfill (fun _ => HV.c (.int k n)) [(0, .tmp 0)] ((dgl zdg).map .c) = some (.c (.int k n) :: (List.replicate 31 (CV.int .u8 0)).map .c) := by
      simp only [hfill]
      rfl
    simp only [hbuild, zd, dg, this, hlift_some]
    rfl
  · rfl

theorem hbuild_agg {s bytes : Nat} {d : TyD} {zs : List CV} {ps : List (Nat × Operand)} {e : Operand → HV} {K : HV → Prop} : hbuild ⟨s, bytes, d, .agg zs⟩ ps e K = hlift (hfill e ps (zs.map .c)) fun hs => K (HV.norm (.agg hs)) := rfl

theorem eqvL_ints : ∀ (l m : List UInt8), CV.eqvL (l.map fun b => .int .u8 b.toNat) (m.map fun b => .int .u8 b.toNat) = (l == m)
  | [], [] => rfl
  | [], _ :: _ => rfl
  | _ :: _, [] => rfl
  | a :: l, b :: m => by
    simp only [List.map_cons, CV.eqvL, CV.eqv, eqvL_ints l m, List.cons_beq_cons]
    congr 1
    rw [Bool.eq_iff_iff]
    simp only [beq_iff_eq]
    constructor
    · intro h; exact UInt8.toNat_inj.1 (by omega)
    · rintro rfl; rfl
theorem dg_eqv (a b : Dig) : CV.eqv (dg a) (dg b) = (a == b) := by
  simp only [dg, dgl, CV.eqv, eqvL_ints]
  rw [Bool.eq_iff_iff]
  simp only [beq_iff_eq, Subtype.ext_iff]
theorem ofTyA_ints {P : Program} {n : Nat} {e : TypeId} {z : CV} {s b : Nat} (he : tyOf P e = some ⟨s, b, .int .u8, z⟩) (l : List UInt8) : CV.ofTyA P (n + 1) e (l.map fun b => .int .u8 b.toNat) = true := by
  induction l with
  | nil => simp only [List.map_nil, CV.ofTyA]
  | cons x l ih =>
    rw [List.map_cons, CV.ofTyA, ih, Bool.and_true]
    unfold CV.ofTy
    rw [he]
    rfl
theorem dg_ofTy {P : Program} {n : Nat} {t e : TypeId} {z z' : CV} {s b s' b' : Nat} (ht : tyOf P t = some ⟨s, b, .array 32 e, z⟩) (he : tyOf P e = some ⟨s', b', .int .u8, z'⟩) (hc : P.cellsOf e = 1) (d : Dig) : CV.ofTy P (n + 2) t (dg d) = true := by
  have h1 : (dgl d).length = 32 := by simp only [dgl, List.length_map, d.2]
  have h2 : (dgl d).all (fun v => v.cells == P.cellsOf e) = true := by
    rw [hc]
    simp only [dgl, List.all_map, List.all_eq_true, Function.comp, CV.cells, beq_self_eq_true, implies_true]
  simp only [dg, CV.ofTy, ht, h1, h2, beq_self_eq_true, Bool.true_and]
  exact ofTyA_ints he d.1
theorem hbin_dg {P : Program} {t e : TypeId} {z z' : CV} {s b s' b' : Nat} (ha : aggEq P t = true) (ht : tyOf P t = some ⟨s, b, .array 32 e, z⟩) (he : tyOf P e = some ⟨s', b', .int .u8, z'⟩) (hc : P.cellsOf e = 1) (x y : Dig) (K : CV → Prop) :
    hbin P .eql t (.c (dg x)) (.c (dg y)) K = K (.bool (x == y)) ∧ hbin P .neq t (.c (dg x)) (.c (dg y)) K = K (.bool (!(x == y))) := by
  have h1 := dg_ofTy (n := 6) ht he hc x
  have h2 := dg_ofTy (n := 6) ht he hc y
  have h3 := dg_eqv x y
  simp only [dg] at h1 h2 h3
  simp only [dg, hbin, ha, h1, h2, h3, and_self, true_and]

structure Rp where
  s : Dig
  r : Dig
  o : Dig
  at_ : Int
structure Rb where
  w : Word
  p : Rp
def Rp.cv (x : Rp) : CV := .agg [.agg [dg x.s, dg x.r, dg x.o], .int .i64 x.at_]
def Rb.cv (x : Rb) : CV := .agg [.str x.w, x.p.cv]
theorem Rb.denil (x : Rb) : x.cv.denil = x.cv := by simp only [Rb.cv, Rp.cv, CV.denil, CV.denilL, dg_denil]
theorem Rp.denil (x : Rp) : x.cv.denil = x.cv := by simp only [Rp.cv, CV.denil, CV.denilL, dg_denil]
theorem Rb.cells (x : Rb) : x.cv.cells = 98 := by simp [Rb.cv, Rp.cv, CV.cells, CV.cellsL, dg_cells]
theorem Rp.cells (x : Rp) : x.cv.cells = 97 := by simp [Rp.cv, CV.cells, CV.cellsL, dg_cells]
theorem Rb.getAll (x : Rb) : CV.getAt 0 98 true x.cv = some x.cv := by
  have := Rb.cells x
  simp only [Rb.cv, CV.cells] at this
  simp only [Rb.cv, CV.getAt, this, and_self, if_true]
theorem Rp.getAll (p : Rp) : CV.getAt 0 97 true p.cv = some p.cv := by
  have := Rp.cells p
  simp only [Rp.cv, CV.cells] at this
  simp only [Rp.cv, CV.getAt, this, and_self, if_true]
theorem Rb.isAgg (x : Rb) : x.cv.isAgg = true := rfl
theorem Rp.isAgg (x : Rp) : x.cv.isAgg = true := rfl

structure Jd where
  a : List Word
  d : List Word
  f : List Word
theorem split_len {α : Type} (p : α → Bool) : ∀ l : List α, (l.takeWhile p).length + (l.dropWhile p).length = l.length
  | [] => rfl
  | x :: l => by
    have := split_len p l
    by_cases h : p x = true
    · rw [List.takeWhile_cons_of_pos h, List.dropWhile_cons_of_pos h, List.length_cons, List.length_cons]; omega
    · rw [List.takeWhile_cons_of_neg h, List.dropWhile_cons_of_neg h]; simp
theorem addW_len (l : List Word) (w : Word) : (addW l w).length ≤ l.length + 1 := by
  have h1 := split_len (slt · w) l
  unfold addW
  split
  · omega
  · rw [List.length_append, List.length_cons]
    exact Nat.le_of_eq (by rw [← Nat.add_assoc]; exact congrArg (· + 1) h1)
def ns (l : List Word) : CV := if l = [] then .nils else .slc (l.map .str)
theorem ns_denil (l : List Word) : (ns l).denil = .slc (l.map .str) := by
  unfold ns
  split
  · rename_i h; rw [h]; rfl
  · simp only [CV.denil, denilL_str]
theorem ns_cells (l : List Word) : (ns l).cells = 1 := by unfold ns; split <;> rfl
theorem ns_isAgg (l : List Word) : (ns l).isAgg = false := by unfold ns; split <;> rfl
theorem ns_getAt (l : List Word) : CV.getAt 0 1 false (ns l) = some (ns l) := by unfold ns; split <;> rfl
theorem ns_setAt (l : List Word) (x : HV) : CV.setAt 0 1 x (ns l) = some x := by unfold ns; split <;> rfl
end Go.Pl

namespace Go.Pl
open Go Go.Hl

abbrev W32 := BitVec 32
def w32 (x : W32) : CV := .int .u32 (x.toNat : Int)
def ws (l : List W32) : CV := .agg (l.map w32)
def u8 (x : UInt8) : CV := .int .u8 (x.toNat : Int)
def us (l : List UInt8) : CV := .agg (l.map u8)

def itN {α : Type} (f : Nat → α → α) : Nat → α → α
  | 0, s => s
  | n + 1, s => f n (itN f n s)
theorem itN_succ {α : Type} (f : Nat → α → α) (n : Nat) (s : α) : itN f (n + 1) s = f n (itN f n s) := rfl

def gw (l : List W32) (i : Nat) : W32 := l.getD i 0
def gb (l : List UInt8) (i : Nat) : UInt8 := l.getD i 0
def rotr (x : W32) (n : Nat) : W32 := (x >>> n) ||| (x <<< (32 - n))
def bw (x : UInt8) : W32 := BitVec.ofNat 32 x.toNat
def be (b : List UInt8) (i : Nat) : W32 := ((bw (gb b (4 * i)) <<< 24 ||| bw (gb b (4 * i + 1)) <<< 16) ||| bw (gb b (4 * i + 2)) <<< 8) ||| bw (gb b (4 * i + 3))
def sg0 (x : W32) : W32 := (rotr x 7 ^^^ rotr x 18) ^^^ (x >>> 3)
def sg1 (x : W32) : W32 := (rotr x 17 ^^^ rotr x 19) ^^^ (x >>> 10)
def wA (b : List UInt8) (n : Nat) : List W32 := itN (fun i w => w.set i (be b i)) n (List.replicate 64 0)
def wB (w : List W32) (n : Nat) : List W32 := itN (fun i w => w.set (i + 16) (((gw w i + sg0 (gw w (i + 1))) + gw w (i + 9)) + sg1 (gw w (i + 14)))) n w
def wsched (b : List UInt8) : List W32 := wB (wA b 16) 48

def K256 : List W32 := [
  0x428a2f98, 0x71374491, 0xb5c0fbcf, 0xe9b5dba5, 0x3956c25b, 0x59f111f1, 0x923f82a4, 0xab1c5ed5,
  0xd807aa98, 0x12835b01, 0x243185be, 0x550c7dc3, 0x72be5d74, 0x80deb1fe, 0x9bdc06a7, 0xc19bf174,
  0xe49b69c1, 0xefbe4786, 0x0fc19dc6, 0x240ca1cc, 0x2de92c6f, 0x4a7484aa, 0x5cb0a9dc, 0x76f988da,
  0x983e5152, 0xa831c66d, 0xb00327c8, 0xbf597fc7, 0xc6e00bf3, 0xd5a79147, 0x06ca6351, 0x14292967,
  0x27b70a85, 0x2e1b2138, 0x4d2c6dfc, 0x53380d13, 0x650a7354, 0x766a0abb, 0x81c2c92e, 0x92722c85,
  0xa2bfe8a1, 0xa81a664b, 0xc24b8b70, 0xc76c51a3, 0xd192e819, 0xd6990624, 0xf40e3585, 0x106aa070,
  0x19a4c116, 0x1e376c08, 0x2748774c, 0x34b0bcb5, 0x391c0cb3, 0x4ed8aa4a, 0x5b9cca4f, 0x682e6ff3,
  0x748f82ee, 0x78a5636f, 0x84c87814, 0x8cc70208, 0x90befffa, 0xa4506ceb, 0xbef9a3f7, 0xc67178f2]

structure St where
  (a b c d e f g h : W32)
def St.l (s : St) : List W32 := [s.a, s.b, s.c, s.d, s.e, s.f, s.g, s.h]
def St0 : St := ⟨0x6a09e667, 0xbb67ae85, 0x3c6ef372, 0xa54ff53a, 0x510e527f, 0x9b05688c, 0x1f83d9ab, 0x5be0cd19⟩
def t1 (s : St) (k w : W32) : W32 := (((s.h + ((rotr s.e 6 ^^^ rotr s.e 11) ^^^ rotr s.e 25)) + ((s.e &&& s.f) ^^^ (~~~ s.e &&& s.g))) + k) + w
def t2 (s : St) : W32 := ((rotr s.a 2 ^^^ rotr s.a 13) ^^^ rotr s.a 22) + (((s.a &&& s.b) ^^^ (s.a &&& s.c)) ^^^ (s.b &&& s.c))
def rnd (w : List W32) (i : Nat) (s : St) : St := ⟨t1 s (gw K256 i) (gw w i) + t2 s, s.a, s.b, s.c, s.d + t1 s (gw K256 i) (gw w i), s.e, s.f, s.g⟩
def addSt (s r : St) : St := ⟨s.a + r.a, s.b + r.b, s.c + r.c, s.d + r.d, s.e + r.e, s.f + r.f, s.g + r.g, s.h + r.h⟩
def comp (s : St) (p : List UInt8) : St := addSt s (itN (rnd (wsched p)) 64 s)
def blk (p : List UInt8) (n : Nat) (s : St) : St := itN (fun i s => comp s ((p.drop (64 * i)).take 64)) n s
def zs (n : Nat) : Nat := (119 - n % 64) % 64
def len8 (n : Nat) : List UInt8 := (List.range 8).map fun i => UInt8.ofNat (8 * n / 2 ^ (8 * (7 - i)))
def pad (b : List UInt8) : List UInt8 := (b ++ [0x80]) ++ List.replicate (zs b.length) 0 ++ len8 b.length
def outB (s : St) : List UInt8 := (List.range 32).map fun i => UInt8.ofNat ((gw s.l (i / 4)) >>> (24 - 8 * (i % 4))).toNat
def sha (b : List UInt8) : Dig := ⟨outB (blk (pad b) ((pad b).length / 64) St0), by simp [outB]⟩

def keyIn (h : UInt8) (r : List UInt8) : List UInt8 := [7, h] ++ r

theorem wrap32 {n : Nat} (h : n < 4294967296) : IntKind.u32.wrap (n : Int) = (n : Int) := IntWalk.u32_in _ (by omega)
theorem ofInt32 (x : W32) : BitVec.ofInt IntKind.u32.bits (x.toNat : Int) = x := by
  show BitVec.ofInt 32 (x.toNat : Int) = x
  simp
theorem wlt (x : W32) : x.toNat < 4294967296 := x.isLt
theorem w_in (x : W32) : IntKind.u32.wrap (x.toNat : Int) = (x.toNat : Int) := wrap32 (wlt x)
theorem w_add (x y : W32) : IntKind.u32.wrap ((x.toNat : Int) + (y.toNat : Int)) = ((x + y).toNat : Int) := by
  rw [IntKind.wrap_u32, BitVec.toNat_add]
  omega
theorem w_and (x y : W32) : IntKind.u32.wrap ((BitVec.ofInt IntKind.u32.bits (x.toNat : Int) &&& BitVec.ofInt IntKind.u32.bits (y.toNat : Int)).toNat : Int) = ((x &&& y).toNat : Int) := by
  rw [ofInt32, ofInt32]; exact w_in _
theorem w_or (x y : W32) : IntKind.u32.wrap ((BitVec.ofInt IntKind.u32.bits (x.toNat : Int) ||| BitVec.ofInt IntKind.u32.bits (y.toNat : Int)).toNat : Int) = ((x ||| y).toNat : Int) := by
  rw [ofInt32, ofInt32]; exact w_in _
theorem w_xor (x y : W32) : IntKind.u32.wrap ((BitVec.ofInt IntKind.u32.bits (x.toNat : Int) ^^^ BitVec.ofInt IntKind.u32.bits (y.toNat : Int)).toNat : Int) = ((x ^^^ y).toNat : Int) := by
  rw [ofInt32, ofInt32]; exact w_in _
theorem w_not (x : W32) : IntKind.u32.wrap ((BitVec.ofInt IntKind.u32.bits (if IntKind.u32.signed then -1 else IntKind.u32.max) ^^^ BitVec.ofInt IntKind.u32.bits (x.toNat : Int)).toNat : Int) = ((~~~ x).toNat : Int) := by
  have h : BitVec.ofInt 32 4294967295 ^^^ BitVec.ofInt 32 (x.toNat : Int) = ~~~ x := by
    have h1 : BitVec.ofInt 32 (x.toNat : Int) = x := ofInt32 x
    have h2 : (BitVec.ofInt 32 4294967295 : BitVec 32) = BitVec.allOnes 32 := by decide
    rw [h1, h2]; exact BitVec.allOnes_xor
  show IntKind.u32.wrap ((BitVec.ofInt 32 4294967295 ^^^ BitVec.ofInt 32 (x.toNat : Int)).toNat : Int) = _
  rw [h]
  exact w_in _
theorem w_shr (x : W32) (n : Nat) (h : n ≤ 32) : Int.fdiv (x.toNat : Int) (2 ^ (min n IntKind.u32.bits)) = ((x >>> n).toNat : Int) := by
  have : min n IntKind.u32.bits = n := Nat.min_eq_left h
  rw [this, BitVec.toNat_ushiftRight, Nat.shiftRight_eq_div_pow, Int.fdiv_eq_ediv_of_nonneg _ (Int.pow_nonneg (by omega))]
  norm_cast
theorem w_shl (x : W32) (n : Nat) (h : n ≤ 32) : IntKind.u32.wrap ((x.toNat : Int) * 2 ^ (min n IntKind.u32.bits)) = ((x <<< n).toNat : Int) := by
  have : min n IntKind.u32.bits = n := Nat.min_eq_left h
  rw [this, BitVec.toNat_shiftLeft, Nat.shiftLeft_eq, IntKind.wrap_u32, show (2 : Nat) ^ 32 = 4294967296 from rfl]
  have hp : (x.toNat : Int) * 2 ^ n = ((x.toNat * 2 ^ n : Nat) : Int) := by rw [Int.natCast_mul, Int.natCast_pow]; rfl
  rw [hp]
  generalize x.toNat * 2 ^ n = p
  omega
theorem w_byte (b : UInt8) : IntKind.u32.wrap (b.toNat : Int) = ((bw b).toNat : Int) := by
  have h := b.toNat_lt
  rw [wrap32 (by omega)]
  simp only [bw, BitVec.toNat_ofNat]
  rw [Nat.mod_eq_of_lt (by omega)]
theorem byte_w (x : W32) : IntKind.u8.wrap (x.toNat : Int) = ((UInt8.ofNat x.toNat).toNat : Int) := by
  rw [IntKind.wrap_u8, UInt8.toNat_ofNat']
  omega

section
variable {α : Type} {f : α → CV}
theorem cellsL_one (hc : ∀ x, (f x).cells = 1) : ∀ l : List α, CV.cellsL (l.map f) = l.length
  | [] => rfl
  | x :: l => by simp only [List.map_cons, CV.cellsL, hc, cellsL_one hc l, List.length_cons]; omega
theorem getAtL_one (hc : ∀ x, (f x).cells = 1) (hg : ∀ x, CV.getAt 0 1 false (f x) = some (f x)) : ∀ (l : List α) (i : Nat) (h : i < l.length), CV.getAtL i 1 false (l.map f) = some (f l[i])
  | [], i, h => by simp at h
  | x :: l, 0, h => by simp only [List.map_cons, CV.getAtL, hc, if_pos (show 0 < 1 by omega), hg, List.getElem_cons_zero]
  | x :: l, i + 1, h => by
    simp only [List.map_cons, CV.getAtL, hc, if_neg (show ¬ i + 1 < 1 by omega), Nat.add_sub_cancel, List.getElem_cons_succ]
    exact getAtL_one hc hg l i (by simpa using h)
theorem getAt_one (hc : ∀ x, (f x).cells = 1) (hg : ∀ x, CV.getAt 0 1 false (f x) = some (f x)) {l : List α} {i : Nat} (h : i < l.length) : CV.getAt i 1 false (.agg (l.map f)) = some (f l[i]) := by
  simp only [CV.getAt, Bool.false_eq_true, and_false, if_false]
  exact getAtL_one hc hg l i h
theorem setAtL_one (hc : ∀ x, (f x).cells = 1) (hs : ∀ x y, CV.setAt 0 1 y (f x) = some y) (y : α) : ∀ (l : List α) (i : Nat), i < l.length → CV.setAtL i 1 (.c (f y)) (l.map f) = some (((l.set i y).map f).map .c)
  | [], i, h => by simp at h
  | x :: l, 0, h => by simp only [List.map_cons, CV.setAtL, hc, if_pos (show 0 < 1 by omega), hs, Option.map_some, List.set_cons_zero]
  | x :: l, i + 1, h => by
    simp only [List.map_cons, CV.setAtL, hc, if_neg (show ¬ i + 1 < 1 by omega), Nat.add_sub_cancel, List.set_cons_succ]
    rw [setAtL_one hc hs y l i (by simpa using h)]
    rfl
theorem setAt_one (hc : ∀ x, (f x).cells = 1) (hs : ∀ x y, CV.setAt 0 1 y (f x) = some y) {y : α} {l : List α} {i : Nat} (h : i < l.length) (h2 : l.length ≠ 1) : CV.setAt i 1 (.c (f y)) (.agg (l.map f)) = some (.agg (((l.set i y).map f).map .c)) := by
  simp only [CV.setAt, cellsL_one hc, h2, and_false, if_false]
  rw [setAtL_one hc hs y l i h]
  rfl
end
theorem toCL_c : ∀ l : List CV, HV.toCL (l.map .c) = some l
  | [] => rfl
  | x :: l => by simp only [List.map_cons, HV.toCL, HV.toC, toCL_c l]
theorem norm_cs (l : List CV) : HV.norm (.agg (l.map .c)) = .c (.agg l) := by simp only [HV.norm, HV.toC, toCL_c, Option.map_some]
theorem ws_cells (l : List W32) : (ws l).cells = l.length := cellsL_one (fun _ => rfl) l
theorem us_cells (l : List UInt8) : (us l).cells = l.length := cellsL_one (fun _ => rfl) l
theorem ws_get {l : List W32} {i : Nat} (h : i < l.length) : CV.getAt i 1 false (ws l) = some (w32 l[i]) := getAt_one (fun _ => rfl) (fun _ => rfl) h
theorem us_get {l : List UInt8} {i : Nat} (h : i < l.length) : CV.getAt i 1 false (us l) = some (u8 l[i]) := getAt_one (fun _ => rfl) (fun _ => rfl) h
theorem ws_set {l : List W32} {i : Nat} (y : W32) (h : i < l.length) (h2 : l.length ≠ 1) : CV.setAt i 1 (.c (w32 y)) (ws l) = some (.agg (((l.set i y).map w32).map .c)) := setAt_one (fun _ => rfl) (fun _ _ => rfl) h h2
theorem us_set {l : List UInt8} {i : Nat} (y : UInt8) (h : i < l.length) (h2 : l.length ≠ 1) : CV.setAt i 1 (.c (u8 y)) (us l) = some (.agg (((l.set i y).map u8).map .c)) := setAt_one (fun _ => rfl) (fun _ _ => rfl) h h2
theorem gw_at {l : List W32} {i : Nat} (h : i < l.length) : gw l i = l[i] := by simp [gw, h]
theorem gb_at {l : List UInt8} {i : Nat} (h : i < l.length) : gb l i = l[i] := by simp [gb, h]
theorem itN_len {α : Type} {f : Nat → List α → List α} (hf : ∀ i l, (f i l).length = l.length) : ∀ (n : Nat) (l : List α), (itN f n l).length = l.length
  | 0, _ => rfl
  | n + 1, l => by rw [itN_succ, hf, itN_len hf n l]
theorem wA_len (b : List UInt8) (n : Nat) : (wA b n).length = 64 := by unfold wA; rw [itN_len (fun i l => by simp)]; simp
theorem wB_len (w : List W32) (n : Nat) : (wB w n).length = w.length := itN_len (fun i l => by simp) n w
theorem wsched_len (b : List UInt8) : (wsched b).length = 64 := by rw [wsched, wB_len, wA_len]
theorem K256_len : K256.length = 64 := rfl
def wz (n : Nat) : List W32 := List.replicate n 0
def uz (n : Nat) : List UInt8 := List.replicate n 0
theorem wz_len (n : Nat) : (wz n).length = n := by simp [wz]
theorem uz_len (n : Nat) : (uz n).length = n := by simp [uz]
end Go.Pl

namespace Go.Hl
open Go

def gd (ops : Array Oper) (o : Oper) : Option (Option (Nat × Bool)) :=
  match o.guard with
  | none => some none
  | some (j, want) => match (ops[j]?).bind (·.dst) with
    | some d => some (some (d, want))
    | none => none
def hgd (g : Option (Nat × Bool)) (fr : Fr) : Option Bool :=
  match g with
  | none => some true
  | some (d, want) => match fr d with
    | .c (.bool b) => some (b == want)
    | .tup _ => some false
    | _ => none
def hop1 (P : Program) (nid : Nat) (av : List Nat) (g : Option (Nat × Bool)) (o : Op) (d : Option Nat) (K : Fr → Ob → Prop) (fr : Fr) (ob : Ob) : Prop :=
  match hgd g fr with
  | some true => hstep P av nid o (ev fr) ob fun v ob' => K (updo fr d v) ob'
  | some false => K (updo fr d (.tup [])) ob
  | none => False
section
variable {P : Program} {ops : Array Oper} {nx i : Nat} {o : Oper} {g : Option (Nat × Bool)} {Q : Fr → Ob → Prop} {fr : Fr} {ob : Ob}

theorem hguard_gd (hg : gd ops o = some g) : hguard ops o fr = hgd g fr := by
  unfold gd at hg
  unfold hguard hgd
  cases h : o.guard with
  | none => rw [h] at hg; cases hg; rfl
  | some p =>
    obtain ⟨j, want⟩ := p
    rw [h] at hg
    simp only at hg ⊢
    cases hd : (ops[j]?).bind (·.dst) with
    | none => rw [hd] at hg; cases hg
    | some d => rw [hd] at hg; cases hg; rfl

theorem hopI_hop1 {av : List Nat} {K : Fr → Ob → Prop} (ho : ops[i]? = some o) (hg : gd ops o = some g) (h : hop1 P (nx + 4 * i) av g o.op o.dst K fr ob) : hopI P ops nx av i K fr ob := by
  unfold hop1 at h
  unfold hopI
  rw [ho]
  simp only [hguard_gd hg]
  exact h

theorem hlex_step {l : List Nat} (ho : ops[i]? = some o) (hg : gd ops o = some g) (h : ∀ K : Fr → Ob → Prop, (∀ fr ob, hlex P ops nx Q l fr ob → K fr ob) → hop1 P (nx + 4 * i) [] g o.op o.dst K fr ob) : hlex P ops nx Q (i :: l) fr ob := by
  simp only [hlex]
  exact hopI_hop1 ho hg (h _ fun _ _ h => h)

theorem hwalk2_step {cr rd : List Nat} {l : Plan} {C : Pend} (ho : ops[i]? = some o) (hg : gd ops o = some g)
    (h : ∀ K : Fr → Ob → Prop, (∀ fr' ob', hwalk2 P ops nx Q l (if isEff o.op = true then C else (i, if hgd g fr = some true then touch o.op (ev fr) else []) :: C) fr' ob' → K fr' ob') →
      hop1 P (nx + 4 * i) (cr.flatMap (ids4 nx) ++ rd.flatMap (getF C)) g o.op o.dst K fr ob) : hwalk2 P ops nx Q ((i, cr, rd) :: l) C fr ob := by
  simp only [hwalk2]
  refine hopI_hop1 ho hg (h _ fun fr' ob' h => ?_)
  rw [ho]
  simp only [hguard_gd hg]
  exact h

end
end Go.Hl

namespace Go.Hl
open Go



theorem obAfter_same {ob lob : Ob} {σ : List Nat} {nid : Nat} (hn : σ.Nodup) (h1 : ∀ j, j < σ.length → ∃ o, lob j = some o ∧ ob (σ.getD j 0) = some (o.ren (sub σ nid))) (h2 : ∀ j, σ.length ≤ j → lob j = none) (h3 : ∀ i, nid ≤ i → i < nid + 4 → ob i = none) :
    obAfter ob σ nid lob = ob := by
  funext i
  unfold obAfter
  split
  · rename_i j hj
    obtain ⟨hjl, hje, _⟩ := List.findIdx?_eq_some_iff_getElem.1 hj
    obtain ⟨o, e1, e2⟩ := h1 j hjl
    have : σ.getD j 0 = i := by rw [List.getD_eq_getElem?_getD, List.getElem?_eq_getElem hjl]; simpa using hje
    rw [e1, ← this, e2]; rfl
  · split
    · rename_i h; rw [h2 _ (by omega), h3 i h.1 h.2]; rfl
    · rfl
theorem obAfter_gone {ob lob : Ob} {σ : List Nat} {nid id : Nat} (hn : σ.Nodup) (h0 : σ[0]? = some id) (hl0 : lob 0 = none) (h1 : ∀ j, 0 < j → j < σ.length → ∃ o, lob j = some o ∧ ob (σ.getD j 0) = some (o.ren (sub σ nid))) (h2 : ∀ j, σ.length ≤ j → lob j = none) (h3 : ∀ i, nid ≤ i → i < nid + 4 → ob i = none) :
    obAfter ob σ nid lob = gone ob id := by
  funext i
  unfold obAfter gone
  split
  · rename_i j hj
    obtain ⟨hjl, hje, _⟩ := List.findIdx?_eq_some_iff_getElem.1 hj
    have this : σ[j] = i := by simpa using hje
    by_cases e : j = 0
    · subst e
      rw [List.getElem?_eq_getElem hjl] at h0
      have e2 : i = id := by rw [← this]; exact Option.some.inj h0
      rw [hl0, if_pos e2]; rfl
    · obtain ⟨o, e1, e2⟩ := h1 j (by omega) hjl
      have hne : i ≠ id := by
        intro e3
        have h0l : 0 < σ.length := by omega
        rw [List.getElem?_eq_getElem h0l] at h0
        have := (List.pairwise_iff_getElem.1 hn) 0 j h0l hjl (by omega)
        exact this ((Option.some.inj h0).trans (e3.symm.trans (by rw [← ‹σ[j] = i›])))
      have e4 : σ.getD j 0 = i := by rw [List.getD_eq_getElem?_getD, List.getElem?_eq_getElem hjl]; simpa using this
      rw [e1, if_neg hne, ← e4, e2]; rfl
  · rename_i hno
    have hne : i ≠ id := by
      rintro rfl
      rw [List.findIdx?_eq_none_iff] at hno
      exact absurd (hno i (List.mem_of_getElem? h0)) (by simp)
    rw [if_neg hne]
    split
    · rename_i h; rw [h2 _ (by omega), h3 i h.1 h.2]; rfl
    · rfl

def Free4 (ob : Ob) (nid : Nat) : Prop := ob nid = none ∧ ob (nid + 1) = none ∧ ob (nid + 2) = none ∧ ob (nid + 3) = none
theorem Free4.all {ob : Ob} {nid : Nat} (h : Free4 ob nid) : ∀ i, nid ≤ i → i < nid + 4 → ob i = none := fun i h1 h2 => by
  have : i = nid ∨ i = nid + 1 ∨ i = nid + 2 ∨ i = nid + 3 := by omega
  rcases this with rfl | rfl | rfl | rfl
  · exact h.1
  · exact h.2.1
  · exact h.2.2.1
  · exact h.2.2.2

def HTake (P : Program) (f : FuncId) (e : TypeId) (sz : Nat) (l : List CV) (R : CV → Prop) : Prop := HFn P f [.own 0 l.length] 1 (fob [(0, .row e sz l)]) (fun r ob' => ∃ u, r = .c u ∧ ob' = none0 ∧ R u)

theorem locOk_clo (T : TypeId) (v : CV) (args : List CV) : LocOk 1 (args.map HV.c ++ [HV.ptr 0 0]) (fob [(0, .box T (.c v))]) := by
  have h := locOk_box T v []
  exact ⟨h.all, h.none, by rw [HV.menL_append]; exact ⟨HV.menL_c, by simp [HV.menL, HV.men]⟩⟩
theorem locOk_take (e : TypeId) (sz n : Nat) (l : List CV) : LocOk 1 [.own 0 n] (fob [(0, .row e sz l)]) := by
  refine ⟨fun j h => ?_, fun id o h => ?_, by simp [HV.menL, HV.men]⟩
  · have : j = 0 := by omega
    subst this; exact ⟨_, rfl⟩
  · simp only [fob_at, fob_nil] at h
    split at h
    · cases h; rename_i e; subst e; exact ⟨by omega, trivial⟩
    · cases h

section
variable {P : Program} {av : List Nat} {f g : FuncId} {ob : Ob} {nid id id2 n : Nat} {K : HV → Ob → Prop} {T e : TypeId} {sz : Nat} {v : CV} {l : List CV} {R : CV → Prop}

theorem call_take (h : HTake P f e sz l R) (hid : ob id = some (.row e sz l)) (hn : n = l.length) (hav : id ∉ av) (hfree : Free4 ob nid) (hK : ∀ u, R u → K (.c u) (gone ob id)) :
    HCall P av f [.own id n] ob nid K := by
  have h0 : sub [id] nid 0 = id := rfl
  subst hn
  refine ⟨[id], _, _, _, h, locOk_take e sz _ l, ⟨by simp, by simpa using hav⟩, by simp only [HV.renL, HV.ren, h0], fun j o hj => ?_, fun r lob' hR _ => ?_⟩
  · simp only [fob_at, fob_nil] at hj
    split at hj
    · rename_i e; subst e; cases hj; simpa [HO.ren] using hid
    · cases hj
  · obtain ⟨u, rfl, rfl, hR⟩ := hR
    rw [obAfter_gone (lob := none0) (id := id) (by simp) rfl rfl (fun j hj0 hj => ?_) (fun j hj => rfl) hfree.all]
    · exact hK u hR
    · simp at hj; omega
end



theorem obAfter_upd {ob : Ob} {nid id : Nat} {o : HO} (hfree : Free4 ob nid) : obAfter ob [id] nid (fob [(0, o)]) = upd ob id (some (o.ren (sub [id] nid))) := by
  funext i
  by_cases e : i = id
  · subst e
    simp only [obAfter, upd_same, List.findIdx?_cons, beq_self_eq_true, if_true, fob_at, Option.map_some]
  · have e' : (id == i) = false := by simp; exact fun h => e h.symm
    simp only [obAfter, List.findIdx?_cons, e', List.findIdx?_nil, Option.map_none, upd_ne _ _ e]
    simp only [Bool.false_eq_true, if_false]
    split
    · rename_i hr
      have h1 : [id].length + (i - nid) ≠ 0 := by simp
      rw [fob_at, if_neg h1, fob_nil]
      exact (hfree.all i hr.1 hr.2).symm
    · rfl

end Go.Hl

namespace Go.Pl
open Go Go.Hl

theorem Rp.setAll (p : Rp) (x : HV) : CV.setAt 0 97 x p.cv = some x := by
  have := Rp.cells p
  simp only [Rp.cv, CV.cells] at this
  simp only [Rp.cv, CV.setAt, this, and_self, if_true]

def idxP {α : Type} (p : α → Bool) (l : List α) : Int := match l.findIdx? p with | some i => i | none => -1

theorem idxP_hit {α : Type} {p : α → Bool} {l : List α} {i : Nat} (hi : i < l.length) (h : p l[i] = true) (h0 : ∀ x ∈ l.take i, p x = false) : idxP p l = i := by
  unfold idxP
  have : l.findIdx? p = some i := by
    rw [List.findIdx?_eq_some_iff_getElem]
    refine ⟨hi, h, fun j hj => ?_⟩
    have := h0 (l[j]'(by omega)) (by rw [List.mem_take_iff_getElem]; exact ⟨j, by omega, rfl⟩)
    simp [this]
  rw [this]
theorem idxP_none {α : Type} {p : α → Bool} {l : List α} (h0 : ∀ x ∈ l, p x = false) : idxP p l = -1 := by
  unfold idxP
  have : l.findIdx? p = none := by rw [List.findIdx?_eq_none_iff]; exact h0
  rw [this]
theorem idxP_ge {α : Type} {p : α → Bool} {l : List α} : (0 ≤ idxP p l) ↔ l.any p = true := by
  unfold idxP
  cases h : l.findIdx? p with
  | none =>
    rw [List.findIdx?_eq_none_iff] at h
    simp only [List.any_eq_true]
    constructor
    · intro h'; omega
    · rintro ⟨x, hx, hp⟩; rw [h x hx] at hp; cases hp
  | some i =>
    obtain ⟨hi, hp, _⟩ := List.findIdx?_eq_some_iff_getElem.1 h
    simp only [List.any_eq_true]
    exact ⟨fun _ => ⟨l[i], List.getElem_mem hi, hp⟩, fun _ => by omega⟩
end Go.Pl
