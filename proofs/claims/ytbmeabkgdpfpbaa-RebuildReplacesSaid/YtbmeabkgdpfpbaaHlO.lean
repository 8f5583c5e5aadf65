/- HL, part O: one walk of a region serves every order that the model may draw. By an AI agent. -/
import Derived.Test.YtbmeabkgdpfpbaaHlN
import Derived.Still
set_option linter.unusedSimpArgs false
set_option linter.unusedVariables false
namespace Go.Hl
open Go

abbrev Pend := List (Nat × List Nat)
/-- The objects that operation 'j' must not touch: what was made, and (if it writes) what was read, by operations that were taken ahead and that it need not wait for. -/
def avoid (ops : Array Oper) (nx : Nat) (wt : Nat → Nat → Bool) (C : Pend) (j : Nat) : List Nat :=
  C.flatMap fun p => if wt j p.1 = true then [] else [nx + 4 * p.1, nx + 4 * p.1 + 1, nx + 4 * p.1 + 2, nx + 4 * p.1 + 3] ++ (if ((ops[j]?).map (fun o => isEff o.op)).getD true = true then p.2 else [])

/-- Whatever order is picked from here on. -/
def hAny (P : Program) (ops : Array Oper) (nx : Nat) (wt : Nat → Nat → Bool) (Q : Fr → Ob → Prop) : Nat → Pend → Array Bool → Fr → Ob → Prop
  | 0, _, listed, fr, ob => Region.ready .any ops listed = [] ∧ Q fr ob
  | n + 1, C, listed, fr, ob => (Region.ready .any ops listed = [] → Q fr ob) ∧
    ∀ i ∈ Region.ready .any ops listed, hopI P ops nx (avoid ops nx wt C i) i (hAny P ops nx wt Q n C (listed.setIfInBounds i true)) fr ob

/-- Nothing bears the ids of what has not come up yet. -/
def Fresh (nx : Nat) (listed : Array Bool) (ob : Ob) : Prop := ∀ j, listed.getD j true = false → ∀ t, t < 4 → ob (nx + 4 * j + t) = none
/-- What has come up has come up with all that it waits for. -/
def Down (ops : Array Oper) (listed : Array Bool) : Prop := ∀ j o, ops[j]? = some o → listed.getD j false = true → ∀ e ∈ o.after, Region.binds .any e = true → listed.getD e.on false = true
/-- 'wt j i': j waits for i, if through others. -/
def WtOk (ops : Array Oper) (wt : Nat → Nat → Bool) : Prop := ∀ j i, wt j i = true → ∃ o, ops[j]? = some o ∧ ∃ e ∈ o.after, Region.binds .any e = true ∧ (e.on = i ∨ (e.on < j ∧ wt e.on i = true))

theorem wt_listed {ops : Array Oper} {wt : Nat → Nat → Bool} (hw : WtOk ops wt) {listed : Array Bool} (hd : Down ops listed) : ∀ (n j i : Nat), j = n → wt j i = true → (∀ o, ops[j]? = some o → ∀ e ∈ o.after, Region.binds .any e = true → listed.getD e.on false = true) → listed.getD i false = true := by
  intro n
  induction n using Nat.strongRecOn with
  | _ n ih =>
    intro j i hj hwt hall
    obtain ⟨o, ho, e, he, hb, h⟩ := hw j i hwt
    have h1 := hall o ho e he hb
    rcases h with h | ⟨h2, h3⟩
    · rw [← h]; exact h1
    · exact ih e.on (by omega) e.on i rfl h3 (fun o' ho' e' he' hb' => hd e.on o' ho' h1 e' he' hb')

theorem not_wt {ops : Array Oper} {wt : Nat → Nat → Bool} (hw : WtOk ops wt) {listed : Array Bool} (hd : Down ops listed) {i j : Nat} (hj : j ∈ Region.ready .any ops listed) (hi : listed.getD i true = false) : wt j i = false := by
  cases h : wt j i with
  | false => rfl
  | true =>
    obtain ⟨_, o, ho, hall⟩ := mem_ready.1 hj
    have := wt_listed hw hd j j i rfl h (fun o' ho' e he hb => by rw [ho] at ho'; cases ho'; exact hall e he hb)
    rcases Nat.lt_or_ge i listed.size with h' | h'
    · simp [h'] at hi this; rw [hi] at this; cases this
    · simp [Array.getElem?_eq_none h'] at hi

theorem Down.set {ops : Array Oper} {listed : Array Bool} (hd : Down ops listed) {i : Nat} (hi : i ∈ Region.ready .any ops listed) : Down ops (listed.setIfInBounds i true) := by
  obtain ⟨_, oi, hoi, hall⟩ := mem_ready.1 hi
  intro j o ho hl e he hb
  by_cases hij : i = j
  · subst hij
    rw [hoi] at ho; cases ho
    exact getD_set_true (hall e he hb)
  · rw [getD_set_ne false hij] at hl
    exact getD_set_true (hd j o ho hl e he hb)

theorem avoid_sub (ops : Array Oper) (nx : Nat) (wt : Nat → Nat → Bool) (p : Nat × List Nat) (C : Pend) (j : Nat) : ∀ x ∈ avoid ops nx wt C j, x ∈ avoid ops nx wt (p :: C) j := by
  intro x hx
  unfold avoid at hx ⊢
  rw [List.flatMap_cons]
  exact List.mem_append_right _ hx

theorem hopI_mono {P : Program} {ops : Array Oper} {nx : Nat} {av av' : List Nat} {i : Nat} {K K' : Fr → Ob → Prop} {fr : Fr} {ob : Ob} (hav : ∀ x ∈ av', x ∈ av) (hK : ∀ fr ob, K fr ob → K' fr ob) (h : hopI P ops nx av i K fr ob) : hopI P ops nx av' i K' fr ob := by
  unfold hopI at h ⊢
  split at h
  · exact h.elim
  · rename_i o ho
    split at h
    · exact hstep_mono hav (fun v ob => hK _ _) h
    · exact hK _ _ h
    · exact h.elim

theorem hAny_drop {P : Program} {ops : Array Oper} {nx : Nat} {wt : Nat → Nat → Bool} {Q : Fr → Ob → Prop} {p : Nat × List Nat} {C : Pend} : ∀ {n : Nat} {listed : Array Bool} {fr : Fr} {ob : Ob}, hAny P ops nx wt Q n (p :: C) listed fr ob → hAny P ops nx wt Q n C listed fr ob
  | 0, _, _, _, h => h
  | _ + 1, _, _, _, h => ⟨h.1, fun i hi => hopI_mono (avoid_sub ops nx wt p C i) (fun _ _ => hAny_drop) (h.2 i hi)⟩

/-- What operation 'i' yields in a state, and in every state that agrees with it where 'i' looks. -/
structure Yld (P : Program) (ops : Array Oper) (nx : Nat) (av : List Nat) (i : Nat) (oi : Oper) (fr : Fr) (ob : Ob) (v : HV) (u : Option (Nat × HO)) (F : List Nat) : Prop where
  run : ∀ fr' ob', (∀ x ∈ oi.op.operands, ev fr' x = ev fr x) → hguard ops oi fr' = hguard ops oi fr → Agree F ob ob' → ∀ K : Fr → Ob → Prop, K (updo fr' oi.dst v) (app u ob') → hopI P ops nx av i K fr' ob'
  new : ∀ p, u = some p → p.1 = nx + 4 * i
  live : ∀ id ∈ F, (ob id).isSome = true

theorem hopI_frame {P : Program} {ops : Array Oper} {nx : Nat} {av av' : List Nat} {j : Nat} {oi oj : Oper} {K : Fr → Ob → Prop} {fr : Fr} {ob : Ob} {v : HV} {u : Option (Nat × HO)} {F : List Nat}
    (hoj : ops[j]? = some oj) (hap : oi.apart ops oj = true) (hu : Apart u av (nx + 4 * j)) (hav : ∀ x ∈ av', x ∈ av) (hF : ∀ id ∈ F, (isEff oj.op = true → id ∈ av) ∧ (ob id).isSome = true) (hfresh : ∀ t, t < 4 → ob (nx + 4 * j + t) = none)
    (h : hopI P ops nx av j K (updo fr oi.dst v) (app u ob)) :
    hopI P ops nx av' j (fun fr' ob' => K (updo fr' oi.dst v) (app u ob') ∧ Agree F ob ob' ∧ (∀ x ∈ oi.op.operands, ev fr' x = ev fr x) ∧ hguard ops oi fr' = hguard ops oi fr) fr ob := by
  obtain ⟨h1, h2, h3⟩ := Oper.apart_spec hap
  have kept : ∀ y, (∀ x ∈ oi.op.operands, ev (updo fr oj.dst y) x = ev fr x) ∧ hguard ops oi (updo fr oj.dst y) = hguard ops oi fr := fun y => ⟨looks_operands h3, hguard_updo h3⟩
  unfold hopI at h ⊢
  rw [hoj] at h ⊢
  simp only at h ⊢
  rw [hguard_updo h1] at h
  split at h
  · rename_i hg
    have h' := hstep_congr (e' := ev fr) (fun x hx => (looks_operands h1 x hx).symm) h
    refine hstep_mono (fun x hx => hx) (fun y ob' hK => ?_) (hstep_frame (F := F) hu hav hF hfresh h')
    obtain ⟨hK, hA⟩ := hK
    rw [updo_comm h2] at hK
    exact ⟨hK, hA, kept y⟩
  · rw [updo_comm h2] at h
    exact ⟨h, fun _ _ => rfl, kept _⟩
  · exact h.elim

theorem Fresh.set {nx : Nat} {listed : Array Bool} {ob : Ob} (h : Fresh nx listed ob) (i : Nat) : Fresh nx (listed.setIfInBounds i true) ob := fun j hj => by
  by_cases hij : i = j
  · subst hij
    rcases Nat.lt_or_ge i listed.size with h' | h'
    · simp [h'] at hj
    · simp [Array.getElem?_eq_none h'] at hj
  · rw [getD_set_ne true hij] at hj; exact h j hj

/-- A step leaves fresh what is fresh. -/
theorem hopI_fresh {P : Program} {ops : Array Oper} {nx : Nat} {av : List Nat} {i : Nat} {K : Fr → Ob → Prop} {fr : Fr} {ob : Ob} {listed : Array Bool} (hf : Fresh nx listed ob) (h : hopI P ops nx av i K fr ob) :
    hopI P ops nx av i (fun fr' ob' => K fr' ob' ∧ Fresh nx (listed.setIfInBounds i true) ob') fr ob := by
  have key : ∀ ob' : Ob, (∀ id, ob id = none → ¬ (nx + 4 * i ≤ id ∧ id < nx + 4 * i + 4) → ob' id = none) → Fresh nx (listed.setIfInBounds i true) ob' := by
    intro ob' h1 j hj t ht
    have h2 := hf.set i j hj t ht
    refine h1 _ h2 (fun h3 => ?_)
    have hij : i = j := by omega
    subst hij
    rcases Nat.lt_or_ge i listed.size with h' | h'
    · simp [h'] at hj
    · simp [Array.getElem?_eq_none h'] at hj
  unfold hopI at h ⊢
  cases ho : ops[i]? with
  | none => rw [ho] at h; exact h.elim
  | some o =>
    rw [ho] at h
    simp only at h ⊢
    cases hg : hguard ops o fr with
    | none => rw [hg] at h; exact h.elim
    | some b =>
      rw [hg] at h
      cases b with
      | false => exact ⟨h, key ob (fun id h1 _ => h1)⟩
      | true =>
        simp only at h ⊢
        unfold hstep at h ⊢
        cases hc : hcallOf o.op with
        | none =>
          rw [hc] at h
          simp only at h ⊢
          obtain ⟨v, u, hK, hform, hid⟩ := hop_form h.2
          refine ⟨h.1, hform ob (fun _ _ => rfl) _ ⟨hK, key _ (fun id h1 h2 => ?_)⟩⟩
          rw [app_other (fun p hp e => ?_)]
          · exact h1
          · rcases hid p hp with h3 | ⟨_, h3⟩
            · exact h2 ⟨by omega, by omega⟩
            · have := (h.1 _ h3).2
              rw [e, h1] at this; cases this
        | some p =>
          obtain ⟨f, xs⟩ := p
          rw [hc] at h
          simp only at h ⊢
          refine ⟨h.1, ?_⟩
          have h := h.2
          have hcall : ∀ g args, HCall P av g args ob (nx + 4 * i) (fun v ob' => K (updo fr o.dst v) ob') → HCall P av g args ob (nx + 4 * i) (fun v ob' => K (updo fr o.dst v) ob' ∧ Fresh nx (listed.setIfInBounds i true) ob') := by
            rintro g args ⟨σ, largs, lob, R, h1, h2, h3, h5, h6, h7⟩
            refine ⟨σ, largs, lob, R, h1, h2, h3, h5, h6, fun r lob' hR hr => ⟨h7 r lob' hR hr, key _ (fun id e1 e2 => ?_)⟩⟩
            unfold obAfter
            split
            · rename_i j hj
              exfalso
              rw [List.findIdx?_eq_some_iff_getElem] at hj
              obtain ⟨hj1, hj2, _⟩ := hj
              obtain ⟨o', ho'⟩ := h2.all j hj1
              have := h6 j o' ho'
              rw [List.getD_eq_getElem?_getD, List.getElem?_eq_getElem hj1] at this
              simp only [beq_iff_eq] at hj2
              simp only [Option.getD_some, hj2, e1] at this
              cases this
            · rw [if_neg e2]; exact e1
          split at h
          · exact hcall _ _ h
          · exact hcall _ _ h
          · exact h.elim

/-- **AN OPERATION THAT ONLY LOOKS OR MAKES MAY BE TAKEN FIRST.** -/
theorem hAny_first {P : Program} {ops : Array Oper} {nx : Nat} {wt : Nat → Nat → Bool} {Q : Fr → Ob → Prop} {i : Nat} {oi : Oper} (hi : ops[i]? = some oi) (hw : WtOk ops wt) {v : HV} {u : Option (Nat × HO)} {F : List Nat} {C : Pend} :
    ∀ (n : Nat) (listed : Array Bool) (fr : Fr) (ob : Ob), Down ops listed → Fresh nx listed ob →
      (∀ j oj, ops[j]? = some oj → j ≠ i → listed.getD j true = false → (∀ e ∈ oj.after, Region.binds .any e = true → e.on ≠ i) → oi.apart ops oj = true) →
      i ∈ Region.ready .any ops listed → Yld P ops nx (avoid ops nx wt C i) i oi fr ob v u F →
      hAny P ops nx wt Q n ((i, F) :: C) (listed.setIfInBounds i true) (updo fr oi.dst v) (app u ob) → hAny P ops nx wt Q (n + 1) C listed fr ob := by
  intro n
  induction n with
  | zero =>
    intro listed fr ob hd hf hfree hr hy H
    refine ⟨fun h => (by rw [h] at hr; cases hr), fun j hj => ?_⟩
    by_cases hji : j = i
    · subst hji
      exact hy.run fr ob (fun _ _ => rfl) rfl (fun _ _ => rfl) _ (hAny_drop H)
    · have := ready_mono hj hji
      rw [H.1] at this
      cases this
  | succ n ih =>
    intro listed fr ob hd hf hfree hr hy H
    have hiun := (mem_ready.1 hr).1
    refine ⟨fun h => (by rw [h] at hr; cases hr), fun j hj => ?_⟩
    by_cases hji : j = i
    · subst hji
      exact hy.run fr ob (fun _ _ => rfl) rfl (fun _ _ => rfl) _ (hAny_drop H)
    · have h1 := H.2 j (ready_mono hj hji)
      obtain ⟨hjun, oj, hoj, hall⟩ := mem_ready.1 hj
      have hnot : ∀ e ∈ oj.after, Region.binds .any e = true → e.on ≠ i := fun e he hb heq => by
        have h1 := hall e he hb
        rw [heq] at h1
        rcases Nat.lt_or_ge i listed.size with h' | h'
        · simp [h'] at hiun h1; rw [hiun] at h1; cases h1
        · simp [Array.getElem?_eq_none h'] at h1
      have hnw := not_wt hw hd hj hiun
      have hin : ∀ t, t < 4 → nx + 4 * i + t ∈ avoid ops nx wt ((i, F) :: C) j := fun t ht => by
        unfold avoid
        rw [List.flatMap_cons]
        refine List.mem_append_left _ ?_
        simp only [hnw, Bool.false_eq_true, if_false]
        refine List.mem_append_left _ ?_
        have : t = 0 ∨ t = 1 ∨ t = 2 ∨ t = 3 := by omega
        rcases this with rfl | rfl | rfl | rfl <;> simp
      have hFin : isEff oj.op = true → ∀ id ∈ F, id ∈ avoid ops nx wt ((i, F) :: C) j := fun he id hid => by
        unfold avoid
        rw [List.flatMap_cons]
        refine List.mem_append_left _ ?_
        simp only [hnw, Bool.false_eq_true, if_false, hoj, Option.map_some, Option.getD_some, he, if_true]
        exact List.mem_append_right _ hid
      have hu : Apart u (avoid ops nx wt ((i, F) :: C) j) (nx + 4 * j) := fun p hp => by
        have := hy.new p hp
        exact ⟨by rw [this]; exact hin 0 (by omega), by omega⟩
      have h2 := hopI_frame (F := F) (av' := avoid ops nx wt C j) hoj (hfree j oj hoj hji hjun hnot) hu (avoid_sub ops nx wt _ C j) (fun id hid => ⟨fun he => hFin he id hid, hy.live id hid⟩) (hf j hjun) h1
      have h3 := hopI_fresh hf h2
      have hfree' : ∀ k ok, ops[k]? = some ok → k ≠ i → (listed.setIfInBounds j true).getD k true = false →
          (∀ e ∈ ok.after, Region.binds .any e = true → e.on ≠ i) → oi.apart ops ok = true := fun k ok hk hki hun hno => by
        refine hfree k ok hk hki ?_ hno
        by_cases hjk : j = k
        · subst hjk; exact hjun
        · rw [getD_set_ne true hjk] at hun; exact hun
      refine hopI_mono (fun x hx => hx) (fun fr' ob' hK => ?_) h3
      obtain ⟨⟨hK, hA, hev, hgd⟩, hf'⟩ := hK
      refine ih (listed.setIfInBounds j true) fr' ob' (hd.set hj) hf' hfree' (ready_mono hr (Ne.symm hji)) ⟨fun fr2 ob2 e1 e2 e3 K hK' => ?_, hy.new, fun id hid => ?_⟩ ?_
      · exact hy.run fr2 ob2 (fun x hx => (e1 x hx).trans (hev x hx)) (e2.trans hgd) (fun id hid => (e3 id hid).trans (hA id hid)) K hK'
      · rw [hA id hid]; exact hy.live id hid
      · rw [Array.setIfInBounds_comm _ _ hji]
        exact hK

/-! ## The walk in one order -/
/-- The walk: an order; what has been taken ahead. -/
def hwalk (P : Program) (ops : Array Oper) (nx : Nat) (wt : Nat → Nat → Bool) (Q : Fr → Ob → Prop) : List Nat → Pend → Fr → Ob → Prop
  | [], _, fr, ob => Q fr ob
  | i :: rest, C, fr, ob => hopI P ops nx (avoid ops nx wt C i) i (hwalk P ops nx wt Q rest (match ops[i]? with
      | some o => if isEff o.op = true then C else (i, if hguard ops o fr = some true then touch o.op (ev fr) else []) :: C
      | none => C)) fr ob

/-- The order is one that serves. -/
def planOk (ops : Array Oper) : List Nat → Array Bool → Bool
  | [], listed => (Region.ready .any ops listed).isEmpty
  | i :: rest, listed =>
    (match ops[i]? with
     | some o => if isEff o.op then decide (Region.ready .any ops listed = [i]) else (Region.ready .any ops listed).contains i && Region.free .any ops listed i
     | none => false) && planOk ops rest (listed.setIfInBounds i true)

theorem hAny_of_walk {P : Program} {ops : Array Oper} {nx : Nat} {wt : Nat → Nat → Bool} {Q : Fr → Ob → Prop} (hw : WtOk ops wt) : ∀ (plan : List Nat) (C : Pend) (listed : Array Bool) (fr : Fr) (ob : Ob), planOk ops plan listed = true → Down ops listed → Fresh nx listed ob →
    hwalk P ops nx wt Q plan C fr ob → hAny P ops nx wt Q plan.length C listed fr ob
  | [], C, listed, fr, ob, hp, _, _, h => ⟨by simpa [planOk] using hp, h⟩
  | i :: rest, C, listed, fr, ob, hp, hd, hf, h => by
    simp only [planOk, Bool.and_eq_true] at hp
    obtain ⟨hp1, hp2⟩ := hp
    cases ho : ops[i]? with
    | none => rw [ho] at hp1; cases hp1
    | some o =>
      rw [ho] at hp1
      simp only at hp1
      have h' := hopI_fresh hf h
      by_cases he : isEff o.op = true
      · rw [if_pos he, decide_eq_true_eq] at hp1
        have hi : i ∈ Region.ready .any ops listed := by rw [hp1]; simp
        refine ⟨fun h0 => (by rw [hp1] at h0; cases h0), fun j hj => ?_⟩
        rw [hp1] at hj
        have hji : j = i := by simpa using hj
        subst hji
        refine hopI_mono (fun x hx => hx) (fun fr' ob' hK => ?_) h'
        obtain ⟨hK, hf'⟩ := hK
        simp only [ho, he, if_true] at hK
        exact hAny_of_walk hw rest C _ fr' ob' hp2 (hd.set hi) hf' hK
      · rw [if_neg he, Bool.and_eq_true] at hp1
        have hi : i ∈ Region.ready .any ops listed := by simpa using hp1.1
        have hfree := Region.free_spec ho hp1.2
        have he' : isEff o.op = false := by simpa using he
        -- what it yields
        have hy : ∃ v u, Yld P ops nx (avoid ops nx wt C i) i o fr ob v u (if hguard ops o fr = some true then touch o.op (ev fr) else []) ∧
            (hwalk P ops nx wt Q rest ((i, if hguard ops o fr = some true then touch o.op (ev fr) else []) :: C) (updo fr o.dst v) (app u ob) ∧ Fresh nx (listed.setIfInBounds i true) (app u ob)) := by
          unfold hopI at h'
          rw [ho] at h'
          simp only [he', Bool.false_eq_true, if_false] at h'
          cases hg : hguard ops o fr with
          | none => rw [hg] at h'; exact h'.elim
          | some b =>
            rw [hg] at h'
            cases b with
            | false =>
              refine ⟨.tup [], none, ⟨fun fr2 ob2 e1 e2 e3 K hK => ?_, by simp, by simp⟩, ?_⟩
              · unfold hopI
                rw [ho]
                simp only [e2, hg]
                exact hK
              · simpa [app] using h'
            | true =>
              simp only at h'
              unfold hstep at h'
              have hc : hcallOf o.op = none := by
                cases hop : o.op <;> simp only [hcallOf]
                rename_i c
                cases hcal : c.callee with
                | value f => rw [hop] at he'; simp only [isEff, hcal] at he'; cases he'
                | _ => rfl
              rw [hc] at h'
              simp only at h'
              obtain ⟨ht, h'⟩ := h'
              obtain ⟨v, u, hK, hform, hid⟩ := hop_form h'
              refine ⟨v, u, ⟨fun fr2 ob2 e1 e2 e3 K hK => ?_, fun p hp => ?_, fun id hid => ?_⟩, ?_⟩
              · unfold hopI
                rw [ho]
                simp only [e2, hg]
                refine hstep_congr (e := ev fr) e1 ?_
                unfold hstep
                rw [hc]
                simp only [if_true] at e3 ⊢
                exact ⟨fun id hid => ⟨(ht id hid).1, by rw [e3 id hid]; exact (ht id hid).2⟩, hform ob2 e3 _ hK⟩
              · rcases hid p hp with h1 | ⟨h1, _⟩
                · exact h1
                · rw [he'] at h1; cases h1
              · simp only [if_true] at hid
                exact (ht id hid).2
              · simpa [hg] using hK
        obtain ⟨v, u, hy, hK, hf'⟩ := hy
        exact hAny_first ho hw rest.length listed fr ob hd hf hfree hi hy (hAny_of_walk hw rest _ _ _ _ hp2 (hd.set hi) hf' hK)
end Go.Hl
