/- HL, part S: finite frames and heaps; pure functions. By an AI agent. -/
import Derived.Test.YtenbfeemmpjdhaaGreatHlN
import Derived.Still
import Derived.StillTail
import Derived.IntWalk
set_option linter.unusedSimpArgs false
set_option linter.unusedVariables false
set_option linter.defProp false
namespace Go.Hl
open Go

abbrev Pend := List (Nat × List Nat)
def avoid (ops : Array Oper) (nx : Nat) (wt : Nat → Nat → Bool) (C : Pend) (j : Nat) : List Nat :=
  C.flatMap fun p => if wt j p.1 = true then [] else [nx + 4 * p.1, nx + 4 * p.1 + 1, nx + 4 * p.1 + 2, nx + 4 * p.1 + 3] ++ (if ((ops[j]?).map (fun o => isEff o.op)).getD true = true then p.2 else [])

def hAnyG (P : Program) (ops : Array Oper) (nx : Nat) (wt : Nat → Nat → Bool) (Q : Fr → Ob → Prop) : Nat → Pend → Array Bool → Fr → Ob → Prop
  | 0, _, listed, fr, ob => Region.ready .any ops listed = [] ∧ Q fr ob
  | n + 1, C, listed, fr, ob => (Region.ready .any ops listed = [] → Q fr ob) ∧
    ∀ i ∈ Region.ready .any ops listed, hopIG P ops nx (avoid ops nx wt C i) i (hAnyG P ops nx wt Q n C (listed.setIfInBounds i true)) fr ob

def Fresh (nx : Nat) (listed : Array Bool) (ob : Ob) : Prop := ∀ j, listed.getD j true = false → ∀ t, t < 4 → ob (nx + 4 * j + t) = none
def Down (ops : Array Oper) (listed : Array Bool) : Prop := ∀ j o, ops[j]? = some o → listed.getD j false = true → ∀ e ∈ o.after, Region.binds .any e = true → listed.getD e.on false = true
def WtOk (ops : Array Oper) (wt : Nat → Nat → Bool) : Prop := ∀ j i, wt j i = true → ∃ o, ops[j]? = some o ∧ ∃ e ∈ o.after, Region.binds .any e = true ∧ (e.on = i ∨ (e.on < j ∧ wt e.on i = true))

theorem wt_listed {ops : Array Oper} {wt : Nat → Nat → Bool} (hw : WtOk ops wt) {listed : Array Bool} (hd : Down ops listed) : ∀ (n j i : Nat), j = n → wt j i = true → (∀ o, ops[j]? = some o → ∀ e ∈ o.after, Region.binds .any e = true → listed.getD e.on false = true) → listed.getD i false = true := by
  intro n
  induction n using Nat.strongRecOn with
  | _ n ih =>
    intro j i hj hwt hall
    obtain ⟨o, ho, e, he, hb, h⟩ := hw j i hwt
    have h1 := hall o ho e he hb
    rcases h with h | ⟨h2, h3⟩
    · rw [← h]; exact h1
    · exact ih e.on (by omega) e.on i rfl h3 (fun o' ho' e' he' hb' => hd e.on o' ho' h1 e' he' hb')

theorem not_wt {ops : Array Oper} {wt : Nat → Nat → Bool} (hw : WtOk ops wt) {listed : Array Bool} (hd : Down ops listed) {i j : Nat} (hj : j ∈ Region.ready .any ops listed) (hi : listed.getD i true = false) : wt j i = false := by
  cases h : wt j i with
  | false => rfl
  | true =>
    obtain ⟨_, o, ho, hall⟩ := mem_ready.1 hj
    have := wt_listed hw hd j j i rfl h (fun o' ho' e he hb => by rw [ho] at ho'; cases ho'; exact hall e he hb)
    rcases Nat.lt_or_ge i listed.size with h' | h'
    · simp [h'] at hi this; rw [hi] at this; cases this
    · simp [Array.getElem?_eq_none h'] at hi

theorem Down.set {ops : Array Oper} {listed : Array Bool} (hd : Down ops listed) {i : Nat} (hi : i ∈ Region.ready .any ops listed) : Down ops (listed.setIfInBounds i true) := by
  obtain ⟨_, oi, hoi, hall⟩ := mem_ready.1 hi
  intro j o ho hl e he hb
  by_cases hij : i = j
  · subst hij
    rw [hoi] at ho; cases ho
    exact getD_set_true (hall e he hb)
  · rw [getD_set_ne false hij] at hl
    exact getD_set_true (hd j o ho hl e he hb)

theorem avoid_sub (ops : Array Oper) (nx : Nat) (wt : Nat → Nat → Bool) (p : Nat × List Nat) (C : Pend) (j : Nat) : ∀ x ∈ avoid ops nx wt C j, x ∈ avoid ops nx wt (p :: C) j := by
  intro x hx
  unfold avoid at hx ⊢
  rw [List.flatMap_cons]
  exact List.mem_append_right _ hx

theorem hopIG_mono {P : Program} {ops : Array Oper} {nx : Nat} {av av' : List Nat} {i : Nat} {K K' : Fr → Ob → Prop} {fr : Fr} {ob : Ob} (hav : ∀ x ∈ av', x ∈ av) (hK : ∀ fr ob, K fr ob → K' fr ob) (h : hopIG P ops nx av i K fr ob) : hopIG P ops nx av' i K' fr ob := by
  unfold hopIG at h ⊢
  split at h
  · exact h.elim
  · rename_i o ho
    split at h
    · exact hstepG_mono hav (fun v ob => hK _ _) h
    · exact hK _ _ h
    · exact h.elim

theorem hAnyG_drop {P : Program} {ops : Array Oper} {nx : Nat} {wt : Nat → Nat → Bool} {Q : Fr → Ob → Prop} {p : Nat × List Nat} {C : Pend} : ∀ {n : Nat} {listed : Array Bool} {fr : Fr} {ob : Ob}, hAnyG P ops nx wt Q n (p :: C) listed fr ob → hAnyG P ops nx wt Q n C listed fr ob
  | 0, _, _, _, h => h
  | _ + 1, _, _, _, h => ⟨h.1, fun i hi => hopIG_mono (avoid_sub ops nx wt p C i) (fun _ _ => hAnyG_drop) (h.2 i hi)⟩

structure Yld (P : Program) (ops : Array Oper) (nx : Nat) (av : List Nat) (i : Nat) (oi : Oper) (fr : Fr) (ob : Ob) (v : HV) (u : Option (Nat × HO)) (F : List Nat) : Prop where
  run : ∀ fr' ob', (∀ x ∈ oi.op.operands, ev fr' x = ev fr x) → hguard ops oi fr' = hguard ops oi fr → Agree F ob ob' → ∀ K : Fr → Ob → Prop, K (updo fr' oi.dst v) (app u ob') → hopIG P ops nx av i K fr' ob'
  new : ∀ p, u = some p → p.1 = nx + 4 * i
  live : ∀ id ∈ F, (ob id).isSome = true

theorem hopIG_frame {P : Program} {ops : Array Oper} {nx : Nat} {av av' : List Nat} {j : Nat} {oi oj : Oper} {K : Fr → Ob → Prop} {fr : Fr} {ob : Ob} {v : HV} {u : Option (Nat × HO)} {F : List Nat}
    (hoj : ops[j]? = some oj) (hap : oi.apart ops oj = true) (hu : Apart u av (nx + 4 * j)) (hav : ∀ x ∈ av', x ∈ av) (hF : ∀ id ∈ F, (isEff oj.op = true → id ∈ av) ∧ (ob id).isSome = true) (hfresh : ∀ t, t < 4 → ob (nx + 4 * j + t) = none)
    (h : hopIG P ops nx av j K (updo fr oi.dst v) (app u ob)) :
    hopIG P ops nx av' j (fun fr' ob' => K (updo fr' oi.dst v) (app u ob') ∧ Agree F ob ob' ∧ (∀ x ∈ oi.op.operands, ev fr' x = ev fr x) ∧ hguard ops oi fr' = hguard ops oi fr) fr ob := by
  obtain ⟨h1, h2, h3⟩ := Oper.apart_spec hap
  have kept : ∀ y, (∀ x ∈ oi.op.operands, ev (updo fr oj.dst y) x = ev fr x) ∧ hguard ops oi (updo fr oj.dst y) = hguard ops oi fr := fun y => ⟨looks_operands h3, hguard_updo h3⟩
  unfold hopIG at h ⊢
  rw [hoj] at h ⊢
  simp only at h ⊢
  rw [hguard_updo h1] at h
  split at h
  · rename_i hg
    have h' := hstepG_congr (e' := ev fr) (fun x hx => (looks_operands h1 x hx).symm) h
    refine hstepG_mono (fun x hx => hx) (fun y ob' hK => ?_) (hstepG_frame (F := F) hu hav hF hfresh h')
    obtain ⟨hK, hA⟩ := hK
    rw [updo_comm h2] at hK
    exact ⟨hK, hA, kept y⟩
  · rw [updo_comm h2] at h
    exact ⟨h, fun _ _ => rfl, kept _⟩
  · exact h.elim

theorem Fresh.set {nx : Nat} {listed : Array Bool} {ob : Ob} (h : Fresh nx listed ob) (i : Nat) : Fresh nx (listed.setIfInBounds i true) ob := fun j hj => by
  by_cases hij : i = j
  · subst hij
    rcases Nat.lt_or_ge i listed.size with h' | h'
    · simp [h'] at hj
    · simp [Array.getElem?_eq_none h'] at hj
  · rw [getD_set_ne true hij] at hj; exact h j hj

theorem hopIG_fresh {P : Program} {ops : Array Oper} {nx : Nat} {av : List Nat} {i : Nat} {K : Fr → Ob → Prop} {fr : Fr} {ob : Ob} {listed : Array Bool} (hf : Fresh nx listed ob) (h : hopIG P ops nx av i K fr ob) :
    hopIG P ops nx av i (fun fr' ob' => K fr' ob' ∧ Fresh nx (listed.setIfInBounds i true) ob') fr ob := by
  have key : ∀ ob' : Ob, (∀ id, ob id = none → ¬ (nx + 4 * i ≤ id ∧ id < nx + 4 * i + 4) → ob' id = none) → Fresh nx (listed.setIfInBounds i true) ob' := by
    intro ob' h1 j hj t ht
    have h2 := hf.set i j hj t ht
    refine h1 _ h2 (fun h3 => ?_)
    have hij : i = j := by omega
    subst hij
    rcases Nat.lt_or_ge i listed.size with h' | h'
    · simp [h'] at hj
    · simp [Array.getElem?_eq_none h'] at hj
  unfold hopIG at h ⊢
  cases ho : ops[i]? with
  | none => rw [ho] at h; exact h.elim
  | some o =>
    rw [ho] at h
    simp only at h ⊢
    cases hg : hguard ops o fr with
    | none => rw [hg] at h; exact h.elim
    | some b =>
      rw [hg] at h
      cases b with
      | false => exact ⟨h, key ob (fun id h1 _ => h1)⟩
      | true =>
        simp only at h ⊢
        unfold hstepG at h ⊢
        cases hc : hcallOf o.op with
        | none =>
          rw [hc] at h
          simp only at h ⊢
          obtain ⟨v, u, hK, hform, hid⟩ := hop2_form h.2
          refine ⟨h.1, hform ob (fun _ _ => rfl) _ ⟨hK, key _ (fun id h1 h2 => ?_)⟩⟩
          rw [app_other (fun p hp e => ?_)]
          · exact h1
          · rcases hid p hp with h3 | ⟨_, h3⟩
            · exact h2 ⟨by omega, by omega⟩
            · have := (h.1 _ h3).2
              rw [e, h1] at this; cases this
        | some p =>
          obtain ⟨f, xs⟩ := p
          rw [hc] at h
          simp only at h ⊢
          refine ⟨h.1, ?_⟩
          have h := h.2
          have hcall : ∀ g args, HCall P av g args ob (nx + 4 * i) (fun v ob' => K (updo fr o.dst v) ob') → HCall P av g args ob (nx + 4 * i) (fun v ob' => K (updo fr o.dst v) ob' ∧ Fresh nx (listed.setIfInBounds i true) ob') := by
            rintro g args ⟨σ, largs, lob, R, h1, h2, h3, h5, h6, h7⟩
            refine ⟨σ, largs, lob, R, h1, h2, h3, h5, h6, fun r lob' hR hr => ⟨h7 r lob' hR hr, key _ (fun id e1 e2 => ?_)⟩⟩
            unfold obAfter
            split
            · rename_i j hj
              exfalso
              rw [List.findIdx?_eq_some_iff_getElem] at hj
              obtain ⟨hj1, hj2, _⟩ := hj
              obtain ⟨o', ho'⟩ := h2.all j hj1
              have := h6 j o' ho'
              rw [List.getD_eq_getElem?_getD, List.getElem?_eq_getElem hj1] at this
              simp only [beq_iff_eq] at hj2
              simp only [Option.getD_some, hj2, e1] at this
              cases this
            · rw [if_neg e2]; exact e1
          split at h
          · exact hcall _ _ h
          · exact hcall _ _ h
          · exact h.elim

theorem hAnyG_first {P : Program} {ops : Array Oper} {nx : Nat} {wt : Nat → Nat → Bool} {Q : Fr → Ob → Prop} {i : Nat} {oi : Oper} (hi : ops[i]? = some oi) (hw : WtOk ops wt) {v : HV} {u : Option (Nat × HO)} {F : List Nat} {C : Pend} :
    ∀ (n : Nat) (listed : Array Bool) (fr : Fr) (ob : Ob), Down ops listed → Fresh nx listed ob →
      (∀ j oj, ops[j]? = some oj → j ≠ i → listed.getD j true = false → (∀ e ∈ oj.after, Region.binds .any e = true → e.on ≠ i) → oi.apart ops oj = true) →
      i ∈ Region.ready .any ops listed → Yld P ops nx (avoid ops nx wt C i) i oi fr ob v u F →
      hAnyG P ops nx wt Q n ((i, F) :: C) (listed.setIfInBounds i true) (updo fr oi.dst v) (app u ob) → hAnyG P ops nx wt Q (n + 1) C listed fr ob := by
  intro n
  induction n with
  | zero =>
    intro listed fr ob hd hf hfree hr hy H
    refine ⟨fun h => (by rw [h] at hr; cases hr), fun j hj => ?_⟩
    by_cases hji : j = i
    · subst hji
      exact hy.run fr ob (fun _ _ => rfl) rfl (fun _ _ => rfl) _ (hAnyG_drop H)
    · have := ready_mono hj hji
      rw [H.1] at this
      cases this
  | succ n ih =>
    intro listed fr ob hd hf hfree hr hy H
    have hiun := (mem_ready.1 hr).1
    refine ⟨fun h => (by rw [h] at hr; cases hr), fun j hj => ?_⟩
    by_cases hji : j = i
    · subst hji
      exact hy.run fr ob (fun _ _ => rfl) rfl (fun _ _ => rfl) _ (hAnyG_drop H)
    · have h1 := H.2 j (ready_mono hj hji)
      obtain ⟨hjun, oj, hoj, hall⟩ := mem_ready.1 hj
      have hnot : ∀ e ∈ oj.after, Region.binds .any e = true → e.on ≠ i := fun e he hb heq => by
        have h1 := hall e he hb
        rw [heq] at h1
        rcases Nat.lt_or_ge i listed.size with h' | h'
        · simp [h'] at hiun h1; rw [hiun] at h1; cases h1
        · simp [Array.getElem?_eq_none h'] at h1
      have hnw := not_wt hw hd hj hiun
      have hin : ∀ t, t < 4 → nx + 4 * i + t ∈ avoid ops nx wt ((i, F) :: C) j := fun t ht => by
        unfold avoid
        rw [List.flatMap_cons]
        refine List.mem_append_left _ ?_
        simp only [hnw, Bool.false_eq_true, if_false]
        refine List.mem_append_left _ ?_
        have : t = 0 ∨ t = 1 ∨ t = 2 ∨ t = 3 := by omega
        rcases this with rfl | rfl | rfl | rfl <;> simp
      have hFin : isEff oj.op = true → ∀ id ∈ F, id ∈ avoid ops nx wt ((i, F) :: C) j := fun he id hid => by
        unfold avoid
        rw [List.flatMap_cons]
        refine List.mem_append_left _ ?_
        simp only [hnw, Bool.false_eq_true, if_false, hoj, Option.map_some, Option.getD_some, he, if_true]
        exact List.mem_append_right _ hid
      have hu : Apart u (avoid ops nx wt ((i, F) :: C) j) (nx + 4 * j) := fun p hp => by
        have := hy.new p hp
        exact ⟨by rw [this]; exact hin 0 (by omega), by omega⟩
      have h2 := hopIG_frame (F := F) (av' := avoid ops nx wt C j) hoj (hfree j oj hoj hji hjun hnot) hu (avoid_sub ops nx wt _ C j) (fun id hid => ⟨fun he => hFin he id hid, hy.live id hid⟩) (hf j hjun) h1
      have h3 := hopIG_fresh hf h2
      have hfree' : ∀ k ok, ops[k]? = some ok → k ≠ i → (listed.setIfInBounds j true).getD k true = false →
          (∀ e ∈ ok.after, Region.binds .any e = true → e.on ≠ i) → oi.apart ops ok = true := fun k ok hk hki hun hno => by
        refine hfree k ok hk hki ?_ hno
        by_cases hjk : j = k
        · subst hjk; exact hjun
        · rw [getD_set_ne true hjk] at hun; exact hun
      refine hopIG_mono (fun x hx => hx) (fun fr' ob' hK => ?_) h3
      obtain ⟨⟨hK, hA, hev, hgd⟩, hf'⟩ := hK
      refine ih (listed.setIfInBounds j true) fr' ob' (hd.set hj) hf' hfree' (ready_mono hr (Ne.symm hji)) ⟨fun fr2 ob2 e1 e2 e3 K hK' => ?_, hy.new, fun id hid => ?_⟩ ?_
      · exact hy.run fr2 ob2 (fun x hx => (e1 x hx).trans (hev x hx)) (e2.trans hgd) (fun id hid => (e3 id hid).trans (hA id hid)) K hK'
      · rw [hA id hid]; exact hy.live id hid
      · rw [Array.setIfInBounds_comm _ _ hji]
        exact hK

def hwalkG (P : Program) (ops : Array Oper) (nx : Nat) (wt : Nat → Nat → Bool) (Q : Fr → Ob → Prop) : List Nat → Pend → Fr → Ob → Prop
  | [], _, fr, ob => Q fr ob
  | i :: rest, C, fr, ob => hopIG P ops nx (avoid ops nx wt C i) i (hwalkG P ops nx wt Q rest (match ops[i]? with
      | some o => if isEff o.op = true then C else (i, if hguard ops o fr = some true then touch o.op (ev fr) else []) :: C
      | none => C)) fr ob

def planOk (ops : Array Oper) : List Nat → Array Bool → Bool
  | [], listed => (Region.ready .any ops listed).isEmpty
  | i :: rest, listed =>
    (match ops[i]? with
     | some o => if isEff o.op then decide (Region.ready .any ops listed = [i]) else (Region.ready .any ops listed).contains i && Region.free .any ops listed i
     | none => false) && planOk ops rest (listed.setIfInBounds i true)

theorem hAnyG_of_walk {P : Program} {ops : Array Oper} {nx : Nat} {wt : Nat → Nat → Bool} {Q : Fr → Ob → Prop} (hw : WtOk ops wt) : ∀ (plan : List Nat) (C : Pend) (listed : Array Bool) (fr : Fr) (ob : Ob), planOk ops plan listed = true → Down ops listed → Fresh nx listed ob →
    hwalkG P ops nx wt Q plan C fr ob → hAnyG P ops nx wt Q plan.length C listed fr ob
  | [], C, listed, fr, ob, hp, _, _, h => ⟨by simpa [planOk] using hp, h⟩
  | i :: rest, C, listed, fr, ob, hp, hd, hf, h => by
    simp only [planOk, Bool.and_eq_true] at hp
    obtain ⟨hp1, hp2⟩ := hp
    cases ho : ops[i]? with
    | none => rw [ho] at hp1; cases hp1
    | some o =>
      rw [ho] at hp1
      simp only at hp1
      have h' := hopIG_fresh hf h
      by_cases he : isEff o.op = true
      · rw [if_pos he, decide_eq_true_eq] at hp1
        have hi : i ∈ Region.ready .any ops listed := by rw [hp1]; simp
        refine ⟨fun h0 => (by rw [hp1] at h0; cases h0), fun j hj => ?_⟩
        rw [hp1] at hj
        have hji : j = i := by simpa using hj
        subst hji
        refine hopIG_mono (fun x hx => hx) (fun fr' ob' hK => ?_) h'
        obtain ⟨hK, hf'⟩ := hK
        simp only [ho, he, if_true] at hK
        exact hAnyG_of_walk hw rest C _ fr' ob' hp2 (hd.set hi) hf' hK
      · rw [if_neg he, Bool.and_eq_true] at hp1
        have hi : i ∈ Region.ready .any ops listed := by simpa using hp1.1
        have hfree := Region.free_spec ho hp1.2
        have he' : isEff o.op = false := by simpa using he
        -- what it yields
        have hy : ∃ v u, Yld P ops nx (avoid ops nx wt C i) i o fr ob v u (if hguard ops o fr = some true then touch o.op (ev fr) else []) ∧
            (hwalkG P ops nx wt Q rest ((i, if hguard ops o fr = some true then touch o.op (ev fr) else []) :: C) (updo fr o.dst v) (app u ob) ∧ Fresh nx (listed.setIfInBounds i true) (app u ob)) := by
          unfold hopIG at h'
          rw [ho] at h'
          simp only [he', Bool.false_eq_true, if_false] at h'
          cases hg : hguard ops o fr with
          | none => rw [hg] at h'; exact h'.elim
          | some b =>
            rw [hg] at h'
            cases b with
            | false =>
              refine ⟨.tup [], none, ⟨fun fr2 ob2 e1 e2 e3 K hK => ?_, by simp, by simp⟩, ?_⟩
              · unfold hopIG
                rw [ho]
                simp only [e2, hg]
                exact hK
              · simpa [app] using h'
            | true =>
              simp only at h'
              unfold hstepG at h'
              have hc : hcallOf o.op = none := by
                cases hop : o.op <;> simp only [hcallOf]
                rename_i c
                cases hcal : c.callee with
                | value f => rw [hop] at he'; simp only [isEff, hcal] at he'; cases he'
                | _ => rfl
              rw [hc] at h'
              simp only at h'
              obtain ⟨ht, h'⟩ := h'
              obtain ⟨v, u, hK, hform, hid⟩ := hop2_form h'
              refine ⟨v, u, ⟨fun fr2 ob2 e1 e2 e3 K hK => ?_, fun p hp => ?_, fun id hid => ?_⟩, ?_⟩
              · unfold hopIG
                rw [ho]
                simp only [e2, hg]
                refine hstepG_congr (e := ev fr) e1 ?_
                unfold hstepG
                rw [hc]
                simp only [if_true] at e3 ⊢
                exact ⟨fun id hid => ⟨(ht id hid).1, by rw [e3 id hid]; exact (ht id hid).2⟩, hform ob2 e3 _ hK⟩
              · rcases hid p hp with h1 | ⟨h1, _⟩
                · exact h1
                · rw [he'] at h1; cases h1
              · simp only [if_true] at hid
                exact (ht id hid).2
              · simpa [hg] using hK
        obtain ⟨v, u, hy, hK, hf'⟩ := hy
        exact hAnyG_first ho hw rest.length listed fr ob hd hf hfree hi hy (hAnyG_of_walk hw rest _ _ _ _ hp2 (hd.set hi) hf' hK)
end Go.Hl

namespace Go.Hl
open Go

section
variable {P : Program} {c : Ctx} {M M' : Nat → Prop} {fr : Fr} {ob : Ob} {a : Act} {w : World} {ρ : Env}

theorem getD_tmps {a : Act} {d : Nat} {v : Value} (h : a.tmps.getD d undef = v) (hv : v ≠ undef) : a.tmps[d]? = some v := by
  rw [Array.getD_eq_getD_getElem?] at h
  cases hx : a.tmps[d]? with
  | none => rw [hx] at h; exact absurd h.symm hv
  | some x => rw [hx] at h; rw [← h]; rfl

theorem hguard_wanted (h : RepA' c M fr ob a w ρ) {ops : Array Oper} {o : Oper} {b : Bool} (hg : hguard ops o fr = some b) : Region.wanted o (yielded ops a.tmps) = b := by
  unfold hguard at hg
  unfold Region.wanted
  split at hg
  · rename_i hn; rw [hn]; cases hg; rfl
  · rename_i j want hn
    rw [hn]
    split at hg
    · rename_i d hd
      split at hg
      · rename_i t ht
        cases hg
        have hr := h.f d (by rw [ht]; simp)
        rw [ht] at hr
        have := getD_tmps hr.bool (by simp [undef])
        simp only [yielded, hd, Option.bind_some, this]
        cases t <;> cases want <;> rfl
      · rename_i l ht
        cases hg
        have hr := repV_ref (h.f d (by rw [ht]; simp)) (by rw [ht]; rfl)
        rw [ht] at hr
        simp only [RepH, List.cons.injEq, and_true] at hr
        obtain ⟨⟨xs, hx, _⟩, _⟩ := hr
        have : yielded ops a.tmps j = none := by
          simp only [yielded, hd, Option.bind_some]
          rw [Array.getD_eq_getD_getElem?] at hx
          cases hq : a.tmps[d]? with
          | none => rfl
          | some y => rw [hq] at hx; simp only [Option.getD_some] at hx; rw [hx]
        simp only [this]
        rfl
      · cases hg
    · cases hg

theorem repHV_append {w : World} {ρ : Env} {O : Nat → Prop} : ∀ {l l' : List HV} {xs ys : List Value}, RepHV w ρ O l xs → RepHV w ρ O l' ys → RepHV w ρ O (l ++ l') (xs ++ ys)
  | [], _, xs, ys, h, h' => by simp only [RepHV] at h; subst h; simpa using h'
  | v :: vs, l', xs, ys, h, h' => by
    rw [repHV_cons] at h
    obtain ⟨z, zs, rfl, h1, h2⟩ := h
    rw [List.cons_append, repHV_cons]
    exact ⟨z, zs ++ ys, rfl, h1, repHV_append h2 h'⟩

theorem repHV_den (h : RepA' c M fr ob a w ρ) : ∀ (l : List Operand), (∀ x ∈ l, ev fr x ≠ .junk) → RepHV w ρ (Owned ρ c.X) (l.map fun x => (ev fr x).den) (l.map a.eval)
  | [], _ => by simp [RepHV]
  | x :: xs, hj => by
    simp only [List.map_cons, repHV_cons]
    exact ⟨_, _, rfl, HV.den_rep (h.ev x (hj _ (by simp))), repHV_den h xs (fun y hy => hj y (by simp [hy]))⟩

theorem hstepG_sound {Q : Exit → Act → World → Prop} (h : RepA' c M fr ob a w ρ) {nid : Nat} (hnid : ∀ t, t < 4 → ¬ M (nid + t)) (hM : ∀ i, M i → M' i) (hM' : ∀ t, t < 4 → M' (nid + t)) {av : List Nat} {o : Oper} {K : HV → Ob → Prop}
    (hl : hstepG P av nid o.op (ev fr) ob K) (hd : ∀ k, o.dst = some k → k < c.n) : o.wp P a w (fun a' w' => ∃ v ob', K v ob' ∧ RepA c M' (updo fr o.dst v) ob' a' w') Q := by
  unfold hstepG at hl
  split at hl
  · rename_i f xs hc
    obtain ⟨hj, hl⟩ := hl
    have hop : ∃ cl : Call, o.op = .call cl ∧ cl.callee = .value f ∧ cl.args.toList = xs := by
      unfold hcallOf at hc
      split at hc
      · rename_i cl hcl
        split at hc
        · rename_i g hg; cases hc; exact ⟨cl, hcl, hg, rfl⟩
        · cases hc
      · cases hc
    obtain ⟨cl, hocl, hcal, hargs⟩ := hop
    have hr := repHV_den h xs hj
    have hargs' : cl.args.map a.eval = (xs.map a.eval).toArray := by rw [← hargs, ← Array.toList_map, Array.toArray_toList]
    have fin : ∀ (g : FuncId) (first : Array Value) (caps : List Value) (extra : List HV), a.eval f = .func (.func g) #[] caps.toArray → RepHV w ρ (Owned ρ c.X) extra caps → HV.menL M extra → HCall P av g ((xs.map fun x => (ev fr x).den) ++ extra) ob nid K →
        o.wp P a w (fun a' w' => ∃ v ob', K v ob' ∧ RepA c M' (updo fr o.dst v) ob' a' w') Q := by
      intro g first caps extra hf hex _ hcallx
      have happ : RepHV w ρ (Owned ρ c.X) ((xs.map fun x => (ev fr x).den) ++ extra) (xs.map a.eval ++ caps) := repHV_append hr hex
      obtain ⟨hok, hcalls⟩ := hcall_sound h hnid hM hM' happ hcallx o.dst hd
      unfold Oper.wp
      have hnn : ∃ fn, P.funcs[g]? = some fn ∧ fn.name ≠ "runtime.NumGoroutine" := by
        unfold fnOk at hok
        cases hfn : P.funcs[g]? with
        | none => rw [hfn] at hok; cases hok
        | some fn =>
          rw [hfn] at hok
          exact ⟨fn, rfl, by simpa using hok⟩
      obtain ⟨fn, hfn, hnm⟩ := hnn
      rcases hcalls with ⟨hok, hcalls⟩ | ⟨_, y, hrn, hcalls⟩
      rotate_left
      · obtain ⟨y', v, ob', ρ', e, hK, hA⟩ := hcalls
        cases e
        have hrun : (execOp a.eval o).run P w = .ok (.value y) w := by
          rw [← hrn]
          simp [execOp, hocl, resolve, hcal, hf, Deferred.ofValue, invoke, hargs']
        rw [hrun]
        exact ⟨v, ob', hK, ρ', hA⟩
      have hrun : (execOp a.eval o).run P w = .ok (.enter g (xs.map a.eval ++ caps).toArray) w := by
        unfold callOk at hok
        cases hfn : P.funcs[g]? with
        | none => rw [hfn] at hok; cases hok
        | some fn =>
          rw [hfn] at hok
          simp only [Bool.and_eq_true, Bool.not_eq_true'] at hok
          have hb : fn.body ≠ none := by intro e; rw [e] at hok; simp at hok
          have hnm : fn.name ≠ "runtime.NumGoroutine" := by simpa using hok.2
          simp [execOp, hocl, resolve, hcal, hf, Deferred.ofValue, invoke, callFunc, hfn, hnm, hb, hargs']
      rw [hrun]
      simp only [Oper.upon]
      refine hcalls.mono ?_
      rintro e w' ⟨y, v, ob', ρ', rfl, hK, hA⟩
      exact ⟨v, ob', hK, ρ', hA⟩
    split at hl
    · rename_i g hf
      have hrf := h.ev f (by rw [hf]; simp)
      rw [hf] at hrf
      have := hrf.single rfl
      simp only [RepC, List.cons.injEq, and_true] at this
      exact fin g #[] [] [] this (by simp [RepHV]) (by simp [HV.menL]) (by simpa using hl)
    · rename_i g caps hf
      have hrf := repV_ref (h.ev f (by rw [hf]; simp)) (by rw [hf]; rfl)
      have hm := h.evm f
      rw [hf] at hrf hm
      simp only [RepH, List.cons.injEq, and_true, HV.men] at hrf hm
      obtain ⟨⟨ys, hy, hys⟩, _⟩ := hrf
      exact fin g #[] ys caps hy hys hm hl
    · exact hl.elim
  · obtain ⟨_, hl⟩ := hl
    rcases hl with hl | ⟨id, hm, hl⟩
    · obtain ⟨y, w', ⟨v, ob', ρ', hK, hA⟩, hr⟩ := hop_sound (M' := M') h (by simpa using hnid 0 (by omega)) hM (by simpa using hM' 0 (by omega)) hl hd
      unfold Oper.wp
      rcases hr with hr | ⟨hr, rfl⟩
      · rw [hr]; exact ⟨v, ob', hK, ρ', hA⟩
      · rw [hr]; exact ⟨v, ob', hK, ρ', hA⟩
    · obtain ⟨y, w', ⟨v, ob', ρ', ⟨n, el, sz, l, rfl, rfl, hn, hK⟩, hA⟩, hr⟩ := hop_sound (M' := M') h (by simpa using hnid 0 (by omega)) hM (by simpa using hM' 0 (by omega)) hl hd
      obtain ⟨ρ2, hA2⟩ := hA.die hn
      unfold Oper.wp
      rcases hr with hr | ⟨hr, rfl⟩
      · rw [hr]; exact ⟨_, _, hK, ρ2, hA2⟩
      · rw [hr]; exact ⟨_, _, hK, ρ2, hA2⟩
end
end Go.Hl

namespace Go.Hl
open Go

section
variable {P : Program} {c : Ctx} {M M' : Nat → Prop} {fr : Fr} {ob : Ob} {a : Act} {w : World} {ρ : Env}

theorem RepA.mono (h : RepA c M fr ob a w) (hM : ∀ i, M i → M' i) : RepA c M' fr ob a w := let ⟨ρ, h⟩ := h; ⟨ρ, h.weaken hM⟩

theorem undef_rep (w : World) (ρ : Env) (O : Nat → Prop) : RepV w ρ O (.tup []) undef := ⟨by simp only [RepH]; exact ⟨[], rfl, by simp [RepHV]⟩, rfl⟩

theorem hopIG_sound {Q : Exit → Act → World → Prop} {ops : Array Oper} {nx i : Nat} {av : List Nat} {K : Fr → Ob → Prop} (h : RepA c M fr ob a w) (hnid : ∀ t, t < 4 → ¬ M (nx + 4 * i + t)) (hM : ∀ i, M i → M' i) (hM' : ∀ t, t < 4 → M' (nx + 4 * i + t))
    (hd : ∀ o ∈ ops, ∀ k, o.dst = some k → k < c.n) (hl : hopIG P ops nx av i K fr ob) : wpOp P ops Q i (fun a' w' => ∃ fr' ob', K fr' ob' ∧ RepA c M' fr' ob' a' w') a w := by
  obtain ⟨ρ, h⟩ := h
  unfold hopIG at hl
  unfold wpOp
  cases ho : ops[i]? with
  | none => rw [ho] at hl; exact hl.elim
  | some o =>
    rw [ho] at hl
    simp only at hl ⊢
    have hdo := hd o (Array.mem_of_getElem? ho)
    cases hg : hguard ops o fr with
    | none => rw [hg] at hl; exact hl.elim
    | some b =>
      rw [hg] at hl
      rw [hguard_wanted h hg]
      cases b with
      | true =>
        simp only [if_true] at hl ⊢
        refine .inl (Oper.wp_mono (fun a' w' hx => ?_) (hstepG_sound (Q := Q) h hnid hM hM' hl hdo))
        obtain ⟨v, ob', hK, hA⟩ := hx
        exact ⟨_, ob', hK, hA⟩
      | false =>
        simp only [Bool.false_eq_true, if_false] at hl ⊢
        exact ⟨_, ob, hl, ρ, (h.value (.inr (undef_rep _ _ _)) (by simp [HV.men, HV.menL]) hdo).weaken hM⟩

def hlexG (P : Program) (ops : Array Oper) (nx : Nat) (Q : Fr → Ob → Prop) : List Nat → Fr → Ob → Prop
  | [], fr, ob => Q fr ob
  | i :: rest, fr, ob => hopIG P ops nx [] i (hlexG P ops nx Q rest) fr ob

theorem hlexG_sound {Q : Exit → Act → World → Prop} {ops : Array Oper} {nx : Nat} {K : Fr → Ob → Prop} (hd : ∀ o ∈ ops, ∀ k, o.dst = some k → k < c.n) (N : Nat)
    (hQ : ∀ fr ob a w, K fr ob → RepA c (· < nx + 4 * N) fr ob a w → Q .normal a w) : ∀ (n k : Nat) (fr : Fr) (ob : Ob) (a : Act) (w : World), k + n = N → RepA c (· < nx + 4 * k) fr ob a w → hlexG P ops nx K (List.range' k n) fr ob → wpOps P ops Q (List.range' k n) a w
  | 0, k, fr, ob, a, w, hk, h, hl => by
    simp only [List.range'_zero, hlexG, wpOps] at hl ⊢
    exact hQ fr ob a w hl (by have : k = N := by omega
                              subst this; exact h)
  | n + 1, k, fr, ob, a, w, hk, h, hl => by
    simp only [List.range'_succ, hlexG, wpOps_cons] at hl ⊢
    refine wpOp_mono (fun a' w' hx => ?_) (hopIG_sound (Q := Q) (M' := (· < nx + 4 * (k + 1))) h (fun t ht => by omega) (fun i hi => by omega) (fun t ht => by omega) hd hl)
    obtain ⟨fr', ob', hK, hA⟩ := hx
    exact hlexG_sound hd N hQ n (k + 1) fr' ob' a' w' (by omega) hA hK

def hstep (P : Program) (av : List Nat) (nid : Nat) (o : Op) (e : Operand → HV) (ob : Ob) (K : HV → Ob → Prop) : Prop :=
  match hcallOf o with
  | some (f, xs) => (∀ x ∈ xs, e x ≠ .junk) ∧ match e f with
    | .c (.fn g) => HCall P av g (xs.map fun x => (e x).den) ob nid K
    | .clo g caps => HCall P av g ((xs.map fun x => (e x).den) ++ caps) ob nid K
    | _ => False
  | none => (∀ id ∈ touch o e, id ∉ av ∧ (ob id).isSome = true) ∧ hop P nid o e ob K
def hopI (P : Program) (ops : Array Oper) (nx : Nat) (av : List Nat) (i : Nat) (K : Fr → Ob → Prop) (fr : Fr) (ob : Ob) : Prop :=
  match ops[i]? with
  | none => False
  | some o => match hguard ops o fr with
    | some true => hstep P av (nx + 4 * i) o.op (ev fr) ob fun v ob' => K (updo fr o.dst v) ob'
    | some false => K (updo fr o.dst (.tup [])) ob
    | none => False
def hlex (P : Program) (ops : Array Oper) (nx : Nat) (Q : Fr → Ob → Prop) : List Nat → Fr → Ob → Prop
  | [], fr, ob => Q fr ob
  | i :: rest, fr, ob => hopI P ops nx [] i (hlex P ops nx Q rest) fr ob
theorem hstep_G {P : Program} {av : List Nat} {nid : Nat} {o : Op} {e : Operand → HV} {ob : Ob} {K : HV → Ob → Prop} (h : hstep P av nid o e ob K) : hstepG P av nid o e ob K := by
  unfold hstep at h
  unfold hstepG
  cases hc : hcallOf o with
  | some p => rw [hc] at h; exact h
  | none => rw [hc] at h; exact ⟨h.1, .inl h.2⟩
theorem hopI_G {P : Program} {ops : Array Oper} {nx : Nat} {av : List Nat} {i : Nat} {K K' : Fr → Ob → Prop} {fr : Fr} {ob : Ob} (hK : ∀ fr ob, K fr ob → K' fr ob) (h : hopI P ops nx av i K fr ob) : hopIG P ops nx av i K' fr ob := by
  refine hopIG_mono (K := K) (fun _ hx => hx) hK ?_
  unfold hopI at h
  unfold hopIG
  cases ho : ops[i]? with
  | none => rw [ho] at h; exact h.elim
  | some o =>
    rw [ho] at h
    simp only at h ⊢
    cases hg : hguard ops o fr with
    | none => rw [hg] at h; exact h.elim
    | some b =>
      rw [hg] at h
      cases b with
      | true => exact hstep_G h
      | false => exact h
theorem hlex_G {P : Program} {ops : Array Oper} {nx : Nat} {Q : Fr → Ob → Prop} : ∀ {l : List Nat} {fr : Fr} {ob : Ob}, hlex P ops nx Q l fr ob → hlexG P ops nx Q l fr ob
  | [], _, _, h => h
  | _ :: _, _, _, h => hopI_G (fun _ _ => hlex_G) h

def MReg (nx : Nat) (listed : Array Bool) (id : Nat) : Prop := id < nx ∨ ∃ i t, listed.getD i false = true ∧ t < 4 ∧ id = nx + 4 * i + t

theorem hAnyG_sound {Q : Exit → Act → World → Prop} {ops : Array Oper} {nx : Nat} {wt : Nat → Nat → Bool} {K : Fr → Ob → Prop} {C : Pend} (hd : ∀ o ∈ ops, ∀ k, o.dst = some k → k < c.n)
    (hQ : ∀ fr ob a w, K fr ob → RepA c (· < nx + 4 * ops.size) fr ob a w → Q .normal a w) : ∀ (n : Nat) (listed : Array Bool) (fr : Fr) (ob : Ob) (a : Act) (w : World), listed.size = ops.size → RepA c (MReg nx listed) fr ob a w →
    hAnyG P ops nx wt K n C listed fr ob → wpAny P .any ops Q n listed a w := by
  have fin : ∀ (listed : Array Bool) fr ob a w, listed.size = ops.size → K fr ob → RepA c (MReg nx listed) fr ob a w → Q .normal a w := fun listed fr ob a w hs hK hA => by
    refine hQ fr ob a w hK (hA.mono (fun id hid => ?_))
    rcases hid with h | ⟨i, t, h1, h2, rfl⟩
    · omega
    · have hi : i < listed.size := by
        rcases Nat.lt_or_ge i listed.size with h' | h'
        · exact h'
        · simp [Array.getElem?_eq_none h'] at h1
      omega
  intro n
  induction n with
  | zero => intro listed fr ob a w hs hA h; exact ⟨h.1, fin listed fr ob a w hs h.2 hA⟩
  | succ n ih =>
    intro listed fr ob a w hs hA h
    refine ⟨fun h0 => fin listed fr ob a w hs (h.1 h0) hA, fun i hi => ?_⟩
    obtain ⟨hun, oi, hoi, _⟩ := mem_ready.1 hi
    have hil : i < listed.size := by rw [hs]; exact (Array.getElem?_eq_some_iff.1 hoi).1
    have hun' : listed.getD i false = false := by simpa [hil] using hun
    refine wpOp_mono (fun a' w' hx => ?_) (hopIG_sound (Q := Q) (M' := MReg nx (listed.setIfInBounds i true)) hA (fun t ht => ?_) (fun id hid => ?_) (fun t ht => ?_) hd (h.2 i hi))
    · obtain ⟨fr', ob', hK, hA'⟩ := hx
      exact ih _ fr' ob' a' w' (by simp [hs]) hA' hK
    · rintro (h1 | ⟨j, t', h1, h2, h3⟩)
      · omega
      · have : j = i := by omega
        subst this
        rw [hun'] at h1; cases h1
    · rcases hid with h1 | ⟨j, t', h1, h2, h3⟩
      · exact .inl h1
      · exact .inr ⟨j, t', getD_set_true h1, h2, h3⟩
    · exact .inr ⟨i, t, by simp [hil], ht, rfl⟩
end

def dstOk (n : Nat) (ops : Array Oper) : Bool := ops.all fun o => match o.dst with | some k => decide (k < n) | none => true
theorem dstOk_spec {n : Nat} {ops : Array Oper} (h : dstOk n ops = true) : ∀ o ∈ ops, ∀ k, o.dst = some k → k < n := by
  intro o ho k hk
  have := Array.all_eq_true_iff_forall_mem.1 h o ho
  rw [hk] at this
  simpa using this

def wtOf (ms : List Nat) (j i : Nat) : Bool := (ms.getD j 0).testBit i
def wtOkB (ops : Array Oper) (ms : List Nat) : Bool :=
  (List.range ms.length).all fun j => (List.range ms.length).all fun i => !(wtOf ms j i) ||
    match ops[j]? with
    | some o => o.after.any fun e => Region.binds .any e && (e.on == i || (decide (e.on < j) && wtOf ms e.on i))
    | none => false
theorem testBit_big {m i n : Nat} (h : m < 2 ^ n) (hi : n ≤ i) : m.testBit i = false := Nat.testBit_lt_two_pow (Nat.lt_of_lt_of_le h (Nat.pow_le_pow_right (by omega) hi))
theorem wtOkB_spec {ops : Array Oper} {ms : List Nat} (h : wtOkB ops ms = true) (hm : ms.all (fun m => decide (m < 2 ^ ms.length)) = true) : WtOk ops (wtOf ms) := by
  intro j i hw
  have hj : j < ms.length := by
    rcases Nat.lt_or_ge j ms.length with h' | h'
    · exact h'
    · simp [wtOf, List.getElem?_eq_none h'] at hw
  have hi : i < ms.length := by
    rcases Nat.lt_or_ge i ms.length with h' | h'
    · exact h'
    · have h1 := List.all_eq_true.1 hm (ms.getD j 0) (by simp [hj])
      rw [wtOf, testBit_big (by simpa using h1) h'] at hw
      cases hw
  have h1 := List.all_eq_true.1 (List.all_eq_true.1 h j (List.mem_range.2 hj)) i (List.mem_range.2 hi)
  simp only [hw, Bool.not_true, Bool.false_or] at h1
  split at h1
  · rename_i o ho
    obtain ⟨e, he, hb⟩ := Array.any_eq_true'.1 h1
    simp only [Bool.and_eq_true, Bool.or_eq_true, beq_iff_eq, decide_eq_true_eq] at hb
    exact ⟨o, ho, e, he, hb.1, hb.2⟩
  · cases h1

abbrev HPost := Exit → Fr → Ob → Nat → Prop
def Hw (P : Program) (n k : Nat) (code : Code) (Q : HPost) (fr : Fr) (ob : Ob) (nx : Nat) : Prop :=
  ∀ (c : Ctx) (a : Act) (w : World), c.n = n → c.M0 = (· < k) → RepA c (· < nx) fr ob a w → code.wp P (fun e a' w' => ∃ fr' ob' nx', Q e fr' ob' nx' ∧ RepA c (· < nx') fr' ob' a' w') a w

def hthen (K : Fr → Ob → Nat → Prop) (Q : HPost) : HPost
  | .normal => K
  | e => Q e
def hblk (id : Nat) (Q : HPost) : HPost
  | .exit id' => if id' = id then Q .normal else Q (.exit id')
  | e => Q e

section
variable {P : Program} {n k : Nat} {Q : HPost} {fr : Fr} {ob : Ob} {nx : Nat}

theorem Hw.mono {code : Code} {Q' : HPost} (h : Hw P n k code Q fr ob nx) (hq : ∀ e fr ob nx, Q e fr ob nx → Q' e fr ob nx) : Hw P n k code Q' fr ob nx :=
  fun c a w hn hk hA => wp_mono (h c a w hn hk hA) (fun _ _ _ ⟨fr', ob', nx', h1, h2⟩ => ⟨fr', ob', nx', hq _ _ _ _ h1, h2⟩)
theorem hw_skip (h : Q .normal fr ob nx) : Hw P n k .skip Q fr ob nx := fun _ _ _ _ _ hA => wp_skip ⟨fr, ob, nx, h, hA⟩
theorem hw_exit {id : Nat} (h : Q (.exit id) fr ob nx) : Hw P n k (.exit id) Q fr ob nx := fun _ _ _ _ _ hA => wp_exit ⟨fr, ob, nx, h, hA⟩
theorem hw_ret (h : Q .ret fr ob nx) : Hw P n k .ret Q fr ob nx := fun _ _ _ _ _ hA => wp_ret ⟨fr, ob, nx, h, hA⟩
theorem hw_seq {x y : Code} (h : ∀ K : Fr → Ob → Nat → Prop, (∀ fr ob nx, Hw P n k y Q fr ob nx → K fr ob nx) → Hw P n k x (hthen K Q) fr ob nx) : Hw P n k (.seq x y) Q fr ob nx := by
  intro c a w hn hk hA
  have := h (Hw P n k y Q) (fun _ _ _ h => h) c a w hn hk hA
  refine wp_seq (wp_mono this fun e a' w' hx => ?_)
  obtain ⟨fr', ob', nx', h1, h2⟩ := hx
  cases e with
  | normal => exact h1 c a' w' hn hk h2
  | _ => exact ⟨fr', ob', nx', h1, h2⟩
theorem hw_cond {x y : Code} {o : Operand} {b : Bool} (hb : ev fr o = .c (.bool b)) (h1 : b = true → Hw P n k x Q fr ob nx) (h2 : b = false → Hw P n k y Q fr ob nx) : Hw P n k (.cond o x y) Q fr ob nx := by
  intro c a w hn hk hA
  obtain ⟨ρ, hA'⟩ := hA
  have := bool_of hA' hb
  exact wp_cond_split this (fun e => h1 e c a w hn hk ⟨ρ, hA'⟩) (fun e => h2 e c a w hn hk ⟨ρ, hA'⟩)
theorem hw_block {id : Nat} {x : Code} (h : Hw P n k x (hblk id Q) fr ob nx) : Hw P n k (.block id x) Q fr ob nx := by
  intro c a w hn hk hA
  refine wp_block (wp_mono (h c a w hn hk hA) fun e a' w' hx => ?_)
  obtain ⟨fr', ob', nx', h1, h2⟩ := hx
  cases e with
  | exit id' =>
    simp only [Exit.inBlock, hblk] at h1 ⊢
    by_cases hid : id' = id
    · rw [if_pos hid] at h1 ⊢; exact ⟨fr', ob', nx', h1, h2⟩
    · rw [if_neg hid] at h1 ⊢; exact ⟨fr', ob', nx', h1, h2⟩
  | _ => exact ⟨fr', ob', nx', h1, h2⟩
theorem hw_regionG {id : Nat} {ops : Array Oper} (hd : dstOk n ops = true) (h : hlexG P ops nx (fun fr' ob' => Q .normal fr' ob' (nx + 4 * ops.size)) (List.range ops.size) fr ob) : Hw P n k (.region id ops false) Q fr ob nx := by
  intro c a w hn hk hA
  refine wp_region ?_
  rw [List.range_eq_range'] at h ⊢
  exact hlexG_sound (c := c) (by rw [hn]; exact dstOk_spec hd) ops.size (fun fr' ob' a' w' hK hA' => ⟨fr', ob', _, hK, hA'⟩) ops.size 0 fr ob a w (by omega) hA h
theorem hw_region {id : Nat} {ops : Array Oper} (hd : dstOk n ops = true) (h : hlex P ops nx (fun fr' ob' => Q .normal fr' ob' (nx + 4 * ops.size)) (List.range ops.size) fr ob) : Hw P n k (.region id ops false) Q fr ob nx :=
  hw_regionG hd (hlex_G h)
theorem hw_draw {id : Nat} {ops : Array Oper} (hm : P.follows .mixedOrders = true) (plan ms : List Nat) (hd : dstOk n ops = true) (hp : planOk ops plan (Array.replicate ops.size false) = true) (hw1 : wtOkB ops ms = true) (hw2 : ms.all (fun m => decide (m < 2 ^ ms.length)) = true) (hl : plan.length = ops.size)
    (h : hwalkG P ops nx (wtOf ms) (fun fr' ob' => Q .normal fr' ob' (nx + 4 * ops.size)) plan [] fr ob) : Hw P n k (.region id ops true) Q fr ob nx := by
  intro c a w hn hk hA
  refine wp_region_any hm ?_
  have hA0 : RepA c (MReg nx (Array.replicate ops.size false)) fr ob a w := hA.mono (fun i hi => .inl hi)
  have hfresh : Fresh nx (Array.replicate ops.size false) ob := by
    intro j _ t _
    obtain ⟨ρ, hA'⟩ := hA
    exact (hA'.nid_none (nid := nx + 4 * j + t) (by omega)).1
  have hdown : Down ops (Array.replicate ops.size false) := by
    intro j o _ hl
    rw [getD_replicate_false] at hl; cases hl
  have hany := hAnyG_of_walk (wtOkB_spec hw1 hw2) plan [] _ fr ob hp hdown hfresh h
  rw [hl] at hany
  obtain ⟨ρ, hA1⟩ := hA0
  refine hAnyG_sound (c := c) (by rw [hn]; exact dstOk_spec hd) (fun fr' ob' a' w' hK hA' => ⟨fr', ob', _, hK, hA'⟩) ops.size _ fr ob a _ (by simp) ⟨ρ, ?_⟩ hany
  exact ⟨⟨fun id o ho => by
      have := hA1.s.objs id o ho
      exact RepO.stay (w := w) (ρ := ρ) (M := fun _ => True) ⟨fun b hb hO => ⟨rfl, hO⟩⟩ (Moves.refl _ _) (by cases o with | box t v => exact HV.men_mono (fun _ _ => trivial) (hA1.mo id _ ho).2 | row _ _ _ => trivial | mp _ _ _ => trivial | dead => trivial) rfl (fun _ _ _ _ => rfl) this, hA1.s.none, hA1.s.apart, hA1.s.xb⟩,
    fun t ht => ⟨RepH.stay (w := w) (w' := { w with drawn := w.drawn + 1 }) (ρ := ρ) (O := Owned ρ c.X) (M := fun _ => True) ⟨fun b hb hO => ⟨rfl, hO⟩⟩ (Moves.refl _ _) (HV.men_mono (fun _ _ => trivial) (hA1.mf t)) (hA1.f t ht).1, (hA1.f t ht).2⟩, hA1.mf, hA1.mo, hA1.m0,
    ⟨hA1.base.block, hA1.base.own, hA1.base.size, hA1.base.os, hA1.base.tape, hA1.base.output⟩, hA1.moves, hA1.defers, hA1.size, hA1.xlt⟩

structure Fits (k : Nat) (fr : Fr) (ob : Ob) (fr2 : Fr) (ob2 : Ob) (nx2 : Nat) : Prop where
  f : ∀ t, fr2 t = .junk ∨ fr2 t = fr t
  o : ∀ id o, ob2 id = some o → ob id = some o
  mf : ∀ t, (fr2 t).men (· < nx2)
  mo : ∀ id o, ob2 id = some o → id < nx2 ∧ o.men (· < nx2)
  k : k ≤ nx2

theorem RepA.fits {c : Ctx} {a : Act} {w : World} {fr2 : Fr} {ob2 : Ob} {nx2 : Nat} {M : Nat → Prop} (hk : c.M0 = (· < k)) (h : RepA c M fr ob a w) (hf : Fits k fr ob fr2 ob2 nx2) : RepA c (· < nx2) fr2 ob2 a w := by
  obtain ⟨ρ, h⟩ := h
  let ρ2 : Env := fun id => match ob2 id with | some _ => ρ id | none => none
  have hρ2 : ∀ id L, ρ2 id = some L → ρ id = some L := fun id L hL => by
    simp only [ρ2] at hL
    split at hL
    · exact hL
    · cases hL
  have hown : ∀ b, Own ρ2 b → Own ρ b := fun b ⟨id, L, h1, h2⟩ => ⟨id, L, hρ2 id L h1, h2⟩
  have hst : Stay w (Owned ρ c.X) w (Owned ρ2 c.X) := Stay.same (fun b _ hb => hb.imp id (hown b))
  have hmv : ∀ M, Moves M ρ ρ2 := fun M id L _ hL => ⟨L, hρ2 id L hL, .inl rfl⟩
  refine ⟨ρ2, ⟨fun id o ho => ?_, fun id hid => ?_, fun id id' L L' b h1 h2 h3 h4 => h.s.apart id id' L L' b (hρ2 _ _ h1) (hρ2 _ _ h2) h3 h4, fun id L b h1 h2 => h.s.xb id L b (hρ2 _ _ h1) h2⟩, fun t ht => ?_, hf.mf, hf.mo, ?_, ?_, ?_, h.defers, h.size, h.xlt⟩
  · have hid : ρ2 id = ρ id := by simp only [ρ2, ho]
    exact RepO.stay hst (hmv M) (h.mo id o (hf.o id o ho)).2 hid (fun _ _ _ _ => rfl) (h.s.objs id o (hf.o id o ho))
  · simp only [ρ2, hid]
  · rcases hf.f t with e | e
    · exact absurd e ht
    · rw [e] at ht ⊢
      exact ⟨RepH.stay hst (hmv M) (h.mf t) (h.f t ht).1, (h.f t ht).2⟩
  · intro id hid
    rw [hk] at hid
    exact Nat.lt_of_lt_of_le hid hf.k
  · exact h.base.trans ⟨fun _ _ _ => rfl, fun b hb => .inl (hown b hb), Nat.le_refl _, rfl, rfl, rfl⟩
  · exact Moves.trans (fun _ h => h) h.moves (hmv _)

theorem hw_fits {code : Code} {fr2 : Fr} {ob2 : Ob} {nx2 : Nat} (hf : Fits k fr ob fr2 ob2 nx2) (h : Hw P n k code Q fr2 ob2 nx2) : Hw P n k code Q fr ob nx :=
  fun c a w hn hk hA => h c a w hn hk (hA.fits hk hf)

theorem hw_loop {α : Type} {x : Code} (inv : α → Fr × Ob) (nx2 : Nat) (μ : α → Nat) (x0 : α) (h0 : Fits k fr ob (inv x0).1 (inv x0).2 nx2)
    (round : ∀ y, Hw P n k x (hthen (fun fr' ob' _ => ∃ y', Fits k fr' ob' (inv y').1 (inv y').2 nx2 ∧ μ y' < μ y) Q) (inv y).1 (inv y).2 nx2) : Hw P n k (.loop x) Q fr ob nx := by
  intro c a w hn hk hA b kk cs
  have key : ∀ (m : Nat) (y : α) (a : Act) (w : World), μ y = m → RepA c (· < nx2) (inv y).1 (inv y).2 a w →
      ∃ e a' w', (∃ fr' ob' nx', Q e fr' ob' nx' ∧ RepA c (· < nx') fr' ob' a' w') ∧ Arrives P (lone (b.at a (.code x :: .inLoop x :: kk)) cs w) b kk cs e a' w' := by
    intro m
    induction m using Nat.strongRecOn with
    | _ m ih =>
      intro y a w hy hA
      obtain ⟨e, a₁, w₁, hq, harr⟩ := round y c a w hn hk hA b (.inLoop x :: kk) cs
      cases e with
      | normal =>
        obtain ⟨fr', ob', nx', ⟨y', hf, hlt⟩, hA'⟩ := hq
        obtain ⟨e₂, a₂, w₂, hq₂, harr₂⟩ := ih (μ y') (by omega) y' a₁ w₁ rfl (hA'.fits hk hf)
        exact ⟨e₂, a₂, w₂, hq₂, .of_steps (Steps.trans harr (.one step_inLoop)) harr₂⟩
      | exit id => exact ⟨_, a₁, w₁, hq, .pass (x := .inLoop x) rfl (fun _ _ => .inl (by simp)) harr⟩
      | goto l => exact ⟨_, a₁, w₁, hq, .pass (x := .inLoop x) rfl (fun _ _ => .inl (by simp)) harr⟩
      | ret => exact ⟨_, a₁, w₁, hq, .pass (x := .inLoop x) rfl (fun _ _ => .inl (by simp)) harr⟩
      | panic ch => exact ⟨_, a₁, w₁, hq, .pass (x := .inLoop x) rfl (fun _ _ => .inl (by simp)) harr⟩
      | outgrown => exact ⟨_, a₁, w₁, hq, .pass (x := .inLoop x) rfl (fun _ _ => .inl (by simp)) harr⟩
  obtain ⟨e, a', w', hq, harr⟩ := key _ x0 a w rfl (hA.fits hk h0)
  exact ⟨e, a', w', hq, .of_steps (.one step_loop) harr⟩
end
end Go.Hl

namespace Go.Hl
open Go

def hres1 (P : Program) (fr : Fr) (ob : Ob) (r : ResultVar) (K : HV → Prop) : Prop :=
  match r with
  | .tmp t => fr t ≠ .junk ∧ K (fr t)
  | .cell t ty => hlift (tyOf P ty) fun ti => HO.isBox (match fr t with | .ptr id _ => ob id | _ => none) = true ∧ hload ti (fr t) ob K
def hresL (P : Program) (fr : Fr) (ob : Ob) : List ResultVar → (List HV → Prop) → Prop
  | [], K => K []
  | r :: rs, K => hres1 P fr ob r fun v => hresL P fr ob rs fun vs => K (v :: vs)
def tupOf (l : List HV) : HV := match l with | [v] => v | l => .tup l

def HRet (k : Nat) (r : HV) (ob : Ob) (R : HV → Ob → Prop) : Prop :=
  ∃ (cl : List Nat) (τ : Nat → Nat) (r' : HV) (ob' : Ob), R r' ob' ∧ (r.close ob cl).norm = r'.ren τ ∧ (∀ j, j < k → τ j = j) ∧ (∀ i j, i < k + 4 → j < k + 4 → τ i = τ j → i = j) ∧ r'.men (· < k + 4) ∧
    ∀ j o, ob' j = some o → j < k + 4 ∧ o.men (· < k + 4) ∧ τ j ∉ cl ∧ ∃ o0, ob (τ j) = some o0 ∧ (match o0 with | .box t v => HO.box t (v.close ob cl).norm | .row e sz l => .row e sz l | .mp e sz D => .mp e sz D | .dead => .dead) = o.ren τ

def hpost (P : Program) (rs : List ResultVar) (k : Nat) (R : HV → Ob → Prop) : HPost := fun e fr ob _ =>
  match e with
  | .normal | .ret => hresL P fr ob rs fun vs => HRet k (tupOf vs) ob R
  | _ => False

section
variable {P : Program} {c : Ctx} {M : Nat → Prop} {fr : Fr} {ob : Ob} {a : Act} {w : World} {ρ : Env}

def resOf (tm : Array Value) (r : ResultVar) : Sem Value :=
  match r with
  | .tmp t => pure (tm.getD t undef)
  | .cell ad t => do loadVar t (← asAddr (tm.getD ad undef))

theorem hres1_sound (h : RepA' c M fr ob a w ρ) {r : ResultVar} {K : HV → Prop} (hl : hres1 P fr ob r K) :
    ∃ v x, K v ∧ RepV w ρ (Owned ρ c.X) v x ∧ (resOf a.tmps r).run P w = .ok x w := by
  cases r with
  | tmp t => exact ⟨_, _, hl.2, h.f t hl.1, rfl⟩
  | cell ad t =>
    simp only [hres1] at hl
    rw [hlift_iff] at hl
    obtain ⟨ti, ht, hb, hl⟩ := hl
    obtain ⟨u, y, hK, hr, hv, _⟩ := load_sound (P := P) h ht (x := .tmp ad) hl
    refine ⟨u, y, hK, hv, ?_⟩
    have hp : ∃ p, a.tmps.getD ad undef = .pointer (some p) := by
      cases hf : fr ad with
      | ptr id off =>
        rw [hf] at hb
        obtain ⟨b, _, he⟩ := ptr_live (x := .tmp ad) h hf hb
        exact ⟨_, he⟩
      | _ => rw [hf] at hb; cases hb
    obtain ⟨p, hp⟩ := hp
    have hr' : (Instr.loadAt t (.pointer (some p))).run P w = .ok y w := by rw [← hp]; exact hr
    simp only [resOf, hp, asAddr, Sem.run_bind, Sem.run_pure, Result.andThen_ok]
    simpa [Instr.loadAt, Instr.sureAddr] using hr'

theorem hresL_sound (h : RepA' c M fr ob a w ρ) : ∀ {rs : List ResultVar} {K : List HV → Prop}, hresL P fr ob rs K →
    ∃ vs xs, K vs ∧ RepHV w ρ (Owned ρ c.X) vs xs ∧ (rs.mapM (resOf a.tmps)).run P w = .ok xs w
  | [], K, hl => ⟨[], [], hl, by simp [RepHV], by simp⟩
  | r :: rs, K, hl => by
    simp only [hresL] at hl
    obtain ⟨v, x, hK, hv, hr⟩ := hres1_sound h hl
    obtain ⟨vs, xs, hK2, hvs, hrs⟩ := hresL_sound h hK
    refine ⟨v :: vs, x :: xs, hK2, by rw [repHV_cons]; exact ⟨x, xs, rfl, hv, hvs⟩, ?_⟩
    simp only [List.mapM_cons, Sem.run_bind, hr, hrs, Result.andThen_ok, Sem.run_pure]

theorem tupOf_rep {w : World} {ρ : Env} {O : Nat → Prop} {vs : List HV} {xs : List Value} (h : RepHV w ρ O vs xs) : RepV w ρ O (tupOf vs) (if h : xs.toArray.size = 1 then xs.toArray[0] else .tuple xs.toArray) := by
  match vs, h with
  | [], h => simp only [RepHV] at h; subst h; exact ⟨by simp only [tupOf, RepH]; exact ⟨[], rfl, by simp [RepHV]⟩, rfl⟩
  | [v], h =>
    rw [repHV_cons] at h
    obtain ⟨y, ys, rfl, h1, h2⟩ := h
    simp only [RepHV] at h2
    subst h2
    simpa [tupOf] using h1
  | v :: u :: vs, h =>
    have hlen : ∀ {l : List HV} {xs : List Value}, RepHV w ρ O l xs → xs.length = l.length := by
      intro l
      induction l with
      | nil => intro xs h; simp only [RepHV] at h; simp [h]
      | cons x l ih => intro xs h; rw [repHV_cons] at h; obtain ⟨y, ys, rfl, _, h2⟩ := h; simp [ih h2]
    have hl := hlen h
    rw [dif_neg (by simp [hl])]
    exact ⟨by simp only [tupOf, RepH]; exact ⟨xs, rfl, h⟩, rfl⟩

theorem hfn_of_hw {f : FuncId} {fn : Func} {code : Code} {args : List HV} {k : Nat} {ob : Ob} {R : HV → Ob → Prop} (hf : P.funcs[f]? = some fn) (hb : fn.body = some code) (hok : callOk P f = true) (hloc : LocOk k args ob) (hn : args.length ≤ fn.ntmps)
    (h : Hw P fn.ntmps k code (hpost P fn.results.toList k R) (fun t => args.getD t .junk) ob k) : HFn P f args k ob R := by
  refine ⟨fnOk_of hok, fun w ρ X xs hS hA hX => Does.of hok ?_⟩
  have hlen : xs.length = args.length := by
    clear h hn hloc
    induction args generalizing xs with
    | nil => simp only [RepHV] at hA; simp [hA]
    | cons x l ih => rw [repHV_cons] at hA; obtain ⟨y, ys, rfl, _, h2⟩ := hA; simp [ih ys h2]
  refine calls_of_wp hf hb ?_
  let c : Ctx := { w0 := w, ρ0 := ρ, X := X, M0 := (· < k), n := fn.ntmps }
  have hget : ∀ (l : List HV) (ys : List Value) (t : Nat), RepHV w ρ (Owned ρ X) l ys → t < l.length → RepV w ρ (Owned ρ X) (l.getD t .junk) (ys.getD t undef) := by
    intro l
    induction l with
    | nil => intro ys t _ ht; simp at ht
    | cons x l ih =>
      intro ys t hl ht
      rw [repHV_cons] at hl
      obtain ⟨y, ys', rfl, h1, h2⟩ := hl
      cases t with
      | zero => simpa using h1
      | succ t => simpa using ih ys' t h2 (by simpa using ht)
  have hmen : ∀ (l : List HV) (t : Nat), HV.menL (· < k) l → (l.getD t .junk).men (· < k) := by
    intro l
    induction l with
    | nil => intro t _; simp [HV.men]
    | cons x l ih =>
      intro t hl
      simp only [HV.menL] at hl
      cases t with
      | zero => simpa using hl.1
      | succ t => simpa using ih t hl.2
  have h0 : RepA c (· < k) (fun t => args.getD t .junk) ob { tmps := xs.toArray ++ Array.replicate (fn.ntmps - xs.toArray.size) undef, defers := [] } w := by
    refine ⟨ρ, hS, fun t ht => ?_, fun t => hmen args t hloc.args, hloc.none, fun id hid => hid, Stay2.refl _ _, Moves.refl _ _, rfl, by simp [c]; omega, hX⟩
    have htl : t < args.length := by
      rcases Nat.lt_or_ge t args.length with h' | h'
      · exact h'
      · exact absurd (by simp [List.getElem?_eq_none h']) ht
    have := hget args xs t hA htl
    have e : (xs.toArray ++ Array.replicate (fn.ntmps - xs.toArray.size) undef).getD t undef = xs.getD t undef := by
      rw [Array.getD_eq_getD_getElem?, Array.getElem?_append_left (by simp; omega)]
      simp
    rw [e]; exact this
  refine wp_mono (h c _ w rfl rfl h0) ?_
  rintro e a' w' ⟨fr', ob', nx', hq, ρ', hA'⟩
  have fin : hresL P fr' ob' fn.results.toList (fun vs => HRet k (tupOf vs) ob' R) → a'.defers = [] ∧ ∃ v, (results fn a'.tmps).run P w' = .ok v w' ∧ ∃ r ob' ρ' x, Ending.returned v = Ending.returned x ∧ R r ob' ∧ Gave w ρ X k r ob' w' ρ' x := by
    intro hq
    refine ⟨hA'.defers, ?_⟩
    obtain ⟨vs, ys, ⟨cl, τ, r', ob2, hR, hr, ht1, ht2, hm, ho⟩, hvs, hrun⟩ := hresL_sound hA' hq
    refine ⟨(if h : ys.toArray.size = 1 then ys.toArray[0] else .tuple ys.toArray), ?_, r', ob2, ?_⟩
    · unfold results
      rw [Array.mapM_eq_mapM_toList]
      simp only [Sem.run_bind, Sem.run_map]
      have : (fn.results.toList.mapM (fun r => match r with | .tmp t => pure (a'.tmps.getD t undef) | .cell ad t => do loadVar t (← asAddr (a'.tmps.getD ad undef)) : ResultVar → Sem Value)).run P w' = .ok ys w' := hrun
      erw [this]
      rfl
    · let ρ2 : Env := fun id => match (if cl.contains id = true then none else ob' id) with | some _ => (if ∃ j, j < k + 4 ∧ τ j = id ∧ (ob2 j).isSome = true then ρ' id else none) | none => none
      have hρ2 : ∀ id L, ρ2 id = some L → ρ' id = some L := fun id L hL => by
        simp only [ρ2] at hL
        split at hL
        · split at hL
          · exact hL
          · cases hL
        · cases hL
      have hcl : ∀ id ∈ cl, ρ2 id = none := fun id hid => by
        have : cl.contains id = true := by simpa using hid
        simp only [ρ2, this, if_true]
      have hown : ∀ b, Own ρ2 b → Own ρ' b := fun b ⟨id, L, h1, h2⟩ => ⟨id, L, hρ2 id L h1, h2⟩
      have hst : Stay w' (Owned ρ' X) w' (Owned ρ2 X) := Stay.same (fun b _ hb => hb.imp id (hown b))
      have hval := tupOf_rep hvs
      have hc1 : RepV w' ρ2 (Owned ρ2 X) ((tupOf vs).close ob' cl).norm _ := ⟨HV.norm_rep (close_rep hA'.s hcl hρ2 hst hval.1), by rw [HV.norm_agg, HV.close_agg]; exact hval.2⟩
      rw [hr] at hc1
      -- the caller's view
      let ρ3 : Env := fun j => match ob2 j with | some _ => ρ2 (τ j) | none => none
      have h23 : ∀ j, j < k + 4 → (ob2 j).isSome = true → ρ2 (τ j) = ρ' (τ j) := fun j hj hs => by
        obtain ⟨o, ho'⟩ := Option.isSome_iff_exists.1 hs
        obtain ⟨_, _, hncl, o0, ho0, _⟩ := ho j o ho'
        have hn : cl.contains (τ j) = false := by simpa using hncl
        simp only [ρ2, hn, ho0, Bool.false_eq_true, if_false]
        rw [if_pos ⟨j, hj, rfl, hs⟩]
      have hρ3 : ∀ j L, ρ3 j = some L → j < k + 4 ∧ ρ' (τ j) = some L ∧ (ob2 j).isSome = true := fun j L hL => by
        simp only [ρ3] at hL
        split at hL
        · rename_i o ho'
          exact ⟨(ho j o ho').1, hρ2 _ _ hL, by rw [ho']; rfl⟩
        · cases hL
      have hown3 : ∀ b, Own ρ3 b ↔ Own ρ2 b := by
        intro b
        constructor
        · rintro ⟨j, L, h1, h2⟩
          simp only [ρ3] at h1
          split at h1
          · exact ⟨_, L, h1, h2⟩
          · cases h1
        · rintro ⟨id, L, h1, h2⟩
          have h1' := h1
          simp only [ρ2] at h1
          split at h1
          · split at h1
            · rename_i hex
              obtain ⟨j, hj, rfl, hs⟩ := hex
              obtain ⟨o, ho'⟩ := Option.isSome_iff_exists.1 hs
              exact ⟨j, L, by simp only [ρ3, ho']; exact h1', h2⟩
            · cases h1
          · cases h1
      have hst3 : Stay w' (Owned ρ2 X) w' (Owned ρ3 X) := Stay.same (fun b _ hb => hb.imp id (hown3 b).1)
      have hmv3 : Moves (· < k + 4) (fun i => ρ2 (τ i)) ρ3 := fun id L _ hL => by
        simp only [ρ3] at hL
        split at hL
        · exact ⟨L, hL, .inl rfl⟩
        · cases hL
      refine ⟨ρ3, _, rfl, hR, ⟨RepH.stay hst3 hmv3 hm (repH_ren.1 hc1.1), by rw [← hc1.2, HV.ren_isAgg]⟩, ⟨fun j o hj => ?_, fun j hj => ?_, fun i j L L' b h1 h2 h3 h4 => ?_, fun j L b h1 h2 => ?_⟩, hm, fun j o hj => ⟨(ho j o hj).1, (ho j o hj).2.1⟩, ?_, ?_⟩
      · obtain ⟨hj4, hom, hncl, o0, ho0, hren⟩ := ho j o hj
        have h5 := h23 j hj4 (by rw [hj]; rfl)
        have h6 : ρ3 j = ρ2 (τ j) := by simp only [ρ3, hj]
        have hobj := hA'.s.objs _ _ ho0
        have : RepO w' ρ2 (Owned ρ2 X) (τ j) (o.ren τ) := by
          rw [← hren]
          cases o0 with
          | box t v =>
            obtain ⟨b, cs, e1, e2, e3⟩ := hobj
            exact ⟨b, cs, by rw [h5]; exact e1, e2, HV.norm_rep (close_rep hA'.s hcl hρ2 hst e3)⟩
          | row e sz l =>
            obtain ⟨hd, xs, e1, e2, e3, e4⟩ := hobj
            exact ⟨hd, xs, by rw [h5]; exact e1, e2.stay hst, e3, e4⟩
          | mp e sz D =>
            obtain ⟨b, hf, e1, e2⟩ := hobj
            exact ⟨b, hf, by rw [h5]; exact e1, e2.stay hst rfl (fun _ _ _ _ _ => rfl)⟩
          | dead => exact h5.trans hobj
        exact RepO.sub hst3 hmv3 hom h6 this
      · simp only [ρ3, hj]
      · obtain ⟨g1, g2, _⟩ := hρ3 i L h1
        obtain ⟨g3, g4, _⟩ := hρ3 j L' h2
        exact ht2 i j g1 g3 (hA'.s.apart _ _ L L' b g2 g4 h3 h4)
      · obtain ⟨g1, g2, _⟩ := hρ3 j L h1
        exact hA'.s.xb _ L b g2 h2
      · refine ⟨hA'.base.block, fun b hb => hA'.base.own b (hown b ((hown3 b).1 hb)), hA'.base.size, hA'.base.os, hA'.base.tape, hA'.base.output⟩
      · intro j L' hj hL
        obtain ⟨g1, g2, _⟩ := hρ3 j L' hL
        rw [ht1 j hj] at g2
        exact hA'.moves j L' hj g2
  cases e with
  | normal => exact fin hq
  | ret => exact fin hq
  | _ => exact hq.elim
end
end Go.Hl

namespace Go.Hl
open Go

def fin : List (Nat × HV) → Fr
  | [] => fun _ => .junk
  | (t, v) :: l => upd (fin l) t v
def fob : List (Nat × HO) → Ob
  | [] => fun _ => none
  | (t, v) :: l => upd (fob l) t (some v)
def FinOk (nx : Nat) (fr : Fr) : List (Nat × HV) → Prop
  | [] => True
  | (t, v) :: l => fr t = v ∧ v.men (· < nx) ∧ FinOk nx fr l
def FobOk (nx : Nat) (ob : Ob) : List (Nat × HO) → Prop
  | [] => True
  | (t, v) :: l => ob t = some v ∧ t < nx ∧ v.men (· < nx) ∧ FobOk nx ob l

theorem finOk_eq {nx : Nat} {fr : Fr} : ∀ {l : List (Nat × HV)}, FinOk nx fr l → ∀ t, (fin l t = .junk ∨ fin l t = fr t) ∧ (fin l t).men (· < nx)
  | [], _, t => ⟨.inl rfl, by simp [fin, HV.men]⟩
  | (t', v) :: l, h, t => by
    simp only [FinOk] at h
    by_cases ht : t = t'
    · subst ht
      simp only [fin, upd_same]
      exact ⟨.inr h.1.symm, h.2.1⟩
    · simp only [fin, upd_ne _ _ ht]
      exact finOk_eq h.2.2 t
theorem fobOk_eq {nx : Nat} {ob : Ob} : ∀ {l : List (Nat × HO)}, FobOk nx ob l → ∀ t o, fob l t = some o → ob t = some o ∧ t < nx ∧ o.men (· < nx)
  | [], _, t, o, ho => by simp [fob] at ho
  | (t', v) :: l, h, t, o, ho => by
    simp only [FobOk] at h
    by_cases ht : t = t'
    · subst ht
      simp only [fob, upd_same, Option.some.injEq] at ho
      subst ho
      exact ⟨h.1, h.2.1, h.2.2.1⟩
    · simp only [fob, upd_ne _ _ ht] at ho
      exact fobOk_eq h.2.2.2 t o ho

theorem fits_fin {k nx2 : Nat} {fr : Fr} {ob : Ob} {l : List (Nat × HV)} {h : List (Nat × HO)} (hk : k ≤ nx2) (h1 : FinOk nx2 fr l) (h2 : FobOk nx2 ob h) : Fits k fr ob (fin l) (fob h) nx2 :=
  ⟨fun t => (finOk_eq h1 t).1, fun id o ho => (fobOk_eq h2 id o ho).1, fun t => (finOk_eq h1 t).2, fun id o ho => (fobOk_eq h2 id o ho).2, hk⟩

theorem upd_at {α : Type} (f : Nat → α) (d : Nat) (v : α) (t : Nat) : upd f d v t = if t = d then v else f t := rfl
theorem fin_at (t : Nat) (v : HV) (l : List (Nat × HV)) (t' : Nat) : fin ((t, v) :: l) t' = if t' = t then v else fin l t' := rfl
theorem fin_nil (t : Nat) : fin [] t = .junk := rfl
theorem fob_at (t : Nat) (v : HO) (l : List (Nat × HO)) (t' : Nat) : fob ((t, v) :: l) t' = if t' = t then some v else fob l t' := rfl
theorem fob_nil (t : Nat) : fob [] t = none := rfl
theorem nth_map {α : Type} {f : α → CV} {l : List α} {i : Nat} (h : i < l.length) : nth (l.map f) i = f l[i] := by simp [nth, h]

theorem hopI_quiet {P : Program} {ops : Array Oper} {nx i : Nat} {av : List Nat} {fr : Fr} {ob : Ob} {K K' : Fr → Ob → Prop} (hq : ops.all (fun o => isQuiet o.op) = true) (hav : ∀ id ∈ av, ob id = none) (hK : ∀ fr', K fr' ob → K' fr' ob)
    (h : hopI P ops nx [] i K fr ob) : hopI P ops nx av i K' fr ob := by
  unfold hopI at h ⊢
  cases ho : ops[i]? with
  | none => rw [ho] at h; exact h
  | some o =>
    rw [ho] at h
    simp only at h ⊢
    have hqo : isQuiet o.op = true := Array.all_eq_true_iff_forall_mem.1 hq o (Array.mem_of_getElem? ho)
    have hc : hcallOf o.op = none := by
      cases hop' : o.op <;> simp only [hcallOf]
      rename_i c
      rw [hop'] at hqo
      cases hcc : c.callee <;> simp_all [isQuiet]
    cases hg : hguard ops o fr with
    | none => rw [hg] at h; exact h
    | some b =>
      rw [hg] at h
      cases b with
      | false => exact hK _ h
      | true =>
        simp only [hstep, hc] at h ⊢
        refine ⟨fun id hid => ⟨fun hin => ?_, (h.1 id hid).2⟩, ?_⟩
        · have := (h.1 id hid).2
          rw [hav id hin] at this; cases this
        · obtain ⟨v, u, h1, h2, h3, h4⟩ := hop_form2 h.2
          have hu := h4 hqo
          subst hu
          exact h2 ob (fun _ _ => rfl) _ (hK _ h1)

theorem hlex_walk {P : Program} {ops : Array Oper} {nx : Nat} {wt : Nat → Nat → Bool} {Q : Fr → Ob → Prop} {ob : Ob} (hq : ops.all (fun o => isQuiet o.op) = true) (hf : ∀ id, nx ≤ id → ob id = none) :
    ∀ (l : List Nat) (C : Pend) (fr : Fr), hlex P ops nx Q l fr ob → hwalkG P ops nx wt Q l C fr ob
  | [], C, fr, h => h
  | i :: l, C, fr, h => by
    simp only [hlex, hwalkG] at h ⊢
    have hi : isEff (ops.getD i default).op = false ∨ ops[i]? = none := by
      cases ho : ops[i]? with
      | none => exact .inr rfl
      | some o =>
        left
        have hqo : isQuiet o.op = true := Array.all_eq_true_iff_forall_mem.1 hq o (Array.mem_of_getElem? ho)
        have : ops.getD i default = o := by simp [Array.getD_eq_getD_getElem?, ho]
        rw [this]
        cases hop' : o.op <;> simp only [isEff] <;> rw [hop'] at hqo <;> simp [isQuiet] at hqo
        rename_i c
        cases hcc : c.callee <;> simp_all [isEff]
        rename_i b
        cases b <;> simp_all
    refine hopI_G (fun _ _ h => h) (hopI_quiet hq (fun id hid => hf id ?_) (fun fr' hK => hlex_walk hq hf l _ fr' hK) h)
    simp only [avoid, List.mem_flatMap] at hid
    obtain ⟨p, _, hp⟩ := hid
    split at hp
    · simp at hp
    · have : ((ops[i]?).map (fun o => isEff o.op)).getD true = true → ops[i]? = none := by
        intro he
        rcases hi with hi | hi
        · cases ho : ops[i]? with
          | none => rfl
          | some o =>
            have : ops.getD i default = o := by simp [Array.getD_eq_getD_getElem?, ho]
            rw [this] at hi
            rw [ho] at he
            simp [hi] at he
        · exact hi
      rcases List.mem_append.1 hp with hp | hp
      · simp only [List.mem_cons, List.not_mem_nil, or_false] at hp
        omega
      · split at hp
        · rename_i he
          rw [hopI, this he] at h
          exact h.elim
        · simp at hp

theorem hw_quiet {P : Program} {n k : Nat} {Q : HPost} {fr : Fr} {ob : Ob} {nx id : Nat} {ops : Array Oper} (hm : P.follows .mixedOrders = true) (hd : dstOk n ops = true) (hp : planOk ops (List.range ops.size) (Array.replicate ops.size false) = true) (hq : ops.all (fun o => isQuiet o.op) = true)
    (h : hlex P ops nx (fun fr' ob' => Q .normal fr' ob' (nx + 4 * ops.size)) (List.range ops.size) fr ob) : Hw P n k (.region id ops true) Q fr ob nx := by
  intro c a w hn hk hA
  have hf : ∀ id, nx ≤ id → ob id = none := fun id hid => by
    obtain ⟨ρ, hA'⟩ := hA
    exact (hA'.nid_none (nid := id) (by omega)).1
  exact hw_draw hm (List.range ops.size) [] hd hp rfl rfl (by simp) (hlex_walk hq hf _ _ _ h) c a w hn hk hA

def none0 : Ob := fun _ => none
theorem none0_at (t : Nat) : none0 t = none := rfl
def HPure (P : Program) (f : FuncId) (args : List CV) (R : CV → Prop) : Prop :=
  HFn P f (args.map .c) 0 none0 (fun r ob' => ∃ v, r = .c v ∧ R v ∧ ob' = none0)

theorem hret_pure {ob : Ob} {r : HV} {R : CV → Prop} (cl : List Nat) (v : CV) (h : (r.close ob cl).norm = .c v) (hR : R v) : HRet 0 r ob (fun r ob' => ∃ v, r = .c v ∧ R v ∧ ob' = none0) :=
  ⟨cl, id, .c v, none0, ⟨v, rfl, hR, rfl⟩, by rw [h]; rfl, fun _ h => by omega, fun _ _ _ _ h => h, by simp [HV.men], fun j o h => by simp [none0] at h⟩

theorem obAfter_nil {ob : Ob} {nid : Nat} (h : ∀ i, nid ≤ i → i < nid + 4 → ob i = none) : obAfter ob [] nid none0 = ob := by
  funext id
  simp only [obAfter, List.findIdx?_nil, none0, Option.map_none]
  split
  · rename_i h'; exact (h id h'.1 h'.2).symm
  · rfl

theorem locOk_nil (args : List CV) : LocOk 0 (args.map .c) none0 := ⟨fun j h => by omega, fun id o h => by simp [none0] at h, HV.menL_c⟩

def finA : Nat → List HV → Fr
  | _, [] => fun _ => .junk
  | k, v :: l => upd (finA (k + 1) l) k v
theorem finA_at (k : Nat) (v : HV) (l : List HV) (t : Nat) : finA k (v :: l) t = if t = k then v else finA (k + 1) l t := rfl
theorem finA_nil (k t : Nat) : finA k [] t = .junk := rfl
theorem finA_eq : ∀ (l : List HV) (k t : Nat), finA k l t = if t < k then .junk else l.getD (t - k) .junk
  | [], k, t => by simp [finA]
  | v :: l, k, t => by
    by_cases h : t = k
    · subst h; simp [finA, upd_same]
    · simp only [finA, upd_ne _ _ h, finA_eq l (k + 1) t]
      rcases Nat.lt_or_ge t k with h1 | h1
      · rw [if_pos (by omega), if_pos h1]
      · rw [if_neg (by omega), if_neg (by omega), show t - k = (t - (k + 1)) + 1 from by omega]
        simp
theorem hfn_walk {P : Program} {f : FuncId} {fn : Func} {code : Code} {args : List HV} {k : Nat} {ob : Ob} {R : HV → Ob → Prop} (hf : P.funcs[f]? = some fn) (hb : fn.body = some code) (hok : callOk P f = true) (hloc : LocOk k args ob) (hn : args.length ≤ fn.ntmps)
    (h : Hw P fn.ntmps k code (hpost P fn.results.toList k R) (finA 0 args) ob k) : HFn P f args k ob R := by
  refine hfn_of_hw hf hb hok hloc hn ?_
  have : (fun t => args.getD t HV.junk) = finA 0 args := by funext t; simp [finA_eq]
  rw [this]; exact h
end Go.Hl
