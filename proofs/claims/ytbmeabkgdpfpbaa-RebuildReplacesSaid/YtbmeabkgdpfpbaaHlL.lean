/- HL, part L: contracts of functions, and calls. By an AI agent. -/
import Derived.Test.YtbmeabkgdpfpbaaHlK
set_option linter.unusedSimpArgs false
set_option linter.unusedVariables false
namespace Go.Hl
open Go

/- Ids under other names. -/
mutual
def HV.ren (m : Nat → Nat) : HV → HV
  | .junk => .junk
  | .c v => .c v
  | .agg l => .agg (HV.renL m l)
  | .own id n => .own (m id) n
  | .ptr id off => .ptr (m id) off
  | .eptr id n i sz off => .eptr (m id) n i sz off
  | .osl id n i sz off => .osl (m id) n i sz off
  | .mapr id => .mapr (m id)
  | .mrow id k n => .mrow (m id) k n
  | .clo f caps => .clo f (HV.renL m caps)
  | .tup l => .tup (HV.renL m l)
def HV.renL (m : Nat → Nat) : List HV → List HV
  | [] => []
  | v :: vs => v.ren m :: HV.renL m vs
end
theorem HV.ren_isAgg (m : Nat → Nat) (v : HV) : (v.ren m).isAgg = v.isAgg := by cases v <;> simp [HV.ren, HV.isAgg]
theorem HV.renL_c (m : Nat → Nat) : ∀ (l : List CV), HV.renL m (l.map .c) = l.map .c
  | [] => rfl
  | v :: vs => by simp only [List.map_cons, HV.renL, HV.ren, HV.renL_c m vs]
def HO.ren (m : Nat → Nat) : HO → HO
  | .box t v => .box t (v.ren m)
  | .row e sz l => .row e sz l
  | .mp e sz D => .mp e sz D

mutual
theorem repH_ren {w : World} {ρ : Env} {O : Nat → Prop} {m : Nat → Nat} : ∀ {v : HV} {cs : List Value}, RepH w ρ O (v.ren m) cs ↔ RepH w (fun i => ρ (m i)) O v cs
  | .junk, cs => by simp only [HV.ren, RepH]
  | .c _, cs => by simp only [HV.ren, RepH]
  | .agg l, cs => by simp only [HV.ren, RepH]; exact repHL_ren
  | .own .., cs => by simp only [HV.ren, RepH]
  | .ptr .., cs => by simp only [HV.ren, RepH]
  | .eptr .., cs => by simp only [HV.ren, RepH]
  | .osl .., cs => by simp only [HV.ren, RepH]
  | .mapr .., cs => by simp only [HV.ren, RepH]
  | .mrow .., cs => by simp only [HV.ren, RepH]
  | .clo f caps, cs => by simp only [HV.ren, RepH, repHV_ren (l := caps)]
  | .tup l, cs => by simp only [HV.ren, RepH, repHV_ren (l := l)]
theorem repHL_ren {w : World} {ρ : Env} {O : Nat → Prop} {m : Nat → Nat} : ∀ {l : List HV} {cs : List Value}, RepHL w ρ O (HV.renL m l) cs ↔ RepHL w (fun i => ρ (m i)) O l cs
  | [], cs => by simp only [HV.renL, RepHL]
  | v :: vs, cs => by simp only [HV.renL, RepHL, repH_ren (v := v), repHL_ren (l := vs)]
theorem repHV_ren {w : World} {ρ : Env} {O : Nat → Prop} {m : Nat → Nat} : ∀ {l : List HV} {xs : List Value}, RepHV w ρ O (HV.renL m l) xs ↔ RepHV w (fun i => ρ (m i)) O l xs
  | [], xs => by simp only [HV.renL, RepHV]
  | v :: vs, xs => by simp only [HV.renL, RepHV, repH_ren (v := v), repHV_ren (l := vs), HV.ren_isAgg]
end
mutual
theorem men_ren {M : Nat → Prop} {m : Nat → Nat} : ∀ {v : HV}, (v.ren m).men M ↔ v.men (fun i => M (m i))
  | .junk => by simp only [HV.ren, HV.men]
  | .c _ => by simp only [HV.ren, HV.men]
  | .agg l => by simp only [HV.ren, HV.men]; exact menL_ren
  | .own .. => by simp only [HV.ren, HV.men]
  | .ptr .. => by simp only [HV.ren, HV.men]
  | .eptr .. => by simp only [HV.ren, HV.men]
  | .osl .. => by simp only [HV.ren, HV.men]
  | .mapr .. => by simp only [HV.ren, HV.men]
  | .mrow .. => by simp only [HV.ren, HV.men]
  | .clo f caps => by simp only [HV.ren, HV.men]; exact menL_ren
  | .tup l => by simp only [HV.ren, HV.men]; exact menL_ren
theorem menL_ren {M : Nat → Prop} {m : Nat → Nat} : ∀ {l : List HV}, HV.menL M (HV.renL m l) ↔ HV.menL (fun i => M (m i)) l
  | [] => by simp only [HV.renL, HV.menL]
  | v :: vs => by simp only [HV.renL, HV.menL, men_ren (v := v), menL_ren (l := vs)]
end
theorem HO.men_ren {M : Nat → Prop} {m : Nat → Nat} {o : HO} : (o.ren m).men M ↔ o.men (fun i => M (m i)) := by
  cases o with
  | box t v => exact Hl.men_ren
  | row _ _ _ => exact Iff.rfl
  | mp _ _ _ => exact Iff.rfl
theorem HO.men_mono {M M' : Nat → Prop} (h : ∀ i, M i → M' i) {o : HO} (ho : o.men M) : o.men M' := by
  cases o with
  | box t v => exact HV.men_mono h ho
  | row _ _ _ => trivial
  | mp _ _ _ => trivial

def callOk (P : Program) (f : FuncId) : Bool :=
  match P.funcs[f]? with
  | some fn => fn.body.isSome && !(fn.name == "runtime.NumGoroutine")
  | none => false

/-- What a call leaves, seen by the callee: 'k' objects came in (ids below k); at most four are new (ids k to k + 3). -/
structure Gave (w : World) (ρ : Env) (X : Nat → Prop) (k : Nat) (r : HV) (ob' : Ob) (w' : World) (ρ' : Env) (x : Value) : Prop where
  v : RepV w' ρ' (Owned ρ' X) r x
  s : RepS w' ρ' X ob'
  mr : r.men (· < k + 4)
  mo : ∀ id o, ob' id = some o → id < k + 4 ∧ o.men (· < k + 4)
  stay : Stay2 w (Own ρ) w' (Own ρ')
  moves : Moves (· < k) ρ ρ'

/-- THE CONTRACT OF A FUNCTION. -/
def HFn (P : Program) (f : FuncId) (args : List HV) (k : Nat) (ob : Ob) (R : HV → Ob → Prop) : Prop :=
  callOk P f = true ∧ ∀ (w : World) (ρ : Env) (X : Nat → Prop) (xs : List Value), RepS w ρ X ob → RepHV w ρ (Owned ρ X) args xs → (∀ b, X b → b < w.heap.size) →
    Calls P f xs.toArray w fun e w' => ∃ r ob' ρ' x, e = .returned x ∧ R r ob' ∧ Gave w ρ X k r ob' w' ρ' x

theorem HFn.mono {P : Program} {f : FuncId} {args : List HV} {k : Nat} {ob : Ob} {R R' : HV → Ob → Prop} (h : HFn P f args k ob R) (hr : ∀ r ob', R r ob' → R' r ob') : HFn P f args k ob R' :=
  ⟨h.1, fun w ρ X xs h1 h2 h3 => (h.2 w ρ X xs h1 h2 h3).mono fun _ _ ⟨r, ob', ρ', x, e1, e2, e3⟩ => ⟨r, ob', ρ', x, e1, hr _ _ e2, e3⟩⟩

structure LocOk (k : Nat) (args : List HV) (ob : Ob) : Prop where
  all : ∀ j, j < k → ∃ o, ob j = some o
  none : ∀ id o, ob id = some o → id < k ∧ o.men (· < k)
  args : HV.menL (· < k) args

def sub (σ : List Nat) (nid j : Nat) : Nat := if j < σ.length then σ.getD j 0 else nid + (j - σ.length)
def obAfter (ob : Ob) (σ : List Nat) (nid : Nat) (lob : Ob) : Ob := fun id =>
  match σ.findIdx? (· == id) with
  | some j => (lob j).map (HO.ren (sub σ nid))
  | none => if nid ≤ id ∧ id < nid + 4 then (lob (σ.length + (id - nid))).map (HO.ren (sub σ nid)) else ob id

/-- A CALL, by a contract. -/
def HCall (P : Program) (av : List Nat) (f : FuncId) (args : List HV) (ob : Ob) (nid : Nat) (K : HV → Ob → Prop) : Prop :=
  ∃ (σ : List Nat) (largs : List HV) (lob : Ob) (R : HV → Ob → Prop), HFn P f largs σ.length lob R ∧ LocOk σ.length largs lob ∧ (σ.Nodup ∧ ∀ s ∈ σ, s ∉ av) ∧ args = HV.renL (sub σ nid) largs ∧
    (∀ j o, lob j = some o → ob (σ.getD j 0) = some (o.ren (sub σ nid))) ∧ ∀ r lob', R r lob' → r.men (· < σ.length + 4) → K (r.ren (sub σ nid)) (obAfter ob σ nid lob')

section
variable {P : Program} {c : Ctx} {M : Nat → Prop} {fr : Fr} {ob : Ob} {a : Act} {w : World} {ρ : Env}

theorem RepO.sub {w : World} {ρ ρ' : Env} {O O' : Nat → Prop} {m : Nat → Nat} {id : Nat} {o : HO} {M : Nat → Prop} (hs : Stay w O w O') (hm : Moves M (fun i => ρ (m i)) ρ') (hmen : o.men M) (hid : ρ' id = ρ (m id))
    (h : RepO w ρ O (m id) (o.ren m)) : RepO w ρ' O' id o := by
  cases o with
  | box t v =>
    obtain ⟨b, cs, h1, h2, h3⟩ := h
    exact ⟨b, cs, by rw [hid]; exact h1, h2, RepH.stay hs hm hmen (repH_ren.1 h3)⟩
  | row e sz l =>
    obtain ⟨hd, xs, h1, h2, h3, h4⟩ := h
    exact ⟨hd, xs, by rw [hid]; exact h1, h2.stay hs, h3, h4⟩
  | mp e sz D =>
    obtain ⟨b, hf, h1, h2⟩ := h
    exact ⟨b, hf, by rw [hid]; exact h1, h2.stay hs rfl (fun _ _ _ _ _ => rfl)⟩
theorem RepO.unsub {w : World} {ρ ρ' : Env} {O O' : Nat → Prop} {m : Nat → Nat} {id : Nat} {o : HO} {M : Nat → Prop} (hs : Stay w O w O') (hm : Moves M ρ' (fun i => ρ (m i))) (hmen : o.men M) (hid : ρ (m id) = ρ' id)
    (h : RepO w ρ' O id o) : RepO w ρ O' (m id) (o.ren m) := by
  cases o with
  | box t v =>
    obtain ⟨b, cs, h1, h2, h3⟩ := h
    exact ⟨b, cs, by rw [hid]; exact h1, h2, repH_ren.2 (RepH.stay hs hm hmen h3)⟩
  | row e sz l =>
    obtain ⟨hd, xs, h1, h2, h3, h4⟩ := h
    exact ⟨hd, xs, by rw [hid]; exact h1, h2.stay hs, h3, h4⟩
  | mp e sz D =>
    obtain ⟨b, hf, h1, h2⟩ := h
    exact ⟨b, hf, by rw [hid]; exact h1, h2.stay hs rfl (fun _ _ _ _ _ => rfl)⟩

theorem Moves.of_eq {M : Nat → Prop} {ρ ρ' : Env} (h : ∀ i, M i → ρ' i = ρ i) : Moves M ρ ρ' := fun i L hm hL => ⟨L, by rw [← h i hm]; exact hL, .inl rfl⟩
theorem Stay.same {w : World} {O O' : Nat → Prop} (h : ∀ b, b < w.heap.size → O' b → O b) : Stay w O w O' := ⟨fun b hb hO => ⟨rfl, fun h' => hO (h b hb h')⟩⟩

theorem findIdx_nodup {σ : List Nat} (hn : σ.Nodup) {j : Nat} (hj : j < σ.length) : σ.findIdx? (· == σ.getD j 0) = some j := by
  rw [List.findIdx?_eq_some_iff_getElem]
  refine ⟨hj, by simp [hj], fun i hi => ?_⟩
  have hi' : i < σ.length := by omega
  simp only [List.getD_eq_getElem?_getD, List.getElem?_eq_getElem hj, Option.getD_some, beq_iff_eq]
  intro e
  exact (List.pairwise_iff_getElem.1 hn) i j hi' hj hi e

/-- THE CALL IS SOUND. -/
theorem hcall_sound (h : RepA' c M fr ob a w ρ) {nid : Nat} (hnid : ∀ i, i < 4 → ¬ M (nid + i)) {M' : Nat → Prop} (hM : ∀ i, M i → M' i) (hM' : ∀ i, i < 4 → M' (nid + i)) {f : FuncId} {args : List HV} {K : HV → Ob → Prop}
    {ys : List Value} (hx : RepHV w ρ (Owned ρ c.X) args ys)
    {av : List Nat} (hl : HCall P av f args ob nid K) (d : Option Nat) (hd : ∀ k, d = some k → k < c.n) :
    callOk P f = true ∧ Calls P f ys.toArray w fun e w' => ∃ y v ob' ρ', e = .returned y ∧ K v ob' ∧ RepA' c M' (updo fr d v) ob' (a.put d y) w' ρ' := by
  obtain ⟨σ, largs, lob, R, ⟨hok, hF⟩, hloc, ⟨hnd, _⟩, hargs, hobs, hK⟩ := hl
  refine ⟨hok, ?_⟩
  -- the callee's places and what is others'
  have hget : ∀ j, j < σ.length → ∃ o, lob j = some o ∧ ob (σ.getD j 0) = some (o.ren (sub σ nid)) := fun j hj => by
    obtain ⟨o, ho⟩ := hloc.all j hj
    exact ⟨o, ho, hobs j o ho⟩
  have hσM : ∀ j, j < σ.length → M (σ.getD j 0) := fun j hj => by
    obtain ⟨o, _, h2⟩ := hget j hj
    exact (h.mo _ _ h2).1
  let ρc : Env := fun j => if j < σ.length then ρ (σ.getD j 0) else none
  let X' : Nat → Prop := fun b => c.X b ∨ ∃ id L, id ∉ σ ∧ ρ id = some L ∧ L.has b
  have hρc : ∀ j, j < σ.length → ρc j = ρ (σ.getD j 0) := fun j hj => if_pos hj
  have hmem : ∀ id, id ∈ σ → ∃ j, j < σ.length ∧ σ.getD j 0 = id := fun id hid => by
    obtain ⟨j, hj, e⟩ := List.mem_iff_getElem.1 hid
    exact ⟨j, hj, by rw [List.getD_eq_getElem?_getD, List.getElem?_eq_getElem hj]; exact e⟩
  have hin : ∀ j, j < σ.length → σ.getD j 0 ∈ σ := fun j hj => by
    rw [List.getD_eq_getElem?_getD, List.getElem?_eq_getElem hj]; exact List.getElem_mem hj
  have hsubj : ∀ j, j < σ.length → sub σ nid j = σ.getD j 0 := fun j hj => if_pos hj
  have ownedc : ∀ b, Owned ρ c.X b ↔ Owned ρc X' b := by
    intro b
    constructor
    · rintro (hb | ⟨id, L, h1, h2⟩)
      · exact .inl (.inl hb)
      · by_cases hid : id ∈ σ
        · obtain ⟨j, hj, rfl⟩ := hmem id hid
          exact .inr ⟨j, L, by rw [hρc j hj]; exact h1, h2⟩
        · exact .inl (.inr ⟨id, L, hid, h1, h2⟩)
    · rintro ((hb | ⟨id, L, _, h1, h2⟩) | ⟨j, L, h1, h2⟩)
      · exact .inl hb
      · exact .inr ⟨id, L, h1, h2⟩
      · by_cases hj : j < σ.length
        · rw [hρc j hj] at h1; exact .inr ⟨_, L, h1, h2⟩
        · simp only [ρc, if_neg hj] at h1; cases h1
  have stc : Stay w (Owned ρ c.X) w (Owned ρc X') := Stay.same (fun b _ hb => (ownedc b).2 hb)
  have mvc : Moves (· < σ.length) (fun i => ρ (sub σ nid i)) ρc := Moves.of_eq (fun i hi => by rw [hρc i hi, hsubj i hi])
  have hRS : RepS w ρc X' lob := by
    refine ⟨fun j o ho => ?_, fun j hj => ?_, fun j j' L L' b h1 h2 h3 h4 => ?_, fun j L b h1 h2 h3 => ?_⟩
    · have hj := (hloc.none j o ho).1
      have := h.s.objs _ _ (hobs j o ho)
      rw [← hsubj j hj] at this
      exact RepO.sub stc mvc (hloc.none j o ho).2 (by rw [hρc j hj, hsubj j hj]) this
    · by_cases hjl : j < σ.length
      · obtain ⟨o, ho⟩ := hloc.all j hjl
        rw [ho] at hj; cases hj
      · exact if_neg hjl
    · by_cases hj : j < σ.length
      · by_cases hj' : j' < σ.length
        · rw [hρc j hj] at h1; rw [hρc j' hj'] at h2
          have := h.s.apart _ _ L L' b h1 h2 h3 h4
          have e1 := findIdx_nodup hnd hj
          have e2 := findIdx_nodup hnd hj'
          rw [this] at e1
          rw [e1] at e2
          cases e2; rfl
        · simp only [ρc, if_neg hj'] at h2; cases h2
      · simp only [ρc, if_neg hj] at h1; cases h1
    · by_cases hj : j < σ.length
      · rw [hρc j hj] at h1
        rcases h3 with h3 | ⟨id, L', hid, h4, h5⟩
        · exact h.s.xb _ L b h1 h2 h3
        · have := h.s.apart _ _ L L' b h1 h4 h2 h5
          exact hid (this ▸ hin j hj)
      · simp only [ρc, if_neg hj] at h1; cases h1
  have hargsr : RepHV w ρc (Owned ρc X') largs ys := by
    rw [hargs] at hx
    exact RepHV.stay stc mvc hloc.args (repHV_ren.1 hx)
  have hX' : ∀ b, X' b → b < w.heap.size := by
    rintro b (hb | ⟨id, L, _, h1, h2⟩)
    · exact Nat.lt_of_lt_of_le (h.xlt b hb) h.base.size
    · exact Owned.lt h.s h1 h2
  refine (hF w ρc X' ys hRS hargsr hX').mono ?_
  rintro e w' ⟨r, lob', ρ', x, rfl, hR, hg⟩
  refine ⟨x, r.ren (sub σ nid), obAfter ob σ nid lob', ?_⟩
  -- the caller's places behind the call
  let ρn : Env := fun id => match σ.findIdx? (· == id) with | some j => ρ' j | none => if nid ≤ id ∧ id < nid + 4 then ρ' (σ.length + (id - nid)) else ρ id
  have hnσ : ∀ i, i < 4 → nid + i ∉ σ := fun i hi hin' => by
    obtain ⟨j, hj, e⟩ := hmem _ hin'
    exact hnid i hi (e ▸ hσM j hj)
  have idx_none : ∀ id, id ∉ σ → σ.findIdx? (· == id) = none := fun id hid => by
    rw [List.findIdx?_eq_none_iff]
    intro y hy
    simp only [beq_eq_false_iff_ne, ne_eq]
    intro e; exact hid (e ▸ hy)
  have hρn1 : ∀ j, j < σ.length → ρn (σ.getD j 0) = ρ' j := fun j hj => by simp only [ρn, findIdx_nodup hnd hj]
  have hρn2 : ∀ i, i < 4 → ρn (nid + i) = ρ' (σ.length + i) := fun i hi => by
    simp only [ρn, idx_none _ (hnσ i hi)]
    rw [if_pos ⟨by omega, by omega⟩]
    congr 1; omega
  have hρn3 : ∀ id, id ∉ σ → ¬ (nid ≤ id ∧ id < nid + 4) → ρn id = ρ id := fun id h1 h2 => by simp only [ρn, idx_none id h1, if_neg h2]
  have hob1 : ∀ j, j < σ.length → obAfter ob σ nid lob' (σ.getD j 0) = (lob' j).map (HO.ren (sub σ nid)) := fun j hj => by simp only [obAfter, findIdx_nodup hnd hj]
  have hob2 : ∀ i, i < 4 → obAfter ob σ nid lob' (nid + i) = (lob' (σ.length + i)).map (HO.ren (sub σ nid)) := fun i hi => by
    simp only [obAfter, idx_none _ (hnσ i hi)]
    rw [if_pos ⟨by omega, by omega⟩]
    congr 2; omega
  have hob3 : ∀ id, id ∉ σ → ¬ (nid ≤ id ∧ id < nid + 4) → obAfter ob σ nid lob' id = ob id := fun id h1 h2 => by simp only [obAfter, idx_none id h1, if_neg h2]
  have split : ∀ id, (∃ j, j < σ.length ∧ σ.getD j 0 = id) ∨ (∃ i, i < 4 ∧ id = nid + i) ∨ (id ∉ σ ∧ ¬ (nid ≤ id ∧ id < nid + 4)) := fun id => by
    by_cases h1 : id ∈ σ
    · exact .inl (hmem id h1)
    · by_cases h2 : nid ≤ id ∧ id < nid + 4
      · exact .inr (.inl ⟨id - nid, by omega, by omega⟩)
      · exact .inr (.inr ⟨h1, h2⟩)
  have hsub2 : ∀ j, ρn (sub σ nid j) = ρ' j ∨ ¬ j < σ.length + 4 := fun j => by
    by_cases hj : j < σ.length
    · exact .inl (by rw [hsubj j hj]; exact hρn1 j hj)
    · by_cases hj4 : j < σ.length + 4
      · refine .inl ?_
        have : sub σ nid j = nid + (j - σ.length) := if_neg hj
        rw [this, hρn2 _ (by omega)]
        congr 1; omega
      · exact .inr hj4
  have own' : ∀ b, Own ρn b ↔ (Own ρ' b ∨ ∃ id L, id ∉ σ ∧ ρ id = some L ∧ L.has b) := by
    intro b
    constructor
    · rintro ⟨id, L, h1, h2⟩
      rcases split id with ⟨j, hj, rfl⟩ | ⟨i, hi, rfl⟩ | ⟨h3, h4⟩
      · rw [hρn1 j hj] at h1; exact .inl ⟨j, L, h1, h2⟩
      · rw [hρn2 i hi] at h1; exact .inl ⟨_, L, h1, h2⟩
      · rw [hρn3 id h3 h4] at h1; exact .inr ⟨id, L, h3, h1, h2⟩
    · rintro (⟨j, L, h1, h2⟩ | ⟨id, L, h3, h1, h2⟩)
      · have hj4 : j < σ.length + 4 := by
          cases ho : lob' j with
          | none => rw [hg.s.none j ho] at h1; cases h1
          | some o => exact (hg.mo j o ho).1
        rcases hsub2 j with e | e
        · exact ⟨_, L, by rw [e]; exact h1, h2⟩
        · exact absurd hj4 e
      · by_cases h4 : nid ≤ id ∧ id < nid + 4
        · exfalso
          have := (h.nid_none (hnid (id - nid) (by omega))).2
          rw [show nid + (id - nid) = id from by omega] at this
          rw [this] at h1; cases h1
        · exact ⟨id, L, by rw [hρn3 id h3 h4]; exact h1, h2⟩
  have ownedn : ∀ b, Owned ρn c.X b → Owned ρ' X' b := by
    rintro b (hb | hb)
    · exact .inl (.inl hb)
    · rcases (own' b).1 hb with hb | hb
      · exact .inr hb
      · exact .inl (.inr hb)
  have stn : Stay w' (Owned ρ' X') w' (Owned ρn c.X) := Stay.same (fun b _ hb => ownedn b hb)
  have ownc_of : ∀ b, Own ρc b → Own ρ b := by
    rintro b ⟨j, L, h1, h2⟩
    by_cases hj : j < σ.length
    · rw [hρc j hj] at h1; exact ⟨_, L, h1, h2⟩
    · simp only [ρc, if_neg hj] at h1; cases h1
  have hs2 : Stay2 w (Own ρ) w' (Own ρn) := by
    refine ⟨fun b hb hO => hg.stay.block b hb (fun h1 => hO (ownc_of b h1)), fun b hb => ?_, hg.stay.size, hg.stay.os, hg.stay.tape, hg.stay.output⟩
    rcases (own' b).1 hb with hb | ⟨id, L, _, h1, h2⟩
    · exact (hg.stay.own b hb).imp (ownc_of b) id
    · exact .inl ⟨id, L, h1, h2⟩
  have hmv : Moves M ρ ρn := by
    intro id L' hm hL
    rcases split id with ⟨j, hj, rfl⟩ | ⟨i, hi, rfl⟩ | ⟨h3, h4⟩
    · rw [hρn1 j hj] at hL
      obtain ⟨L, h1, h2⟩ := hg.moves j L' hj hL
      rw [hρc j hj] at h1
      exact ⟨L, h1, h2⟩
    · exact absurd hm (hnid i hi)
    · rw [hρn3 id h3 h4] at hL; exact ⟨L', hL, .inl rfl⟩
  have mvn : Moves (· < σ.length + 4) ρ' (fun i => ρn (sub σ nid i)) := Moves.of_eq (fun i hi => (hsub2 i).resolve_right (fun e => e hi))
  have hM4 : ∀ i, i < σ.length + 4 → M' (sub σ nid i) := fun i hi => by
    by_cases hj : i < σ.length
    · rw [hsubj i hj]; exact hM _ (hσM i hj)
    · have : sub σ nid i = nid + (i - σ.length) := if_neg hj
      rw [this]; exact hM' _ (by omega)
  have hmr : (r.ren (sub σ nid)).men M' := men_ren.2 (HV.men_mono hM4 hg.mr)
  refine ⟨ρn, rfl, hK r lob' hR hg.mr, h.step hM hs2 hmv ⟨fun id o ho => ?_, fun id hid => ?_, ?_, ?_⟩ (.inr ⟨?_, ?_⟩) hmr (fun id o ho => ?_) hd⟩
  · -- the objects
    rcases split id with ⟨j, hj, rfl⟩ | ⟨i, hi, rfl⟩ | ⟨h3, h4⟩
    · rw [hob1 j hj, Option.map_eq_some_iff] at ho
      obtain ⟨o', ho', rfl⟩ := ho
      have := RepO.unsub stn mvn (hg.mo j o' ho').2 ((hsub2 j).resolve_right (fun e => e (by omega))) (hg.s.objs j o' ho')
      rwa [hsubj j hj] at this
    · rw [hob2 i hi, Option.map_eq_some_iff] at ho
      obtain ⟨o', ho', rfl⟩ := ho
      have := RepO.unsub stn mvn (hg.mo _ o' ho').2 ((hsub2 _).resolve_right (fun e => e (by omega))) (hg.s.objs _ o' ho')
      have e : sub σ nid (σ.length + i) = nid + i := by
        have : ¬ σ.length + i < σ.length := by omega
        rw [Hl.sub, if_neg this]; omega
      rwa [e] at this
    · rw [hob3 id h3 h4] at ho
      refine RepO.stay (hs2.stay c.X) hmv (h.mo id o ho).2 (hρn3 id h3 h4) (fun L b h1 h2 => ?_) (h.s.objs id o ho)
      refine hg.stay.block b (Owned.lt h.s h1 h2) ?_
      rintro ⟨j, L', h5, h6⟩
      by_cases hj : j < σ.length
      · rw [hρc j hj] at h5
        have := h.s.apart _ _ L L' b h1 h5 h2 h6
        exact h3 (this ▸ hin j hj)
      · simp only [ρc, if_neg hj] at h5; cases h5
  · rcases split id with ⟨j, hj, rfl⟩ | ⟨i, hi, rfl⟩ | ⟨h3, h4⟩
    · rw [hob1 j hj, Option.map_eq_none_iff] at hid
      rw [hρn1 j hj]; exact hg.s.none j hid
    · rw [hob2 i hi, Option.map_eq_none_iff] at hid
      rw [hρn2 i hi]; exact hg.s.none _ hid
    · rw [hob3 id h3 h4] at hid
      rw [hρn3 id h3 h4]; exact h.s.none id hid
  · -- apart
    have other : ∀ j L b id L2, ρ' j = some L → L.has b → id ∉ σ → ρ id = some L2 → L2.has b → False := fun j L b id L2 h1 h2 h3 h4 h5 =>
      hg.s.xb j L b h1 h2 (.inr ⟨id, L2, h3, h4, h5⟩)
    have norm : ∀ id L, ρn id = some L → (∃ j, j < σ.length + 4 ∧ id = sub σ nid j ∧ ρ' j = some L) ∨ (id ∉ σ ∧ ρ id = some L) := fun id L hL => by
      rcases split id with ⟨j, hj, rfl⟩ | ⟨i, hi, rfl⟩ | ⟨h3, h4⟩
      · rw [hρn1 j hj] at hL; exact .inl ⟨j, by omega, (hsubj j hj).symm, hL⟩
      · rw [hρn2 i hi] at hL
        refine .inl ⟨σ.length + i, by omega, ?_, hL⟩
        have : ¬ σ.length + i < σ.length := by omega
        rw [Hl.sub, if_neg this]; omega
      · rw [hρn3 id h3 h4] at hL; exact .inr ⟨h3, hL⟩
    intro id id' L L' b h1 h2 h3 h4
    rcases norm id L h1 with ⟨j, hj, rfl, e1⟩ | ⟨hn1, e1⟩ <;> rcases norm id' L' h2 with ⟨j', hj', rfl, e2⟩ | ⟨hn2, e2⟩
    · rw [hg.s.apart j j' L L' b e1 e2 h3 h4]
    · exact (other j L b id' L' e1 h3 hn2 e2 h4).elim
    · exact (other j' L' b id L e2 h4 hn1 e1 h3).elim
    · exact h.s.apart id id' L L' b e1 e2 h3 h4
  · intro id L b h1 h2 hX
    rcases split id with ⟨j, hj, rfl⟩ | ⟨i, hi, rfl⟩ | ⟨h3, h4⟩
    · rw [hρn1 j hj] at h1; exact hg.s.xb j L b h1 h2 (.inl hX)
    · rw [hρn2 i hi] at h1; exact hg.s.xb _ L b h1 h2 (.inl hX)
    · rw [hρn3 id h3 h4] at h1; exact h.s.xb id L b h1 h2 hX
  · exact repH_ren.2 (RepH.stay stn mvn hg.mr hg.v.1)
  · rw [HV.ren_isAgg]; exact hg.v.2
  · rcases split id with ⟨j, hj, rfl⟩ | ⟨i, hi, rfl⟩ | ⟨h3, h4⟩
    · rw [hob1 j hj, Option.map_eq_some_iff] at ho
      obtain ⟨o', ho', rfl⟩ := ho
      exact ⟨hM _ (hσM j hj), HO.men_ren.2 (HO.men_mono hM4 (hg.mo j o' ho').2)⟩
    · rw [hob2 i hi, Option.map_eq_some_iff] at ho
      obtain ⟨o', ho', rfl⟩ := ho
      exact ⟨hM' i hi, HO.men_ren.2 (HO.men_mono hM4 (hg.mo _ o' ho').2)⟩
    · rw [hob3 id h3 h4] at ho
      exact ⟨hM _ (h.mo id o ho).1, HO.men_mono hM (h.mo id o ho).2⟩
end
end Go.Hl
