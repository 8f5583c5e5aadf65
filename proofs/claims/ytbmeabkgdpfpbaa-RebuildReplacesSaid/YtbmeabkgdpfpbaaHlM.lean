/- HL, part M: one operation of a region: guards, calls; what an operation touches. By an AI agent. -/
import Derived.Test.YtbmeabkgdpfpbaaHlL
set_option linter.unusedSimpArgs false
set_option linter.unusedVariables false
namespace Go.Hl
open Go

def HV.ids : HV → List Nat
  | .own id _ | .ptr id _ | .eptr id _ _ _ _ | .osl id _ _ _ _ | .mapr id | .mrow id _ _ => [id]
  | _ => []

/-- The objects that an operation looks at. -/
def touch (o : Op) (e : Operand → HV) : List Nat :=
  match o with
  | .load _ x | .fieldAddr _ x _ | .nilCheck x => (e x).ids
  | .indexAddr _ x _ => (e x).ids
  | .slice _ x _ _ _ => (e x).ids
  | .lookup _ x _ _ | .mapUpdate _ x _ _ => (e x).ids
  | .store _ x _ => (e x).ids
  | .call c => match c.callee with
    | .builtin _ => c.args.toList.flatMap fun x => (e x).ids
    | _ => []
  | _ => []

def isEff : Op → Bool
  | .store _ _ _ | .mapUpdate _ _ _ _ => true
  | .call c => match c.callee with
    | .builtin .len | .builtin .max | .builtin .min => false
    | _ => true
  | _ => false

/-- An operation that neither writes nor makes. -/
def isQuiet : Op → Bool
  | .store _ _ _ | .alloc _ | .box _ _ | .buildSlice _ _ _ | .mapUpdate _ _ _ _ | .makeMap _ _ => false
  | .call c => match c.callee with
    | .builtin .len | .builtin .max | .builtin .min => true
    | _ => false
  | _ => true

def app (u : Option (Nat × HO)) (ob : Ob) : Ob := match u with | some p => upd ob p.1 (some p.2) | none => ob

theorem hload_agree {ti : TyI} {a : HV} {ob ob' : Ob} {K : HV → Prop} (hag : ∀ id ∈ a.ids, ob' id = ob id) (h : hload ti a ob K) : hload ti a ob' K := by
  cases a with
  | ptr id off =>
    have := hag id (by simp [HV.ids])
    simp only [hload] at h ⊢
    rw [this]; exact h
  | eptr id n i sz off =>
    have := hag id (by simp [HV.ids])
    simp only [hload] at h ⊢
    rw [this]; exact h
  | c v => cases v <;> simp only [hload] at h ⊢ <;> exact h
  | _ => simp only [hload] at h
theorem hfieldAddr_agree {P : Program} {t : TypeId} {a : HV} {f : Nat} {ob ob' : Ob} {K : HV → Prop} (hag : ∀ id ∈ a.ids, ob' id = ob id) (h : hfieldAddr P t a f ob K) : hfieldAddr P t a f ob' K := by
  unfold hfieldAddr hfield at h ⊢
  cases ht : tyOf P t with
  | none => rw [ht] at h; exact h.elim
  | some ti =>
    rw [ht] at h
    simp only [hlift_some] at h ⊢
    split at h
    · rename_i fs hfs
      cases hf : fs[f]? with
      | none => rw [hf] at h; exact h.elim
      | some p =>
        rw [hf] at h
        simp only [hlift_some] at h ⊢
        cases htf : tyOf P p.2 with
        | none => rw [htf] at h; exact h.elim
        | some tf =>
          rw [htf] at h
          simp only [hlift_some] at h ⊢
          cases a with
          | ptr id o => simp only at h ⊢; rw [show ob' id = ob id from hag id (by simp [HV.ids])]; exact h
          | eptr id n i sz o => simp only at h ⊢; rw [show ob' id = ob id from hag id (by simp [HV.ids])]; exact h
          | c v => cases v <;> exact h
          | _ => exact h
    · exact h.elim
theorem hindexAddr_agree {P : Program} {t : TypeId} {a i : HV} {ob ob' : Ob} {K : HV → Prop} (hag : ∀ id ∈ a.ids, ob' id = ob id) (h : hindexAddr P t a i ob K) : hindexAddr P t a i ob' K := by
  unfold hindexAddr at h ⊢
  cases ht : tyOf P t with
  | none => rw [ht] at h; exact h.elim
  | some ti =>
    rw [ht] at h
    simp only [hlift_some] at h ⊢
    split at h
    · rename_i e k n hd
      cases hte : tyOf P e with
      | none => rw [hte] at h; exact h.elim
      | some te =>
        rw [hte] at h
        simp only [hlift_some] at h ⊢
        cases a with
        | own id m => simp only at h ⊢; rw [show ob' id = ob id from hag id (by simp [HV.ids])]; exact h
        | c v => cases v <;> exact h
        | _ => exact h
    · rename_i m e k n hd
      cases hte : tyOf P e with
      | none => rw [hte] at h; exact h.elim
      | some te =>
        rw [hte] at h
        simp only [hlift_some] at h ⊢
        refine ⟨h.1, ?_⟩
        have h := h.2
        cases a with
        | ptr id o => simp only at h ⊢; rw [show ob' id = ob id from hag id (by simp [HV.ids])]; exact h
        | eptr id n i sz o => simp only at h ⊢; rw [show ob' id = ob id from hag id (by simp [HV.ids])]; exact h
        | c v => cases v <;> exact h
        | _ => exact h
    · exact h.elim
theorem hread_agree {a : HV} {ob ob' : Ob} (hag : ∀ id ∈ a.ids, ob' id = ob id) : hread a ob' = hread a ob := by
  cases a with
  | own id m => simp only [hread, show ob' id = ob id from hag id (by simp [HV.ids])]
  | c v => cases v <;> rfl
  | _ => rfl
theorem live_agree {a : HV} {ob ob' : Ob} (hag : ∀ id ∈ a.ids, ob' id = ob id) (h : live a ob) : live a ob' := by
  cases a with
  | ptr id o => simp only [live, show ob' id = ob id from hag id (by simp [HV.ids])] at h ⊢; exact h
  | eptr id n i sz o => simp only [live, show ob' id = ob id from hag id (by simp [HV.ids])] at h ⊢; exact h
  | c v => cases v <;> exact h
  | _ => exact h

/-- THE FORM OF AN OPERATION: one value, at most one object that is new or changed; it hangs on the objects that it touches alone. -/
theorem hop_form2 {P : Program} {nid : Nat} {o : Op} {e : Operand → HV} {ob : Ob} {K : HV → Ob → Prop} (h : hop P nid o e ob K) :
    ∃ v u, K v (app u ob) ∧ (∀ ob' : Ob, (∀ id ∈ touch o e, ob' id = ob id) → ∀ K' : HV → Ob → Prop, K' v (app u ob') → hop P nid o e ob' K') ∧ (∀ p, u = some p → p.1 = nid ∨ (isEff o = true ∧ p.1 ∈ touch o e)) ∧ (isQuiet o = true → u = none) := by
  unfold hop at h
  split at h
  · exact ⟨_, none, h.2, fun ob' _ K' hK => ⟨h.1, hK⟩, by simp, fun _ => rfl⟩
  · exact ⟨_, none, h.2, fun ob' _ K' hK => ⟨h.1, hK⟩, by simp, fun _ => rfl⟩
  · unfold hpick at h
    split at h
    · rename_i t hc
      exact ⟨_, none, h.2, fun ob' _ K' hK => (by simp only [hop, hpick, hc]; exact ⟨h.1, hK⟩), by simp, fun _ => rfl⟩
    · exact h.elim
  · rw [hlift_iff] at h
    obtain ⟨ti, ht, hK⟩ := h
    exact ⟨_, some (nid, _), hK, fun ob' _ K' hK => (by simp only [hop, ht, hlift_some]; exact hK), by simp, by first | (simp [isQuiet]; done) | (simp [isQuiet, hcal]; done)⟩
  · exact ⟨_, some (nid, _), h.2, fun ob' _ K' hK => (by simp only [hop]; exact ⟨h.1, hK⟩), by simp, by first | (simp [isQuiet]; done) | (simp [isQuiet, hcal]; done)⟩
  · rw [hlift_iff] at h
    obtain ⟨ti, ht, h⟩ := h
    unfold hbuild at h
    split at h
    · rename_i zs hz
      rw [hlift_iff] at h
      obtain ⟨hs, hf, hK⟩ := h
      exact ⟨_, none, hK, fun ob' _ K' hK => (by simp only [hop, ht, hlift_some, hbuild, hz, hf]; exact hK), by simp, fun _ => rfl⟩
    · exact h.elim
  · rw [hlift_iff] at h
    obtain ⟨ti, ht, h⟩ := h
    split at h
    · rename_i el hel
      rw [hlift_iff] at h
      obtain ⟨te, hte, h⟩ := h
      rw [hlift_iff] at h
      obtain ⟨l, hcl, h1, hK⟩ := h
      exact ⟨_, some (nid, _), hK, fun ob' _ K' hK => (by simp only [hop, ht, hlift_some, hel, hte, hcl]; exact ⟨h1, hK⟩), by simp, by first | (simp [isQuiet]; done) | (simp [isQuiet, hcal]; done)⟩
    · exact h.elim
  · rename_i t x
    rw [hlift_iff] at h
    obtain ⟨ti, ht, h⟩ := h
    have key : ∀ K : HV → Prop, hload ti (e x) ob K → ∃ v, K v ∧ ∀ K' : HV → Prop, K' v → hload ti (e x) ob K' := by
      intro K h
      unfold hload at h
      split at h
      · rename_i v hx
        rw [hlift_iff] at h
        obtain ⟨u, hu, hK⟩ := h
        exact ⟨_, hK, fun K' hK' => by simp only [hload, hx, hu, hlift_some]; exact hK'⟩
      · rename_i id off hx
        split at h
        · rename_i tb v ho
          obtain ⟨hs, h⟩ := h
          rw [hlift_iff] at h
          obtain ⟨u, hu, hK⟩ := h
          exact ⟨_, hK, fun K' hK' => by simp only [hload, hx, ho, hu, hlift_some]; exact ⟨hs, hK'⟩⟩
        · exact h.elim
      · rename_i id n i sz off hx
        split at h
        · rename_i tb sz' l ho
          obtain ⟨hs, h⟩ := h
          rw [hlift_iff] at h
          obtain ⟨u, hu, hK⟩ := h
          exact ⟨_, hK, fun K' hK' => by simp only [hload, hx, ho, hu, hlift_some]; exact ⟨hs, hK'⟩⟩
        · exact h.elim
      · exact h.elim
    obtain ⟨v, hK, hv⟩ := key _ h
    exact ⟨v, none, hK, fun ob' hag K' hK' => (by simp only [hop, ht, hlift_some]; exact hload_agree hag (hv _ hK')), by simp, fun _ => rfl⟩
  · rename_i t x y
    rw [hlift_iff] at h
    obtain ⟨ti, ht, h⟩ := h
    unfold hstore at h
    split at h
    · rename_i id off hx
      split at h
      · rename_i T u ho
        obtain ⟨h1, h⟩ := h
        rw [hlift_iff] at h
        obtain ⟨u', hu, hK⟩ := h
        refine ⟨_, some (id, _), hK, fun ob' hag K' hK' => ?_, fun p hp => ?_, by simp [isQuiet]⟩
        · have := hag id (by simp [touch, hx, HV.ids])
          simp only [hop, ht, hlift_some, hstore, hx, this, ho, hu]
          exact ⟨h1, hK'⟩
        · cases hp; exact .inr ⟨rfl, by simp [touch, hx, HV.ids]⟩
      · exact h.elim
    · rename_i id n i sz off hx
      split at h
      · rename_i T sz' l ho
        obtain ⟨h1, h⟩ := h
        rw [hlift_iff] at h
        obtain ⟨u', hu, h⟩ := h
        rw [hlift_iff] at h
        obtain ⟨cu, hcu, hK⟩ := h
        refine ⟨_, some (id, _), hK, fun ob' hag K' hK' => ?_, fun p hp => ?_, by simp [isQuiet]⟩
        · have := hag id (by simp [touch, hx, HV.ids])
          simp only [hop, ht, hlift_some, hstore, hx, this, ho, hu, hcu]
          exact ⟨h1, hK'⟩
        · cases hp; exact .inr ⟨rfl, by simp [touch, hx, HV.ids]⟩
      · exact h.elim
    · exact h.elim
  · exact ⟨_, none, h.2, fun ob' hag K' hK => ⟨live_agree hag h.1, hK⟩, by simp, fun _ => rfl⟩
  · rename_i op t x y yt
    have key : ∀ K : CV → Prop, hbin P op t (e x) (e y) K → ∃ u, K u ∧ ∀ K' : CV → Prop, K' u → hbin P op t (e x) (e y) K' := by
      intro K h
      unfold hbin at h
      split at h
      · rename_i k1 i1 k2 i2 hx hy
        by_cases hs : isShift op = true
        · rw [if_pos hs] at h
          cases op <;> simp [isShift] at hs <;> simp only [hshift] at h
          all_goals exact ⟨_, h.2, fun K' hK' => by simp only [hbin, hx, hy, isShift, if_true, hshift]; exact ⟨h.1, hK'⟩⟩
        · rw [if_neg hs] at h
          cases op <;> simp [isShift] at hs <;> simp only [hint] at h
          case quo => exact ⟨_, h.2.2, fun K' hK' => by simp only [hbin, hx, hy, isShift, hint]; exact ⟨h.1, h.2.1, hK'⟩⟩
          case rem => exact ⟨_, h.2.2, fun K' hK' => by simp only [hbin, hx, hy, isShift, hint]; exact ⟨h.1, h.2.1, hK'⟩⟩
          all_goals exact ⟨_, h.2, fun K' hK' => by simp only [hbin, hx, hy, isShift, hint]; exact ⟨h.1, hK'⟩⟩
      · rename_i s1 s2 hx hy
        cases op <;> simp only [hstr] at h
        case add => exact ⟨_, h.2, fun K' hK' => by simp only [hbin, hx, hy, hstr]; exact ⟨h.1, hK'⟩⟩
        all_goals first | exact h.elim | exact ⟨_, h, fun K' hK' => by simp only [hbin, hx, hy, hstr]; exact hK'⟩
      · rename_i b1 b2 hx hy
        rw [hlift_iff] at h
        obtain ⟨ti, ht, h1, h⟩ := h
        cases op <;> simp only at h
        all_goals first | exact h.elim | exact ⟨_, h, fun K' hK' => by simp only [hbin, hx, hy, ht, hlift_some]; exact ⟨h1, hK'⟩⟩
      · rename_i l1 l2 hx hy
        obtain ⟨h1, h⟩ := h
        cases op <;> simp only at h
        all_goals first | exact h.elim | exact ⟨_, h, fun K' hK' => by simp only [hbin, hx, hy]; exact ⟨h1, hK'⟩⟩
      · exact h.elim
    obtain ⟨u, hK, hu⟩ := key _ h
    exact ⟨.c u, none, hK, fun ob' _ K' hK' => (by simp only [hop]; exact hu _ hK'), by simp, fun _ => rfl⟩
  · rename_i op t x
    unfold hun at h
    split at h
    · rename_i b hx
      exact ⟨_, none, h, fun ob' _ K' hK' => (by simp only [hop, hun, hx]; exact hK'), by simp, fun _ => rfl⟩
    · rename_i k n hx
      exact ⟨_, none, h, fun ob' _ K' hK' => (by simp only [hop, hun, hx]; exact hK'), by simp, fun _ => rfl⟩
    · exact h.1.elim
    · exact h.elim
  · rename_i sr ds x
    unfold hconv at h
    rw [hlift_iff] at h
    obtain ⟨ts, hts, h⟩ := h
    rw [hlift_iff] at h
    obtain ⟨td, htd, h⟩ := h
    split at h
    · rename_i k k' n hd1 hx
      exact ⟨_, none, h, fun ob' _ K' hK' => (by simp only [hop, hconv, hts, htd, hlift_some, hd1, hx]; exact hK'), by simp, fun _ => rfl⟩
    · rename_i s hd1 hx
      exact ⟨_, none, h, fun ob' _ K' hK' => (by simp only [hop, hconv, hts, htd, hlift_some, hd1, hx]; exact hK'), by simp, fun _ => rfl⟩
    · exact h.elim
  · rename_i f first caps
    obtain ⟨hf, h⟩ := h
    unfold hclo at h
    split at h
    · rename_i hc
      exact ⟨_, none, h, fun ob' _ K' hK' => (by simp only [hop, hclo, hc]; exact ⟨hf, hK'⟩), by simp, fun _ => rfl⟩
    · rename_i hne
      refine ⟨_, none, h.2, fun ob' _ K' hK' => ?_, by simp, fun _ => rfl⟩
      simp only [hop]
      refine ⟨hf, ?_⟩
      unfold hclo
      split
      · rename_i hc; exact absurd hc hne
      · exact ⟨h.1, hK'⟩
  · rename_i t x lo hi
    by_cases hown : ∃ id n, e x = .own id n
    · obtain ⟨id, n, hx⟩ := hown
      simp only [hslice2, hx] at h
      rw [hlift_iff] at h
      obtain ⟨ti, ht, h⟩ := h
      split at h
      · rename_i el e' sz l hd1 ho
        rw [hlift_iff] at h
        obtain ⟨te, hte, h1, h⟩ := h
        rw [hlift_iff] at h
        obtain ⟨u1, hu1, h⟩ := h
        rw [hlift_iff] at h
        obtain ⟨u2, hu2, h2, hK⟩ := h
        refine ⟨_, none, hK, fun ob' hag K' hK' => ?_, by simp, fun _ => rfl⟩
        have hoid : ob' id = ob id := hag id (by simp [touch, hx, HV.ids])
        simp only [hop, hslice2, hx, ht, hlift_some, hd1, hoid, ho, hte]
        refine ⟨h1, ?_⟩
        rw [hu1]; simp only [hlift_some]; rw [hu2]; exact ⟨h2, hK'⟩
      · exact h.elim
    have e2 : ∀ (ob' : Ob) (K' : HV → Prop), hslice2 P t (e x) (lo.map e) (hi.map e) ob' K' = hslice P t (e x) (lo.map e) (hi.map e) K' := fun ob' K' => by
      unfold hslice2
      split
      · rename_i id n hx; exact absurd ⟨id, n, hx⟩ hown
      · rfl
    rw [e2] at h
    have key : ∀ K : HV → Prop, hslice P t (e x) (lo.map e) (hi.map e) K → ∃ u, K u ∧ ∀ K' : HV → Prop, K' u → hslice P t (e x) (lo.map e) (hi.map e) K' := by
      intro K h
      unfold hslice at h
      rw [hlift_iff] at h
      obtain ⟨ti, ht, h⟩ := h
      simp only at h
      split at h
      · rename_i s hd1 hx
        rw [hlift_iff] at h
        obtain ⟨l, hl, h⟩ := h
        rw [hlift_iff] at h
        obtain ⟨hh, hhh, hb, hK⟩ := h
        exact ⟨_, hK, fun K' hK' => by simp only [hslice, ht, hlift_some, hd1, hx]; rw [hl]; simp only [hlift_some]; rw [hhh]; exact ⟨hb, hK'⟩⟩
      · rename_i el s hd1 hx
        rw [hlift_iff] at h
        obtain ⟨te, hte, hc, h⟩ := h
        rw [hlift_iff] at h
        obtain ⟨l, hl, h⟩ := h
        rw [hlift_iff] at h
        obtain ⟨hh, hhh, hb, hK⟩ := h
        exact ⟨_, hK, fun K' hK' => by simp only [hslice, ht, hlift_some, hd1, hx, hte]; refine ⟨hc, ?_⟩; rw [hl]; simp only [hlift_some]; rw [hhh]; exact ⟨hb, hK'⟩⟩
      · rename_i el hd1 hx
        rw [hlift_iff] at h
        obtain ⟨te, hte, h⟩ := h
        rw [hlift_iff] at h
        obtain ⟨l, hl, h⟩ := h
        rw [hlift_iff] at h
        obtain ⟨hh, hhh, hb, hK⟩ := h
        exact ⟨_, hK, fun K' hK' => by simp only [hslice, ht, hlift_some, hd1, hx, hte]; rw [hl]; simp only [hlift_some]; rw [hhh]; exact ⟨hb, hK'⟩⟩
      · exact h.elim
    obtain ⟨u, hK, hu⟩ := key _ h
    exact ⟨u, none, hK, fun ob' _ K' hK' => (by simp only [hop, e2]; exact hu _ hK'), by simp, fun _ => rfl⟩
  · rename_i t
    unfold hmakeMap at h
    rw [hlift_iff] at h
    obtain ⟨ti, ht, h⟩ := h
    split at h
    · rename_i kt et hd1
      rw [hlift_iff] at h
      obtain ⟨te, hte, h⟩ := h
      split at h
      · rename_i el hd2
        rw [hlift_iff] at h
        obtain ⟨t2, ht2, hK⟩ := h
        exact ⟨_, some (nid, _), hK, fun ob' _ K' hK' => (by simp only [hop, hmakeMap, ht, hlift_some, hd1, hte, hd2, ht2]; exact hK'), by simp, by simp [isQuiet]⟩
      · rename_i hd2
        refine ⟨_, some (nid, _), h, fun ob' _ K' hK' => ?_, by simp, by simp [isQuiet]⟩
        simp only [hop, hmakeMap, ht, hlift_some, hd1, hte]
        exact hK'
    · exact h.elim
  · rename_i t m k
    unfold hlookup at h
    rw [hlift_iff] at h
    obtain ⟨ti, ht, h⟩ := h
    split at h
    · rename_i kt et hd1
      rw [hlift_iff] at h
      obtain ⟨tk, htk, h⟩ := h
      rw [hlift_iff] at h
      obtain ⟨te, hte, h⟩ := h
      split at h
      · rename_i id s hkd hm hk
        obtain ⟨hs, h⟩ := h
        split at h
        · rename_i e' sz D ho
          have go : ∀ ob' : Ob, ob' id = ob id → ∀ K' : HV → Prop, hlookup P t (e m) (e k) ob' K' = (s.length ≤ maxLen ∧ match te.d, te.z with
              | .slice _, .nils => isRowM (mget D s) = true ∧ K' (.mrow id s (rowOf (mget D s)).length)
              | _, _ => isValM (mget D s) = true ∧ K' (.c (valOf te.z (mget D s)))) := fun ob' hob K' => by
            simp only [hlookup, ht, hlift_some, hd1, htk, hte, hkd, hm, hk, hob, ho]
            rfl
          split at h
          · rename_i hde hdz
            refine ⟨_, none, h.2, fun ob' hag K' hK' => ?_, by simp, fun _ => rfl⟩
            simp only [hop]
            rw [go ob' (hag id (by simp [touch, hm, HV.ids])), hde, hdz]
            exact ⟨hs, h.1, hK'⟩
          · rename_i hno
            refine ⟨_, none, h.2, fun ob' hag K' hK' => ?_, by simp, fun _ => rfl⟩
            simp only [hop]
            rw [go ob' (hag id (by simp [touch, hm, HV.ids]))]
            refine ⟨hs, ?_⟩
            split
            · rename_i el hde hdz; exact absurd hdz (hno el hde)
            · exact ⟨h.1, hK'⟩
        · exact h.elim
      · exact h.elim
    · exact h.elim
  · rename_i t m k v
    unfold hmapUpdate at h
    rw [hlift_iff] at h
    obtain ⟨ti, ht, h⟩ := h
    split at h
    · rename_i kt et hd1
      rw [hlift_iff] at h
      obtain ⟨tk, htk, h⟩ := h
      rw [hlift_iff] at h
      obtain ⟨te, hte, h⟩ := h
      split at h
      · rename_i id s hkd hm hk
        obtain ⟨hs, h⟩ := h
        split at h
        · rename_i e' sz D ho
          split at h
          · rename_i el id2 s2 n hde hv
            refine ⟨_, some (id, _), h.2, fun ob' hag K' hK' => ?_, fun p hp => ?_, by simp [isQuiet]⟩
            · have hoid := hag id (by simp [touch, hm, HV.ids])
              simp only [hop, hmapUpdate, ht, hlift_some, hd1, htk, hte, hkd, hm, hk, hoid, ho, hde, hv]
              exact ⟨hs, h.1, hK'⟩
            · cases hp; exact .inr ⟨rfl, by simp [touch, hm, HV.ids]⟩
          · rename_i cv _ _ hv
            refine ⟨_, some (id, _), h.2, fun ob' hag K' hK' => ?_, fun p hp => ?_, by simp [isQuiet]⟩
            · have hoid := hag id (by simp [touch, hm, HV.ids])
              simp only [hop, hmapUpdate, ht, hlift_some, hd1, htk, hte, hkd, hm, hk, hoid, ho, hv]
              exact ⟨hs, h.1, hK'⟩
            · cases hp; exact .inr ⟨rfl, by simp [touch, hm, HV.ids]⟩
          · exact h.elim
        · exact h.elim
      · exact h.elim
    · exact h.elim
  · rename_i t x f
    have key : ∀ K : HV → Prop, hfieldAddr P t (e x) f ob K → ∃ u, K u ∧ ∀ K' : HV → Prop, K' u → hfieldAddr P t (e x) f ob K' := by
      intro K h
      unfold hfieldAddr hfield at h
      rw [hlift_iff] at h
      obtain ⟨ti, ht, h⟩ := h
      split at h
      · rename_i fs hfs
        rw [hlift_iff] at h
        obtain ⟨p, hp, h⟩ := h
        rw [hlift_iff] at h
        obtain ⟨tf, htf, h⟩ := h
        split at h
        · rename_i v hx
          rw [hlift_iff] at h
          obtain ⟨u, hu, hK⟩ := h
          exact ⟨_, hK, fun K' hK' => by simp only [hfieldAddr, hfield, ht, hlift_some, hfs, hp, htf, hx, hu]; exact hK'⟩
        · rename_i id o hx
          exact ⟨_, h.2, fun K' hK' => by simp only [hfieldAddr, hfield, ht, hlift_some, hfs, hp, htf, hx]; exact ⟨h.1, hK'⟩⟩
        · rename_i id n i sz o hx
          exact ⟨_, h.2, fun K' hK' => by simp only [hfieldAddr, hfield, ht, hlift_some, hfs, hp, htf, hx]; exact ⟨h.1, hK'⟩⟩
        · exact h.elim
      · exact h.elim
    obtain ⟨u, hK, hu⟩ := key _ h
    exact ⟨u, none, hK, fun ob' hag K' hK' => (by simp only [hop]; exact hfieldAddr_agree hag (hu _ hK')), by simp, fun _ => rfl⟩
  · rename_i t x f
    obtain ⟨h1, h⟩ := h
    have key : ∀ G : Nat → TyI → Prop, hfield P t f G → ∃ off tf, G off tf ∧ ∀ G' : Nat → TyI → Prop, G' off tf → hfield P t f G' := by
      intro G h
      unfold hfield at h
      rw [hlift_iff] at h
      obtain ⟨ti, ht, h⟩ := h
      split at h
      · rename_i fs hfs
        rw [hlift_iff] at h
        obtain ⟨p, hp, h⟩ := h
        rw [hlift_iff] at h
        obtain ⟨tf, htf, h⟩ := h
        exact ⟨_, _, h, fun G' hG' => by simp only [hfield, ht, hlift_some, hfs, hp, htf]; exact hG'⟩
      · exact h.elim
    obtain ⟨off, tf, hG, hG'⟩ := key _ h
    rw [hlift_iff] at hG
    obtain ⟨v, hv, hK⟩ := hG
    exact ⟨v, none, hK, fun ob' _ K' hK' => (by simp only [hop]; exact ⟨h1, hG' _ (by rw [hv]; exact hK')⟩), by simp, fun _ => rfl⟩
  · rename_i t x i
    have key : ∀ K : HV → Prop, hindexAddr P t (e x) (e i) ob K → ∃ u, K u ∧ ∀ K' : HV → Prop, K' u → hindexAddr P t (e x) (e i) ob K' := by
      intro K h
      unfold hindexAddr at h
      rw [hlift_iff] at h
      obtain ⟨ti, ht, h⟩ := h
      split at h
      · rename_i el k n hd1 hi
        rw [hlift_iff] at h
        obtain ⟨te, hte, h⟩ := h
        split at h
        · rename_i l hx
          exact ⟨_, h.2.2, fun K' hK' => by simp only [hindexAddr, ht, hlift_some, hd1, hi, hte, hx]; exact ⟨h.1, h.2.1, hK'⟩⟩
        · rename_i id m hx
          split at h
          · rename_i tr sz l ho
            exact ⟨_, h.2.2, fun K' hK' => by simp only [hindexAddr, ht, hlift_some, hd1, hi, hte, hx, ho]; exact ⟨h.1, h.2.1, hK'⟩⟩
          · exact h.elim
        · exact h.elim
      · rename_i m el k n hd1 hi
        rw [hlift_iff] at h
        obtain ⟨te, hte, h0, h⟩ := h
        split at h
        · rename_i id o hx
          exact ⟨_, h.2, fun K' hK' => by simp only [hindexAddr, ht, hlift_some, hd1, hi, hte, hx]; exact ⟨h0, h.1, hK'⟩⟩
        · rename_i id n' j sz o hx
          exact ⟨_, h.2, fun K' hK' => by simp only [hindexAddr, ht, hlift_some, hd1, hi, hte, hx]; exact ⟨h0, h.1, hK'⟩⟩
        · rename_i v hx
          rw [hlift_iff] at h
          obtain ⟨u, hu, hK⟩ := h
          exact ⟨_, hK, fun K' hK' => by simp only [hindexAddr, ht, hlift_some, hd1, hi, hte, hx, hu]; exact ⟨h0, hK'⟩⟩
        · exact h.elim
      · exact h.elim
    obtain ⟨u, hK, hu⟩ := key _ h
    exact ⟨u, none, hK, fun ob' hag K' hK' => (by simp only [hop]; exact hindexAddr_agree hag (hu _ hK')), by simp, fun _ => rfl⟩
  · rename_i t x i
    unfold hindex at h
    rw [hlift_iff] at h
    obtain ⟨ti, ht, h⟩ := h
    split at h
    · rename_i s k n hd1 hx hi
      exact ⟨_, none, h.2, fun ob' _ K' hK' => (by simp only [hop, hindex, ht, hlift_some, hd1, hx, hi]; exact ⟨h.1, hK'⟩), by simp, fun _ => rfl⟩
    · rename_i m el k n hd1 hi
      rw [hlift_iff] at h
      obtain ⟨te, hte, h1, h⟩ := h
      rw [hlift_iff] at h
      obtain ⟨u, hu, hK⟩ := h
      exact ⟨_, none, hK, fun ob' _ K' hK' => (by simp only [hop, hindex, ht, hlift_some, hd1, hi, hte, hu]; exact ⟨h1, hK'⟩), by simp, fun _ => rfl⟩
    · exact h.elim
  · rename_i x i
    unfold hext at h
    split at h
    · rename_i l hx
      rw [hlift_iff] at h
      obtain ⟨v, hv, hj, hK⟩ := h
      exact ⟨_, none, hK, fun ob' _ K' hK' => (by simp only [hop, hext, hx, hv, hlift_some]; exact ⟨hj, hK'⟩), by simp, fun _ => rfl⟩
    · exact h.elim
  · rename_i cl
    split at h
    · rename_i x t hcal hargs hat
      rw [hlift_iff] at h
      obtain ⟨ti, ht, h⟩ := h
      split at h
      · rename_i hd1
        rw [hlift_iff] at h
        obtain ⟨n, hn, hK⟩ := h
        exact ⟨_, none, hK, fun ob' _ K' hK' => (by simp only [hop, hcal, hargs, hat, ht, hlift_some, hd1]; rw [hn]; exact hK'), by simp, fun _ => rfl⟩
      · rename_i el hd1
        rw [hlift_iff] at h
        obtain ⟨l, hl, hK⟩ := h
        refine ⟨_, none, hK, fun ob' hag K' hK' => ?_, by simp, fun _ => rfl⟩
        simp only [hop, hcal, hargs, hat, ht, hlift_some, hd1]
        rw [hread_agree (fun id hid => hag id (by simp only [touch, hcal, hargs, List.flatMap_cons, List.flatMap_nil, List.append_nil]; exact hid)), hl]
        exact hK'
      · rename_i n el hd1
        exact ⟨_, none, h, fun ob' _ K' hK' => (by simp only [hop, hcal, hargs, hat, ht, hlift_some, hd1]; exact hK'), by simp, fun _ => rfl⟩
      · exact h.elim
    · rename_i s x t t' hcal hargs hat
      obtain ⟨ht', h⟩ := h
      unfold happend2 at h
      split at h
      · rename_i id k n hs
        rw [hlift_iff] at h
        obtain ⟨ti, ht, h⟩ := h
        have htouch : touch (.call cl) e = (e s).ids ++ (e x).ids := by simp only [touch, hcal, hargs, List.flatMap_cons, List.flatMap_nil, List.append_nil]
        split at h
        · rename_i el hd1
          rw [hlift_iff] at h
          obtain ⟨te, hte, h⟩ := h
          rw [hlift_iff] at h
          obtain ⟨l2, hl2, hc2, h⟩ := h
          split at h
          · rename_i e' sz D ho
            refine ⟨_, some (id, _), h.2.2.2, fun ob' hag K' hK' => ?_, fun p hp => ?_, by simp [isQuiet, hcal]⟩
            · simp only [hop, hcal, hargs, hat, happend2, hs, ht, hlift_some, hd1, hte]
              refine ⟨ht', ?_⟩
              rw [hread_agree (fun i hi => hag i (by rw [htouch]; exact List.mem_append_right _ hi)), hl2]
              simp only [hlift_some]
              rw [hag id (by rw [htouch, hs]; simp [HV.ids]), ho]
              exact ⟨hc2, h.1, h.2.1, h.2.2.1, hK'⟩
            · cases hp
              exact .inr ⟨by simp only [isEff, hcal], by rw [htouch, hs]; simp [HV.ids]⟩
          · exact h.elim
        · exact h.elim
      rename_i hns
      have e2 : ∀ (ob' : Ob) (K' : HV → Ob → Prop), happend2 P t (e s) (e x) nid ob' K' = happend P t (e s) (e x) nid ob' K' := fun ob' K' => by
        unfold happend2
        split
        · rename_i id k n hx; exact absurd hx (hns id k n)
        · rfl
      unfold happend at h
      rw [hlift_iff] at h
      obtain ⟨ti, ht, h⟩ := h
      have htouch : touch (.call cl) e = (e s).ids ++ (e x).ids := by simp only [touch, hcal, hargs, List.flatMap_cons, List.flatMap_nil, List.append_nil]
      split at h
      · rename_i el hd1
        rw [hlift_iff] at h
        obtain ⟨te, hte, h⟩ := h
        rw [hlift_iff] at h
        obtain ⟨l2, hl2, hc2, h⟩ := h
        split at h
        · rename_i id n hs
          split at h
          · rename_i e' sz l ho
            refine ⟨_, some (id, _), h.2.2.2, fun ob' hag K' hK' => ?_, fun p hp => ?_, by simp [isQuiet, hcal]⟩
            · simp only [hop, hcal, hargs, hat, e2, happend, ht, hlift_some, hd1, hte]
              refine ⟨ht', ?_⟩
              rw [hread_agree (fun i hi => hag i (by rw [htouch]; exact List.mem_append_right _ hi)), hl2]
              simp only [hlift_some, hs]
              rw [hag id (by rw [htouch, hs]; simp [HV.ids]), ho]
              exact ⟨hc2, h.1, h.2.1, h.2.2.1, hK'⟩
            · cases hp
              exact .inr ⟨by simp only [isEff, hcal], by rw [htouch, hs]; simp [HV.ids]⟩
          · exact h.elim
        · rename_i hs
          refine ⟨_, some (nid, _), h.2.2, fun ob' hag K' hK' => ?_, by simp, by first | (simp [isQuiet]; done) | (simp [isQuiet, hcal]; done)⟩
          simp only [hop, hcal, hargs, hat, e2, happend, ht, hlift_some, hd1, hte]
          refine ⟨ht', ?_⟩
          rw [hread_agree (fun i hi => hag i (by rw [htouch]; exact List.mem_append_right _ hi)), hl2]
          simp only [hlift_some, hs]
          exact ⟨hc2, h.1, h.2.1, hK'⟩
        · exact h.elim
      · exact h.elim
    · rename_i x y t1 t2 hcal hargs hat
      unfold hmax at h
      split at h
      · rename_i k i1 k' i2 hx hy
        exact ⟨_, none, h.2, fun ob' _ K' hK' => (by simp only [hop, hcal, hargs, hat, hmax, hx, hy]; exact ⟨h.1, hK'⟩), by simp, fun _ => rfl⟩
      · exact h.elim
    · rename_i x y t1 t2 hcal hargs hat
      unfold hmax at h
      split at h
      · rename_i k i1 k' i2 hx hy
        exact ⟨_, none, h.2, fun ob' _ K' hK' => (by simp only [hop, hcal, hargs, hat, hmax, hx, hy]; exact ⟨h.1, hK'⟩), by simp, fun _ => rfl⟩
      · exact h.elim
    · rename_i x t hcal hargs hat
      have htouch : touch (.call cl) e = (e x).ids := by simp only [touch, hcal, hargs, List.flatMap_cons, List.flatMap_nil, List.append_nil]
      unfold hclear at h
      rw [hlift_iff] at h
      obtain ⟨ti, ht, h⟩ := h
      split at h
      · rename_i el id n lo sz hi hd1 hx
        rw [hlift_iff] at h
        obtain ⟨te, hte, h⟩ := h
        split at h
        · rename_i e' sz' l ho
          refine ⟨_, some (id, _), h.2, fun ob' hag K' hK' => ?_, fun p hp => ?_, by simp [isQuiet, hcal]⟩
          · have hoid := hag id (by rw [htouch, hx]; simp [HV.ids])
            simp only [hop, hcal, hargs, hat, hclear, ht, hlift_some, hd1, hx, hte, hoid, ho]
            exact ⟨h.1, hK'⟩
          · cases hp; exact .inr ⟨by simp only [isEff, hcal], by rw [htouch, hx]; simp [HV.ids]⟩
        · exact h.elim
      · exact h.elim
    · exact h.elim
  · exact h.elim

theorem hop_form {P : Program} {nid : Nat} {o : Op} {e : Operand → HV} {ob : Ob} {K : HV → Ob → Prop} (h : hop P nid o e ob K) :
    ∃ v u, K v (app u ob) ∧ (∀ ob' : Ob, (∀ id ∈ touch o e, ob' id = ob id) → ∀ K' : HV → Ob → Prop, K' v (app u ob') → hop P nid o e ob' K') ∧ (∀ p, u = some p → p.1 = nid ∨ (isEff o = true ∧ p.1 ∈ touch o e)) :=
  let ⟨v, u, h1, h2, h3, _⟩ := hop_form2 h
  ⟨v, u, h1, h2, h3⟩
end Go.Hl
