/- HL, part M, closing: a row that an operation makes or lengthens may be closed at once. By an AI agent. -/
import Derived.Test.YtenbfeemmpjdhaaGreatDoorHlL
set_option linter.unusedSimpArgs false
set_option linter.unusedVariables false
set_option linter.defProp false
namespace Go.Hl
open Go

def HV.ids : HV → List Nat
 | .own id _ | .ptr id _ | .eptr id _ _ _ _ | .osl id _ _ _ _ | .mapr id | .mrow id _ _ => [id]
 | _ => []

def touch (o : Op) (e : Operand → HV) : List Nat :=
 match o with
 | .load _ x | .fieldAddr _ x _ | .nilCheck x => (e x).ids
 | .indexAddr _ x _ => (e x).ids
 | .slice _ x _ _ _ => (e x).ids
 | .lookup _ x _ _ | .mapUpdate _ x _ _ => (e x).ids
 | .store _ x _ => (e x).ids
 | .call c => match c.callee with
  | .builtin _ => c.args.toList.flatMap fun x => (e x).ids
  | _ => []
 | _ => []

def isEff : Op → Bool
 | .store _ _ _ | .mapUpdate _ _ _ _ => true
 | .call c => match c.callee with
  | .builtin .len | .builtin .max | .builtin .min => false
  | _ => true
 | _ => false

def isQuiet : Op → Bool
 | .store _ _ _ | .alloc _ | .box _ _ | .buildSlice _ _ _ | .mapUpdate _ _ _ _ | .makeMap _ _ | .makeSlice _ _ _ => false
 | .call c => match c.callee with
  | .builtin .len | .builtin .max | .builtin .min => true
  | _ => false
 | _ => true

def app (u : Option (Nat × HO)) (ob : Ob) : Ob := match u with | some p => upd ob p.1 (some p.2) | none => ob

theorem hload_agree {ti : TyI} {a : HV} {ob ob' : Ob} {K : HV → Prop} (hag : ∀ id ∈ a.ids, ob' id = ob id) (h : hload ti a ob K) : hload ti a ob' K := by
 cases a with
 | ptr id off =>
  have := hag id (by simp [HV.ids])
  simp only [hload] at h ⊢
  rw [this]; exact h
 | eptr id n i sz off =>
  have := hag id (by simp [HV.ids])
  simp only [hload] at h ⊢
  rw [this]; exact h
 | c v => cases v <;> simp only [hload] at h ⊢ <;> exact h
 | _ => simp only [hload] at h
theorem hfieldAddr_agree {P : Program} {t : TypeId} {a : HV} {f : Nat} {ob ob' : Ob} {K : HV → Prop} (hag : ∀ id ∈ a.ids, ob' id = ob id) (h : hfieldAddr P t a f ob K) : hfieldAddr P t a f ob' K := by
 unfold hfieldAddr hfield at h ⊢
 cases ht : tyOf P t with
 | none => rw [ht] at h; exact h.elim
 | some ti =>
  rw [ht] at h
  simp only [hlift_some] at h ⊢
  split at h
  ·
   rename_i fs hfs
   cases hf : fs[f]? with
   | none => rw [hf] at h; exact h.elim
   | some p =>
    rw [hf] at h
    simp only [hlift_some] at h ⊢
    cases htf : tyOf P p.2 with
    | none => rw [htf] at h; exact h.elim
    | some tf =>
     rw [htf] at h
     simp only [hlift_some] at h ⊢
     cases a with
     | ptr id o => simp only at h ⊢; rw [show ob' id = ob id from hag id (by simp [HV.ids])]; exact h
     | eptr id n i sz o => simp only at h ⊢; rw [show ob' id = ob id from hag id (by simp [HV.ids])]; exact h
     | c v => cases v <;> exact h
     | _ => exact h
  ·
   exact h.elim
theorem hindexAddr_agree {P : Program} {t : TypeId} {a i : HV} {ob ob' : Ob} {K : HV → Prop} (hag : ∀ id ∈ a.ids, ob' id = ob id) (h : hindexAddr P t a i ob K) : hindexAddr P t a i ob' K := by
 unfold hindexAddr at h ⊢
 cases ht : tyOf P t with
 | none => rw [ht] at h; exact h.elim
 | some ti =>
  rw [ht] at h
  simp only [hlift_some] at h ⊢
  split at h
  ·
   rename_i e k n hd
   cases hte : tyOf P e with
   | none => rw [hte] at h; exact h.elim
   | some te =>
    rw [hte] at h
    simp only [hlift_some] at h ⊢
    cases a with
    | own id m => simp only at h ⊢; rw [show ob' id = ob id from hag id (by simp [HV.ids])]; exact h
    | osl id m lo sz hi => simp only at h ⊢; rw [show ob' id = ob id from hag id (by simp [HV.ids])]; exact h
    | c v => cases v <;> exact h
    | _ => exact h
  ·
   rename_i m e k n hd
   cases hte : tyOf P e with
   | none => rw [hte] at h; exact h.elim
   | some te =>
    rw [hte] at h
    simp only [hlift_some] at h ⊢
    refine ⟨h.1, ?_⟩
    have h := h.2
    cases a with
    | ptr id o => simp only at h ⊢; rw [show ob' id = ob id from hag id (by simp [HV.ids])]; exact h
    | eptr id n i sz o => simp only at h ⊢; rw [show ob' id = ob id from hag id (by simp [HV.ids])]; exact h
    | c v => cases v <;> exact h
    | _ => exact h
  ·
   exact h.elim
theorem hread_agree {a : HV} {ob ob' : Ob} (hag : ∀ id ∈ a.ids, ob' id = ob id) : hread a ob' = hread a ob := by
 cases a with
 | own id m => simp only [hread, show ob' id = ob id from hag id (by simp [HV.ids])]
 | osl id m lo sz hi => simp only [hread, show ob' id = ob id from hag id (by simp [HV.ids])]
 | c v => cases v <;> rfl
 | _ => rfl
theorem live_agree {a : HV} {ob ob' : Ob} (hag : ∀ id ∈ a.ids, ob' id = ob id) (h : live a ob) : live a ob' := by
 cases a with
 | ptr id o => simp only [live, show ob' id = ob id from hag id (by simp [HV.ids])] at h ⊢; exact h
 | eptr id n i sz o => simp only [live, show ob' id = ob id from hag id (by simp [HV.ids])] at h ⊢; exact h
 | c v => cases v <;> exact h
 | _ => exact h

theorem hop_form2 {P : Program} {nid : Nat} {o : Op} {e : Operand → HV} {ob : Ob} {K : HV → Ob → Prop} (h : hop P nid o e ob K) :
  ∃ v u, K v (app u ob) ∧ (∀ ob' : Ob, (∀ id ∈ touch o e, ob' id = ob id) → ∀ K' : HV → Ob → Prop, K' v (app u ob') → hop P nid o e ob' K') ∧ (∀ p, u = some p → p.1 = nid ∨ (isEff o = true ∧ p.1 ∈ touch o e)) ∧ (isQuiet o = true → u = none) := by
 unfold hop at h
 split at h
 ·
  exact ⟨_, none, h.2, fun ob' _ K' hK => ⟨h.1, hK⟩, by simp, fun _ => rfl⟩
 ·
  exact ⟨_, none, h.2, fun ob' _ K' hK => ⟨h.1, hK⟩, by simp, fun _ => rfl⟩
 ·
  unfold hpick at h
  split at h
  ·
   rename_i t hc
   exact ⟨_, none, h.2, fun ob' _ K' hK => (by simp only [hop, hpick, hc]; exact ⟨h.1, hK⟩), by simp, fun _ => rfl⟩
  ·
   exact h.elim
 ·
  rw [hlift_iff] at h
  obtain ⟨ti, ht, hK⟩ := h
  exact ⟨_, some (nid, _), hK, fun ob' _ K' hK => (by simp only [hop, ht, hlift_some]; exact hK), by simp, by first | (simp [isQuiet]; done) | (simp [isQuiet, hcal]; done)⟩
 ·
  exact ⟨_, some (nid, _), h.2, fun ob' _ K' hK => (by simp only [hop]; exact ⟨h.1, hK⟩), by simp, by first | (simp [isQuiet]; done) | (simp [isQuiet, hcal]; done)⟩
 ·
  rw [hlift_iff] at h
  obtain ⟨ti, ht, h⟩ := h
  unfold hbuild at h
  split at h
  ·
   rename_i zs hz
   rw [hlift_iff] at h
   obtain ⟨hs, hf, hK⟩ := h
   exact ⟨_, none, hK, fun ob' _ K' hK => (by simp only [hop, ht, hlift_some, hbuild, hz, hf]; exact hK), by simp, fun _ => rfl⟩
  ·
   exact h.elim
 ·
  rw [hlift_iff] at h
  obtain ⟨ti, ht, h⟩ := h
  split at h
  ·
   rename_i el hel
   rw [hlift_iff] at h
   obtain ⟨te, hte, h⟩ := h
   rw [hlift_iff] at h
   obtain ⟨l, hcl, h1, hK⟩ := h
   exact ⟨_, some (nid, _), hK, fun ob' _ K' hK => (by simp only [hop, ht, hlift_some, hel, hte, hcl]; exact ⟨h1, hK⟩), by simp, by first | (simp [isQuiet]; done) | (simp [isQuiet, hcal]; done)⟩
  ·
   exact h.elim
 ·
  rename_i t x
  rw [hlift_iff] at h
  obtain ⟨ti, ht, h⟩ := h
  have key : ∀ K : HV → Prop, hload ti (e x) ob K → ∃ v, K v ∧ ∀ K' : HV → Prop, K' v → hload ti (e x) ob K' := by
   intro K h
   unfold hload at h
   split at h
   ·
    rename_i v hx
    rw [hlift_iff] at h
    obtain ⟨u, hu, hK⟩ := h
    exact ⟨_, hK, fun K' hK' => by simp only [hload, hx, hu, hlift_some]; exact hK'⟩
   ·
    rename_i id off hx
    split at h
    ·
     rename_i tb v ho
     obtain ⟨hs, h⟩ := h
     rw [hlift_iff] at h
     obtain ⟨u, hu, hK⟩ := h
     exact ⟨_, hK, fun K' hK' => by simp only [hload, hx, ho, hu, hlift_some]; exact ⟨hs, hK'⟩⟩
    ·
     exact h.elim
   ·
    rename_i id n i sz off hx
    split at h
    ·
     rename_i tb sz' l ho
     obtain ⟨hs, h⟩ := h
     rw [hlift_iff] at h
     obtain ⟨u, hu, hK⟩ := h
     exact ⟨_, hK, fun K' hK' => by simp only [hload, hx, ho, hu, hlift_some]; exact ⟨hs, hK'⟩⟩
    ·
     exact h.elim
   ·
    exact h.elim
  obtain ⟨v, hK, hv⟩ := key _ h
  exact ⟨v, none, hK, fun ob' hag K' hK' => (by simp only [hop, ht, hlift_some]; exact hload_agree hag (hv _ hK')), by simp, fun _ => rfl⟩
 ·
  rename_i t x y
  rw [hlift_iff] at h
  obtain ⟨ti, ht, h⟩ := h
  unfold hstore at h
  split at h
  ·
   rename_i id off hx
   split at h
   ·
    rename_i T u ho
    obtain ⟨h1, h⟩ := h
    rw [hlift_iff] at h
    obtain ⟨u', hu, hK⟩ := h
    refine ⟨_, some (id, _), hK, fun ob' hag K' hK' => ?_, fun p hp => ?_, by simp [isQuiet]⟩
    ·
     have := hag id (by simp [touch, hx, HV.ids])
     simp only [hop, ht, hlift_some, hstore, hx, this, ho, hu]
     exact ⟨h1, hK'⟩
    ·
     cases hp; exact .inr ⟨rfl, by simp [touch, hx, HV.ids]⟩
   ·
    exact h.elim
  ·
   rename_i id n i sz off hx
   split at h
   ·
    rename_i T sz' l ho
    obtain ⟨h1, h⟩ := h
    rw [hlift_iff] at h
    obtain ⟨u', hu, h⟩ := h
    rw [hlift_iff] at h
    obtain ⟨cu, hcu, hK⟩ := h
    refine ⟨_, some (id, _), hK, fun ob' hag K' hK' => ?_, fun p hp => ?_, by simp [isQuiet]⟩
    ·
     have := hag id (by simp [touch, hx, HV.ids])
     simp only [hop, ht, hlift_some, hstore, hx, this, ho, hu, hcu]
     exact ⟨h1, hK'⟩
    ·
     cases hp; exact .inr ⟨rfl, by simp [touch, hx, HV.ids]⟩
   ·
    exact h.elim
  ·
   exact h.elim
 ·
  exact ⟨_, none, h.2, fun ob' hag K' hK => ⟨live_agree hag h.1, hK⟩, by simp, fun _ => rfl⟩
 ·
  rename_i op t x y yt
  have key : ∀ K : CV → Prop, hbin P op t (e x) (e y) K → ∃ u, K u ∧ ∀ K' : CV → Prop, K' u → hbin P op t (e x) (e y) K' := by
   intro K h
   unfold hbin at h
   split at h
   ·
    rename_i k1 i1 k2 i2 hx hy
    by_cases hs : isShift op = true
    ·
     rw [if_pos hs] at h
     cases op <;> simp [isShift] at hs <;> simp only [hshift] at h
     all_goals exact ⟨_, h.2, fun K' hK' => by simp only [hbin, hx, hy, isShift, if_true, hshift]; exact ⟨h.1, hK'⟩⟩
    ·
     rw [if_neg hs] at h
     cases op <;> simp [isShift] at hs <;> simp only [hint] at h
     case quo => exact ⟨_, h.2.2, fun K' hK' => by simp only [hbin, hx, hy, isShift, hint]; exact ⟨h.1, h.2.1, hK'⟩⟩
     case rem => exact ⟨_, h.2.2, fun K' hK' => by simp only [hbin, hx, hy, isShift, hint]; exact ⟨h.1, h.2.1, hK'⟩⟩
     all_goals exact ⟨_, h.2, fun K' hK' => by simp only [hbin, hx, hy, isShift, hint]; exact ⟨h.1, hK'⟩⟩
   ·
    rename_i s1 s2 hx hy
    cases op <;> simp only [hstr] at h
    case add => exact ⟨_, h.2, fun K' hK' => by simp only [hbin, hx, hy, hstr]; exact ⟨h.1, hK'⟩⟩
    all_goals first | exact h.elim | exact ⟨_, h, fun K' hK' => by simp only [hbin, hx, hy, hstr]; exact hK'⟩
   ·
    rename_i b1 b2 hx hy
    rw [hlift_iff] at h
    obtain ⟨ti, ht, h1, h⟩ := h
    cases op <;> simp only at h
    all_goals first | exact h.elim | exact ⟨_, h, fun K' hK' => by simp only [hbin, hx, hy, ht, hlift_some]; exact ⟨h1, hK'⟩⟩
   ·
    rename_i l1 l2 hx hy
    obtain ⟨h1, h⟩ := h
    cases op <;> simp only at h
    all_goals first | exact h.elim | exact ⟨_, h, fun K' hK' => by simp only [hbin, hx, hy]; exact ⟨h1, hK'⟩⟩
   ·
    exact h.elim
  obtain ⟨u, hK, hu⟩ := key _ h
  exact ⟨.c u, none, hK, fun ob' _ K' hK' => (by simp only [hop]; exact hu _ hK'), by simp, fun _ => rfl⟩
 ·
  rename_i op t x
  unfold hun at h
  split at h
  ·
   rename_i b hx
   exact ⟨_, none, h, fun ob' _ K' hK' => (by simp only [hop, hun, hx]; exact hK'), by simp, fun _ => rfl⟩
  ·
   rename_i k n hx
   exact ⟨_, none, h, fun ob' _ K' hK' => (by simp only [hop, hun, hx]; exact hK'), by simp, fun _ => rfl⟩
  ·
   rename_i k n hx
   exact ⟨_, none, h, fun ob' _ K' hK' => (by simp only [hop, hun, hx]; exact hK'), by simp, fun _ => rfl⟩
  ·
   exact h.1.elim
  ·
   exact h.elim
 ·
  rename_i sr ds x
  unfold hconv at h
  rw [hlift_iff] at h
  obtain ⟨ts, hts, h⟩ := h
  rw [hlift_iff] at h
  obtain ⟨td, htd, h⟩ := h
  split at h
  ·
   rename_i k k' n hd1 hx
   exact ⟨_, none, h, fun ob' _ K' hK' => (by simp only [hop, hconv, hts, htd, hlift_some, hd1, hx]; exact hK'), by simp, fun _ => rfl⟩
  ·
   rename_i s hd1 hx
   exact ⟨_, none, h, fun ob' _ K' hK' => (by simp only [hop, hconv, hts, htd, hlift_some, hd1, hx]; exact hK'), by simp, fun _ => rfl⟩
  ·
   rename_i el l hd1 hd2 hx
   rw [hlift_iff] at h
   obtain ⟨te, hte, h8, h⟩ := h
   rw [hlift_iff] at h
   obtain ⟨bs, hbs, h⟩ := h
   exact ⟨_, none, h, fun ob' _ K' hK' => (by simp only [hop, hconv, hts, htd, hlift_some, hd1, hd2, hx, hte, hbs]; exact ⟨h8, hK'⟩), by simp, fun _ => rfl⟩
  ·
   exact h.elim
 ·
  rename_i f first caps
  obtain ⟨hf, h⟩ := h
  unfold hclo at h
  split at h
  ·
   rename_i hc
   exact ⟨_, none, h, fun ob' _ K' hK' => (by simp only [hop, hclo, hc]; exact ⟨hf, hK'⟩), by simp, fun _ => rfl⟩
  ·
   rename_i hne
   refine ⟨_, none, h.2, fun ob' _ K' hK' => ?_, by simp, fun _ => rfl⟩
   simp only [hop]
   refine ⟨hf, ?_⟩
   unfold hclo
   split
   ·
    rename_i hc; exact absurd hc hne
   ·
    exact ⟨h.1, hK'⟩
 ·
  rename_i t x lo hi
  by_cases hown : ∃ id n, e x = .own id n
  ·
   obtain ⟨id, n, hx⟩ := hown
   simp only [hslice2, hx] at h
   rw [hlift_iff] at h
   obtain ⟨ti, ht, h⟩ := h
   split at h
   ·
    rename_i el e' sz l hd1 ho
    rw [hlift_iff] at h
    obtain ⟨te, hte, h1, h⟩ := h
    rw [hlift_iff] at h
    obtain ⟨u1, hu1, h⟩ := h
    rw [hlift_iff] at h
    obtain ⟨u2, hu2, h2, hK⟩ := h
    refine ⟨_, none, hK, fun ob' hag K' hK' => ?_, by simp, fun _ => rfl⟩
    have hoid : ob' id = ob id := hag id (by simp [touch, hx, HV.ids])
    simp only [hop, hslice2, hx, ht, hlift_some, hd1, hoid, ho, hte]
    refine ⟨h1, ?_⟩
    rw [hu1]; simp only [hlift_some]; rw [hu2]; exact ⟨h2, hK'⟩
   ·
    exact h.elim
  by_cases hptr : ∃ id off, e x = .ptr id off
  ·
   obtain ⟨id, off, hx⟩ := hptr
   simp only [hslice2, hx] at h
   rw [hlift_iff] at h
   obtain ⟨ti, ht, h⟩ := h
   split at h
   ·
    rename_i m el T v hd1 ho
    rw [hlift_iff] at h
    obtain ⟨te, hte, h1, h⟩ := h
    rw [hlift_iff] at h
    obtain ⟨u1, hu1, h⟩ := h
    rw [hlift_iff] at h
    obtain ⟨u2, hu2, h2, hK⟩ := h
    refine ⟨_, none, hK, fun ob' hag K' hK' => ?_, by simp, fun _ => rfl⟩
    have hoid : ob' id = ob id := hag id (by simp [touch, hx, HV.ids])
    simp only [hop, hslice2, hx, ht, hlift_some, hd1, hoid, ho, hte]
    refine ⟨h1, ?_⟩
    rw [hu1]; simp only [hlift_some]; rw [hu2]; exact ⟨h2, hK'⟩
   ·
    exact h.elim
  have e2 : ∀ (ob' : Ob) (K' : HV → Prop), hslice2 P t (e x) (lo.map e) (hi.map e) ob' K' = hslice P t (e x) (lo.map e) (hi.map e) K' := fun ob' K' => by
   unfold hslice2
   split
   ·
    rename_i id n hx; exact absurd ⟨id, n, hx⟩ hown
   ·
    rename_i id off hx; exact absurd ⟨id, off, hx⟩ hptr
   ·
    rfl
  rw [e2] at h
  have key : ∀ K : HV → Prop, hslice P t (e x) (lo.map e) (hi.map e) K → ∃ u, K u ∧ ∀ K' : HV → Prop, K' u → hslice P t (e x) (lo.map e) (hi.map e) K' := by
   intro K h
   unfold hslice at h
   rw [hlift_iff] at h
   obtain ⟨ti, ht, h⟩ := h
   simp only at h
   split at h
   ·
    rename_i s hd1 hx
    rw [hlift_iff] at h
    obtain ⟨l, hl, h⟩ := h
    rw [hlift_iff] at h
    obtain ⟨hh, hhh, hb, hK⟩ := h
    exact ⟨_, hK, fun K' hK' => by simp only [hslice, ht, hlift_some, hd1, hx]; rw [hl]; simp only [hlift_some]; rw [hhh]; exact ⟨hb, hK'⟩⟩
   ·
    rename_i el s hd1 hx
    rw [hlift_iff] at h
    obtain ⟨te, hte, hc, h⟩ := h
    rw [hlift_iff] at h
    obtain ⟨l, hl, h⟩ := h
    rw [hlift_iff] at h
    obtain ⟨hh, hhh, hb, hK⟩ := h
    exact ⟨_, hK, fun K' hK' => by simp only [hslice, ht, hlift_some, hd1, hx, hte]; refine ⟨hc, ?_⟩; rw [hl]; simp only [hlift_some]; rw [hhh]; exact ⟨hb, hK'⟩⟩
   ·
    rename_i el hd1 hx
    rw [hlift_iff] at h
    obtain ⟨te, hte, h⟩ := h
    rw [hlift_iff] at h
    obtain ⟨l, hl, h⟩ := h
    rw [hlift_iff] at h
    obtain ⟨hh, hhh, hb, hK⟩ := h
    exact ⟨_, hK, fun K' hK' => by simp only [hslice, ht, hlift_some, hd1, hx, hte]; rw [hl]; simp only [hlift_some]; rw [hhh]; exact ⟨hb, hK'⟩⟩
   ·
    rename_i m el s hd1 hx
    rw [hlift_iff] at h
    obtain ⟨te, hte, hc, h⟩ := h
    rw [hlift_iff] at h
    obtain ⟨l, hl, h⟩ := h
    rw [hlift_iff] at h
    obtain ⟨hh, hhh, hb, hK⟩ := h
    exact ⟨_, hK, fun K' hK' => by simp only [hslice, ht, hlift_some, hd1, hx, hte]; refine ⟨hc, ?_⟩; rw [hl]; simp only [hlift_some]; rw [hhh]; exact ⟨hb, hK'⟩⟩
   ·
    exact h.elim
  obtain ⟨u, hK, hu⟩ := key _ h
  exact ⟨u, none, hK, fun ob' _ K' hK' => (by simp only [hop, e2]; exact hu _ hK'), by simp, fun _ => rfl⟩
 ·
  rename_i t x lo hi mx
  have key : ∀ K : HV → Prop, hslice3 P t (e x) (lo.map e) (e hi) (e mx) K → ∃ u, K u ∧ ∀ K' : HV → Prop, K' u → hslice3 P t (e x) (lo.map e) (e hi) (e mx) K' := by
   intro K h
   unfold hslice3 at h
   rw [hlift_iff] at h
   obtain ⟨ti, ht, h⟩ := h
   split at h
   ·
    rename_i el s kh hh km m hd1 hx hhi hmx
    rw [hlift_iff] at h
    obtain ⟨te, hte, hc, h⟩ := h
    rw [hlift_iff] at h
    obtain ⟨l, hl, hb, hK⟩ := h
    exact ⟨_, hK, fun K' hK' => by simp only [hslice3, ht, hlift_some, hd1, hx, hhi, hmx, hte]; refine ⟨hc, ?_⟩; rw [hl]; exact ⟨hb, hK'⟩⟩
   ·
    exact h.elim
  obtain ⟨u, hK, hu⟩ := key _ h
  exact ⟨u, none, hK, fun ob' _ K' hK' => (by simp only [hop]; exact hu _ hK'), by simp, fun _ => rfl⟩
 ·
  rename_i t
  unfold hmakeMap at h
  rw [hlift_iff] at h
  obtain ⟨ti, ht, h⟩ := h
  split at h
  ·
   rename_i kt et hd1
   rw [hlift_iff] at h
   obtain ⟨te, hte, h⟩ := h
   split at h
   ·
    rename_i el hd2
    rw [hlift_iff] at h
    obtain ⟨t2, ht2, hK⟩ := h
    exact ⟨_, some (nid, _), hK, fun ob' _ K' hK' => (by simp only [hop, hmakeMap, ht, hlift_some, hd1, hte, hd2, ht2]; exact hK'), by simp, by simp [isQuiet]⟩
   ·
    rename_i hd2
    refine ⟨_, some (nid, _), h, fun ob' _ K' hK' => ?_, by simp, by simp [isQuiet]⟩
    simp only [hop, hmakeMap, ht, hlift_some, hd1, hte]
    exact hK'
  ·
   exact h.elim
 ·
  rename_i t m k
  unfold hlookup at h
  rw [hlift_iff] at h
  obtain ⟨ti, ht, h⟩ := h
  split at h
  ·
   rename_i kt et hd1
   rw [hlift_iff] at h
   obtain ⟨tk, htk, h⟩ := h
   rw [hlift_iff] at h
   obtain ⟨te, hte, h⟩ := h
   split at h
   ·
    rename_i id s hkd hm hk
    obtain ⟨hs, h⟩ := h
    split at h
    ·
     rename_i e' sz D ho
     have go : ∀ ob' : Ob, ob' id = ob id → ∀ K' : HV → Prop, hlookup P t (e m) (e k) ob' K' = (s.length ≤ maxLen ∧ match te.d, te.z with
       | .slice _, .nils => isRowM (mget D s) = true ∧ K' (.mrow id s (rowOf (mget D s)).length)
       | _, _ => isValM (mget D s) = true ∧ K' (.c (valOf te.z (mget D s)))) := fun ob' hob K' => by
      simp only [hlookup, ht, hlift_some, hd1, htk, hte, hkd, hm, hk, hob, ho]
      rfl
     split at h
     ·
      rename_i hde hdz
      refine ⟨_, none, h.2, fun ob' hag K' hK' => ?_, by simp, fun _ => rfl⟩
      simp only [hop]
      rw [go ob' (hag id (by simp [touch, hm, HV.ids])), hde, hdz]
      exact ⟨hs, h.1, hK'⟩
     ·
      rename_i hno
      refine ⟨_, none, h.2, fun ob' hag K' hK' => ?_, by simp, fun _ => rfl⟩
      simp only [hop]
      rw [go ob' (hag id (by simp [touch, hm, HV.ids]))]
      refine ⟨hs, ?_⟩
      split
      ·
       rename_i el hde hdz; exact absurd hdz (hno el hde)
      ·
       exact ⟨h.1, hK'⟩
    ·
     exact h.elim
   ·
    exact h.elim
  ·
   exact h.elim
 ·
  rename_i t m k v
  unfold hmapUpdate at h
  rw [hlift_iff] at h
  obtain ⟨ti, ht, h⟩ := h
  split at h
  ·
   rename_i kt et hd1
   rw [hlift_iff] at h
   obtain ⟨tk, htk, h⟩ := h
   rw [hlift_iff] at h
   obtain ⟨te, hte, h⟩ := h
   split at h
   ·
    rename_i id s hkd hm hk
    obtain ⟨hs, h⟩ := h
    split at h
    ·
     rename_i e' sz D ho
     split at h
     ·
      rename_i el id2 s2 n hde hv
      refine ⟨_, some (id, _), h.2, fun ob' hag K' hK' => ?_, fun p hp => ?_, by simp [isQuiet]⟩
      ·
       have hoid := hag id (by simp [touch, hm, HV.ids])
       simp only [hop, hmapUpdate, ht, hlift_some, hd1, htk, hte, hkd, hm, hk, hoid, ho, hde, hv]
       exact ⟨hs, h.1, hK'⟩
      ·
       cases hp; exact .inr ⟨rfl, by simp [touch, hm, HV.ids]⟩
     ·
      rename_i cv _ _ hv
      refine ⟨_, some (id, _), h.2, fun ob' hag K' hK' => ?_, fun p hp => ?_, by simp [isQuiet]⟩
      ·
       have hoid := hag id (by simp [touch, hm, HV.ids])
       simp only [hop, hmapUpdate, ht, hlift_some, hd1, htk, hte, hkd, hm, hk, hoid, ho, hv]
       exact ⟨hs, h.1, hK'⟩
      ·
       cases hp; exact .inr ⟨rfl, by simp [touch, hm, HV.ids]⟩
     ·
      exact h.elim
    ·
     exact h.elim
   ·
    exact h.elim
  ·
   exact h.elim
 ·
  rename_i t x f
  have key : ∀ K : HV → Prop, hfieldAddr P t (e x) f ob K → ∃ u, K u ∧ ∀ K' : HV → Prop, K' u → hfieldAddr P t (e x) f ob K' := by
   intro K h
   unfold hfieldAddr hfield at h
   rw [hlift_iff] at h
   obtain ⟨ti, ht, h⟩ := h
   split at h
   ·
    rename_i fs hfs
    rw [hlift_iff] at h
    obtain ⟨p, hp, h⟩ := h
    rw [hlift_iff] at h
    obtain ⟨tf, htf, h⟩ := h
    split at h
    ·
     rename_i v hx
     rw [hlift_iff] at h
     obtain ⟨u, hu, hK⟩ := h
     exact ⟨_, hK, fun K' hK' => by simp only [hfieldAddr, hfield, ht, hlift_some, hfs, hp, htf, hx, hu]; exact hK'⟩
    ·
     rename_i id o hx
     exact ⟨_, h.2, fun K' hK' => by simp only [hfieldAddr, hfield, ht, hlift_some, hfs, hp, htf, hx]; exact ⟨h.1, hK'⟩⟩
    ·
     rename_i id n i sz o hx
     exact ⟨_, h.2, fun K' hK' => by simp only [hfieldAddr, hfield, ht, hlift_some, hfs, hp, htf, hx]; exact ⟨h.1, hK'⟩⟩
    ·
     exact h.elim
   ·
    exact h.elim
  obtain ⟨u, hK, hu⟩ := key _ h
  exact ⟨u, none, hK, fun ob' hag K' hK' => (by simp only [hop]; exact hfieldAddr_agree hag (hu _ hK')), by simp, fun _ => rfl⟩
 ·
  rename_i t x f
  obtain ⟨h1, h⟩ := h
  have key : ∀ G : Nat → TyI → Prop, hfield P t f G → ∃ off tf, G off tf ∧ ∀ G' : Nat → TyI → Prop, G' off tf → hfield P t f G' := by
   intro G h
   unfold hfield at h
   rw [hlift_iff] at h
   obtain ⟨ti, ht, h⟩ := h
   split at h
   ·
    rename_i fs hfs
    rw [hlift_iff] at h
    obtain ⟨p, hp, h⟩ := h
    rw [hlift_iff] at h
    obtain ⟨tf, htf, h⟩ := h
    exact ⟨_, _, h, fun G' hG' => by simp only [hfield, ht, hlift_some, hfs, hp, htf]; exact hG'⟩
   ·
    exact h.elim
  obtain ⟨off, tf, hG, hG'⟩ := key _ h
  rw [hlift_iff] at hG
  obtain ⟨v, hv, hK⟩ := hG
  exact ⟨v, none, hK, fun ob' _ K' hK' => (by simp only [hop]; exact ⟨h1, hG' _ (by rw [hv]; exact hK')⟩), by simp, fun _ => rfl⟩
 ·
  rename_i t x i
  have key : ∀ K : HV → Prop, hindexAddr P t (e x) (e i) ob K → ∃ u, K u ∧ ∀ K' : HV → Prop, K' u → hindexAddr P t (e x) (e i) ob K' := by
   intro K h
   unfold hindexAddr at h
   rw [hlift_iff] at h
   obtain ⟨ti, ht, h⟩ := h
   split at h
   ·
    rename_i el k n hd1 hi
    rw [hlift_iff] at h
    obtain ⟨te, hte, h⟩ := h
    split at h
    ·
     rename_i l hx
     exact ⟨_, h.2.2, fun K' hK' => by simp only [hindexAddr, ht, hlift_some, hd1, hi, hte, hx]; exact ⟨h.1, h.2.1, hK'⟩⟩
    ·
     rename_i id m hx
     split at h
     ·
      rename_i tr sz l ho
      exact ⟨_, h.2.2, fun K' hK' => by simp only [hindexAddr, ht, hlift_some, hd1, hi, hte, hx, ho]; exact ⟨h.1, h.2.1, hK'⟩⟩
     ·
      exact h.elim
    ·
     rename_i id m lo sz hi' hx
     split at h
     ·
      rename_i tr sz' l ho
      exact ⟨_, h.2.2, fun K' hK' => by simp only [hindexAddr, ht, hlift_some, hd1, hi, hte, hx, ho]; exact ⟨h.1, h.2.1, hK'⟩⟩
     ·
      rename_i tr v ho
      exact ⟨_, h.2.2, fun K' hK' => by simp only [hindexAddr, ht, hlift_some, hd1, hi, hte, hx, ho]; exact ⟨h.1, h.2.1, hK'⟩⟩
     ·
      exact h.elim
    ·
     exact h.elim
   ·
    rename_i m el k n hd1 hi
    rw [hlift_iff] at h
    obtain ⟨te, hte, h0, h⟩ := h
    split at h
    ·
     rename_i id o hx
     exact ⟨_, h.2, fun K' hK' => by simp only [hindexAddr, ht, hlift_some, hd1, hi, hte, hx]; exact ⟨h0, h.1, hK'⟩⟩
    ·
     rename_i id n' j sz o hx
     exact ⟨_, h.2, fun K' hK' => by simp only [hindexAddr, ht, hlift_some, hd1, hi, hte, hx]; exact ⟨h0, h.1, hK'⟩⟩
    ·
     rename_i v hx
     rw [hlift_iff] at h
     obtain ⟨u, hu, hK⟩ := h
     exact ⟨_, hK, fun K' hK' => by simp only [hindexAddr, ht, hlift_some, hd1, hi, hte, hx, hu]; exact ⟨h0, hK'⟩⟩
    ·
     exact h.elim
   ·
    exact h.elim
  obtain ⟨u, hK, hu⟩ := key _ h
  exact ⟨u, none, hK, fun ob' hag K' hK' => (by simp only [hop]; exact hindexAddr_agree hag (hu _ hK')), by simp, fun _ => rfl⟩
 ·
  rename_i t x i
  unfold hindex at h
  rw [hlift_iff] at h
  obtain ⟨ti, ht, h⟩ := h
  split at h
  ·
   rename_i s k n hd1 hx hi
   exact ⟨_, none, h.2, fun ob' _ K' hK' => (by simp only [hop, hindex, ht, hlift_some, hd1, hx, hi]; exact ⟨h.1, hK'⟩), by simp, fun _ => rfl⟩
  ·
   rename_i m el k n hd1 hi
   rw [hlift_iff] at h
   obtain ⟨te, hte, h1, h⟩ := h
   rw [hlift_iff] at h
   obtain ⟨u, hu, hK⟩ := h
   exact ⟨_, none, hK, fun ob' _ K' hK' => (by simp only [hop, hindex, ht, hlift_some, hd1, hi, hte, hu]; exact ⟨h1, hK'⟩), by simp, fun _ => rfl⟩
  ·
   exact h.elim
 ·
  rename_i x i
  unfold hext at h
  split at h
  ·
   rename_i l hx
   rw [hlift_iff] at h
   obtain ⟨v, hv, hj, hK⟩ := h
   exact ⟨_, none, hK, fun ob' _ K' hK' => (by simp only [hop, hext, hx, hv, hlift_some]; exact ⟨hj, hK'⟩), by simp, fun _ => rfl⟩
  ·
   exact h.elim
 ·
  rename_i cl
  split at h
  ·
   rename_i x t hcal hargs hat
   rw [hlift_iff] at h
   obtain ⟨ti, ht, h⟩ := h
   split at h
   ·
    rename_i hd1
    rw [hlift_iff] at h
    obtain ⟨n, hn, hK⟩ := h
    exact ⟨_, none, hK, fun ob' _ K' hK' => (by simp only [hop, hcal, hargs, hat, ht, hlift_some, hd1]; rw [hn]; exact hK'), by simp, fun _ => rfl⟩
   ·
    rename_i el hd1
    rw [hlift_iff] at h
    obtain ⟨l, hl, hK⟩ := h
    refine ⟨_, none, hK, fun ob' hag K' hK' => ?_, by simp, fun _ => rfl⟩
    simp only [hop, hcal, hargs, hat, ht, hlift_some, hd1]
    rw [hread_agree (fun id hid => hag id (by simp only [touch, hcal, hargs, List.flatMap_cons, List.flatMap_nil, List.append_nil]; exact hid)), hl]
    exact hK'
   ·
    rename_i n el hd1
    exact ⟨_, none, h, fun ob' _ K' hK' => (by simp only [hop, hcal, hargs, hat, ht, hlift_some, hd1]; exact hK'), by simp, fun _ => rfl⟩
   ·
    exact h.elim
  ·
   rename_i s x t t' hcal hargs hat
   by_cases htt : t' = t
   case neg =>
    rw [if_neg htt] at h
    have htouch : touch (.call cl) e = (e s).ids ++ (e x).ids := by simp only [touch, hcal, hargs, List.flatMap_cons, List.flatMap_nil, List.append_nil]
    unfold happends at h
    rw [hlift_iff] at h
    obtain ⟨ti, ht, h⟩ := h
    rw [hlift_iff] at h
    obtain ⟨tu, htu, h⟩ := h
    split at h
    ·
     rename_i el bs hd1 hd2 hx
     rw [hlift_iff] at h
     obtain ⟨te, hte, hc2, h⟩ := h
     split at h
     ·
      rename_i id n hs
      split at h
      ·
       rename_i e' sz l ho
       refine ⟨_, some (id, _), h.2.2.2, fun ob' hag K' hK' => ?_, fun p hp => ?_, by simp [isQuiet, hcal]⟩
       ·
        have hoid := hag id (by rw [htouch, hs]; simp [HV.ids])
        simp only [hop, hcal, hargs, hat]
        rw [if_neg htt]
        simp only [happends, ht, htu, hlift_some, hd1, hd2, hx, hte, hs, hoid, ho]
        exact ⟨hc2, h.1, h.2.1, h.2.2.1, hK'⟩
       ·
        cases hp
        exact .inr ⟨by simp only [isEff, hcal], by rw [htouch, hs]; simp [HV.ids]⟩
      ·
       exact h.elim
     ·
      exact h.elim
    ·
     exact h.elim
   rw [if_pos htt] at h
   unfold happend2 at h
   split at h
   ·
    rename_i id k n hs
    rw [hlift_iff] at h
    obtain ⟨ti, ht, h⟩ := h
    have htouch : touch (.call cl) e = (e s).ids ++ (e x).ids := by simp only [touch, hcal, hargs, List.flatMap_cons, List.flatMap_nil, List.append_nil]
    split at h
    ·
     rename_i el hd1
     rw [hlift_iff] at h
     obtain ⟨te, hte, h⟩ := h
     rw [hlift_iff] at h
     obtain ⟨l2, hl2, hc2, h⟩ := h
     split at h
     ·
      rename_i e' sz D ho
      refine ⟨_, some (id, _), h.2.2.2, fun ob' hag K' hK' => ?_, fun p hp => ?_, by simp [isQuiet, hcal]⟩
      ·
       simp only [hop, hcal, hargs, hat, happend2, hs, ht, hlift_some, hd1, hte]
       rw [if_pos htt]
       rw [hread_agree (fun i hi => hag i (by rw [htouch]; exact List.mem_append_right _ hi)), hl2]
       simp only [hlift_some]
       rw [hag id (by rw [htouch, hs]; simp [HV.ids]), ho]
       exact ⟨hc2, h.1, h.2.1, h.2.2.1, hK'⟩
      ·
       cases hp
       exact .inr ⟨by simp only [isEff, hcal], by rw [htouch, hs]; simp [HV.ids]⟩
     ·
      exact h.elim
    ·
     exact h.elim
   rename_i hns
   have e2 : ∀ (ob' : Ob) (K' : HV → Ob → Prop), happend2 P t (e s) (e x) nid ob' K' = happend P t (e s) (e x) nid ob' K' := fun ob' K' => by
    unfold happend2
    split
    ·
     rename_i id k n hx; exact absurd hx (hns id k n)
    ·
     rfl
   unfold happend at h
   rw [hlift_iff] at h
   obtain ⟨ti, ht, h⟩ := h
   have htouch : touch (.call cl) e = (e s).ids ++ (e x).ids := by simp only [touch, hcal, hargs, List.flatMap_cons, List.flatMap_nil, List.append_nil]
   split at h
   ·
    rename_i el hd1
    rw [hlift_iff] at h
    obtain ⟨te, hte, h⟩ := h
    rw [hlift_iff] at h
    obtain ⟨l2, hl2, hc2, h⟩ := h
    split at h
    ·
     rename_i id n hs
     split at h
     ·
      rename_i e' sz l ho
      refine ⟨_, some (id, _), h.2.2.2, fun ob' hag K' hK' => ?_, fun p hp => ?_, by simp [isQuiet, hcal]⟩
      ·
       simp only [hop, hcal, hargs, hat, e2, happend, ht, hlift_some, hd1, hte]
       rw [if_pos htt]
       rw [hread_agree (fun i hi => hag i (by rw [htouch]; exact List.mem_append_right _ hi)), hl2]
       simp only [hlift_some, hs]
       rw [hag id (by rw [htouch, hs]; simp [HV.ids]), ho]
       exact ⟨hc2, h.1, h.2.1, h.2.2.1, hK'⟩
      ·
       cases hp
       exact .inr ⟨by simp only [isEff, hcal], by rw [htouch, hs]; simp [HV.ids]⟩
     ·
      exact h.elim
    ·
     rename_i hs
     refine ⟨_, some (nid, _), h.2.2, fun ob' hag K' hK' => ?_, by simp, by first | (simp [isQuiet]; done) | (simp [isQuiet, hcal]; done)⟩
     simp only [hop, hcal, hargs, hat, e2, happend, ht, hlift_some, hd1, hte]
     rw [if_pos htt]
     rw [hread_agree (fun i hi => hag i (by rw [htouch]; exact List.mem_append_right _ hi)), hl2]
     simp only [hlift_some, hs]
     exact ⟨hc2, h.1, h.2.1, hK'⟩
    ·
     exact h.elim
   ·
    exact h.elim
  ·
   rename_i x y t1 t2 hcal hargs hat
   unfold hmax at h
   split at h
   ·
    rename_i k i1 k' i2 hx hy
    exact ⟨_, none, h.2, fun ob' _ K' hK' => (by simp only [hop, hcal, hargs, hat, hmax, hx, hy]; exact ⟨h.1, hK'⟩), by simp, fun _ => rfl⟩
   ·
    exact h.elim
  ·
   rename_i x y t1 t2 hcal hargs hat
   unfold hmax at h
   split at h
   ·
    rename_i k i1 k' i2 hx hy
    exact ⟨_, none, h.2, fun ob' _ K' hK' => (by simp only [hop, hcal, hargs, hat, hmax, hx, hy]; exact ⟨h.1, hK'⟩), by simp, fun _ => rfl⟩
   ·
    exact h.elim
  ·
   rename_i x t hcal hargs hat
   have htouch : touch (.call cl) e = (e x).ids := by simp only [touch, hcal, hargs, List.flatMap_cons, List.flatMap_nil, List.append_nil]
   unfold hclear at h
   rw [hlift_iff] at h
   obtain ⟨ti, ht, h⟩ := h
   split at h
   ·
    rename_i el id n lo sz hi hd1 hx
    rw [hlift_iff] at h
    obtain ⟨te, hte, h⟩ := h
    split at h
    ·
     rename_i e' sz' l ho
     refine ⟨_, some (id, _), h.2, fun ob' hag K' hK' => ?_, fun p hp => ?_, by simp [isQuiet, hcal]⟩
     ·
      have hoid := hag id (by rw [htouch, hx]; simp [HV.ids])
      simp only [hop, hcal, hargs, hat, hclear, ht, hlift_some, hd1, hx, hte, hoid, ho]
      exact ⟨h.1, hK'⟩
     ·
      cases hp; exact .inr ⟨by simp only [isEff, hcal], by rw [htouch, hx]; simp [HV.ids]⟩
    ·
     exact h.elim
   ·
    exact h.elim
  ·
   rename_i x y t t' hcal hargs hat
   have htouch : touch (.call cl) e = (e x).ids ++ (e y).ids := by simp only [touch, hcal, hargs, List.flatMap_cons, List.flatMap_nil, List.append_nil]
   unfold hcopy at h
   rw [hlift_iff] at h
   obtain ⟨ti, ht, h⟩ := h
   split at h
   ·
    rename_i el id n lo sz hi hd1 hx
    rw [hlift_iff] at h
    obtain ⟨te, hte, h⟩ := h
    split at h
    ·
     rename_i T l ho
     rw [hlift_iff] at h
     obtain ⟨u, hu, h⟩ := h
     refine ⟨_, some (id, _), h.2, fun ob' hag K' hK' => ?_, fun p hp => ?_, by simp [isQuiet, hcal]⟩
     ·
      have hoid := hag id (by rw [htouch, hx]; simp [HV.ids])
      simp only [hop, hcal, hargs, hat, hcopy, ht, hlift_some, hd1, hx, hte, hoid, ho]
      rw [hread_agree (fun i hi => hag i (by rw [htouch]; exact List.mem_append_right _ hi)), hu]
      simp only [hlift_some]
      exact ⟨h.1, hK'⟩
     ·
      cases hp; exact .inr ⟨by simp only [isEff, hcal], by rw [htouch, hx]; simp [HV.ids]⟩
    ·
     exact h.elim
   ·
    exact h.elim
  ·
   exact h.elim
 ·
  rename_i t x
  unfold hmkIface at h
  rw [hlift_iff] at h
  obtain ⟨ti, ht, h⟩ := h
  split at h
  ·
   rename_i v hx
   exact ⟨_, none, h.2, fun ob' _ K' hK' => (by simp only [hop, hmkIface, ht, hlift_some, hx]; exact ⟨h.1, hK'⟩), by simp, fun _ => rfl⟩
  ·
   exact h.elim
 ·
  rename_i x s t
  unfold hassert at h
  rw [hlift_iff] at h
  obtain ⟨ti, ht, h⟩ := h
  split at h
  ·
   rename_i t' v hx
   exact ⟨_, none, h.2, fun ob' _ K' hK' => (by simp only [hop, hassert, ht, hlift_some, hx]; exact ⟨h.1, hK'⟩), by simp, fun _ => rfl⟩
  ·
   exact h.elim
 ·
  rename_i t len cap
  unfold hmakeSlice at h
  rw [hlift_iff] at h
  obtain ⟨ti, ht, h⟩ := h
  split at h
  ·
   rename_i el k1 l k2 m hd1 hlen hcap
   rw [hlift_iff] at h
   obtain ⟨te, hte, h⟩ := h
   by_cases hl0 : l = 0
   ·
    rw [if_pos hl0] at h
    exact ⟨_, some (nid, _), h.2, fun ob' _ K' hK' => (by simp only [hop, hmakeSlice, ht, hlift_some, hd1, hlen, hcap, hte]; rw [if_pos hl0]; exact ⟨h.1, hK'⟩), by simp, by simp [isQuiet]⟩
   ·
    rw [if_neg hl0] at h
    exact ⟨_, some (nid, _), h.2, fun ob' _ K' hK' => (by simp only [hop, hmakeSlice, ht, hlift_some, hd1, hlen, hcap, hte]; rw [if_neg hl0]; exact ⟨h.1, hK'⟩), by simp, by simp [isQuiet]⟩
  ·
   exact h.elim
 ·
  exact h.elim

end Go.Hl

namespace Go.Hl
open Go

/- References that are closed: a slice of one's own that nobody will write any more. -/
mutual
def HV.close (ob : Ob) (cl : List Nat) : HV → HV
 | .c v => .c v.denil
 | .own id n => if cl.contains id = true then (match ob id with
  | some (.row _ _ l) => if n = l.length then .c (.slc l) else .own id n
  | _ => .own id n) else .own id n
 | .osl id n lo sz hi => if cl.contains id = true then (match ob id with
  | some (.row _ sz' l) => if n = l.length ∧ 0 < n ∧ sz = sz' ∧ lo ≤ hi ∧ hi ≤ n then .c (.slc ((l.drop lo).take (hi - lo))) else .osl id n lo sz hi
  | _ => .osl id n lo sz hi) else .osl id n lo sz hi
 | .agg l => .agg (HV.closeL ob cl l)
 | .tup l => .tup (HV.closeL ob cl l)
 | v => v
def HV.closeL (ob : Ob) (cl : List Nat) : List HV → List HV
 | [] => []
 | v :: vs => (v.close ob cl).norm :: HV.closeL ob cl vs
end

section
variable {P : Program} {w : World} {ρ ρ2 : Env} {X : Nat → Prop} {ob : Ob} {cl : List Nat}

theorem HV.close_agg (v : HV) : (v.close ob cl).isAgg = v.isAgg := by
 cases v with
 | c v => simp only [HV.close, HV.isAgg, CV.denil_isAgg]
 | own id n =>
  simp only [HV.close]
  split
  ·
   split
   ·
    split <;> rfl
   ·
    rfl
  ·
   rfl
 | osl id n lo sz hi =>
  simp only [HV.close]
  split
  ·
   split
   ·
    split <;> rfl
   ·
    rfl
  ·
   rfl
 | _ => simp only [HV.close, HV.isAgg]

theorem own_close (hS : RepS w ρ X ob) (hcl : ∀ id ∈ cl, ρ2 id = none) (hρ : ∀ id L, ρ2 id = some L → ρ id = some L) (hst : Stay w (Owned ρ X) w (Owned ρ2 X)) {id n : Nat} {cs : List Value}
  (h : RepH w ρ (Owned ρ X) (.own id n) cs) : RepH w ρ2 (Owned ρ2 X) ((HV.own id n).close ob cl) cs := by
 have stale : RepH w ρ2 (Owned ρ2 X) (.own id n) cs := by
  simp only [RepH] at h ⊢
  obtain ⟨x, h1, h2, h3⟩ := h
  exact ⟨x, h1, h2, fun hd hh => h3 hd (hρ _ _ hh)⟩
 simp only [HV.close]
 split
 ·
  rename_i hin
  split
  ·
   rename_i e sz l ho
   split
   ·
    rename_i hn
    simp only [RepH, RepC] at h ⊢
    obtain ⟨x, rfl, h2, h3⟩ := h
    obtain ⟨hd, xs, hρ1, hl, hcs, how⟩ := hS.objs id _ ho
    obtain ⟨e1, e2⟩ := h3 hd hρ1
    have hin' : id ∈ cl := by simpa using hin
    rcases how.2 with ⟨rfl, hz⟩ | ⟨g, cap, cur, rfl, hg0, hg, hcap, _⟩
    ·
     have hx := e2 (by simp [hlen, hn, hz])
     exact ⟨none, 0, xs, sz, by rw [hx, hz], hl.stay hst, hcs, by omega, fun _ => rfl, fun ad had => (by cases had)⟩
    ·
     have hx := e2 (by simp [hlen, hn])
     refine ⟨some ⟨g, 0, none⟩, cap, xs, sz, by rw [hx], hl.stay hst, hcs, hcap, fun hh => (by cases hh), fun ad had => ?_⟩
     cases had
     refine ⟨how.cells (g := g) rfl, fun _ => ?_⟩
     rintro (hx2 | ⟨id', L, h4, h5⟩)
     ·
      exact hS.xb id _ g hρ1 rfl hx2
     ·
      have := hS.apart id' id L _ g (hρ _ _ h4) hρ1 h5 rfl
      subst this
      rw [hcl id' hin'] at h4; cases h4
   ·
    exact stale
  ·
   exact stale
 ·
  exact stale

theorem osl_close (hS : RepS w ρ X ob) (hcl : ∀ id ∈ cl, ρ2 id = none) (hρ : ∀ id L, ρ2 id = some L → ρ id = some L) (hst : Stay w (Owned ρ X) w (Owned ρ2 X)) {id n lo sz hi : Nat} {cs : List Value}
  (h : RepH w ρ (Owned ρ X) (.osl id n lo sz hi) cs) : RepH w ρ2 (Owned ρ2 X) ((HV.osl id n lo sz hi).close ob cl) cs := by
 have stale : RepH w ρ2 (Owned ρ2 X) (.osl id n lo sz hi) cs := by
  simp only [RepH] at h ⊢
  obtain ⟨x, h1, h2, h3, h4⟩ := h
  exact ⟨x, h1, h2, fun hd hh => h3 hd (hρ _ _ hh), fun b hh => h4 b (hρ _ _ hh)⟩
 simp only [HV.close]
 split
 ·
  rename_i hin
  split
  ·
   rename_i e sz' l ho
   split
   ·
    rename_i hc
    obtain ⟨hn, hn0, rfl, hlo, hhi⟩ := hc
    simp only [RepH, RepC] at h ⊢
    obtain ⟨x, rfl, h2, h3, _⟩ := h
    obtain ⟨hd, xs, hρ1, hl, hcs, how⟩ := hS.objs id _ ho
    obtain ⟨e1, e2⟩ := h3 hd hρ1
    have hin' : id ∈ cl := by simpa using hin
    rcases how.2 with ⟨rfl, hz⟩ | ⟨g, cap, cur, rfl, hg0, hg, hcap, _⟩
    ·
     omega
    ·
     have hx := e2 (by simp [hlen, hn]) g cap (by rw [hn])
     have hlen' : ((l.drop lo).take (hi - lo)).length = hi - lo := by simp; omega
     refine ⟨_, cap - lo, (xs.drop (lo * sz)).take ((hi - lo) * sz), sz, by rw [hx, hlen'], (repL_take2 _ (repL_drop2 _ hl hcs) (fun v hv => hcs v (List.mem_of_mem_drop hv))).stay hst, fun v hv => hcs v (List.mem_of_mem_drop (List.mem_of_mem_take hv)), by omega, fun hh => (by cases hh), fun ad had => ?_⟩
     cases had
     have hcell := how.cells (g := g) rfl
     refine ⟨fun j u hj => ?_, fun _ => ?_⟩
     ·
      by_cases hce : cap = lo
      ·
       have : hi - lo = 0 := by omega
       rw [this] at hj; simp at hj
      ·
       rw [if_neg hce]
       have hj2 := hj
       rw [List.getElem?_take] at hj2
       split at hj2
       ·
        rw [List.getElem?_drop] at hj2
        have := hcell _ _ hj2
        by_cases hj0 : j = 0
        ·
         subst hj0
         by_cases hz : lo * sz = 0
         ·
          simpa [Addr.add, hz] using this
         ·
          simpa [Addr.add, hz] using this
        ·
         simpa [Addr.add, hj0, Nat.add_comm, Nat.add_left_comm] using this
       ·
        cases hj2
     ·
      rintro (hx2 | ⟨id', L, h4, h5⟩)
      ·
       exact hS.xb id _ g hρ1 rfl hx2
      ·
       have := hS.apart id' id L _ g (hρ _ _ h4) hρ1 h5 rfl
       subst this
       rw [hcl id' hin'] at h4; cases h4
   ·
    exact stale
  ·
   exact stale
 ·
  exact stale

mutual
theorem close_rep (hS : RepS w ρ X ob) (hcl : ∀ id ∈ cl, ρ2 id = none) (hρ : ∀ id L, ρ2 id = some L → ρ id = some L) (hst : Stay w (Owned ρ X) w (Owned ρ2 X)) : ∀ {v : HV} {cs : List Value}, RepH w ρ (Owned ρ X) v cs → RepH w ρ2 (Owned ρ2 X) (v.close ob cl) cs
 | .c v, cs, h => by simp only [RepH, HV.close] at h ⊢; exact CV.denil_rep (h.stay hst)
 | .own id n, cs, h => own_close hS hcl hρ hst h
 | .agg l, cs, h => by simp only [RepH, HV.close] at h ⊢; exact closeL_rep hS hcl hρ hst h
 | .tup l, cs, h => by
  simp only [RepH, HV.close] at h ⊢
  obtain ⟨xs, h1, h2⟩ := h
  exact ⟨xs, h1, closeV_rep hS hcl hρ hst h2⟩
 | .junk, cs, h => by simp only [RepH] at h
 | .ptr id off, cs, h => by
  simp only [RepH, HV.close] at h ⊢
  obtain ⟨x, h1, h2, h3⟩ := h
  exact ⟨x, h1, h2, fun hd hh => h3 hd (hρ _ _ hh)⟩
 | .eptr id n i sz off, cs, h => by
  simp only [RepH, HV.close] at h ⊢
  obtain ⟨x, h1, h2, h3⟩ := h
  exact ⟨x, h1, h2, fun hd hh => h3 hd (hρ _ _ hh)⟩
 | .osl .., cs, h => osl_close hS hcl hρ hst h
 | .mapr id, cs, h => by
  simp only [RepH, HV.close] at h ⊢
  obtain ⟨x, h1, h2, h3⟩ := h
  exact ⟨x, h1, h2, fun hd hf hh => h3 hd hf (hρ _ _ hh)⟩
 | .mrow id k n, cs, h => by
  simp only [RepH, HV.close] at h ⊢
  obtain ⟨x, h1, h2, h3⟩ := h
  exact ⟨x, h1, h2, fun hd hf h hh => h3 hd hf h (hρ _ _ hh)⟩
 | .opq _, cs, h => by simpa only [RepH, HV.close] using h
 | .clo f caps, cs, h => by
  simp only [RepH, HV.close] at h ⊢
  obtain ⟨xs, h1, h2⟩ := h
  exact ⟨xs, h1, RepHV.stay (M := fun _ => True) hst (fun id L _ hL => ⟨L, hρ _ _ hL, .inl rfl⟩) (HV.menL_true _) h2⟩
theorem closeL_rep (hS : RepS w ρ X ob) (hcl : ∀ id ∈ cl, ρ2 id = none) (hρ : ∀ id L, ρ2 id = some L → ρ id = some L) (hst : Stay w (Owned ρ X) w (Owned ρ2 X)) : ∀ {l : List HV} {cs : List Value}, RepHL w ρ (Owned ρ X) l cs → RepHL w ρ2 (Owned ρ2 X) (HV.closeL ob cl l) cs
 | [], cs, h => by simpa only [RepHL, HV.closeL] using h
 | v :: vs, cs, h => by
  simp only [RepHL, HV.closeL] at h ⊢
  obtain ⟨c1, c2, h1, h2, h3⟩ := h
  exact ⟨c1, c2, h1, HV.norm_rep (close_rep hS hcl hρ hst h2), closeL_rep hS hcl hρ hst h3⟩
theorem closeV_rep (hS : RepS w ρ X ob) (hcl : ∀ id ∈ cl, ρ2 id = none) (hρ : ∀ id L, ρ2 id = some L → ρ id = some L) (hst : Stay w (Owned ρ X) w (Owned ρ2 X)) : ∀ {l : List HV} {xs : List Value}, RepHV w ρ (Owned ρ X) l xs → RepHV w ρ2 (Owned ρ2 X) (HV.closeL ob cl l) xs
 | [], xs, h => by simpa only [RepHV, HV.closeL] using h
 | v :: vs, xs, h => by
  simp only [RepHV, HV.closeL] at h ⊢
  obtain ⟨y, ys, h1, ⟨h2, h2'⟩, h3⟩ := h
  exact ⟨y, ys, h1, ⟨HV.norm_rep (close_rep hS hcl hρ hst h2), by rw [HV.norm_agg, HV.close_agg]; exact h2'⟩, closeV_rep hS hcl hρ hst h3⟩
end
end

end Go.Hl

namespace Go.Hl
open Go

def mkId (nid : Nat) (o : Op) (e : Operand → HV) : Option Nat :=
 match o with
 | .buildSlice _ _ _ => some nid
 | .call c => match c.callee, c.args.toList with
  | .builtin .append, [s, _] => match e s with
   | .own id _ => some id
   | _ => none
  | _, _ => none
 | _ => none

def closeK (id : Nat) (ob : Ob) (K : HV → Ob → Prop) : HV → Ob → Prop := fun v ob' => ∃ n el sz l, v = .own id n ∧ ob' = upd ob id (some (.row el sz l)) ∧ n = l.length ∧ K (.c (.slc l)) (upd ob id (some .dead))

def hop2 (P : Program) (nid : Nat) (o : Op) (e : Operand → HV) (ob : Ob) (K : HV → Ob → Prop) : Prop :=
 hop P nid o e ob K ∨ ∃ id, mkId nid o e = some id ∧ hop P nid o e ob (closeK id ob K)

theorem hop_mk {P : Program} {nid : Nat} {o : Op} {e : Operand → HV} {ob : Ob} {K : HV → Ob → Prop} {id : Nat} (hm : mkId nid o e = some id) (h : hop P nid o e ob K) :
  ∃ n el sz l, K (.own id n) (upd ob id (some (.row el sz l))) ∧ (∀ ob' : Ob, (∀ i ∈ touch o e, ob' i = ob i) → ∀ K' : HV → Ob → Prop, K' (.own id n) (upd ob' id (some (.row el sz l))) → hop P nid o e ob' K') ∧
   (id = nid ∨ (isEff o = true ∧ id ∈ touch o e)) ∧ isQuiet o = false := by
 unfold mkId at hm
 split at hm
 ·
  rename_i t len ps
  cases hm
  simp only [hop] at h
  rw [hlift_iff] at h
  obtain ⟨ti, ht, h⟩ := h
  split at h
  ·
   rename_i el hd
   rw [hlift_iff] at h
   obtain ⟨te, hte, h⟩ := h
   rw [hlift_iff] at h
   obtain ⟨l, hl, h1, hK⟩ := h
   refine ⟨len, el, te.size, l, hK, fun ob' _ K' hK' => ?_, .inl rfl, rfl⟩
   simp only [hop, ht, hlift_some, hd, hte, hl]
   exact ⟨h1, hK'⟩
  ·
   exact h.elim
 ·
  rename_i cl
  split at hm
  ·
   rename_i s x hcal hargs
   split at hm
   ·
    rename_i id' n hs
    cases hm
    unfold hop at h
    simp only [hcal, hargs] at h
    split at h
    all_goals first | (exact h.elim) | skip
    ·
     rename_i e1 _ _; cases e1
    ·
     rename_i s' x' t t' _ e2 hat
     cases e2
     have htouch : touch (.call cl) e = (e s).ids ++ (e x).ids := by simp only [touch, hcal, hargs, List.flatMap_cons, List.flatMap_nil, List.append_nil]
     by_cases htt : t' = t
     case neg =>
      rw [if_neg htt] at h
      unfold happends at h
      rw [hlift_iff] at h
      obtain ⟨ti, ht, h⟩ := h
      rw [hlift_iff] at h
      obtain ⟨tu, htu, h⟩ := h
      split at h
      ·
       rename_i el bs hd1 hd2 hx
       rw [hlift_iff] at h
       obtain ⟨te, hte, hc2, h⟩ := h
       rw [hs] at h
       simp only at h
       split at h
       ·
        rename_i e' sz l ho
        refine ⟨_, _, _, _, h.2.2.2, fun ob' hag K' hK' => ?_, .inr ⟨by simp only [isEff, hcal], by rw [htouch, hs]; simp [HV.ids]⟩, by simp [isQuiet, hcal]⟩
        have hoid := hag id (by rw [htouch, hs]; simp [HV.ids])
        simp only [hop, hcal, hargs, hat]
        rw [if_neg htt]
        simp only [happends, ht, htu, hlift_some, hd1, hd2, hx, hte, hs, hoid, ho]
        exact ⟨hc2, h.1, h.2.1, h.2.2.1, hK'⟩
       ·
        exact h.elim
      ·
       exact h.elim
     rw [if_pos htt] at h
     have e2 : ∀ (ob' : Ob) (K' : HV → Ob → Prop), happend2 P t (e s) (e x) nid ob' K' = happend P t (e s) (e x) nid ob' K' := fun ob' K' => by
      unfold happend2
      rw [hs]
     rw [e2] at h
     unfold happend at h
     rw [hlift_iff] at h
     obtain ⟨ti, ht, h⟩ := h
     split at h
     ·
      rename_i el hd1
      rw [hlift_iff] at h
      obtain ⟨te, hte, h⟩ := h
      rw [hlift_iff] at h
      obtain ⟨l2, hl2, hc2, h⟩ := h
      rw [hs] at h
      simp only at h
      split at h
      ·
       rename_i e' sz l ho
       refine ⟨_, _, _, _, h.2.2.2, fun ob' hag K' hK' => ?_, .inr ⟨by simp only [isEff, hcal], by rw [htouch, hs]; simp [HV.ids]⟩, by simp [isQuiet, hcal]⟩
       simp only [hop, hcal, hargs, hat]
       rw [if_pos htt]
       rw [e2]
       simp only [happend, ht, hlift_some, hd1, hte]
       rw [hread_agree (fun i hi => hag i (by rw [htouch]; exact List.mem_append_right _ hi)), hl2]
       simp only [hlift_some, hs]
       rw [hag id (by rw [htouch, hs]; simp [HV.ids]), ho]
       exact ⟨hc2, h.1, h.2.1, h.2.2.1, hK'⟩
      ·
       exact h.elim
     ·
      exact h.elim
    all_goals (rename_i e1 _ _; cases e1)
   ·
    cases hm
  ·
   cases hm
 ·
  cases hm

theorem hop2_form2 {P : Program} {nid : Nat} {o : Op} {e : Operand → HV} {ob : Ob} {K : HV → Ob → Prop} (h : hop2 P nid o e ob K) :
  ∃ v u, K v (app u ob) ∧ (∀ ob' : Ob, (∀ id ∈ touch o e, ob' id = ob id) → ∀ K' : HV → Ob → Prop, K' v (app u ob') → hop2 P nid o e ob' K') ∧ (∀ p, u = some p → p.1 = nid ∨ (isEff o = true ∧ p.1 ∈ touch o e)) ∧ (isQuiet o = true → u = none) := by
 rcases h with h | ⟨id, hm, h⟩
 ·
  obtain ⟨v, u, h1, h2, h3, h4⟩ := hop_form2 h
  exact ⟨v, u, h1, fun ob' hag K' hK' => .inl (h2 ob' hag K' hK'), h3, h4⟩
 ·
  obtain ⟨n, el, sz, l, hK, hst, hloc, hq⟩ := hop_mk hm h
  obtain ⟨n', el', sz', l', hv, hob, hn, hK'⟩ := hK
  cases hv
  have hrow : some (HO.row el sz l) = some (HO.row el' sz' l') := by
   have := congrFun hob id
   rwa [upd_same, upd_same] at this
  cases hrow
  refine ⟨.c (.slc l), some (id, .dead), hK', fun ob' hag K'' hK'' => .inr ⟨id, hm, hst ob' hag _ ⟨n, el, sz, l, rfl, rfl, hn, hK''⟩⟩, fun p hp => ?_, fun hq' => ?_⟩
  ·
   cases hp; exact hloc
  ·
   rw [hq] at hq'; cases hq'
theorem hop2_form {P : Program} {nid : Nat} {o : Op} {e : Operand → HV} {ob : Ob} {K : HV → Ob → Prop} (h : hop2 P nid o e ob K) :
  ∃ v u, K v (app u ob) ∧ (∀ ob' : Ob, (∀ id ∈ touch o e, ob' id = ob id) → ∀ K' : HV → Ob → Prop, K' v (app u ob') → hop2 P nid o e ob' K') ∧ (∀ p, u = some p → p.1 = nid ∨ (isEff o = true ∧ p.1 ∈ touch o e)) :=
 let ⟨v, u, h1, h2, h3, _⟩ := hop2_form2 h
 ⟨v, u, h1, h2, h3⟩

theorem RepA'.die {c : Ctx} {M : Nat → Prop} {fr : Fr} {ob : Ob} {a : Act} {w : World} {ρ : Env} {d : Option Nat} {id n sz : Nat} {el : TypeId} {l : List CV}
  (h : RepA' c M (updo fr d (.own id n)) (upd ob id (some (.row el sz l))) a w ρ) (hn : n = l.length) : ∃ ρ2, RepA' c M (updo fr d (.c (.slc l))) (upd ob id (some .dead)) a w ρ2 := by
 let ρ2 : Env := fun i => if i = id then none else ρ i
 have hρ2 : ∀ i L, ρ2 i = some L → ρ i = some L := fun i L hL => by
  simp only [ρ2] at hL
  split at hL
  ·
   cases hL
  ·
   exact hL
 have hcl : ∀ i ∈ [id], ρ2 i = none := fun i hi => by
  have : i = id := by simpa using hi
  simp only [ρ2, this, if_true]
 have hown : ∀ b, Own ρ2 b → Own ρ b := fun b ⟨i, L, h1, h2⟩ => ⟨i, L, hρ2 i L h1, h2⟩
 have hst : Stay w (Owned ρ c.X) w (Owned ρ2 c.X) := Stay.same (fun b _ hb => hb.imp (fun x => x) (hown b))
 have hmv : Moves M ρ ρ2 := fun i L _ hL => ⟨L, hρ2 i L hL, .inl rfl⟩
 refine ⟨ρ2, ⟨fun i o ho => ?_, fun i hi => ?_, fun i i' L L' b h1 h2 h3 h4 => h.s.apart i i' L L' b (hρ2 _ _ h1) (hρ2 _ _ h2) h3 h4, fun i L b h1 h2 => h.s.xb i L b (hρ2 _ _ h1) h2⟩, fun t ht => ?_, fun t => ?_, fun i o ho => ?_, h.m0, ?_, ?_, h.defers, h.size, h.xlt⟩
 ·
  by_cases e : i = id
  ·
   subst e
   rw [upd_same] at ho; cases ho
   show ρ2 i = none
   simp only [ρ2, if_true]
  ·
   rw [upd_ne _ _ e] at ho
   have hid : ρ2 i = ρ i := by simp only [ρ2, e, if_false]
   have hin : upd ob id (some (.row el sz l)) i = some o := by rw [upd_ne _ _ e]; exact ho
   exact RepO.stay hst hmv (h.mo i o hin).2 hid (fun _ _ _ _ => rfl) (h.s.objs i o hin)
 ·
  by_cases e : i = id
  ·
   subst e; rw [upd_same] at hi; cases hi
  ·
   have hin : upd ob id (some (.row el sz l)) i = none := by rw [upd_ne _ _ e] at hi ⊢; exact hi
   have := h.s.none i hin
   simp only [ρ2, e, if_false]
   exact this
 ·
  by_cases e : d = some t
  ·
   subst e
   have h0 := h.f t (by simp [updo, upd])
   simp only [updo, upd_same] at h0 ⊢
   have := close_rep (cl := [id]) h.s hcl hρ2 hst h0.1
   have ec : HV.close (upd ob id (some (.row el sz l))) [id] (.own id n) = .c (.slc l) := by
    simp [HV.close, upd_same, hn]
   rw [ec] at this
   exact ⟨this, by rw [← h0.2]; rfl⟩
  ·
   have e1 : ∀ v : HV, updo fr d v t = fr t := fun v => by
    cases d with
    | none => rfl
    | some k => exact upd_ne _ _ (fun e' => e (by rw [e']))
   rw [e1] at ht ⊢
   have h0 := h.f t (by rw [e1]; exact ht)
   rw [e1] at h0
   have hm := h.mf t
   rw [e1] at hm
   exact ⟨RepH.stay hst hmv hm h0.1, h0.2⟩
 ·
  cases d with
  | none => exact h.mf t
  | some k =>
   by_cases e : t = k
   ·
    subst e; simp only [updo, upd_same]; simp [HV.men]
   ·
    have := h.mf t
    simp only [updo, upd_ne _ _ e] at this ⊢
    exact this
 ·
  by_cases e : i = id
  ·
   subst e
   rw [upd_same] at ho; cases ho
   exact ⟨(h.mo i _ (upd_same _ _ _)).1, trivial⟩
  ·
   have hin : upd ob id (some (.row el sz l)) i = some o := by rw [upd_ne _ _ e] at ho ⊢; exact ho
   exact h.mo i o hin
 ·
  exact h.base.trans ⟨fun _ _ _ => rfl, fun b hb => .inl (hown b hb), Nat.le_refl _, rfl, rfl, rfl⟩
 ·
  exact Moves.trans (fun _ h => h) h.moves (fun i L _ hL => ⟨L, hρ2 i L hL, .inl rfl⟩)
end Go.Hl
