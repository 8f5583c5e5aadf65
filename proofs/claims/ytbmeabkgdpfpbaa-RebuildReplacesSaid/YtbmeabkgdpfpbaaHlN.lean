/- HL, part N: regions, in the order of the text and in whatever order. By an AI agent. -/
import Derived.Test.YtbmeabkgdpfpbaaHlM
set_option linter.unusedSimpArgs false
set_option linter.unusedVariables false
namespace Go.Hl
open Go

def hcallOf (o : Op) : Option (Operand × List Operand) :=
  match o with
  | .call c => match c.callee with
    | .value f => some (f, c.args.toList)
    | _ => none
  | _ => none

def hstep (P : Program) (av : List Nat) (nid : Nat) (o : Op) (e : Operand → HV) (ob : Ob) (K : HV → Ob → Prop) : Prop :=
  match hcallOf o with
  | some (f, xs) => (∀ x ∈ xs, e x ≠ .junk) ∧ match e f with
    | .c (.fn g) => HCall P av g (xs.map fun x => (e x).den) ob nid K
    | .clo g caps => HCall P av g ((xs.map fun x => (e x).den) ++ caps) ob nid K
    | _ => False
  | none => (∀ id ∈ touch o e, id ∉ av ∧ (ob id).isSome = true) ∧ hop P nid o e ob K

def hguard (ops : Array Oper) (o : Oper) (fr : Fr) : Option Bool :=
  match o.guard with
  | none => some true
  | some (j, want) => match (ops[j]?).bind (·.dst) with
    | some d => match fr d with
      | .c (.bool b) => some (b == want)
      | .tup _ => some false
      | _ => none
    | none => none

def hopI (P : Program) (ops : Array Oper) (nx : Nat) (av : List Nat) (i : Nat) (K : Fr → Ob → Prop) (fr : Fr) (ob : Ob) : Prop :=
  match ops[i]? with
  | none => False
  | some o => match hguard ops o fr with
    | some true => hstep P av (nx + 4 * i) o.op (ev fr) ob fun v ob' => K (updo fr o.dst v) ob'
    | some false => K (updo fr o.dst (.tup [])) ob
    | none => False

/-! ## Congruence -/
theorem hfill_congr {e e' : Operand → HV} : ∀ {ps : List (Nat × Operand)} {hs : List HV}, (∀ p ∈ ps, e' p.2 = e p.2) → hfill e' ps hs = hfill e ps hs
  | [], _, _ => rfl
  | (i, x) :: ps, hs, h => by
    have h1 : e' x = e x := h (i, x) (by simp)
    have ih := fun hs => hfill_congr (e := e) (e' := e') (ps := ps) (hs := hs) (fun p hp => h p (by simp [hp]))
    simp only [hfill, h1, ih]
theorem hclosed_congr {e e' : Operand → HV} : ∀ {ps : List (Nat × Operand)} {k sz : Nat}, (∀ p ∈ ps, e' p.2 = e p.2) → hclosed e' ps k sz = hclosed e ps k sz
  | [], _, _, _ => rfl
  | (i, x) :: ps, k, sz, h => by
    have h1 : e' x = e x := h (i, x) (by simp)
    have ih := fun k => hclosed_congr (e := e) (e' := e') (ps := ps) (k := k) (sz := sz) (fun p hp => h p (by simp [hp]))
    simp only [hclosed, h1, ih]
theorem optmap_congr {e e' : Operand → HV} {x : Option Operand} (h : ∀ y ∈ x.toList, e' y = e y) : x.map e' = x.map e := by
  cases x with
  | none => rfl
  | some y => simp [h y (by simp)]
theorem map_congr' {e e' : Operand → HV} {xs : List Operand} (h : ∀ y ∈ xs, e' y = e y) : xs.map e' = xs.map e := List.map_congr_left h
theorem flatMap_congr' {e e' : Operand → HV} : ∀ {xs : List Operand}, (∀ y ∈ xs, e' y = e y) → xs.flatMap (fun x => (e' x).ids) = xs.flatMap (fun x => (e x).ids)
  | [], _ => rfl
  | x :: xs, h => by simp only [List.flatMap_cons, h x (by simp), flatMap_congr' (xs := xs) (fun y hy => h y (by simp [hy]))]

theorem touch_congr {o : Op} {e e' : Operand → HV} (h : ∀ x ∈ o.operands, e' x = e x) : touch o e' = touch o e := by
  cases o <;> simp only [touch] <;> try rfl
  case load t x => rw [h x (by simp [Op.operands])]
  case fieldAddr t x f => rw [h x (by simp [Op.operands])]
  case nilCheck x => rw [h x (by simp [Op.operands])]
  case indexAddr t x i => rw [h x (by simp [Op.operands])]
  case store t x y => rw [h x (by simp [Op.operands])]
  case slice t x lo hi mx => rw [h x (by simp [Op.operands])]
  case lookup t x k ok => rw [h x (by simp [Op.operands])]
  case mapUpdate t x k v => rw [h x (by simp [Op.operands])]
  case call c =>
    cases hc : c.callee with
    | builtin b => simp only; exact flatMap_congr' (fun y hy => h y (by simp only [Op.operands, Call.operands, hc]; simpa using hy))
    | _ => rfl

theorem hop_congr {P : Program} {nid : Nat} {o : Op} {e e' : Operand → HV} {ob : Ob} {K : HV → Ob → Prop} (h : ∀ x ∈ o.operands, e' x = e x) (hl : hop P nid o e ob K) : hop P nid o e' ob K := by
  unfold hop at hl
  split at hl
  · rename_i x; simp only [hop, h x (by simp [Op.operands])]; exact hl
  · rename_i x; simp only [hop, h x (by simp [Op.operands])]; exact hl
  · rename_i c a b; simp only [hop, h c (by simp [Op.operands]), h a (by simp [Op.operands]), h b (by simp [Op.operands])]; exact hl
  · exact hl
  · rename_i t x; simp only [hop, h x (by simp [Op.operands])]; exact hl
  · rename_i t ps
    have : ∀ p ∈ ps.toList, e' p.2 = e p.2 := fun p hp => h p.2 (by simp only [Op.operands, List.mem_toArray, List.mem_map]; exact ⟨p, hp, rfl⟩)
    simp only [hop, hbuild, hfill_congr this]; exact hl
  · rename_i t n ps
    have : ∀ p ∈ ps.toList, e' p.2 = e p.2 := fun p hp => h p.2 (by simp only [Op.operands, List.mem_toArray, List.mem_map]; exact ⟨p, hp, rfl⟩)
    simp only [hop, hclosed_congr this]; exact hl
  · rename_i t x; simp only [hop, h x (by simp [Op.operands])]; exact hl
  · rename_i t x y; simp only [hop, h x (by simp [Op.operands]), h y (by simp [Op.operands])]; exact hl
  · rename_i x; simp only [hop, h x (by simp [Op.operands])]; exact hl
  · rename_i op t x y yt; simp only [hop, h x (by simp [Op.operands]), h y (by simp [Op.operands])]; exact hl
  · rename_i op t x; simp only [hop, h x (by simp [Op.operands])]; exact hl
  · rename_i s d x; simp only [hop, h x (by simp [Op.operands])]; exact hl
  · rename_i f first caps
    have : ∀ y ∈ caps.toList, e' y = e y := fun y hy => h y (by simp only [Op.operands]; exact Array.mem_append.2 (.inr (by simpa using hy)))
    simp only [hop, map_congr' this]; exact hl
  · rename_i t x lo hi
    have h1 : e' x = e x := h x (by simp [Op.operands])
    have h2 : lo.map e' = lo.map e := optmap_congr (fun y hy => h y (by cases lo <;> simp_all [Op.operands]))
    have h3 : hi.map e' = hi.map e := optmap_congr (fun y hy => h y (by cases lo <;> cases hi <;> simp_all [Op.operands]))
    simp only [hop, h1, h2, h3]; exact hl
  · exact hl
  · rename_i t m k; simp only [hop, h m (by simp [Op.operands]), h k (by simp [Op.operands])]; exact hl
  · rename_i t m k v; simp only [hop, h m (by simp [Op.operands]), h k (by simp [Op.operands]), h v (by simp [Op.operands])]; exact hl
  · rename_i t x f; simp only [hop, h x (by simp [Op.operands])]; exact hl
  · rename_i t x f; simp only [hop, h x (by simp [Op.operands])]; exact hl
  · rename_i t x i; simp only [hop, h x (by simp [Op.operands]), h i (by simp [Op.operands])]; exact hl
  · rename_i t x i; simp only [hop, h x (by simp [Op.operands]), h i (by simp [Op.operands])]; exact hl
  · rename_i x i; simp only [hop, h x (by simp [Op.operands])]; exact hl
  · rename_i c
    have ha : ∀ y ∈ c.args.toList, e' y = e y := fun y hy => h y (by simp only [Op.operands, Call.operands]; exact Array.mem_append.2 (.inr (by simpa using hy)))
    split at hl
    · rename_i x t h1 h2 h3
      simp only [hop, h1, h2, h3, ha x (by rw [h2]; simp)]; exact hl
    · rename_i s x t t' h1 h2 h3
      simp only [hop, h1, h2, h3, ha x (by rw [h2]; simp), ha s (by rw [h2]; simp)]; exact hl
    · rename_i x y t t' h1 h2 h3
      simp only [hop, h1, h2, h3, ha x (by rw [h2]; simp), ha y (by rw [h2]; simp)]; exact hl
    · rename_i x y t t' h1 h2 h3
      simp only [hop, h1, h2, h3, ha x (by rw [h2]; simp), ha y (by rw [h2]; simp)]; exact hl
    · rename_i x t h1 h2 h3
      simp only [hop, h1, h2, h3, ha x (by rw [h2]; simp)]; exact hl
    · exact hl.elim
  · exact hl.elim

theorem hstep_congr {P : Program} {av : List Nat} {nid : Nat} {o : Op} {e e' : Operand → HV} {ob : Ob} {K : HV → Ob → Prop} (h : ∀ x ∈ o.operands, e' x = e x) (hl : hstep P av nid o e ob K) : hstep P av nid o e' ob K := by
  unfold hstep at hl ⊢
  cases hc : hcallOf o with
  | none =>
    rw [hc] at hl
    simp only at hl ⊢
    rw [touch_congr h]
    exact ⟨hl.1, hop_congr h hl.2⟩
  | some p =>
    obtain ⟨f, xs⟩ := p
    rw [hc] at hl
    simp only at hl ⊢
    have hf : e' f = e f ∧ ∀ y ∈ xs, e' y = e y := by
      cases o <;> simp only [hcallOf] at hc <;> try cases hc
      rename_i c
      split at hc
      · rename_i g hg
        cases hc
        exact ⟨h f (by simp [Op.operands, Call.operands, hg]), fun y hy => h y (by simp only [Op.operands, Call.operands]; exact Array.mem_append.2 (.inr (by simpa using hy)))⟩
      · cases hc
    have hden : (xs.map fun x => (e' x).den) = xs.map fun x => (e x).den := List.map_congr_left (fun y hy => by rw [hf.2 y hy])
    rw [hf.1, hden]
    exact ⟨fun x hx => by rw [hf.2 x hx]; exact hl.1 x hx, hl.2⟩

theorem ev_updo {fr : Fr} {d : Option Nat} {v : HV} {x : Operand} (h : ∀ k, d = some k → x ≠ .tmp k) : ev (updo fr d v) x = ev fr x := by
  cases d with
  | none => rfl
  | some k =>
    cases x with
    | tmp t => simp only [ev, updo]; exact upd_ne _ _ (fun e => h k rfl (by rw [e]))
    | _ => rfl

theorem looks_operands {ops : Array Oper} {o : Oper} {fr : Fr} {d : Option Nat} {v : HV} (h : ∀ k, d = some k → k ∉ o.looksAt ops) : ∀ x ∈ o.op.operands, ev (updo fr d v) x = ev fr x := by
  intro x hx
  refine ev_updo (fun k hk e => h k hk ?_)
  subst e
  unfold Oper.looksAt
  refine List.mem_append_left _ (List.mem_filterMap.2 ⟨.tmp k, by simpa using hx, rfl⟩)

theorem hguard_updo {ops : Array Oper} {o : Oper} {fr : Fr} {d : Option Nat} {v : HV} (h : ∀ k, d = some k → k ∉ o.looksAt ops) : hguard ops o (updo fr d v) = hguard ops o fr := by
  unfold hguard
  cases hg : o.guard with
  | none => rfl
  | some p =>
    obtain ⟨j, want⟩ := p
    simp only
    cases hd : (ops[j]?).bind (·.dst) with
    | none => rfl
    | some k =>
      simp only
      have : updo fr d v k = fr k := by
        cases d with
        | none => rfl
        | some k' =>
          simp only [updo]
          refine upd_ne _ _ (fun e => h k' rfl ?_)
          subst e
          unfold Oper.looksAt
          rw [hg]
          simp only [hd]
          exact List.mem_append_right _ (by simp)
      rw [this]

theorem updo_comm {fr : Fr} {d d' : Option Nat} {v v' : HV} (h : ∀ k, d = some k → d' ≠ some k) : updo (updo fr d v) d' v' = updo (updo fr d' v') d v := by
  cases d with
  | none => rfl
  | some k =>
    cases d' with
    | none => rfl
    | some k' =>
      have hne : k ≠ k' := fun e => h k rfl (by rw [e])
      funext t
      simp only [updo, upd]
      by_cases h1 : t = k' <;> by_cases h2 : t = k
      · exact absurd (h2.symm.trans h1) hne
      · simp [h1, h2, Ne.symm hne]
      · simp [h1, h2, hne]
      · simp [h1, h2]

/-! ## The frame of a step -/
def Agree (F : List Nat) (ob ob' : Ob) : Prop := ∀ id ∈ F, ob' id = ob id
/-- What was made elsewhere: an object under the id 'n', or nothing. -/
def Apart (u : Option (Nat × HO)) (av : List Nat) (nid : Nat) : Prop := ∀ p, u = some p → p.1 ∈ av ∧ ¬ (nid ≤ p.1 ∧ p.1 < nid + 4)

theorem app_other {u : Option (Nat × HO)} {ob : Ob} {id : Nat} (h : ∀ p, u = some p → p.1 ≠ id) : app u ob id = ob id := by
  cases u with
  | none => rfl
  | some p => exact upd_ne _ _ (fun e => h p rfl e.symm)
theorem app_comm {u u' : Option (Nat × HO)} {ob : Ob} (h : ∀ p p', u = some p → u' = some p' → p.1 ≠ p'.1) : app u (app u' ob) = app u' (app u ob) := by
  cases u with
  | none => rfl
  | some p =>
    cases u' with
    | none => rfl
    | some p' =>
      have hne := h p p' rfl rfl
      funext t
      simp only [app, upd]
      by_cases h1 : t = p.1 <;> by_cases h2 : t = p'.1
      · exact absurd (h1.symm.trans h2) hne
      · simp [h1, hne]
      · simp [h2, Ne.symm hne]
      · simp [h1, h2]

theorem hcall_frame {P : Program} {av av' : List Nat} {nid : Nat} {f : FuncId} {args : List HV} {ob : Ob} {K : HV → Ob → Prop} {u : Option (Nat × HO)} {F : List Nat} (hu : Apart u av nid) (hav : ∀ x ∈ av', x ∈ av)
    (hF : ∀ id ∈ F, id ∈ av ∧ (ob id).isSome = true) (hfresh : ∀ t, t < 4 → ob (nid + t) = none) (h : HCall P av f args (app u ob) nid K) :
    HCall P av' f args ob nid (fun v ob' => K v (app u ob') ∧ Agree F ob ob') := by
  obtain ⟨σ, largs, lob, R, h1, h2, ⟨h3, h4⟩, h5, h6, h7⟩ := h
  have hσ : ∀ p, u = some p → p.1 ∉ σ := fun p hp hin => h4 _ hin (hu p hp).1
  have hmem : ∀ j o, lob j = some o → σ.getD j 0 ∈ σ := fun j o ho => by
    have hj := (h2.none j o ho).1
    rw [List.getD_eq_getElem?_getD, List.getElem?_eq_getElem hj]; exact List.getElem_mem hj
  refine ⟨σ, largs, lob, R, h1, h2, ⟨h3, fun s hs hin => h4 s hs (hav _ hin)⟩, h5, fun j o ho => ?_, fun r lob' hR hr => ⟨?_, fun id hid => ?_⟩⟩
  · rw [← h6 j o ho]
    exact (app_other (fun p hp e => hσ p hp (e ▸ hmem j o ho))).symm
  · have := h7 r lob' hR hr
    have e : obAfter (app u ob) σ nid lob' = app u (obAfter ob σ nid lob') := by
      funext id
      cases u with
      | none => rfl
      | some p =>
        have h8 := hσ p rfl
        have h9 := (hu p rfl).2
        simp only [app, upd]
        by_cases hid : id = p.1
        · subst hid
          rw [if_pos rfl]
          unfold obAfter
          have : σ.findIdx? (· == p.1) = none := by
            rw [List.findIdx?_eq_none_iff]
            intro y hy
            simp only [beq_eq_false_iff_ne, ne_eq]
            intro e; exact h8 (e ▸ hy)
          rw [this]
          simp only [if_neg h9]
          exact upd_same _ _ _
        · rw [if_neg hid]
          unfold obAfter
          split
          · rfl
          · split
            · rfl
            · exact upd_ne _ _ hid
    rw [← e]; exact this
  · unfold obAfter
    have h8 : id ∉ σ := fun hin => h4 id hin (hF id hid).1
    have : σ.findIdx? (· == id) = none := by
      rw [List.findIdx?_eq_none_iff]
      intro y hy
      simp only [beq_eq_false_iff_ne, ne_eq]
      intro e; exact h8 (e ▸ hy)
    rw [this]
    simp only
    split
    · rename_i hr
      have := hfresh (id - nid) (by omega)
      rw [show nid + (id - nid) = id from by omega] at this
      have h9 := (hF id hid).2
      rw [this] at h9; cases h9
    · rfl

theorem hstep_frame {P : Program} {av av' : List Nat} {nid : Nat} {o : Op} {e : Operand → HV} {ob : Ob} {K : HV → Ob → Prop} {u : Option (Nat × HO)} {F : List Nat} (hu : Apart u av nid) (hav : ∀ x ∈ av', x ∈ av)
    (hF : ∀ id ∈ F, (isEff o = true → id ∈ av) ∧ (ob id).isSome = true) (hfresh : ∀ t, t < 4 → ob (nid + t) = none) (h : hstep P av nid o e (app u ob) K) :
    hstep P av' nid o e ob (fun v ob' => K v (app u ob') ∧ Agree F ob ob') := by
  unfold hstep at h ⊢
  cases hc : hcallOf o with
  | some p =>
    obtain ⟨f, xs⟩ := p
    rw [hc] at h
    simp only at h ⊢
    have heff : isEff o = true := by
      cases o <;> simp only [hcallOf] at hc <;> try cases hc
      rename_i c
      split at hc
      · rename_i g hg; simp only [isEff, hg]
      · cases hc
    refine ⟨h.1, ?_⟩
    have h := h.2
    split at h
    · exact hcall_frame hu hav (fun id hid => ⟨(hF id hid).1 heff, (hF id hid).2⟩) hfresh h
    · exact hcall_frame hu hav (fun id hid => ⟨(hF id hid).1 heff, (hF id hid).2⟩) hfresh h
    · exact h.elim
  | none =>
    rw [hc] at h
    simp only at h ⊢
    obtain ⟨ht, h⟩ := h
    have hnt : ∀ p, u = some p → p.1 ∉ touch o e := fun p hp hin => (ht _ hin).1 (hu p hp).1
    have hobt : ∀ id ∈ touch o e, app u ob id = ob id := fun id hid => app_other (fun p hp e => hnt p hp (e ▸ hid))
    obtain ⟨v, u', hK, hform, hid'⟩ := hop_form h
    refine ⟨fun id hid => ⟨fun hin => (ht id hid).1 (hav _ hin), by rw [← hobt id hid]; exact (ht id hid).2⟩, hform ob (fun id hid => (hobt id hid).symm) _ ⟨?_, fun id hid => ?_⟩⟩
    · rw [app_comm (u := u) (u' := u') (ob := ob) (fun p p' hp hp' e => ?_)]
      · exact hK
      · rcases hid' p' hp' with h1 | ⟨_, h1⟩
        · exact (hu p hp).2 ⟨by omega, by omega⟩
        · exact hnt p hp (e ▸ h1)
    · refine app_other (fun p hp e => ?_)
      rcases hid' p hp with h1 | ⟨h2, h1⟩
      · have := hfresh 0 (by omega)
        rw [Nat.add_zero, ← h1, e] at this
        have h9 := (hF id hid).2
        rw [this] at h9; cases h9
      · exact (ht _ h1).1 (e ▸ (hF id hid).1 h2)
theorem HCall.mono {P : Program} {av av' : List Nat} {nid : Nat} {f : FuncId} {args : List HV} {ob : Ob} {K K' : HV → Ob → Prop} (hav : ∀ x ∈ av', x ∈ av) (hK : ∀ v ob, K v ob → K' v ob) (h : HCall P av f args ob nid K) : HCall P av' f args ob nid K' := by
  obtain ⟨σ, largs, lob, R, h1, h2, ⟨h3, h4⟩, h5, h6, h7⟩ := h
  exact ⟨σ, largs, lob, R, h1, h2, ⟨h3, fun s hs hin => h4 s hs (hav _ hin)⟩, h5, h6, fun r lob' hR hr => hK _ _ (h7 r lob' hR hr)⟩
theorem hop_mono {P : Program} {nid : Nat} {o : Op} {e : Operand → HV} {ob : Ob} {K K' : HV → Ob → Prop} (hK : ∀ v ob, K v ob → K' v ob) (h : hop P nid o e ob K) : hop P nid o e ob K' := by
  obtain ⟨v, u, h1, h2, _⟩ := hop_form h
  exact h2 ob (fun _ _ => rfl) K' (hK _ _ h1)
theorem hstep_mono {P : Program} {av av' : List Nat} {nid : Nat} {o : Op} {e : Operand → HV} {ob : Ob} {K K' : HV → Ob → Prop} (hav : ∀ x ∈ av', x ∈ av) (hK : ∀ v ob, K v ob → K' v ob) (h : hstep P av nid o e ob K) : hstep P av' nid o e ob K' := by
  unfold hstep at h ⊢
  split at h
  · refine ⟨h.1, ?_⟩
    have h := h.2
    split at h
    · exact h.mono hav hK
    · exact h.mono hav hK
    · exact h.elim
  · exact ⟨fun id hid => ⟨fun hin => (h.1 id hid).1 (hav _ hin), (h.1 id hid).2⟩, hop_mono hK h.2⟩
end Go.Hl
