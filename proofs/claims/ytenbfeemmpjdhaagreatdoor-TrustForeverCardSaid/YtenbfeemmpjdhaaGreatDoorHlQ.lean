/- HL, part Q: regions and control. By an AI agent. -/
import Derived.Test.YtenbfeemmpjdhaaGreatDoorHlMc
import Derived.Still
import Derived.OrdersIn
import Derived.RangeFuncCalls
import Derived.StillTail
import Derived.ControlIn
import Derived.Scope
set_option linter.unusedSimpArgs false
set_option linter.unusedVariables false
set_option linter.defProp false
namespace Go.Hl
open Go

def hcallOf (o : Op) : Option (Operand × List Operand) :=
 match o with
 | .call c => match c.callee with
  | .value f => some (f, c.args.toList)
  | _ => none
 | _ => none

def hstepG (P : Program) (av : List Nat) (nid : Nat) (o : Op) (e : Operand → HV) (ob : Ob) (K : HV → Ob → Prop) : Prop :=
 match hcallOf o with
 | some (f, xs) => (∀ x ∈ xs, e x ≠ .junk) ∧ match e f with
  | .c (.fn g) => HCall P av g (xs.map fun x => (e x).den) ob nid K
  | .clo g caps => HCall P av g ((xs.map fun x => (e x).den) ++ caps) ob nid K
  | _ => False
 | none => (∀ id ∈ touch o e, id ∉ av ∧ (ob id).isSome = true) ∧ hop2 P nid o e ob K

def hguard (ops : Array Oper) (o : Oper) (fr : Fr) : Option Bool :=
 match o.guard with
 | none => some true
 | some (j, want) => match (ops[j]?).bind (·.dst) with
  | some d => match fr d with
   | .c (.bool b) => some (b == want)
   | .tup _ => some false
   | _ => none
  | none => none

def hopIG (P : Program) (ops : Array Oper) (nx : Nat) (av : List Nat) (i : Nat) (K : Fr → Ob → Prop) (fr : Fr) (ob : Ob) : Prop :=
 match ops[i]? with
 | none => False
 | some o => match hguard ops o fr with
  | some true => hstepG P av (nx + 4 * i) o.op (ev fr) ob fun v ob' => K (updo fr o.dst v) ob'
  | some false => K (updo fr o.dst (.tup [])) ob
  | none => False

theorem hfill_congr {e e' : Operand → HV} : ∀ {ps : List (Nat × Operand)} {hs : List HV}, (∀ p ∈ ps, e' p.2 = e p.2) → hfill e' ps hs = hfill e ps hs
 | [], _, _ => rfl
 | (i, x) :: ps, hs, h => by
  have h1 : e' x = e x := h (i, x) (by simp)
  have ih := fun hs => hfill_congr (e := e) (e' := e') (ps := ps) (hs := hs) (fun p hp => h p (by simp [hp]))
  simp only [hfill, h1, ih]
theorem hclosed_congr {e e' : Operand → HV} : ∀ {ps : List (Nat × Operand)} {k sz : Nat}, (∀ p ∈ ps, e' p.2 = e p.2) → hclosed e' ps k sz = hclosed e ps k sz
 | [], _, _, _ => rfl
 | (i, x) :: ps, k, sz, h => by
  have h1 : e' x = e x := h (i, x) (by simp)
  have ih := fun k => hclosed_congr (e := e) (e' := e') (ps := ps) (k := k) (sz := sz) (fun p hp => h p (by simp [hp]))
  simp only [hclosed, h1, ih]
theorem optmap_congr {e e' : Operand → HV} {x : Option Operand} (h : ∀ y ∈ x.toList, e' y = e y) : x.map e' = x.map e := by
 cases x with
 | none => rfl
 | some y => simp [h y (by simp)]
theorem map_congr' {e e' : Operand → HV} {xs : List Operand} (h : ∀ y ∈ xs, e' y = e y) : xs.map e' = xs.map e := List.map_congr_left h
theorem flatMap_congr' {e e' : Operand → HV} : ∀ {xs : List Operand}, (∀ y ∈ xs, e' y = e y) → xs.flatMap (fun x => (e' x).ids) = xs.flatMap (fun x => (e x).ids)
 | [], _ => rfl
 | x :: xs, h => by simp only [List.flatMap_cons, h x (by simp), flatMap_congr' (xs := xs) (fun y hy => h y (by simp [hy]))]

theorem touch_congr {o : Op} {e e' : Operand → HV} (h : ∀ x ∈ o.operands, e' x = e x) : touch o e' = touch o e := by
 cases o <;> simp only [touch] <;> try rfl
 case load t x => rw [h x (by simp [Op.operands])]
 case fieldAddr t x f => rw [h x (by simp [Op.operands])]
 case nilCheck x => rw [h x (by simp [Op.operands])]
 case indexAddr t x i => rw [h x (by simp [Op.operands])]
 case store t x y => rw [h x (by simp [Op.operands])]
 case slice t x lo hi mx => rw [h x (by simp [Op.operands])]
 case lookup t x k ok => rw [h x (by simp [Op.operands])]
 case mapUpdate t x k v => rw [h x (by simp [Op.operands])]
 case call c =>
  cases hc : c.callee with
  | builtin b => simp only; exact flatMap_congr' (fun y hy => h y (by simp only [Op.operands, Call.operands, hc]; simpa using hy))
  | _ => rfl

theorem hop_congr {P : Program} {nid : Nat} {o : Op} {e e' : Operand → HV} {ob : Ob} {K : HV → Ob → Prop} (h : ∀ x ∈ o.operands, e' x = e x) (hl : hop P nid o e ob K) : hop P nid o e' ob K := by
 unfold hop at hl
 split at hl
 ·
  rename_i x; simp only [hop, h x (by simp [Op.operands])]; exact hl
 ·
  rename_i x; simp only [hop, h x (by simp [Op.operands])]; exact hl
 ·
  rename_i c a b; simp only [hop, h c (by simp [Op.operands]), h a (by simp [Op.operands]), h b (by simp [Op.operands])]; exact hl
 ·
  exact hl
 ·
  rename_i t x; simp only [hop, h x (by simp [Op.operands])]; exact hl
 ·
  rename_i t ps
  have : ∀ p ∈ ps.toList, e' p.2 = e p.2 := fun p hp => h p.2 (by simp only [Op.operands, List.mem_toArray, List.mem_map]; exact ⟨p, hp, rfl⟩)
  simp only [hop, hbuild, hfill_congr this]; exact hl
 ·
  rename_i t n ps
  have : ∀ p ∈ ps.toList, e' p.2 = e p.2 := fun p hp => h p.2 (by simp only [Op.operands, List.mem_toArray, List.mem_map]; exact ⟨p, hp, rfl⟩)
  simp only [hop, hclosed_congr this]; exact hl
 ·
  rename_i t x; simp only [hop, h x (by simp [Op.operands])]; exact hl
 ·
  rename_i t x y; simp only [hop, h x (by simp [Op.operands]), h y (by simp [Op.operands])]; exact hl
 ·
  rename_i x; simp only [hop, h x (by simp [Op.operands])]; exact hl
 ·
  rename_i op t x y yt; simp only [hop, h x (by simp [Op.operands]), h y (by simp [Op.operands])]; exact hl
 ·
  rename_i op t x; simp only [hop, h x (by simp [Op.operands])]; exact hl
 ·
  rename_i s d x; simp only [hop, h x (by simp [Op.operands])]; exact hl
 ·
  rename_i f first caps
  have : ∀ y ∈ caps.toList, e' y = e y := fun y hy => h y (by simp only [Op.operands]; exact Array.mem_append.2 (.inr (by simpa using hy)))
  simp only [hop, map_congr' this]; exact hl
 ·
  rename_i t x lo hi
  have h1 : e' x = e x := h x (by simp [Op.operands])
  have h2 : lo.map e' = lo.map e := optmap_congr (fun y hy => h y (by cases lo <;> simp_all [Op.operands]))
  have h3 : hi.map e' = hi.map e := optmap_congr (fun y hy => h y (by cases lo <;> cases hi <;> simp_all [Op.operands]))
  simp only [hop, h1, h2, h3]; exact hl
 ·
  rename_i t x lo hi mx
  have h1 : e' x = e x := h x (by simp [Op.operands])
  have h2 : lo.map e' = lo.map e := optmap_congr (fun y hy => h y (by cases lo <;> simp_all [Op.operands]))
  have h3 : e' hi = e hi := h hi (by cases lo <;> simp [Op.operands])
  have h4 : e' mx = e mx := h mx (by cases lo <;> simp [Op.operands])
  simp only [hop, h1, h2, h3, h4]; exact hl
 ·
  exact hl
 ·
  rename_i t m k; simp only [hop, h m (by simp [Op.operands]), h k (by simp [Op.operands])]; exact hl
 ·
  rename_i t m k v; simp only [hop, h m (by simp [Op.operands]), h k (by simp [Op.operands]), h v (by simp [Op.operands])]; exact hl
 ·
  rename_i t x f; simp only [hop, h x (by simp [Op.operands])]; exact hl
 ·
  rename_i t x f; simp only [hop, h x (by simp [Op.operands])]; exact hl
 ·
  rename_i t x i; simp only [hop, h x (by simp [Op.operands]), h i (by simp [Op.operands])]; exact hl
 ·
  rename_i t x i; simp only [hop, h x (by simp [Op.operands]), h i (by simp [Op.operands])]; exact hl
 ·
  rename_i x i; simp only [hop, h x (by simp [Op.operands])]; exact hl
 ·
  rename_i c
  have ha : ∀ y ∈ c.args.toList, e' y = e y := fun y hy => h y (by simp only [Op.operands, Call.operands]; exact Array.mem_append.2 (.inr (by simpa using hy)))
  split at hl
  ·
   rename_i x t h1 h2 h3
   simp only [hop, h1, h2, h3, ha x (by rw [h2]; simp)]; exact hl
  ·
   rename_i s x t t' h1 h2 h3
   simp only [hop, h1, h2, h3, ha x (by rw [h2]; simp), ha s (by rw [h2]; simp)]; exact hl
  ·
   rename_i x y t t' h1 h2 h3
   simp only [hop, h1, h2, h3, ha x (by rw [h2]; simp), ha y (by rw [h2]; simp)]; exact hl
  ·
   rename_i x y t t' h1 h2 h3
   simp only [hop, h1, h2, h3, ha x (by rw [h2]; simp), ha y (by rw [h2]; simp)]; exact hl
  ·
   rename_i x t h1 h2 h3
   simp only [hop, h1, h2, h3, ha x (by rw [h2]; simp)]; exact hl
  ·
   rename_i x y t t' h1 h2 h3
   simp only [hop, h1, h2, h3, ha x (by rw [h2]; simp), ha y (by rw [h2]; simp)]; exact hl
  ·
   exact hl.elim
 ·
  rename_i t x; simp only [hop, h x (by simp [Op.operands])]; exact hl
 ·
  rename_i x s t; simp only [hop, h x (by simp [Op.operands])]; exact hl
 ·
  rename_i t len cap; simp only [hop, h len (by simp [Op.operands]), h cap (by simp [Op.operands])]; exact hl
 ·
  exact hl.elim

theorem mkId_congr {nid : Nat} {o : Op} {e e' : Operand → HV} (h : ∀ x ∈ o.operands, e' x = e x) : mkId nid o e' = mkId nid o e := by
 unfold mkId
 split
 ·
  rfl
 ·
  rename_i c
  split
  ·
   rename_i s x hcal hargs
   have hin : s ∈ c.args := by
    have : s ∈ c.args.toList := by rw [hargs]; simp
    simpa using this
   have : e' s = e s := h s (by simp only [Op.operands, Call.operands]; exact Array.mem_append.2 (.inr hin))
   rw [this]
  ·
   rfl
 ·
  rfl
theorem hop2_congr {P : Program} {nid : Nat} {o : Op} {e e' : Operand → HV} {ob : Ob} {K : HV → Ob → Prop} (h : ∀ x ∈ o.operands, e' x = e x) (hl : hop2 P nid o e ob K) : hop2 P nid o e' ob K := by
 rcases hl with hl | ⟨id, hm, hl⟩
 ·
  exact .inl (hop_congr h hl)
 ·
  exact .inr ⟨id, by rw [mkId_congr h]; exact hm, hop_congr h hl⟩
theorem hstepG_congr {P : Program} {av : List Nat} {nid : Nat} {o : Op} {e e' : Operand → HV} {ob : Ob} {K : HV → Ob → Prop} (h : ∀ x ∈ o.operands, e' x = e x) (hl : hstepG P av nid o e ob K) : hstepG P av nid o e' ob K := by
 unfold hstepG at hl ⊢
 cases hc : hcallOf o with
 | none =>
  rw [hc] at hl
  simp only at hl ⊢
  rw [touch_congr h]
  exact ⟨hl.1, hop2_congr h hl.2⟩
 | some p =>
  obtain ⟨f, xs⟩ := p
  rw [hc] at hl
  simp only at hl ⊢
  have hf : e' f = e f ∧ ∀ y ∈ xs, e' y = e y := by
   cases o <;> simp only [hcallOf] at hc <;> try cases hc
   rename_i c
   split at hc
   ·
    rename_i g hg
    cases hc
    exact ⟨h f (by simp [Op.operands, Call.operands, hg]), fun y hy => h y (by simp only [Op.operands, Call.operands]; exact Array.mem_append.2 (.inr (by simpa using hy)))⟩
   ·
    cases hc
  have hden : (xs.map fun x => (e' x).den) = xs.map fun x => (e x).den := List.map_congr_left (fun y hy => by rw [hf.2 y hy])
  rw [hf.1, hden]
  exact ⟨fun x hx => by rw [hf.2 x hx]; exact hl.1 x hx, hl.2⟩

theorem ev_updo {fr : Fr} {d : Option Nat} {v : HV} {x : Operand} (h : ∀ k, d = some k → x ≠ .tmp k) : ev (updo fr d v) x = ev fr x := by
 cases d with
 | none => rfl
 | some k =>
  cases x with
  | tmp t => simp only [ev, updo]; exact upd_ne _ _ (fun e => h k rfl (by rw [e]))
  | _ => rfl

theorem looks_operands {ops : Array Oper} {o : Oper} {fr : Fr} {d : Option Nat} {v : HV} (h : ∀ k, d = some k → k ∉ o.looksAt ops) : ∀ x ∈ o.op.operands, ev (updo fr d v) x = ev fr x := by
 intro x hx
 refine ev_updo (fun k hk e => h k hk ?_)
 subst e
 unfold Oper.looksAt
 refine List.mem_append_left _ (List.mem_filterMap.2 ⟨.tmp k, by simpa using hx, rfl⟩)

theorem hguard_updo {ops : Array Oper} {o : Oper} {fr : Fr} {d : Option Nat} {v : HV} (h : ∀ k, d = some k → k ∉ o.looksAt ops) : hguard ops o (updo fr d v) = hguard ops o fr := by
 unfold hguard
 cases hg : o.guard with
 | none => rfl
 | some p =>
  obtain ⟨j, want⟩ := p
  simp only
  cases hd : (ops[j]?).bind (·.dst) with
  | none => rfl
  | some k =>
   simp only
   have : updo fr d v k = fr k := by
    cases d with
    | none => rfl
    | some k' =>
     simp only [updo]
     refine upd_ne _ _ (fun e => h k' rfl ?_)
     subst e
     unfold Oper.looksAt
     rw [hg]
     simp only [hd]
     exact List.mem_append_right _ (by simp)
   rw [this]

theorem updo_comm {fr : Fr} {d d' : Option Nat} {v v' : HV} (h : ∀ k, d = some k → d' ≠ some k) : updo (updo fr d v) d' v' = updo (updo fr d' v') d v := by
 cases d with
 | none => rfl
 | some k =>
  cases d' with
  | none => rfl
  | some k' =>
   have hne : k ≠ k' := fun e => h k rfl (by rw [e])
   funext t
   simp only [updo, upd]
   by_cases h1 : t = k' <;> by_cases h2 : t = k
   ·
    exact absurd (h2.symm.trans h1) hne
   ·
    simp [h1, h2, Ne.symm hne]
   ·
    simp [h1, h2, hne]
   ·
    simp [h1, h2]

def Agree (F : List Nat) (ob ob' : Ob) : Prop := ∀ id ∈ F, ob' id = ob id
def Apart (u : Option (Nat × HO)) (av : List Nat) (nid : Nat) : Prop := ∀ p, u = some p → p.1 ∈ av ∧ ¬ (nid ≤ p.1 ∧ p.1 < nid + 4)

theorem app_other {u : Option (Nat × HO)} {ob : Ob} {id : Nat} (h : ∀ p, u = some p → p.1 ≠ id) : app u ob id = ob id := by
 cases u with
 | none => rfl
 | some p => exact upd_ne _ _ (fun e => h p rfl e.symm)
theorem app_comm {u u' : Option (Nat × HO)} {ob : Ob} (h : ∀ p p', u = some p → u' = some p' → p.1 ≠ p'.1) : app u (app u' ob) = app u' (app u ob) := by
 cases u with
 | none => rfl
 | some p =>
  cases u' with
  | none => rfl
  | some p' =>
   have hne := h p p' rfl rfl
   funext t
   simp only [app, upd]
   by_cases h1 : t = p.1 <;> by_cases h2 : t = p'.1
   ·
    exact absurd (h1.symm.trans h2) hne
   ·
    simp [h1, hne]
   ·
    simp [h2, Ne.symm hne]
   ·
    simp [h1, h2]

theorem hcall_frame {P : Program} {av av' : List Nat} {nid : Nat} {f : FuncId} {args : List HV} {ob : Ob} {K : HV → Ob → Prop} {u : Option (Nat × HO)} {F : List Nat} (hu : Apart u av nid) (hav : ∀ x ∈ av', x ∈ av)
  (hF : ∀ id ∈ F, id ∈ av ∧ (ob id).isSome = true) (hfresh : ∀ t, t < 4 → ob (nid + t) = none) (h : HCall P av f args (app u ob) nid K) :
  HCall P av' f args ob nid (fun v ob' => K v (app u ob') ∧ Agree F ob ob') := by
 obtain ⟨σ, largs, lob, R, h1, h2, ⟨h3, h4⟩, h5, h6, h7⟩ := h
 have hσ : ∀ p, u = some p → p.1 ∉ σ := fun p hp hin => h4 _ hin (hu p hp).1
 have hmem : ∀ j o, lob j = some o → σ.getD j 0 ∈ σ := fun j o ho => by
  have hj := (h2.none j o ho).1
  rw [List.getD_eq_getElem?_getD, List.getElem?_eq_getElem hj]; exact List.getElem_mem hj
 refine ⟨σ, largs, lob, R, h1, h2, ⟨h3, fun s hs hin => h4 s hs (hav _ hin)⟩, h5, fun j o ho => ?_, fun r lob' hR hr => ⟨?_, fun id hid => ?_⟩⟩
 ·
  rw [← h6 j o ho]
  exact (app_other (fun p hp e => hσ p hp (e ▸ hmem j o ho))).symm
 ·
  have := h7 r lob' hR hr
  have e : obAfter (app u ob) σ nid lob' = app u (obAfter ob σ nid lob') := by
   funext id
   cases u with
   | none => rfl
   | some p =>
    have h8 := hσ p rfl
    have h9 := (hu p rfl).2
    simp only [app, upd]
    by_cases hid : id = p.1
    ·
     subst hid
     rw [if_pos rfl]
     unfold obAfter
     have : σ.findIdx? (· == p.1) = none := by
      rw [List.findIdx?_eq_none_iff]
      intro y hy
      simp only [beq_eq_false_iff_ne, ne_eq]
      intro e; exact h8 (e ▸ hy)
     rw [this]
     simp only [if_neg h9]
     exact upd_same _ _ _
    ·
     rw [if_neg hid]
     unfold obAfter
     split
     ·
      rfl
     ·
      split
      ·
       rfl
      ·
       exact upd_ne _ _ hid
  rw [← e]; exact this
 ·
  unfold obAfter
  have h8 : id ∉ σ := fun hin => h4 id hin (hF id hid).1
  have : σ.findIdx? (· == id) = none := by
   rw [List.findIdx?_eq_none_iff]
   intro y hy
   simp only [beq_eq_false_iff_ne, ne_eq]
   intro e; exact h8 (e ▸ hy)
  rw [this]
  simp only
  split
  ·
   rename_i hr
   have := hfresh (id - nid) (by omega)
   rw [show nid + (id - nid) = id from by omega] at this
   have h9 := (hF id hid).2
   rw [this] at h9; cases h9
  ·
   rfl

theorem hstepG_frame {P : Program} {av av' : List Nat} {nid : Nat} {o : Op} {e : Operand → HV} {ob : Ob} {K : HV → Ob → Prop} {u : Option (Nat × HO)} {F : List Nat} (hu : Apart u av nid) (hav : ∀ x ∈ av', x ∈ av)
  (hF : ∀ id ∈ F, (isEff o = true → id ∈ av) ∧ (ob id).isSome = true) (hfresh : ∀ t, t < 4 → ob (nid + t) = none) (h : hstepG P av nid o e (app u ob) K) :
  hstepG P av' nid o e ob (fun v ob' => K v (app u ob') ∧ Agree F ob ob') := by
 unfold hstepG at h ⊢
 cases hc : hcallOf o with
 | some p =>
  obtain ⟨f, xs⟩ := p
  rw [hc] at h
  simp only at h ⊢
  have heff : isEff o = true := by
   cases o <;> simp only [hcallOf] at hc <;> try cases hc
   rename_i c
   split at hc
   ·
    rename_i g hg; simp only [isEff, hg]
   ·
    cases hc
  refine ⟨h.1, ?_⟩
  have h := h.2
  split at h
  ·
   exact hcall_frame hu hav (fun id hid => ⟨(hF id hid).1 heff, (hF id hid).2⟩) hfresh h
  ·
   exact hcall_frame hu hav (fun id hid => ⟨(hF id hid).1 heff, (hF id hid).2⟩) hfresh h
  ·
   exact h.elim
 | none =>
  rw [hc] at h
  simp only at h ⊢
  obtain ⟨ht, h⟩ := h
  have hnt : ∀ p, u = some p → p.1 ∉ touch o e := fun p hp hin => (ht _ hin).1 (hu p hp).1
  have hobt : ∀ id ∈ touch o e, app u ob id = ob id := fun id hid => app_other (fun p hp e => hnt p hp (e ▸ hid))
  obtain ⟨v, u', hK, hform, hid'⟩ := hop2_form h
  refine ⟨fun id hid => ⟨fun hin => (ht id hid).1 (hav _ hin), by rw [← hobt id hid]; exact (ht id hid).2⟩, hform ob (fun id hid => (hobt id hid).symm) _ ⟨?_, fun id hid => ?_⟩⟩
  ·
   rw [app_comm (u := u) (u' := u') (ob := ob) (fun p p' hp hp' e => ?_)]
   ·
    exact hK
   ·
    rcases hid' p' hp' with h1 | ⟨_, h1⟩
    ·
     exact (hu p hp).2 ⟨by omega, by omega⟩
    ·
     exact hnt p hp (e ▸ h1)
  ·
   refine app_other (fun p hp e => ?_)
   rcases hid' p hp with h1 | ⟨h2, h1⟩
   ·
    have := hfresh 0 (by omega)
    rw [Nat.add_zero, ← h1, e] at this
    have h9 := (hF id hid).2
    rw [this] at h9; cases h9
   ·
    exact (ht _ h1).1 (e ▸ (hF id hid).1 h2)
theorem HCall.mono {P : Program} {av av' : List Nat} {nid : Nat} {f : FuncId} {args : List HV} {ob : Ob} {K K' : HV → Ob → Prop} (hav : ∀ x ∈ av', x ∈ av) (hK : ∀ v ob, K v ob → K' v ob) (h : HCall P av f args ob nid K) : HCall P av' f args ob nid K' := by
 obtain ⟨σ, largs, lob, R, h1, h2, ⟨h3, h4⟩, h5, h6, h7⟩ := h
 exact ⟨σ, largs, lob, R, h1, h2, ⟨h3, fun s hs hin => h4 s hs (hav _ hin)⟩, h5, h6, fun r lob' hR hr => hK _ _ (h7 r lob' hR hr)⟩
theorem hop2_mono {P : Program} {nid : Nat} {o : Op} {e : Operand → HV} {ob : Ob} {K K' : HV → Ob → Prop} (hK : ∀ v ob, K v ob → K' v ob) (h : hop2 P nid o e ob K) : hop2 P nid o e ob K' := by
 obtain ⟨v, u, h1, h2, _⟩ := hop2_form h
 exact h2 ob (fun _ _ => rfl) K' (hK _ _ h1)
theorem hstepG_mono {P : Program} {av av' : List Nat} {nid : Nat} {o : Op} {e : Operand → HV} {ob : Ob} {K K' : HV → Ob → Prop} (hav : ∀ x ∈ av', x ∈ av) (hK : ∀ v ob, K v ob → K' v ob) (h : hstepG P av nid o e ob K) : hstepG P av' nid o e ob K' := by
 unfold hstepG at h ⊢
 split at h
 ·
  refine ⟨h.1, ?_⟩
  have h := h.2
  split at h
  ·
   exact h.mono hav hK
  ·
   exact h.mono hav hK
  ·
   exact h.elim
 ·
  exact ⟨fun id hid => ⟨fun hin => (h.1 id hid).1 (hav _ hin), (h.1 id hid).2⟩, hop2_mono hK h.2⟩
end Go.Hl

namespace Go.Hl
open Go

abbrev Pend := List (Nat × List Nat)
def avoid (ops : Array Oper) (nx : Nat) (wt : Nat → Nat → Bool) (C : Pend) (j : Nat) : List Nat :=
 C.flatMap fun p => if wt j p.1 = true then [] else [nx + 4 * p.1, nx + 4 * p.1 + 1, nx + 4 * p.1 + 2, nx + 4 * p.1 + 3] ++ (if ((ops[j]?).map (fun o => isEff o.op)).getD true = true then p.2 else [])

def hAnyG (P : Program) (ops : Array Oper) (nx : Nat) (wt : Nat → Nat → Bool) (Q : Fr → Ob → Prop) : Nat → Pend → Array Bool → Fr → Ob → Prop
 | 0, _, listed, fr, ob => Region.ready .any ops listed = [] ∧ Q fr ob
 | n + 1, C, listed, fr, ob => (Region.ready .any ops listed = [] → Q fr ob) ∧
  ∀ i ∈ Region.ready .any ops listed, hopIG P ops nx (avoid ops nx wt C i) i (hAnyG P ops nx wt Q n C (listed.setIfInBounds i true)) fr ob

def Fresh (nx : Nat) (listed : Array Bool) (ob : Ob) : Prop := ∀ j, listed.getD j true = false → ∀ t, t < 4 → ob (nx + 4 * j + t) = none
def Down (ops : Array Oper) (listed : Array Bool) : Prop := ∀ j o, ops[j]? = some o → listed.getD j false = true → ∀ e ∈ o.after, Region.binds .any e = true → listed.getD e.on false = true
def WtOk (ops : Array Oper) (wt : Nat → Nat → Bool) : Prop := ∀ j i, wt j i = true → ∃ o, ops[j]? = some o ∧ ∃ e ∈ o.after, Region.binds .any e = true ∧ (e.on = i ∨ (e.on < j ∧ wt e.on i = true))

theorem wt_listed {ops : Array Oper} {wt : Nat → Nat → Bool} (hw : WtOk ops wt) {listed : Array Bool} (hd : Down ops listed) : ∀ (n j i : Nat), j = n → wt j i = true → (∀ o, ops[j]? = some o → ∀ e ∈ o.after, Region.binds .any e = true → listed.getD e.on false = true) → listed.getD i false = true := by
 intro n
 induction n using Nat.strongRecOn with
 | _ n ih =>
  intro j i hj hwt hall
  obtain ⟨o, ho, e, he, hb, h⟩ := hw j i hwt
  have h1 := hall o ho e he hb
  rcases h with h | ⟨h2, h3⟩
  ·
   rw [← h]; exact h1
  ·
   exact ih e.on (by omega) e.on i rfl h3 (fun o' ho' e' he' hb' => hd e.on o' ho' h1 e' he' hb')

theorem not_wt {ops : Array Oper} {wt : Nat → Nat → Bool} (hw : WtOk ops wt) {listed : Array Bool} (hd : Down ops listed) {i j : Nat} (hj : j ∈ Region.ready .any ops listed) (hi : listed.getD i true = false) : wt j i = false := by
 cases h : wt j i with
 | false => rfl
 | true =>
  obtain ⟨_, o, ho, hall⟩ := mem_ready.1 hj
  have := wt_listed hw hd j j i rfl h (fun o' ho' e he hb => by rw [ho] at ho'; cases ho'; exact hall e he hb)
  rcases Nat.lt_or_ge i listed.size with h' | h'
  ·
   simp [h'] at hi this; rw [hi] at this; cases this
  ·
   simp [Array.getElem?_eq_none h'] at hi

theorem Down.set {ops : Array Oper} {listed : Array Bool} (hd : Down ops listed) {i : Nat} (hi : i ∈ Region.ready .any ops listed) : Down ops (listed.setIfInBounds i true) := by
 obtain ⟨_, oi, hoi, hall⟩ := mem_ready.1 hi
 intro j o ho hl e he hb
 by_cases hij : i = j
 ·
  subst hij
  rw [hoi] at ho; cases ho
  exact getD_set_true (hall e he hb)
 ·
  rw [getD_set_ne false hij] at hl
  exact getD_set_true (hd j o ho hl e he hb)

theorem avoid_sub (ops : Array Oper) (nx : Nat) (wt : Nat → Nat → Bool) (p : Nat × List Nat) (C : Pend) (j : Nat) : ∀ x ∈ avoid ops nx wt C j, x ∈ avoid ops nx wt (p :: C) j := by
 intro x hx
 unfold avoid at hx ⊢
 rw [List.flatMap_cons]
 exact List.mem_append_right _ hx

theorem hopIG_mono {P : Program} {ops : Array Oper} {nx : Nat} {av av' : List Nat} {i : Nat} {K K' : Fr → Ob → Prop} {fr : Fr} {ob : Ob} (hav : ∀ x ∈ av', x ∈ av) (hK : ∀ fr ob, K fr ob → K' fr ob) (h : hopIG P ops nx av i K fr ob) : hopIG P ops nx av' i K' fr ob := by
 unfold hopIG at h ⊢
 split at h
 ·
  exact h.elim
 ·
  rename_i o ho
  split at h
  ·
   exact hstepG_mono hav (fun v ob => hK _ _) h
  ·
   exact hK _ _ h
  ·
   exact h.elim

theorem hAnyG_drop {P : Program} {ops : Array Oper} {nx : Nat} {wt : Nat → Nat → Bool} {Q : Fr → Ob → Prop} {p : Nat × List Nat} {C : Pend} : ∀ {n : Nat} {listed : Array Bool} {fr : Fr} {ob : Ob}, hAnyG P ops nx wt Q n (p :: C) listed fr ob → hAnyG P ops nx wt Q n C listed fr ob
 | 0, _, _, _, h => h
 | _ + 1, _, _, _, h => ⟨h.1, fun i hi => hopIG_mono (avoid_sub ops nx wt p C i) (fun _ _ => hAnyG_drop) (h.2 i hi)⟩

structure Yld (P : Program) (ops : Array Oper) (nx : Nat) (av : List Nat) (i : Nat) (oi : Oper) (fr : Fr) (ob : Ob) (v : HV) (u : Option (Nat × HO)) (F : List Nat) : Prop where
 run : ∀ fr' ob', (∀ x ∈ oi.op.operands, ev fr' x = ev fr x) → hguard ops oi fr' = hguard ops oi fr → Agree F ob ob' → ∀ K : Fr → Ob → Prop, K (updo fr' oi.dst v) (app u ob') → hopIG P ops nx av i K fr' ob'
 new : ∀ p, u = some p → p.1 = nx + 4 * i
 live : ∀ id ∈ F, (ob id).isSome = true

theorem hopIG_frame {P : Program} {ops : Array Oper} {nx : Nat} {av av' : List Nat} {j : Nat} {oi oj : Oper} {K : Fr → Ob → Prop} {fr : Fr} {ob : Ob} {v : HV} {u : Option (Nat × HO)} {F : List Nat}
  (hoj : ops[j]? = some oj) (hap : oi.apart ops oj = true) (hu : Apart u av (nx + 4 * j)) (hav : ∀ x ∈ av', x ∈ av) (hF : ∀ id ∈ F, (isEff oj.op = true → id ∈ av) ∧ (ob id).isSome = true) (hfresh : ∀ t, t < 4 → ob (nx + 4 * j + t) = none)
  (h : hopIG P ops nx av j K (updo fr oi.dst v) (app u ob)) :
  hopIG P ops nx av' j (fun fr' ob' => K (updo fr' oi.dst v) (app u ob') ∧ Agree F ob ob' ∧ (∀ x ∈ oi.op.operands, ev fr' x = ev fr x) ∧ hguard ops oi fr' = hguard ops oi fr) fr ob := by
 obtain ⟨h1, h2, h3⟩ := Oper.apart_spec hap
 have kept : ∀ y, (∀ x ∈ oi.op.operands, ev (updo fr oj.dst y) x = ev fr x) ∧ hguard ops oi (updo fr oj.dst y) = hguard ops oi fr := fun y => ⟨looks_operands h3, hguard_updo h3⟩
 unfold hopIG at h ⊢
 rw [hoj] at h ⊢
 simp only at h ⊢
 rw [hguard_updo h1] at h
 split at h
 ·
  rename_i hg
  have h' := hstepG_congr (e' := ev fr) (fun x hx => (looks_operands h1 x hx).symm) h
  refine hstepG_mono (fun x hx => hx) (fun y ob' hK => ?_) (hstepG_frame (F := F) hu hav hF hfresh h')
  obtain ⟨hK, hA⟩ := hK
  rw [updo_comm h2] at hK
  exact ⟨hK, hA, kept y⟩
 ·
  rw [updo_comm h2] at h
  exact ⟨h, fun _ _ => rfl, kept _⟩
 ·
  exact h.elim

theorem Fresh.set {nx : Nat} {listed : Array Bool} {ob : Ob} (h : Fresh nx listed ob) (i : Nat) : Fresh nx (listed.setIfInBounds i true) ob := fun j hj => by
 by_cases hij : i = j
 ·
  subst hij
  rcases Nat.lt_or_ge i listed.size with h' | h'
  ·
   simp [h'] at hj
  ·
   simp [Array.getElem?_eq_none h'] at hj
 ·
  rw [getD_set_ne true hij] at hj; exact h j hj

theorem hopIG_fresh {P : Program} {ops : Array Oper} {nx : Nat} {av : List Nat} {i : Nat} {K : Fr → Ob → Prop} {fr : Fr} {ob : Ob} {listed : Array Bool} (hf : Fresh nx listed ob) (h : hopIG P ops nx av i K fr ob) :
  hopIG P ops nx av i (fun fr' ob' => K fr' ob' ∧ Fresh nx (listed.setIfInBounds i true) ob') fr ob := by
 have key : ∀ ob' : Ob, (∀ id, ob id = none → ¬ (nx + 4 * i ≤ id ∧ id < nx + 4 * i + 4) → ob' id = none) → Fresh nx (listed.setIfInBounds i true) ob' := by
  intro ob' h1 j hj t ht
  have h2 := hf.set i j hj t ht
  refine h1 _ h2 (fun h3 => ?_)
  have hij : i = j := by omega
  subst hij
  rcases Nat.lt_or_ge i listed.size with h' | h'
  ·
   simp [h'] at hj
  ·
   simp [Array.getElem?_eq_none h'] at hj
 unfold hopIG at h ⊢
 cases ho : ops[i]? with
 | none => rw [ho] at h; exact h.elim
 | some o =>
  rw [ho] at h
  simp only at h ⊢
  cases hg : hguard ops o fr with
  | none => rw [hg] at h; exact h.elim
  | some b =>
   rw [hg] at h
   cases b with
   | false => exact ⟨h, key ob (fun id h1 _ => h1)⟩
   | true =>
    simp only at h ⊢
    unfold hstepG at h ⊢
    cases hc : hcallOf o.op with
    | none =>
     rw [hc] at h
     simp only at h ⊢
     obtain ⟨v, u, hK, hform, hid⟩ := hop2_form h.2
     refine ⟨h.1, hform ob (fun _ _ => rfl) _ ⟨hK, key _ (fun id h1 h2 => ?_)⟩⟩
     rw [app_other (fun p hp e => ?_)]
     ·
      exact h1
     ·
      rcases hid p hp with h3 | ⟨_, h3⟩
      ·
       exact h2 ⟨by omega, by omega⟩
      ·
       have := (h.1 _ h3).2
       rw [e, h1] at this; cases this
    | some p =>
     obtain ⟨f, xs⟩ := p
     rw [hc] at h
     simp only at h ⊢
     refine ⟨h.1, ?_⟩
     have h := h.2
     have hcall : ∀ g args, HCall P av g args ob (nx + 4 * i) (fun v ob' => K (updo fr o.dst v) ob') → HCall P av g args ob (nx + 4 * i) (fun v ob' => K (updo fr o.dst v) ob' ∧ Fresh nx (listed.setIfInBounds i true) ob') := by
      rintro g args ⟨σ, largs, lob, R, h1, h2, h3, h5, h6, h7⟩
      refine ⟨σ, largs, lob, R, h1, h2, h3, h5, h6, fun r lob' hR hr => ⟨h7 r lob' hR hr, key _ (fun id e1 e2 => ?_)⟩⟩
      unfold obAfter
      split
      ·
       rename_i j hj
       exfalso
       rw [List.findIdx?_eq_some_iff_getElem] at hj
       obtain ⟨hj1, hj2, _⟩ := hj
       obtain ⟨o', ho'⟩ := h2.all j hj1
       have := h6 j o' ho'
       rw [List.getD_eq_getElem?_getD, List.getElem?_eq_getElem hj1] at this
       simp only [beq_iff_eq] at hj2
       simp only [Option.getD_some, hj2, e1] at this
       cases this
      ·
       rw [if_neg e2]; exact e1
     split at h
     ·
      exact hcall _ _ h
     ·
      exact hcall _ _ h
     ·
      exact h.elim

theorem hAnyG_first {P : Program} {ops : Array Oper} {nx : Nat} {wt : Nat → Nat → Bool} {Q : Fr → Ob → Prop} {i : Nat} {oi : Oper} (hi : ops[i]? = some oi) (hw : WtOk ops wt) {v : HV} {u : Option (Nat × HO)} {F : List Nat} {C : Pend} :
  ∀ (n : Nat) (listed : Array Bool) (fr : Fr) (ob : Ob), Down ops listed → Fresh nx listed ob →
   (∀ j oj, ops[j]? = some oj → j ≠ i → listed.getD j true = false → (∀ e ∈ oj.after, Region.binds .any e = true → e.on ≠ i) → oi.apart ops oj = true) →
   i ∈ Region.ready .any ops listed → Yld P ops nx (avoid ops nx wt C i) i oi fr ob v u F →
   hAnyG P ops nx wt Q n ((i, F) :: C) (listed.setIfInBounds i true) (updo fr oi.dst v) (app u ob) → hAnyG P ops nx wt Q (n + 1) C listed fr ob := by
 intro n
 induction n with
 | zero =>
  intro listed fr ob hd hf hfree hr hy H
  refine ⟨fun h => (by rw [h] at hr; cases hr), fun j hj => ?_⟩
  by_cases hji : j = i
  ·
   subst hji
   exact hy.run fr ob (fun _ _ => rfl) rfl (fun _ _ => rfl) _ (hAnyG_drop H)
  ·
   have := ready_mono hj hji
   rw [H.1] at this
   cases this
 | succ n ih =>
  intro listed fr ob hd hf hfree hr hy H
  have hiun := (mem_ready.1 hr).1
  refine ⟨fun h => (by rw [h] at hr; cases hr), fun j hj => ?_⟩
  by_cases hji : j = i
  ·
   subst hji
   exact hy.run fr ob (fun _ _ => rfl) rfl (fun _ _ => rfl) _ (hAnyG_drop H)
  ·
   have h1 := H.2 j (ready_mono hj hji)
   obtain ⟨hjun, oj, hoj, hall⟩ := mem_ready.1 hj
   have hnot : ∀ e ∈ oj.after, Region.binds .any e = true → e.on ≠ i := fun e he hb heq => by
    have h1 := hall e he hb
    rw [heq] at h1
    rcases Nat.lt_or_ge i listed.size with h' | h'
    ·
     simp [h'] at hiun h1; rw [hiun] at h1; cases h1
    ·
     simp [Array.getElem?_eq_none h'] at h1
   have hnw := not_wt hw hd hj hiun
   have hin : ∀ t, t < 4 → nx + 4 * i + t ∈ avoid ops nx wt ((i, F) :: C) j := fun t ht => by
    unfold avoid
    rw [List.flatMap_cons]
    refine List.mem_append_left _ ?_
    simp only [hnw, Bool.false_eq_true, if_false]
    refine List.mem_append_left _ ?_
    have : t = 0 ∨ t = 1 ∨ t = 2 ∨ t = 3 := by omega
    rcases this with rfl | rfl | rfl | rfl <;> simp
   have hFin : isEff oj.op = true → ∀ id ∈ F, id ∈ avoid ops nx wt ((i, F) :: C) j := fun he id hid => by
    unfold avoid
    rw [List.flatMap_cons]
    refine List.mem_append_left _ ?_
    simp only [hnw, Bool.false_eq_true, if_false, hoj, Option.map_some, Option.getD_some, he, if_true]
    exact List.mem_append_right _ hid
   have hu : Apart u (avoid ops nx wt ((i, F) :: C) j) (nx + 4 * j) := fun p hp => by
    have := hy.new p hp
    exact ⟨by rw [this]; exact hin 0 (by omega), by omega⟩
   have h2 := hopIG_frame (F := F) (av' := avoid ops nx wt C j) hoj (hfree j oj hoj hji hjun hnot) hu (avoid_sub ops nx wt _ C j) (fun id hid => ⟨fun he => hFin he id hid, hy.live id hid⟩) (hf j hjun) h1
   have h3 := hopIG_fresh hf h2
   have hfree' : ∀ k ok, ops[k]? = some ok → k ≠ i → (listed.setIfInBounds j true).getD k true = false →
     (∀ e ∈ ok.after, Region.binds .any e = true → e.on ≠ i) → oi.apart ops ok = true := fun k ok hk hki hun hno => by
    refine hfree k ok hk hki ?_ hno
    by_cases hjk : j = k
    ·
     subst hjk; exact hjun
    ·
     rw [getD_set_ne true hjk] at hun; exact hun
   refine hopIG_mono (fun x hx => hx) (fun fr' ob' hK => ?_) h3
   obtain ⟨⟨hK, hA, hev, hgd⟩, hf'⟩ := hK
   refine ih (listed.setIfInBounds j true) fr' ob' (hd.set hj) hf' hfree' (ready_mono hr (Ne.symm hji)) ⟨fun fr2 ob2 e1 e2 e3 K hK' => ?_, hy.new, fun id hid => ?_⟩ ?_
   ·
    exact hy.run fr2 ob2 (fun x hx => (e1 x hx).trans (hev x hx)) (e2.trans hgd) (fun id hid => (e3 id hid).trans (hA id hid)) K hK'
   ·
    rw [hA id hid]; exact hy.live id hid
   ·
    rw [Array.setIfInBounds_comm _ _ hji]
    exact hK

def hwalkG (P : Program) (ops : Array Oper) (nx : Nat) (wt : Nat → Nat → Bool) (Q : Fr → Ob → Prop) : List Nat → Pend → Fr → Ob → Prop
 | [], _, fr, ob => Q fr ob
 | i :: rest, C, fr, ob => hopIG P ops nx (avoid ops nx wt C i) i (hwalkG P ops nx wt Q rest (match ops[i]? with
   | some o => if isEff o.op = true then C else (i, if hguard ops o fr = some true then touch o.op (ev fr) else []) :: C
   | none => C)) fr ob

def planOk (ops : Array Oper) : List Nat → Array Bool → Bool
 | [], listed => (Region.ready .any ops listed).isEmpty
 | i :: rest, listed =>
  (match ops[i]? with
   | some o => if isEff o.op then decide (Region.ready .any ops listed = [i]) else (Region.ready .any ops listed).contains i && Region.free .any ops listed i
   | none => false) && planOk ops rest (listed.setIfInBounds i true)

theorem hAnyG_of_walk {P : Program} {ops : Array Oper} {nx : Nat} {wt : Nat → Nat → Bool} {Q : Fr → Ob → Prop} (hw : WtOk ops wt) : ∀ (plan : List Nat) (C : Pend) (listed : Array Bool) (fr : Fr) (ob : Ob), planOk ops plan listed = true → Down ops listed → Fresh nx listed ob →
  hwalkG P ops nx wt Q plan C fr ob → hAnyG P ops nx wt Q plan.length C listed fr ob
 | [], C, listed, fr, ob, hp, _, _, h => ⟨by simpa [planOk] using hp, h⟩
 | i :: rest, C, listed, fr, ob, hp, hd, hf, h => by
  simp only [planOk, Bool.and_eq_true] at hp
  obtain ⟨hp1, hp2⟩ := hp
  cases ho : ops[i]? with
  | none => rw [ho] at hp1; cases hp1
  | some o =>
   rw [ho] at hp1
   simp only at hp1
   have h' := hopIG_fresh hf h
   by_cases he : isEff o.op = true
   ·
    rw [if_pos he, decide_eq_true_eq] at hp1
    have hi : i ∈ Region.ready .any ops listed := by rw [hp1]; simp
    refine ⟨fun h0 => (by rw [hp1] at h0; cases h0), fun j hj => ?_⟩
    rw [hp1] at hj
    have hji : j = i := by simpa using hj
    subst hji
    refine hopIG_mono (fun x hx => hx) (fun fr' ob' hK => ?_) h'
    obtain ⟨hK, hf'⟩ := hK
    simp only [ho, he, if_true] at hK
    exact hAnyG_of_walk hw rest C _ fr' ob' hp2 (hd.set hi) hf' hK
   ·
    rw [if_neg he, Bool.and_eq_true] at hp1
    have hi : i ∈ Region.ready .any ops listed := by simpa using hp1.1
    have hfree := Region.free_spec ho hp1.2
    have he' : isEff o.op = false := by simpa using he
    -- what it yields
    have hy : ∃ v u, Yld P ops nx (avoid ops nx wt C i) i o fr ob v u (if hguard ops o fr = some true then touch o.op (ev fr) else []) ∧
      (hwalkG P ops nx wt Q rest ((i, if hguard ops o fr = some true then touch o.op (ev fr) else []) :: C) (updo fr o.dst v) (app u ob) ∧ Fresh nx (listed.setIfInBounds i true) (app u ob)) := by
     unfold hopIG at h'
     rw [ho] at h'
     simp only [he', Bool.false_eq_true, if_false] at h'
     cases hg : hguard ops o fr with
     | none => rw [hg] at h'; exact h'.elim
     | some b =>
      rw [hg] at h'
      cases b with
      | false =>
       refine ⟨.tup [], none, ⟨fun fr2 ob2 e1 e2 e3 K hK => ?_, by simp, by simp⟩, ?_⟩
       ·
        unfold hopIG
        rw [ho]
        simp only [e2, hg]
        exact hK
       ·
        simpa [app] using h'
      | true =>
       simp only at h'
       unfold hstepG at h'
       have hc : hcallOf o.op = none := by
        cases hop : o.op <;> simp only [hcallOf]
        rename_i c
        cases hcal : c.callee with
        | value f => rw [hop] at he'; simp only [isEff, hcal] at he'; cases he'
        | _ => rfl
       rw [hc] at h'
       simp only at h'
       obtain ⟨ht, h'⟩ := h'
       obtain ⟨v, u, hK, hform, hid⟩ := hop2_form h'
       refine ⟨v, u, ⟨fun fr2 ob2 e1 e2 e3 K hK => ?_, fun p hp => ?_, fun id hid => ?_⟩, ?_⟩
       ·
        unfold hopIG
        rw [ho]
        simp only [e2, hg]
        refine hstepG_congr (e := ev fr) e1 ?_
        unfold hstepG
        rw [hc]
        simp only [if_true] at e3 ⊢
        exact ⟨fun id hid => ⟨(ht id hid).1, by rw [e3 id hid]; exact (ht id hid).2⟩, hform ob2 e3 _ hK⟩
       ·
        rcases hid p hp with h1 | ⟨h1, _⟩
        ·
         exact h1
        ·
         rw [he'] at h1; cases h1
       ·
        simp only [if_true] at hid
        exact (ht id hid).2
       ·
        simpa [hg] using hK
    obtain ⟨v, u, hy, hK, hf'⟩ := hy
    exact hAnyG_first ho hw rest.length listed fr ob hd hf hfree hi hy (hAnyG_of_walk hw rest _ _ _ _ hp2 (hd.set hi) hf' hK)
end Go.Hl

namespace Go.Hl
open Go

def Ctx.F (c : Ctx) : Fence := { Fence.wide with round := c.R }
theorem callsIn_F {P : Program} {c : Ctx} {n : Nat} {f : FuncId} {args : Array Value} {w : World} {R : Ending → World → Prop} (h : Calls P f args w R) : CallsIn c.F n P f args w R := by
 have h1 := (callsIn_wide (n := n)).2 h
 unfold Ctx.F
 cases c.R with
 | none => exact h1
 | some l => exact h1.inRound l

section
variable {P : Program} {c : Ctx} {M M' : Nat → Prop} {fr : Fr} {ob : Ob} {a : Act} {w : World} {ρ : Env}

theorem getD_tmps {a : Act} {d : Nat} {v : Value} (h : a.tmps.getD d undef = v) (hv : v ≠ undef) : a.tmps[d]? = some v := by
 rw [Array.getD_eq_getD_getElem?] at h
 cases hx : a.tmps[d]? with
 | none => rw [hx] at h; exact absurd h.symm hv
 | some x => rw [hx] at h; rw [← h]; rfl

theorem hguard_wanted (h : RepA' c M fr ob a w ρ) {ops : Array Oper} {o : Oper} {b : Bool} (hg : hguard ops o fr = some b) : Region.wanted o (yielded ops a.tmps) = b := by
 unfold hguard at hg
 unfold Region.wanted
 split at hg
 ·
  rename_i hn; rw [hn]; cases hg; rfl
 ·
  rename_i j want hn
  rw [hn]
  split at hg
  ·
   rename_i d hd
   split at hg
   ·
    rename_i t ht
    cases hg
    have hr := h.f d (by rw [ht]; simp)
    rw [ht] at hr
    have := getD_tmps hr.bool (by simp [undef])
    simp only [yielded, hd, Option.bind_some, this]
    cases t <;> cases want <;> rfl
   ·
    rename_i l ht
    cases hg
    have hr := repV_ref (h.f d (by rw [ht]; simp)) (by rw [ht]; rfl)
    rw [ht] at hr
    simp only [RepH, List.cons.injEq, and_true] at hr
    obtain ⟨⟨xs, hx, _⟩, _⟩ := hr
    have : yielded ops a.tmps j = none := by
     simp only [yielded, hd, Option.bind_some]
     rw [Array.getD_eq_getD_getElem?] at hx
     cases hq : a.tmps[d]? with
     | none => rfl
     | some y => rw [hq] at hx; simp only [Option.getD_some] at hx; rw [hx]
    simp only [this]
    rfl
   ·
    cases hg
  ·
   cases hg

theorem repHV_append {w : World} {ρ : Env} {O : Nat → Prop} : ∀ {l l' : List HV} {xs ys : List Value}, RepHV w ρ O l xs → RepHV w ρ O l' ys → RepHV w ρ O (l ++ l') (xs ++ ys)
 | [], _, xs, ys, h, h' => by simp only [RepHV] at h; subst h; simpa using h'
 | v :: vs, l', xs, ys, h, h' => by
  rw [repHV_cons] at h
  obtain ⟨z, zs, rfl, h1, h2⟩ := h
  rw [List.cons_append, repHV_cons]
  exact ⟨z, zs ++ ys, rfl, h1, repHV_append h2 h'⟩

theorem repHV_den (h : RepA' c M fr ob a w ρ) : ∀ (l : List Operand), (∀ x ∈ l, ev fr x ≠ .junk) → RepHV w ρ (Owned ρ c.X) (l.map fun x => (ev fr x).den) (l.map a.eval)
 | [], _ => by simp [RepHV]
 | x :: xs, hj => by
  simp only [List.map_cons, repHV_cons]
  exact ⟨_, _, rfl, HV.den_rep (h.ev x (hj _ (by simp))), repHV_den h xs (fun y hy => hj y (by simp [hy]))⟩

theorem hstepG_sound {Q : Exit → Act → World → Prop} (h : RepA' c M fr ob a w ρ) {nid : Nat} (hnid : ∀ t, t < 4 → ¬ M (nid + t)) (hM : ∀ i, M i → M' i) (hM' : ∀ t, t < 4 → M' (nid + t)) {av : List Nat} {o : Oper} {K : HV → Ob → Prop}
  (hl : hstepG P av nid o.op (ev fr) ob K) (hd : ∀ k, o.dst = some k → k < c.n) : o.wpIn c.F 0 P a w (fun a' w' => ∃ v ob', K v ob' ∧ RepA c M' (updo fr o.dst v) ob' a' w') Q := by
 unfold hstepG at hl
 split at hl
 ·
  rename_i f xs hc
  obtain ⟨hj, hl⟩ := hl
  have hop : ∃ cl : Call, o.op = .call cl ∧ cl.callee = .value f ∧ cl.args.toList = xs := by
   unfold hcallOf at hc
   split at hc
   ·
    rename_i cl hcl
    split at hc
    ·
     rename_i g hg; cases hc; exact ⟨cl, hcl, hg, rfl⟩
    ·
     cases hc
   ·
    cases hc
  obtain ⟨cl, hocl, hcal, hargs⟩ := hop
  have hr := repHV_den h xs hj
  have hargs' : cl.args.map a.eval = (xs.map a.eval).toArray := by rw [← hargs, ← Array.toList_map, Array.toArray_toList]
  have fin : ∀ (g : FuncId) (first : Array Value) (caps : List Value) (extra : List HV), a.eval f = .func (.func g) #[] caps.toArray → RepHV w ρ (Owned ρ c.X) extra caps → HV.menL M extra → HCall P av g ((xs.map fun x => (ev fr x).den) ++ extra) ob nid K →
    o.wpIn c.F 0 P a w (fun a' w' => ∃ v ob', K v ob' ∧ RepA c M' (updo fr o.dst v) ob' a' w') Q := by
   intro g first caps extra hf hex _ hcallx
   have happ : RepHV w ρ (Owned ρ c.X) ((xs.map fun x => (ev fr x).den) ++ extra) (xs.map a.eval ++ caps) := repHV_append hr hex
   obtain ⟨hok, hcalls⟩ := hcall_sound h hnid hM hM' happ hcallx o.dst hd
   refine ⟨fun _ _ => trivial, ?_⟩
   rw [Oper.semAt_eq _ _ _ (by rw [hocl]; intro c hc; cases hc)]
   have hnn : ∃ fn, P.funcs[g]? = some fn ∧ fn.name ≠ "runtime.NumGoroutine" := by
    unfold fnOk at hok
    cases hfn : P.funcs[g]? with
    | none => rw [hfn] at hok; cases hok
    | some fn =>
     rw [hfn] at hok
     exact ⟨fn, rfl, by simpa using hok⟩
   obtain ⟨fn, hfn, hnm⟩ := hnn
   rcases hcalls with ⟨hok, hcalls⟩ | ⟨_, y, hrn, hcalls⟩
   rotate_left
   ·
    obtain ⟨y', v, ob', ρ', e, hK, hA⟩ := hcalls
    cases e
    have hrun : (execOp a.eval o).run P w = .ok (.value y) w := by
     rw [← hrn]
     simp [execOp, hocl, resolve, hcal, hf, Deferred.ofValue, invoke, hargs']
    rw [hrun]
    exact ⟨v, ob', hK, ρ', hA⟩
   have hrun : (execOp a.eval o).run P w = .ok (.enter g (xs.map a.eval ++ caps).toArray) w := by
    unfold callOk at hok
    cases hfn : P.funcs[g]? with
    | none => rw [hfn] at hok; cases hok
    | some fn =>
     rw [hfn] at hok
     simp only [Bool.and_eq_true, Bool.not_eq_true'] at hok
     have hb : fn.body ≠ none := by intro e; rw [e] at hok; simp at hok
     have hnm : fn.name ≠ "runtime.NumGoroutine" := by simpa using hok.2
     simp [execOp, hocl, resolve, hcal, hf, Deferred.ofValue, invoke, callFunc, hfn, hnm, hb, hargs']
   rw [hrun]
   simp only [Oper.uponIn]
   refine ⟨fun h => (by cases h), callsIn_F (hcalls.mono ?_)⟩
   rintro e w' ⟨y, v, ob', ρ', rfl, hK, hA⟩
   exact ⟨v, ob', hK, ρ', hA⟩
  split at hl
  ·
   rename_i g hf
   have hrf := h.ev f (by rw [hf]; simp)
   rw [hf] at hrf
   have := hrf.single rfl
   simp only [RepC, List.cons.injEq, and_true] at this
   exact fin g #[] [] [] this (by simp [RepHV]) (by simp [HV.menL]) (by simpa using hl)
  ·
   rename_i g caps hf
   have hrf := repV_ref (h.ev f (by rw [hf]; simp)) (by rw [hf]; rfl)
   have hm := h.evm f
   rw [hf] at hrf hm
   simp only [RepH, List.cons.injEq, and_true, HV.men] at hrf hm
   obtain ⟨⟨ys, hy, hys⟩, _⟩ := hrf
   exact fin g #[] ys caps hy hys hm hl
  ·
   exact hl.elim
 ·
  obtain ⟨_, hl⟩ := hl
  have hnd : ∀ c, o.op ≠ .defer c := by
   intro cc hcc
   rw [hcc] at hl
   rcases hl with hl | ⟨id, hm, hl⟩ <;> exact hl
  rcases hl with hl | ⟨id, hm, hl⟩
  ·
   obtain ⟨y, w', ⟨v, ob', ρ', hK, hA⟩, hr⟩ := hop_sound (M' := M') h (by simpa using hnid 0 (by omega)) hM (by simpa using hM' 0 (by omega)) hl hd
   refine ⟨fun _ _ => trivial, ?_⟩
   rw [Oper.semAt_eq _ _ _ hnd]
   rcases hr with hr | ⟨hr, rfl⟩
   ·
    rw [hr]; exact ⟨v, ob', hK, ρ', hA⟩
   ·
    rw [hr]; exact ⟨v, ob', hK, ρ', hA⟩
  ·
   obtain ⟨y, w', ⟨v, ob', ρ', ⟨n, el, sz, l, rfl, rfl, hn, hK⟩, hA⟩, hr⟩ := hop_sound (M' := M') h (by simpa using hnid 0 (by omega)) hM (by simpa using hM' 0 (by omega)) hl hd
   obtain ⟨ρ2, hA2⟩ := hA.die hn
   refine ⟨fun _ _ => trivial, ?_⟩
   rw [Oper.semAt_eq _ _ _ hnd]
   rcases hr with hr | ⟨hr, rfl⟩
   ·
    rw [hr]; exact ⟨_, _, hK, ρ2, hA2⟩
   ·
    rw [hr]; exact ⟨_, _, hK, ρ2, hA2⟩
end
end Go.Hl

namespace Go.Hl
open Go

section
variable {P : Program} {c : Ctx} {M M' : Nat → Prop} {fr : Fr} {ob : Ob} {a : Act} {w : World} {ρ : Env}

theorem RepA.mono (h : RepA c M fr ob a w) (hM : ∀ i, M i → M' i) : RepA c M' fr ob a w := let ⟨ρ, h⟩ := h; ⟨ρ, h.weaken hM⟩

theorem undef_rep (w : World) (ρ : Env) (O : Nat → Prop) : RepV w ρ O (.tup []) undef := ⟨by simp only [RepH]; exact ⟨[], rfl, by simp [RepHV]⟩, rfl⟩

theorem hopIG_sound {Q : Exit → Act → World → Prop} {ops : Array Oper} {nx i : Nat} {av : List Nat} {K : Fr → Ob → Prop} (h : RepA c M fr ob a w) (hnid : ∀ t, t < 4 → ¬ M (nx + 4 * i + t)) (hM : ∀ i, M i → M' i) (hM' : ∀ t, t < 4 → M' (nx + 4 * i + t))
  (hd : ∀ o ∈ ops, ∀ k, o.dst = some k → k < c.n) (hl : hopIG P ops nx av i K fr ob) : wpOpIn c.F 0 P ops Q i (fun a' w' => ∃ fr' ob', K fr' ob' ∧ RepA c M' fr' ob' a' w') a w := by
 obtain ⟨ρ, h⟩ := h
 unfold hopIG at hl
 unfold wpOpIn
 cases ho : ops[i]? with
 | none => rw [ho] at hl; exact hl.elim
 | some o =>
  rw [ho] at hl
  simp only at hl ⊢
  have hdo := hd o (Array.mem_of_getElem? ho)
  cases hg : hguard ops o fr with
  | none => rw [hg] at hl; exact hl.elim
  | some b =>
   rw [hg] at hl
   rw [hguard_wanted h hg]
   cases b with
   | true =>
    simp only [if_true] at hl ⊢
    refine Oper.wpIn_mono (fun a' w' hx => ?_) (hstepG_sound (Q := Q) h hnid hM hM' hl hdo)
    obtain ⟨v, ob', hK, hA⟩ := hx
    exact ⟨_, ob', hK, hA⟩
   | false =>
    simp only [Bool.false_eq_true, if_false] at hl ⊢
    exact ⟨fun _ _ => trivial, _, ob, hl, ρ, (h.value (.inr (undef_rep _ _ _)) (by simp [HV.men, HV.menL]) hdo).weaken hM⟩

def hlexG (P : Program) (ops : Array Oper) (nx : Nat) (Q : Fr → Ob → Prop) : List Nat → Fr → Ob → Prop
 | [], fr, ob => Q fr ob
 | i :: rest, fr, ob => hopIG P ops nx [] i (hlexG P ops nx Q rest) fr ob

theorem hlexG_sound {Q : Exit → Act → World → Prop} {ops : Array Oper} {nx : Nat} {K : Fr → Ob → Prop} (hd : ∀ o ∈ ops, ∀ k, o.dst = some k → k < c.n) (N : Nat)
  (hQ : ∀ fr ob a w, K fr ob → RepA c (· < nx + 4 * N) fr ob a w → Q .normal a w) : ∀ (n k : Nat) (fr : Fr) (ob : Ob) (a : Act) (w : World), k + n = N → RepA c (· < nx + 4 * k) fr ob a w → hlexG P ops nx K (List.range' k n) fr ob → wpOpsIn c.F 0 P ops Q (List.range' k n) a w
 | 0, k, fr, ob, a, w, hk, h, hl => by
  simp only [List.range'_zero, hlexG, wpOpsIn] at hl ⊢
  exact hQ fr ob a w hl (by have : k = N := (by omega); subst this; exact h)
 | n + 1, k, fr, ob, a, w, hk, h, hl => by
  simp only [List.range'_succ, hlexG, wpOpsIn_cons] at hl ⊢
  refine wpOpIn_mono (fun a' w' hx => ?_) (hopIG_sound (Q := Q) (M' := (· < nx + 4 * (k + 1))) h (fun t ht => by omega) (fun i hi => by omega) (fun t ht => by omega) hd hl)
  obtain ⟨fr', ob', hK, hA⟩ := hx
  exact hlexG_sound hd N hQ n (k + 1) fr' ob' a' w' (by omega) hA hK

def hstep (P : Program) (av : List Nat) (nid : Nat) (o : Op) (e : Operand → HV) (ob : Ob) (K : HV → Ob → Prop) : Prop :=
 match hcallOf o with
 | some (f, xs) => (∀ x ∈ xs, e x ≠ .junk) ∧ match e f with
  | .c (.fn g) => HCall P av g (xs.map fun x => (e x).den) ob nid K
  | .clo g caps => HCall P av g ((xs.map fun x => (e x).den) ++ caps) ob nid K
  | _ => False
 | none => (∀ id ∈ touch o e, id ∉ av ∧ (ob id).isSome = true) ∧ hop P nid o e ob K
def hopI (P : Program) (ops : Array Oper) (nx : Nat) (av : List Nat) (i : Nat) (K : Fr → Ob → Prop) (fr : Fr) (ob : Ob) : Prop :=
 match ops[i]? with
 | none => False
 | some o => match hguard ops o fr with
  | some true => hstep P av (nx + 4 * i) o.op (ev fr) ob fun v ob' => K (updo fr o.dst v) ob'
  | some false => K (updo fr o.dst (.tup [])) ob
  | none => False
def hlex (P : Program) (ops : Array Oper) (nx : Nat) (Q : Fr → Ob → Prop) : List Nat → Fr → Ob → Prop
 | [], fr, ob => Q fr ob
 | i :: rest, fr, ob => hopI P ops nx [] i (hlex P ops nx Q rest) fr ob
theorem hstep_G {P : Program} {av : List Nat} {nid : Nat} {o : Op} {e : Operand → HV} {ob : Ob} {K : HV → Ob → Prop} (h : hstep P av nid o e ob K) : hstepG P av nid o e ob K := by
 unfold hstep at h
 unfold hstepG
 cases hc : hcallOf o with
 | some p => rw [hc] at h; exact h
 | none => rw [hc] at h; exact ⟨h.1, .inl h.2⟩
theorem hopI_G {P : Program} {ops : Array Oper} {nx : Nat} {av : List Nat} {i : Nat} {K K' : Fr → Ob → Prop} {fr : Fr} {ob : Ob} (hK : ∀ fr ob, K fr ob → K' fr ob) (h : hopI P ops nx av i K fr ob) : hopIG P ops nx av i K' fr ob := by
 refine hopIG_mono (K := K) (fun _ hx => hx) hK ?_
 unfold hopI at h
 unfold hopIG
 cases ho : ops[i]? with
 | none => rw [ho] at h; exact h.elim
 | some o =>
  rw [ho] at h
  simp only at h ⊢
  cases hg : hguard ops o fr with
  | none => rw [hg] at h; exact h.elim
  | some b =>
   rw [hg] at h
   cases b with
   | true => exact hstep_G h
   | false => exact h
theorem hlex_G {P : Program} {ops : Array Oper} {nx : Nat} {Q : Fr → Ob → Prop} : ∀ {l : List Nat} {fr : Fr} {ob : Ob}, hlex P ops nx Q l fr ob → hlexG P ops nx Q l fr ob
 | [], _, _, h => h
 | _ :: _, _, _, h => hopI_G (fun _ _ => hlex_G) h

def MReg (nx : Nat) (listed : Array Bool) (id : Nat) : Prop := id < nx ∨ ∃ i t, listed.getD i false = true ∧ t < 4 ∧ id = nx + 4 * i + t

theorem hAnyG_sound {Q : Exit → Act → World → Prop} {ops : Array Oper} {nx : Nat} {wt : Nat → Nat → Bool} {K : Fr → Ob → Prop} {C : Pend} (hd : ∀ o ∈ ops, ∀ k, o.dst = some k → k < c.n)
  (hQ : ∀ fr ob a w, K fr ob → RepA c (· < nx + 4 * ops.size) fr ob a w → Q .normal a w) : ∀ (n : Nat) (listed : Array Bool) (fr : Fr) (ob : Ob) (a : Act) (w : World), listed.size = ops.size → RepA c (MReg nx listed) fr ob a w →
  hAnyG P ops nx wt K n C listed fr ob → wpAnyIn c.F 0 P .any ops Q n listed a w := by
 have fin : ∀ (listed : Array Bool) fr ob a w, listed.size = ops.size → K fr ob → RepA c (MReg nx listed) fr ob a w → Q .normal a w := fun listed fr ob a w hs hK hA => by
  refine hQ fr ob a w hK (hA.mono (fun id hid => ?_))
  rcases hid with h | ⟨i, t, h1, h2, rfl⟩
  ·
   omega
  ·
   have hi : i < listed.size := by
    rcases Nat.lt_or_ge i listed.size with h' | h'
    ·
     exact h'
    ·
     simp [Array.getElem?_eq_none h'] at h1
   omega
 intro n
 induction n with
 | zero => intro listed fr ob a w hs hA h; exact ⟨h.1, fin listed fr ob a w hs h.2 hA⟩
 | succ n ih =>
  intro listed fr ob a w hs hA h
  refine ⟨fun h0 => fin listed fr ob a w hs (h.1 h0) hA, fun i hi => ?_⟩
  obtain ⟨hun, oi, hoi, _⟩ := mem_ready.1 hi
  have hil : i < listed.size := by rw [hs]; exact (Array.getElem?_eq_some_iff.1 hoi).1
  have hun' : listed.getD i false = false := by simpa [hil] using hun
  refine wpOpIn_mono (fun a' w' hx => ?_) (hopIG_sound (Q := Q) (M' := MReg nx (listed.setIfInBounds i true)) hA (fun t ht => ?_) (fun id hid => ?_) (fun t ht => ?_) hd (h.2 i hi))
  ·
   obtain ⟨fr', ob', hK, hA'⟩ := hx
   exact ih _ fr' ob' a' w' (by simp [hs]) hA' hK
  ·
   rintro (h1 | ⟨j, t', h1, h2, h3⟩)
   ·
    omega
   ·
    have : j = i := by omega
    subst this
    rw [hun'] at h1; cases h1
  ·
   rcases hid with h1 | ⟨j, t', h1, h2, h3⟩
   ·
    exact .inl h1
   ·
    exact .inr ⟨j, t', getD_set_true h1, h2, h3⟩
  ·
   exact .inr ⟨i, t, by simp [hil], ht, rfl⟩
end

def dstOk (n : Nat) (ops : Array Oper) : Bool := ops.all fun o => match o.dst with | some k => decide (k < n) | none => true
theorem dstOk_spec {n : Nat} {ops : Array Oper} (h : dstOk n ops = true) : ∀ o ∈ ops, ∀ k, o.dst = some k → k < n := by
 intro o ho k hk
 have := Array.all_eq_true_iff_forall_mem.1 h o ho
 rw [hk] at this
 simpa using this

def wtOf (ms : List Nat) (j i : Nat) : Bool := (ms.getD j 0).testBit i
def wtOkB (ops : Array Oper) (ms : List Nat) : Bool :=
 (List.range ms.length).all fun j => (List.range ms.length).all fun i => !(wtOf ms j i) ||
  match ops[j]? with
  | some o => o.after.any fun e => Region.binds .any e && (e.on == i || (decide (e.on < j) && wtOf ms e.on i))
  | none => false
theorem testBit_big {m i n : Nat} (h : m < 2 ^ n) (hi : n ≤ i) : m.testBit i = false := Nat.testBit_lt_two_pow (Nat.lt_of_lt_of_le h (Nat.pow_le_pow_right (by omega) hi))
theorem wtOkB_spec {ops : Array Oper} {ms : List Nat} (h : wtOkB ops ms = true) (hm : ms.all (fun m => decide (m < 2 ^ ms.length)) = true) : WtOk ops (wtOf ms) := by
 intro j i hw
 have hj : j < ms.length := by
  rcases Nat.lt_or_ge j ms.length with h' | h'
  ·
   exact h'
  ·
   simp [wtOf, List.getElem?_eq_none h'] at hw
 have hi : i < ms.length := by
  rcases Nat.lt_or_ge i ms.length with h' | h'
  ·
   exact h'
  ·
   have h1 := List.all_eq_true.1 hm (ms.getD j 0) (by simp [hj])
   rw [wtOf, testBit_big (by simpa using h1) h'] at hw
   cases hw
 have h1 := List.all_eq_true.1 (List.all_eq_true.1 h j (List.mem_range.2 hj)) i (List.mem_range.2 hi)
 simp only [hw, Bool.not_true, Bool.false_or] at h1
 split at h1
 ·
  rename_i o ho
  obtain ⟨e, he, hb⟩ := Array.any_eq_true'.1 h1
  simp only [Bool.and_eq_true, Bool.or_eq_true, beq_iff_eq, decide_eq_true_eq] at hb
  exact ⟨o, ho, e, he, hb.1, hb.2⟩
 ·
  cases h1

abbrev HPost := Exit → Fr → Ob → Nat → Prop
def noRange : Code → Bool
 | .rangeFunc .. => false
 | .seq x y => noRange x && noRange y
 | .cond _ x y => noRange x && noRange y
 | .block _ x => noRange x
 | .loop x => noRange x
 | .scope x => noRange x
 | _ => true
def Ctx.fit (c : Ctx) (code : Code) : Prop := c.may = true ∧ c.R = none ∨ noRange code = true
section
variable {c : Ctx} {x y : Code}
theorem Ctx.fit.seq1 (h : c.fit (.seq x y)) : c.fit x := h.imp id fun h => by simp only [noRange, Bool.and_eq_true] at h; exact h.1
theorem Ctx.fit.seq2 (h : c.fit (.seq x y)) : c.fit y := h.imp id fun h => by simp only [noRange, Bool.and_eq_true] at h; exact h.2
theorem Ctx.fit.cond1 {o : Operand} (h : c.fit (.cond o x y)) : c.fit x := h.imp id fun h => by simp only [noRange, Bool.and_eq_true] at h; exact h.1
theorem Ctx.fit.cond2 {o : Operand} (h : c.fit (.cond o x y)) : c.fit y := h.imp id fun h => by simp only [noRange, Bool.and_eq_true] at h; exact h.2
theorem Ctx.fit.block {id : Nat} (h : c.fit (.block id x)) : c.fit x := h.imp (fun h => h) fun h => by simpa only [noRange] using h
theorem Ctx.fit.loop (h : c.fit (.loop x)) : c.fit x := h.imp id fun h => by simpa only [noRange] using h
theorem Ctx.fit.scope (h : c.fit (.scope x)) : c.fit x := h.imp id fun h => by simpa only [noRange] using h
end
def Hw (P : Program) (n k : Nat) (code : Code) (Q : HPost) (fr : Fr) (ob : Ob) (nx : Nat) : Prop :=
 ∀ (c : Ctx) (a : Act) (w : World), c.n = n → c.M0 = (· < k) → c.fit code → RepA c (· < nx) fr ob a w → code.wpIn c.F 0 P (fun e a' w' => ∃ fr' ob' nx', Q e fr' ob' nx' ∧ RepA c (· < nx') fr' ob' a' w') a w

def hthen (K : Fr → Ob → Nat → Prop) (Q : HPost) : HPost
 | .normal => K
 | e => Q e
def hblk (id : Nat) (Q : HPost) : HPost
 | .exit id' => if id' = id then Q .normal else Q (.exit id')
 | e => Q e

section
variable {P : Program} {n k : Nat} {Q : HPost} {fr : Fr} {ob : Ob} {nx : Nat}

theorem Hw.mono {code : Code} {Q' : HPost} (h : Hw P n k code Q fr ob nx) (hq : ∀ e fr ob nx, Q e fr ob nx → Q' e fr ob nx) : Hw P n k code Q' fr ob nx :=
 fun c a w hn hk hz hA => wpIn_mono (h c a w hn hk hz hA) (fun _ _ _ ⟨fr', ob', nx', h1, h2⟩ => ⟨fr', ob', nx', hq _ _ _ _ h1, h2⟩)
theorem hw_skip (h : Q .normal fr ob nx) : Hw P n k .skip Q fr ob nx := fun _ _ _ _ _ _ hA => wpIn_skip ⟨fr, ob, nx, h, hA⟩
theorem hw_label {l : Nat} (h : Q .normal fr ob nx) : Hw P n k (.label l) Q fr ob nx := fun _ _ _ _ _ _ hA => wpIn_label ⟨fr, ob, nx, h, hA⟩
theorem hw_exit {id : Nat} (h : Q (.exit id) fr ob nx) : Hw P n k (.exit id) Q fr ob nx := fun _ _ _ _ _ _ hA => wpIn_exit ⟨fr, ob, nx, h, hA⟩
theorem hw_ret (h : Q .ret fr ob nx) : Hw P n k .ret Q fr ob nx := fun _ _ _ _ _ _ hA => wpIn_ret ⟨fr, ob, nx, h, hA⟩
theorem hw_seq {x y : Code} (h : ∀ K : Fr → Ob → Nat → Prop, (∀ fr ob nx, Hw P n k y Q fr ob nx → K fr ob nx) → Hw P n k x (hthen K Q) fr ob nx) : Hw P n k (.seq x y) Q fr ob nx := by
 intro c a w hn hk hz hA
 have := h (Hw P n k y Q) (fun _ _ _ h => h) c a w hn hk hz.seq1 hA
 refine wpIn_seq (wpIn_mono this fun e a' w' hx => ?_)
 obtain ⟨fr', ob', nx', h1, h2⟩ := hx
 cases e with
 | normal => exact h1 c a' w' hn hk hz.seq2 h2
 | _ => exact ⟨fr', ob', nx', h1, h2⟩
theorem hw_cond {x y : Code} {o : Operand} {b : Bool} (hb : ev fr o = .c (.bool b)) (h1 : b = true → Hw P n k x Q fr ob nx) (h2 : b = false → Hw P n k y Q fr ob nx) : Hw P n k (.cond o x y) Q fr ob nx := by
 intro c a w hn hk hz hA
 obtain ⟨ρ, hA'⟩ := hA
 have := bool_of hA' hb
 exact wpIn_cond_split this (fun e => h1 e c a w hn hk hz.cond1 ⟨ρ, hA'⟩) (fun e => h2 e c a w hn hk hz.cond2 ⟨ρ, hA'⟩)
theorem hw_block {id : Nat} {x : Code} (h : Hw P n k x (hblk id Q) fr ob nx) : Hw P n k (.block id x) Q fr ob nx := by
 intro c a w hn hk hz hA
 refine wpIn_block (wpIn_mono (h c a w hn hk hz.block hA) fun e a' w' hx => ?_)
 obtain ⟨fr', ob', nx', h1, h2⟩ := hx
 cases e with
 | exit id' =>
  simp only [Exit.inBlock, hblk] at h1 ⊢
  by_cases hid : id' = id
  ·
   rw [if_pos hid] at h1 ⊢; exact ⟨fr', ob', nx', h1, h2⟩
  ·
   rw [if_neg hid] at h1 ⊢; exact ⟨fr', ob', nx', h1, h2⟩
 | _ => exact ⟨fr', ob', nx', h1, h2⟩
theorem hw_regionG {id : Nat} {ops : Array Oper} (hd : dstOk n ops = true) (h : hlexG P ops nx (fun fr' ob' => Q .normal fr' ob' (nx + 4 * ops.size)) (List.range ops.size) fr ob) : Hw P n k (.region id ops false) Q fr ob nx := by
 intro c a w hn hk hz hA
 refine wpIn_region ?_
 rw [List.range_eq_range'] at h ⊢
 exact hlexG_sound (c := c) (by rw [hn]; exact dstOk_spec hd) ops.size (fun fr' ob' a' w' hK hA' => ⟨fr', ob', _, hK, hA'⟩) ops.size 0 fr ob a w (by omega) hA h
theorem hw_region {id : Nat} {ops : Array Oper} (hd : dstOk n ops = true) (h : hlex P ops nx (fun fr' ob' => Q .normal fr' ob' (nx + 4 * ops.size)) (List.range ops.size) fr ob) : Hw P n k (.region id ops false) Q fr ob nx :=
 hw_regionG hd (hlex_G h)
theorem hw_draw {id : Nat} {ops : Array Oper} (hm : P.follows .mixedOrders = true) (plan ms : List Nat) (hd : dstOk n ops = true) (hp : planOk ops plan (Array.replicate ops.size false) = true) (hw1 : wtOkB ops ms = true) (hw2 : ms.all (fun m => decide (m < 2 ^ ms.length)) = true) (hl : plan.length = ops.size)
  (h : hwalkG P ops nx (wtOf ms) (fun fr' ob' => Q .normal fr' ob' (nx + 4 * ops.size)) plan [] fr ob) : Hw P n k (.region id ops true) Q fr ob nx := by
 intro c a w hn hk hz hA
 refine wpIn_region_any hm ?_
 have hA0 : RepA c (MReg nx (Array.replicate ops.size false)) fr ob a w := hA.mono (fun i hi => .inl hi)
 have hfresh : Fresh nx (Array.replicate ops.size false) ob := by
  intro j _ t _
  obtain ⟨ρ, hA'⟩ := hA
  exact (hA'.nid_none (nid := nx + 4 * j + t) (by omega)).1
 have hdown : Down ops (Array.replicate ops.size false) := by
  intro j o _ hl
  rw [getD_replicate_false] at hl; cases hl
 have hany := hAnyG_of_walk (wtOkB_spec hw1 hw2) plan [] _ fr ob hp hdown hfresh h
 rw [hl] at hany
 obtain ⟨ρ, hA1⟩ := hA0
 refine hAnyG_sound (c := c) (by rw [hn]; exact dstOk_spec hd) (fun fr' ob' a' w' hK hA' => ⟨fr', ob', _, hK, hA'⟩) ops.size _ fr ob a _ (by simp) ⟨ρ, ?_⟩ hany
 exact ⟨⟨fun id o ho => by
   have := hA1.s.objs id o ho
   exact RepO.stay (w := w) (ρ := ρ) (M := fun _ => True) ⟨fun b hb hO => ⟨rfl, hO⟩⟩ (Moves.refl _ _) (by cases o with | box t v => exact HV.men_mono (fun _ _ => trivial) (hA1.mo id _ ho).2 | row _ _ _ => trivial | mp _ _ _ => trivial | dead => trivial | tab _ => trivial) rfl (fun _ _ _ _ => rfl) this, hA1.s.none, hA1.s.apart, hA1.s.xb⟩,
  fun t ht => ⟨RepH.stay (w := w) (w' := { w with drawn := w.drawn + 1 }) (ρ := ρ) (O := Owned ρ c.X) (M := fun _ => True) ⟨fun b hb hO => ⟨rfl, hO⟩⟩ (Moves.refl _ _) (HV.men_mono (fun _ _ => trivial) (hA1.mf t)) (hA1.f t ht).1, (hA1.f t ht).2⟩, hA1.mf, hA1.mo, hA1.m0,
  ⟨hA1.base.block, hA1.base.own, hA1.base.size, hA1.base.os, hA1.base.tape, hA1.base.output⟩, hA1.moves, hA1.defers, hA1.size, hA1.xlt⟩

structure Fits (k : Nat) (fr : Fr) (ob : Ob) (fr2 : Fr) (ob2 : Ob) (nx2 : Nat) : Prop where
 f : ∀ t, fr2 t = .junk ∨ fr2 t = fr t
 o : ∀ id o, ob2 id = some o → ob id = some o
 mf : ∀ t, (fr2 t).men (· < nx2)
 mo : ∀ id o, ob2 id = some o → id < nx2 ∧ o.men (· < nx2)
 k : k ≤ nx2

theorem RepA.fits {c : Ctx} {a : Act} {w : World} {fr2 : Fr} {ob2 : Ob} {nx2 : Nat} {M : Nat → Prop} (hk : c.M0 = (· < k)) (h : RepA c M fr ob a w) (hf : Fits k fr ob fr2 ob2 nx2) : RepA c (· < nx2) fr2 ob2 a w := by
 obtain ⟨ρ, h⟩ := h
 let ρ2 : Env := fun id => match ob2 id with | some _ => ρ id | none => none
 have hρ2 : ∀ id L, ρ2 id = some L → ρ id = some L := fun id L hL => by
  simp only [ρ2] at hL
  split at hL
  ·
   exact hL
  ·
   cases hL
 have hown : ∀ b, Own ρ2 b → Own ρ b := fun b ⟨id, L, h1, h2⟩ => ⟨id, L, hρ2 id L h1, h2⟩
 have hst : Stay w (Owned ρ c.X) w (Owned ρ2 c.X) := Stay.same (fun b _ hb => hb.imp id (hown b))
 have hmv : ∀ M, Moves M ρ ρ2 := fun M id L _ hL => ⟨L, hρ2 id L hL, .inl rfl⟩
 refine ⟨ρ2, ⟨fun id o ho => ?_, fun id hid => ?_, fun id id' L L' b h1 h2 h3 h4 => h.s.apart id id' L L' b (hρ2 _ _ h1) (hρ2 _ _ h2) h3 h4, fun id L b h1 h2 => h.s.xb id L b (hρ2 _ _ h1) h2⟩, fun t ht => ?_, hf.mf, hf.mo, ?_, ?_, ?_, h.defers, h.size, h.xlt⟩
 ·
  have hid : ρ2 id = ρ id := by simp only [ρ2, ho]
  exact RepO.stay hst (hmv M) (h.mo id o (hf.o id o ho)).2 hid (fun _ _ _ _ => rfl) (h.s.objs id o (hf.o id o ho))
 ·
  simp only [ρ2, hid]
 ·
  rcases hf.f t with e | e
  ·
   exact absurd e ht
  ·
   rw [e] at ht ⊢
   exact ⟨RepH.stay hst (hmv M) (h.mf t) (h.f t ht).1, (h.f t ht).2⟩
 ·
  intro id hid
  rw [hk] at hid
  exact Nat.lt_of_lt_of_le hid hf.k
 ·
  exact h.base.trans ⟨fun _ _ _ => rfl, fun b hb => .inl (hown b hb), Nat.le_refl _, rfl, rfl, rfl⟩
 ·
  exact Moves.trans (fun _ h => h) h.moves (hmv _)

theorem hw_fits {code : Code} {fr2 : Fr} {ob2 : Ob} {nx2 : Nat} (hf : Fits k fr ob fr2 ob2 nx2) (h : Hw P n k code Q fr2 ob2 nx2) : Hw P n k code Q fr ob nx :=
 fun c a w hn hk hz hA => h c a w hn hk hz (hA.fits hk hf)

theorem hw_loop {α : Type} {x : Code} (inv : α → Fr × Ob) (nx2 : Nat) (μ : α → Nat) (x0 : α) (h0 : Fits k fr ob (inv x0).1 (inv x0).2 nx2)
  (round : ∀ y, Hw P n k x (hthen (fun fr' ob' _ => ∃ y', Fits k fr' ob' (inv y').1 (inv y').2 nx2 ∧ μ y' < μ y) Q) (inv y).1 (inv y).2 nx2) : Hw P n k (.loop x) Q fr ob nx := by
 intro c a w hn hk hz hA b kk cs hro hbf hrm
 have key : ∀ (m : Nat) (y : α) (a : Act) (w : World), μ y = m → RepA c (· < nx2) (inv y).1 (inv y).2 a w →
   ∃ e a' w', (∃ fr' ob' nx', Q e fr' ob' nx' ∧ RepA c (· < nx') fr' ob' a' w') ∧ ArrivesIn (Machine.fenced P c.F) P (lone (b.atR a (.code x :: .inLoop x :: kk)) cs w) b kk cs e a' w' := by
  intro m
  induction m using Nat.strongRecOn with
  | _ m ih =>
   intro y a w hy hA
   obtain ⟨e, a₁, w₁, hq, harr⟩ := round y c a w hn hk hz.loop hA b (.inLoop x :: kk) cs hro hbf hrm
   cases e with
   | normal =>
    obtain ⟨fr', ob', nx', ⟨y', hf, hlt⟩, hA'⟩ := hq
    obtain ⟨e₂, a₂, w₂, hq₂, harr₂⟩ := ih (μ y') (by omega) y' a₁ w₁ rfl (hA'.fits hk hf)
    exact ⟨e₂, a₂, w₂, hq₂, .of_steps (StepsIn.trans harr (.one (fenced_calm hbf hrm rfl) stepR_inLoop)) harr₂⟩
   | exit id => exact ⟨_, a₁, w₁, hq, .pass (x := .inLoop x) rfl (fun _ _ => .inl (by simp)) harr⟩
   | goto l => exact ⟨_, a₁, w₁, hq, .pass (x := .inLoop x) rfl (fun _ _ => .inl (by simp)) harr⟩
   | ret => exact ⟨_, a₁, w₁, hq, .pass (x := .inLoop x) rfl (fun _ _ => .inl (by simp)) harr⟩
   | panic ch => exact ⟨_, a₁, w₁, hq, .pass (x := .inLoop x) rfl (fun _ _ => .inl (by simp)) harr⟩
   | outgrown => exact ⟨_, a₁, w₁, hq, .pass (x := .inLoop x) rfl (fun _ _ => .inl (by simp)) harr⟩
 obtain ⟨e, a', w', hq, harr⟩ := key _ x0 a w rfl (hA.fits hk h0)
 exact ⟨e, a', w', hq, .of_steps (.one (fenced_calm hbf hrm rfl) stepR_loop) harr⟩
end
end Go.Hl
