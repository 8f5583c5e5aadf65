/- HL, part P: from the calculus to the model: steps, regions, control. By an AI agent. -/
import Derived.Test.YtenbfeemmpjdhaaGreatDoorHlRc
import Derived.Still
import Derived.OrdersIn
import Derived.RangeFuncCalls
set_option linter.unusedSimpArgs false
set_option linter.unusedVariables false
set_option linter.defProp false
namespace Go.Hl
open Go

def lR (nid : Nat) (o : Op) (e : Operand → HV) : Option Nat :=
 match o with
 | .buildSlice _ _ _ => some nid
 | .call c => match c.callee, c.args.toList with
  | .builtin .append, [s, _] => match e s with
   | .own id _ => some id
   | _ => none
  | _, _ => none
 | _ => none

def aM8 (id : Nat) (ob : Ob) (K : HV → Ob → Prop) : HV → Ob → Prop := fun v ob' => ∃ n el sz l, v = .own id n ∧ ob' = upd ob id (some (.row el sz l)) ∧ n = l.length ∧ K (.c (.slc l)) (upd ob id (some .dead))

def aA7 (P : Program) (nid : Nat) (o : Op) (e : Operand → HV) (ob : Ob) (K : HV → Ob → Prop) : Prop :=
 hop P nid o e ob K ∨ ∃ id, lR nid o e = some id ∧ hop P nid o e ob (aM8 id ob K)

theorem bX7 {P : Program} {nid : Nat} {o : Op} {e : Operand → HV} {ob : Ob} {K : HV → Ob → Prop} {id : Nat} (hm : lR nid o e = some id) (h : hop P nid o e ob K) :
  ∃ n el sz l, K (.own id n) (upd ob id (some (.row el sz l))) ∧ (∀ ob' : Ob, (∀ i ∈ touch o e, ob' i = ob i) → ∀ K' : HV → Ob → Prop, K' (.own id n) (upd ob' id (some (.row el sz l))) → hop P nid o e ob' K') ∧
   (id = nid ∨ (isEff o = true ∧ id ∈ touch o e)) ∧ bI o = false := by
 unfold lR at hm
 split at hm
 ·
  rename_i t len ps
  cases hm
  simp only [hop] at h
  rw [aE] at h
  obtain ⟨ti, ht, h⟩ := h
  split at h
  ·
   rename_i el hd
   rw [aE] at h
   obtain ⟨te, hte, h⟩ := h
   rw [aE] at h
   obtain ⟨l, hl, h1, hK⟩ := h
   refine ⟨len, el, te.size, l, hK, fun ob' _ K' hK' => ?_, .inl rfl, rfl⟩
   simp only [hop, ht, hlift_some, hd, hte, hl]
   exact ⟨h1, hK'⟩
  ·
   exact h.elim
 ·
  rename_i cl
  split at hm
  ·
   rename_i s x hcal hargs
   split at hm
   ·
    rename_i id' n hs
    cases hm
    unfold hop at h
    simp only [hcal, hargs] at h
    split at h
    all_goals first | (exact h.elim) | skip
    ·
     rename_i e1 _ _; cases e1
    ·
     rename_i s' x' t t' _ e2 hat
     cases e2
     have htouch : touch (.call cl) e = (e s).ids ++ (e x).ids := by simp only [touch, hcal, hargs, List.flatMap_cons, List.flatMap_nil, List.append_nil]
     by_cases htt : t' = t
     case neg =>
      rw [if_neg htt] at h
      unfold happends at h
      rw [aE] at h
      obtain ⟨ti, ht, h⟩ := h
      rw [aE] at h
      obtain ⟨tu, htu, h⟩ := h
      split at h
      ·
       rename_i el bs hd1 hd2 hx
       rw [aE] at h
       obtain ⟨te, hte, hc2, h⟩ := h
       rw [hs] at h
       simp only at h
       split at h
       ·
        rename_i e' sz l ho
        refine ⟨_, _, _, _, h.2.2.2, fun ob' hag K' hK' => ?_, .inr ⟨by simp only [isEff, hcal], by rw [htouch, hs]; simp [HV.ids]⟩, by simp [bI, hcal]⟩
        have hoid := hag id (by rw [htouch, hs]; simp [HV.ids])
        simp only [hop, hcal, hargs, hat]
        rw [if_neg htt]
        simp only [happends, ht, htu, hlift_some, hd1, hd2, hx, hte, hs, hoid, ho]
        exact ⟨hc2, h.1, h.2.1, h.2.2.1, hK'⟩
       ·
        exact h.elim
      ·
       exact h.elim
     rw [if_pos htt] at h
     have e2 : ∀ (ob' : Ob) (K' : HV → Ob → Prop), happend2 P t (e s) (e x) nid ob' K' = happend P t (e s) (e x) nid ob' K' := fun ob' K' => by
      unfold happend2
      rw [hs]
     rw [e2] at h
     unfold happend at h
     rw [aE] at h
     obtain ⟨ti, ht, h⟩ := h
     split at h
     ·
      rename_i el hd1
      rw [aE] at h
      obtain ⟨te, hte, h⟩ := h
      rw [aE] at h
      obtain ⟨l2, hl2, hc2, h⟩ := h
      rw [hs] at h
      simp only at h
      split at h
      ·
       rename_i e' sz l ho
       refine ⟨_, _, _, _, h.2.2.2, fun ob' hag K' hK' => ?_, .inr ⟨by simp only [isEff, hcal], by rw [htouch, hs]; simp [HV.ids]⟩, by simp [bI, hcal]⟩
       simp only [hop, hcal, hargs, hat]
       rw [if_pos htt]
       rw [e2]
       simp only [happend, ht, hlift_some, hd1, hte]
       rw [fL (fun i hi => hag i (by rw [htouch]; exact List.mem_append_right _ hi)), hl2]
       simp only [hlift_some, hs]
       rw [hag id (by rw [htouch, hs]; simp [HV.ids]), ho]
       exact ⟨hc2, h.1, h.2.1, h.2.2.1, hK'⟩
      ·
       exact h.elim
     ·
      exact h.elim
    all_goals (rename_i e1 _ _; cases e1)
   ·
    cases hm
  ·
   cases hm
 ·
  cases hm

theorem tS {P : Program} {nid : Nat} {o : Op} {e : Operand → HV} {ob : Ob} {K : HV → Ob → Prop} (h : aA7 P nid o e ob K) :
  ∃ v u, K v (app u ob) ∧ (∀ ob' : Ob, (∀ id ∈ touch o e, ob' id = ob id) → ∀ K' : HV → Ob → Prop, K' v (app u ob') → aA7 P nid o e ob' K') ∧ (∀ p, u = some p → p.1 = nid ∨ (isEff o = true ∧ p.1 ∈ touch o e)) ∧ (bI o = true → u = none) := by
 rcases h with h | ⟨id, hm, h⟩
 ·
  obtain ⟨v, u, h1, h2, h3, h4⟩ := xF h
  exact ⟨v, u, h1, fun ob' hag K' hK' => .inl (h2 ob' hag K' hK'), h3, h4⟩
 ·
  obtain ⟨n, el, sz, l, hK, hst, hloc, hq⟩ := bX7 hm h
  obtain ⟨n', el', sz', l', hv, hob, hn, hK'⟩ := hK
  cases hv
  have hrow : some (HO.row el sz l) = some (HO.row el' sz' l') := by
   have := congrFun hob id
   rwa [aR, aR] at this
  cases hrow
  refine ⟨.c (.slc l), some (id, .dead), hK', fun ob' hag K'' hK'' => .inr ⟨id, hm, hst ob' hag _ ⟨n, el, sz, l, rfl, rfl, hn, hK''⟩⟩, fun p hp => ?_, fun hq' => ?_⟩
  ·
   cases hp; exact hloc
  ·
   rw [hq] at hq'; cases hq'
theorem mT {P : Program} {nid : Nat} {o : Op} {e : Operand → HV} {ob : Ob} {K : HV → Ob → Prop} (h : aA7 P nid o e ob K) :
  ∃ v u, K v (app u ob) ∧ (∀ ob' : Ob, (∀ id ∈ touch o e, ob' id = ob id) → ∀ K' : HV → Ob → Prop, K' v (app u ob') → aA7 P nid o e ob' K') ∧ (∀ p, u = some p → p.1 = nid ∨ (isEff o = true ∧ p.1 ∈ touch o e)) :=
 let ⟨v, u, h1, h2, h3, _⟩ := tS h
 ⟨v, u, h1, h2, h3⟩

theorem RepA'.die {c : Ctx} {M : Nat → Prop} {fr : Fr} {ob : Ob} {a : Act} {w : World} {ρ : Env} {d : Option Nat} {id n sz : Nat} {el : TypeId} {l : List CV}
  (h : RepA' c M (updo fr d (.own id n)) (upd ob id (some (.row el sz l))) a w ρ) (hn : n = l.length) : ∃ ρ2, RepA' c M (updo fr d (.c (.slc l))) (upd ob id (some .dead)) a w ρ2 := by
 let ρ2 : Env := fun i => if i = id then none else ρ i
 have hρ2 : ∀ i L, ρ2 i = some L → ρ i = some L := fun i L hL => by
  simp only [ρ2] at hL
  split at hL
  ·
   cases hL
  ·
   exact hL
 have hcl : ∀ i ∈ [id], ρ2 i = none := fun i hi => by
  have : i = id := by simpa using hi
  simp only [ρ2, this, if_true]
 have hown : ∀ b, Own ρ2 b → Own ρ b := fun b ⟨i, L, h1, h2⟩ => ⟨i, L, hρ2 i L h1, h2⟩
 have hst : Stay w (Owned ρ c.X) w (Owned ρ2 c.X) := Stay.same (fun b _ hb => hb.imp (fun x => x) (hown b))
 have hmv : Moves M ρ ρ2 := fun i L _ hL => ⟨L, hρ2 i L hL, .inl rfl⟩
 refine ⟨ρ2, ⟨fun i o ho => ?_, fun i hi => ?_, fun i i' L L' b h1 h2 h3 h4 => h.s.apart i i' L L' b (hρ2 _ _ h1) (hρ2 _ _ h2) h3 h4, fun i L b h1 h2 => h.s.xb i L b (hρ2 _ _ h1) h2⟩, fun t ht => ?_, fun t => ?_, fun i o ho => ?_, h.m0, ?_, ?_, h.defers, h.size, h.xlt⟩
 ·
  by_cases e : i = id
  ·
   subst e
   rw [aR] at ho; cases ho
   show ρ2 i = none
   simp only [ρ2, if_true]
  ·
   rw [aV _ _ e] at ho
   have hid : ρ2 i = ρ i := by simp only [ρ2, e, if_false]
   have hin : upd ob id (some (.row el sz l)) i = some o := by rw [aV _ _ e]; exact ho
   exact RepO.stay hst hmv (h.mo i o hin).2 hid (fun _ _ _ _ => rfl) (h.s.objs i o hin)
 ·
  by_cases e : i = id
  ·
   subst e; rw [aR] at hi; cases hi
  ·
   have hin : upd ob id (some (.row el sz l)) i = none := by rw [aV _ _ e] at hi ⊢; exact hi
   have := h.s.none i hin
   simp only [ρ2, e, if_false]
   exact this
 ·
  by_cases e : d = some t
  ·
   subst e
   have h0 := h.f t (by simp [updo, upd])
   simp only [updo, aR] at h0 ⊢
   have := fX (cl := [id]) h.s hcl hρ2 hst h0.1
   have ec : HV.close (upd ob id (some (.row el sz l))) [id] (.own id n) = .c (.slc l) := by
    simp [HV.close, aR, hn]
   rw [ec] at this
   exact ⟨this, by rw [← h0.2]; rfl⟩
  ·
   have e1 : ∀ v : HV, updo fr d v t = fr t := fun v => by
    cases d with
    | none => rfl
    | some k => exact aV _ _ (fun e' => e (by rw [e']))
   rw [e1] at ht ⊢
   have h0 := h.f t (by rw [e1]; exact ht)
   rw [e1] at h0
   have hm := h.mf t
   rw [e1] at hm
   exact ⟨RepH.stay hst hmv hm h0.1, h0.2⟩
 ·
  cases d with
  | none => exact h.mf t
  | some k =>
   by_cases e : t = k
   ·
    subst e; simp only [updo, aR]; simp [HV.men]
   ·
    have := h.mf t
    simp only [updo, aV _ _ e] at this ⊢
    exact this
 ·
  by_cases e : i = id
  ·
   subst e
   rw [aR] at ho; cases ho
   exact ⟨(h.mo i _ (aR _ _ _)).1, trivial⟩
  ·
   have hin : upd ob id (some (.row el sz l)) i = some o := by rw [aV _ _ e] at ho ⊢; exact ho
   exact h.mo i o hin
 ·
  exact h.base.trans ⟨fun _ _ _ => rfl, fun b hb => .inl (hown b hb), Nat.le_refl _, rfl, rfl, rfl⟩
 ·
  exact Moves.trans (fun _ h => h) h.moves (fun i L _ hL => ⟨L, hρ2 i L hL, .inl rfl⟩)
end Go.Hl

namespace Go.Hl
open Go

def hcallOf (o : Op) : Option (Operand × List Operand) :=
 match o with
 | .call c => match c.callee with
  | .value f => some (f, c.args.toList)
  | _ => none
 | _ => none

def dZ (P : Program) (av : List Nat) (nid : Nat) (o : Op) (e : Operand → HV) (ob : Ob) (K : HV → Ob → Prop) : Prop :=
 match hcallOf o with
 | some (f, xs) => (∀ x ∈ xs, e x ≠ .junk) ∧ match e f with
  | .c (.fn g) => HCall P av g (xs.map fun x => (e x).den) ob nid K
  | .clo g caps => HCall P av g ((xs.map fun x => (e x).den) ++ caps) ob nid K
  | _ => False
 | none => (∀ id ∈ touch o e, id ∉ av ∧ (ob id).isSome = true) ∧ aA7 P nid o e ob K

def hguard (ops : Array Oper) (o : Oper) (fr : Fr) : Option Bool :=
 match o.guard with
 | none => some true
 | some (j, want) => match (ops[j]?).bind (·.dst) with
  | some d => match fr d with
   | .c (.bool b) => some (b == want)
   | .tup _ => some false
   | _ => none
  | none => none

def dP (P : Program) (ops : Array Oper) (nx : Nat) (av : List Nat) (i : Nat) (K : Fr → Ob → Prop) (fr : Fr) (ob : Ob) : Prop :=
 match ops[i]? with
 | none => False
 | some o => match hguard ops o fr with
  | some true => dZ P av (nx + 4 * i) o.op (ev fr) ob fun v ob' => K (updo fr o.dst v) ob'
  | some false => K (updo fr o.dst (.tup [])) ob
  | none => False

theorem rP {e e' : Operand → HV} : ∀ {ps : List (Nat × Operand)} {hs : List HV}, (∀ p ∈ ps, e' p.2 = e p.2) → hfill e' ps hs = hfill e ps hs
 | [], _, _ => rfl
 | (i, x) :: ps, hs, h => by
  have h1 : e' x = e x := h (i, x) (by simp)
  have ih := fun hs => rP (e := e) (e' := e') (ps := ps) (hs := hs) (fun p hp => h p (by simp [hp]))
  simp only [hfill, h1, ih]
theorem nN {e e' : Operand → HV} : ∀ {ps : List (Nat × Operand)} {k sz : Nat}, (∀ p ∈ ps, e' p.2 = e p.2) → hclosed e' ps k sz = hclosed e ps k sz
 | [], _, _, _ => rfl
 | (i, x) :: ps, k, sz, h => by
  have h1 : e' x = e x := h (i, x) (by simp)
  have ih := fun k => nN (e := e) (e' := e') (ps := ps) (k := k) (sz := sz) (fun p hp => h p (by simp [hp]))
  simp only [hclosed, h1, ih]
theorem kM {e e' : Operand → HV} {x : Option Operand} (h : ∀ y ∈ x.toList, e' y = e y) : x.map e' = x.map e := by
 cases x with
 | none => rfl
 | some y => simp [h y (by simp)]
theorem aM9 {e e' : Operand → HV} {xs : List Operand} (h : ∀ y ∈ xs, e' y = e y) : xs.map e' = xs.map e := List.map_congr_left h
theorem lS {e e' : Operand → HV} : ∀ {xs : List Operand}, (∀ y ∈ xs, e' y = e y) → xs.flatMap (fun x => (e' x).ids) = xs.flatMap (fun x => (e x).ids)
 | [], _ => rfl
 | x :: xs, h => by simp only [List.flatMap_cons, h x (by simp), lS (xs := xs) (fun y hy => h y (by simp [hy]))]

theorem aF9 {o : Op} {e e' : Operand → HV} (h : ∀ x ∈ o.operands, e' x = e x) : touch o e' = touch o e := by
 cases o <;> simp only [touch] <;> try rfl
 case load t x => rw [h x (by simp [Op.operands])]
 case fieldAddr t x f => rw [h x (by simp [Op.operands])]
 case nilCheck x => rw [h x (by simp [Op.operands])]
 case indexAddr t x i => rw [h x (by simp [Op.operands])]
 case store t x y => rw [h x (by simp [Op.operands])]
 case slice t x lo hi mx => rw [h x (by simp [Op.operands])]
 case lookup t x k ok => rw [h x (by simp [Op.operands])]
 case mapUpdate t x k v => rw [h x (by simp [Op.operands])]
 case call c =>
  cases hc : c.callee with
  | builtin b => simp only; exact lS (fun y hy => h y (by simp only [Op.operands, Call.operands, hc]; simpa using hy))
  | _ => rfl

theorem xG {P : Program} {nid : Nat} {o : Op} {e e' : Operand → HV} {ob : Ob} {K : HV → Ob → Prop} (h : ∀ x ∈ o.operands, e' x = e x) (hl : hop P nid o e ob K) : hop P nid o e' ob K := by
 unfold hop at hl
 split at hl
 ·
  rename_i x; simp only [hop, h x (by simp [Op.operands])]; exact hl
 ·
  rename_i x; simp only [hop, h x (by simp [Op.operands])]; exact hl
 ·
  rename_i c a b; simp only [hop, h c (by simp [Op.operands]), h a (by simp [Op.operands]), h b (by simp [Op.operands])]; exact hl
 ·
  exact hl
 ·
  rename_i t x; simp only [hop, h x (by simp [Op.operands])]; exact hl
 ·
  rename_i t ps
  have : ∀ p ∈ ps.toList, e' p.2 = e p.2 := fun p hp => h p.2 (by simp only [Op.operands, List.mem_toArray, List.mem_map]; exact ⟨p, hp, rfl⟩)
  simp only [hop, cP, rP this]; exact hl
 ·
  rename_i t n ps
  have : ∀ p ∈ ps.toList, e' p.2 = e p.2 := fun p hp => h p.2 (by simp only [Op.operands, List.mem_toArray, List.mem_map]; exact ⟨p, hp, rfl⟩)
  simp only [hop, nN this]; exact hl
 ·
  rename_i t x; simp only [hop, h x (by simp [Op.operands])]; exact hl
 ·
  rename_i t x y; simp only [hop, h x (by simp [Op.operands]), h y (by simp [Op.operands])]; exact hl
 ·
  rename_i x; simp only [hop, h x (by simp [Op.operands])]; exact hl
 ·
  rename_i op t x y yt; simp only [hop, h x (by simp [Op.operands]), h y (by simp [Op.operands])]; exact hl
 ·
  rename_i op t x; simp only [hop, h x (by simp [Op.operands])]; exact hl
 ·
  rename_i s d x; simp only [hop, h x (by simp [Op.operands])]; exact hl
 ·
  rename_i f first caps
  have : ∀ y ∈ caps.toList, e' y = e y := fun y hy => h y (by simp only [Op.operands]; exact Array.mem_append.2 (.inr (by simpa using hy)))
  simp only [hop, aM9 this]; exact hl
 ·
  rename_i t x lo hi
  have h1 : e' x = e x := h x (by simp [Op.operands])
  have h2 : lo.map e' = lo.map e := kM (fun y hy => h y (by cases lo <;> simp_all [Op.operands]))
  have h3 : hi.map e' = hi.map e := kM (fun y hy => h y (by cases lo <;> cases hi <;> simp_all [Op.operands]))
  simp only [hop, h1, h2, h3]; exact hl
 ·
  rename_i t x lo hi mx
  have h1 : e' x = e x := h x (by simp [Op.operands])
  have h2 : lo.map e' = lo.map e := kM (fun y hy => h y (by cases lo <;> simp_all [Op.operands]))
  have h3 : e' hi = e hi := h hi (by cases lo <;> simp [Op.operands])
  have h4 : e' mx = e mx := h mx (by cases lo <;> simp [Op.operands])
  simp only [hop, h1, h2, h3, h4]; exact hl
 ·
  exact hl
 ·
  rename_i t m k; simp only [hop, h m (by simp [Op.operands]), h k (by simp [Op.operands])]; exact hl
 ·
  rename_i t m k v; simp only [hop, h m (by simp [Op.operands]), h k (by simp [Op.operands]), h v (by simp [Op.operands])]; exact hl
 ·
  rename_i t x f; simp only [hop, h x (by simp [Op.operands])]; exact hl
 ·
  rename_i t x f; simp only [hop, h x (by simp [Op.operands])]; exact hl
 ·
  rename_i t x i; simp only [hop, h x (by simp [Op.operands]), h i (by simp [Op.operands])]; exact hl
 ·
  rename_i t x i; simp only [hop, h x (by simp [Op.operands]), h i (by simp [Op.operands])]; exact hl
 ·
  rename_i x i; simp only [hop, h x (by simp [Op.operands])]; exact hl
 ·
  rename_i c
  have ha : ∀ y ∈ c.args.toList, e' y = e y := fun y hy => h y (by simp only [Op.operands, Call.operands]; exact Array.mem_append.2 (.inr (by simpa using hy)))
  split at hl
  ·
   rename_i x t h1 h2 h3
   simp only [hop, h1, h2, h3, ha x (by rw [h2]; simp)]; exact hl
  ·
   rename_i s x t t' h1 h2 h3
   simp only [hop, h1, h2, h3, ha x (by rw [h2]; simp), ha s (by rw [h2]; simp)]; exact hl
  ·
   rename_i x y t t' h1 h2 h3
   simp only [hop, h1, h2, h3, ha x (by rw [h2]; simp), ha y (by rw [h2]; simp)]; exact hl
  ·
   rename_i x y t t' h1 h2 h3
   simp only [hop, h1, h2, h3, ha x (by rw [h2]; simp), ha y (by rw [h2]; simp)]; exact hl
  ·
   rename_i x t h1 h2 h3
   simp only [hop, h1, h2, h3, ha x (by rw [h2]; simp)]; exact hl
  ·
   rename_i x y t t' h1 h2 h3
   simp only [hop, h1, h2, h3, ha x (by rw [h2]; simp), ha y (by rw [h2]; simp)]; exact hl
  ·
   exact hl.elim
 ·
  rename_i t x; simp only [hop, h x (by simp [Op.operands])]; exact hl
 ·
  rename_i x s t; simp only [hop, h x (by simp [Op.operands])]; exact hl
 ·
  rename_i t len cap; simp only [hop, h len (by simp [Op.operands]), h cap (by simp [Op.operands])]; exact hl
 ·
  exact hl.elim

theorem aN0 {nid : Nat} {o : Op} {e e' : Operand → HV} (h : ∀ x ∈ o.operands, e' x = e x) : lR nid o e' = lR nid o e := by
 unfold lR
 split
 ·
  rfl
 ·
  rename_i c
  split
  ·
   rename_i s x hcal hargs
   have hin : s ∈ c.args := by
    have : s ∈ c.args.toList := by rw [hargs]; simp
    simpa using this
   have : e' s = e s := h s (by simp only [Op.operands, Call.operands]; exact Array.mem_append.2 (.inr hin))
   rw [this]
  ·
   rfl
 ·
  rfl
theorem aN1 {P : Program} {nid : Nat} {o : Op} {e e' : Operand → HV} {ob : Ob} {K : HV → Ob → Prop} (h : ∀ x ∈ o.operands, e' x = e x) (hl : aA7 P nid o e ob K) : aA7 P nid o e' ob K := by
 rcases hl with hl | ⟨id, hm, hl⟩
 ·
  exact .inl (xG h hl)
 ·
  exact .inr ⟨id, by rw [aN0 h]; exact hm, xG h hl⟩
theorem oQ {P : Program} {av : List Nat} {nid : Nat} {o : Op} {e e' : Operand → HV} {ob : Ob} {K : HV → Ob → Prop} (h : ∀ x ∈ o.operands, e' x = e x) (hl : dZ P av nid o e ob K) : dZ P av nid o e' ob K := by
 unfold dZ at hl ⊢
 cases hc : hcallOf o with
 | none =>
  rw [hc] at hl
  simp only at hl ⊢
  rw [aF9 h]
  exact ⟨hl.1, aN1 h hl.2⟩
 | some p =>
  obtain ⟨f, xs⟩ := p
  rw [hc] at hl
  simp only at hl ⊢
  have hf : e' f = e f ∧ ∀ y ∈ xs, e' y = e y := by
   cases o <;> simp only [hcallOf] at hc <;> try cases hc
   rename_i c
   split at hc
   ·
    rename_i g hg
    cases hc
    exact ⟨h f (by simp [Op.operands, Call.operands, hg]), fun y hy => h y (by simp only [Op.operands, Call.operands]; exact Array.mem_append.2 (.inr (by simpa using hy)))⟩
   ·
    cases hc
  have hden : (xs.map fun x => (e' x).den) = xs.map fun x => (e x).den := List.map_congr_left (fun y hy => by rw [hf.2 y hy])
  rw [hf.1, hden]
  exact ⟨fun x hx => by rw [hf.2 x hx]; exact hl.1 x hx, hl.2⟩

theorem bO5 {fr : Fr} {d : Option Nat} {v : HV} {x : Operand} (h : ∀ k, d = some k → x ≠ .tmp k) : ev (updo fr d v) x = ev fr x := by
 cases d with
 | none => rfl
 | some k =>
  cases x with
  | tmp t => simp only [ev, updo]; exact aV _ _ (fun e => h k rfl (by rw [e]))
  | _ => rfl

theorem lT {ops : Array Oper} {o : Oper} {fr : Fr} {d : Option Nat} {v : HV} (h : ∀ k, d = some k → k ∉ o.looksAt ops) : ∀ x ∈ o.op.operands, ev (updo fr d v) x = ev fr x := by
 intro x hx
 refine bO5 (fun k hk e => h k hk ?_)
 subst e
 unfold Oper.looksAt
 refine List.mem_append_left _ (List.mem_filterMap.2 ⟨.tmp k, by simpa using hx, rfl⟩)

theorem rQ {ops : Array Oper} {o : Oper} {fr : Fr} {d : Option Nat} {v : HV} (h : ∀ k, d = some k → k ∉ o.looksAt ops) : hguard ops o (updo fr d v) = hguard ops o fr := by
 unfold hguard
 cases hg : o.guard with
 | none => rfl
 | some p =>
  obtain ⟨j, want⟩ := p
  simp only
  cases hd : (ops[j]?).bind (·.dst) with
  | none => rfl
  | some k =>
   simp only
   have : updo fr d v k = fr k := by
    cases d with
    | none => rfl
    | some k' =>
     simp only [updo]
     refine aV _ _ (fun e => h k' rfl ?_)
     subst e
     unfold Oper.looksAt
     rw [hg]
     simp only [hd]
     exact List.mem_append_right _ (by simp)
   rw [this]

theorem xH {fr : Fr} {d d' : Option Nat} {v v' : HV} (h : ∀ k, d = some k → d' ≠ some k) : updo (updo fr d v) d' v' = updo (updo fr d' v') d v := by
 cases d with
 | none => rfl
 | some k =>
  cases d' with
  | none => rfl
  | some k' =>
   have hne : k ≠ k' := fun e => h k rfl (by rw [e])
   funext t
   simp only [updo, upd]
   by_cases h1 : t = k' <;> by_cases h2 : t = k
   ·
    exact absurd (h2.symm.trans h1) hne
   ·
    simp [h1, h2, Ne.symm hne]
   ·
    simp [h1, h2, hne]
   ·
    simp [h1, h2]

def aS7 (F : List Nat) (ob ob' : Ob) : Prop := ∀ id ∈ F, ob' id = ob id
def aS8 (u : Option (Nat × HO)) (av : List Nat) (nid : Nat) : Prop := ∀ p, u = some p → p.1 ∈ av ∧ ¬ (nid ≤ p.1 ∧ p.1 < nid + 4)

theorem jK {u : Option (Nat × HO)} {ob : Ob} {id : Nat} (h : ∀ p, u = some p → p.1 ≠ id) : app u ob id = ob id := by
 cases u with
 | none => rfl
 | some p => exact aV _ _ (fun e => h p rfl e.symm)
theorem bE5 {u u' : Option (Nat × HO)} {ob : Ob} (h : ∀ p p', u = some p → u' = some p' → p.1 ≠ p'.1) : app u (app u' ob) = app u' (app u ob) := by
 cases u with
 | none => rfl
 | some p =>
  cases u' with
  | none => rfl
  | some p' =>
   have hne := h p p' rfl rfl
   funext t
   simp only [app, upd]
   by_cases h1 : t = p.1 <;> by_cases h2 : t = p'.1
   ·
    exact absurd (h1.symm.trans h2) hne
   ·
    simp [h1, hne]
   ·
    simp [h2, Ne.symm hne]
   ·
    simp [h1, h2]

theorem rR {P : Program} {av av' : List Nat} {nid : Nat} {f : FuncId} {args : List HV} {ob : Ob} {K : HV → Ob → Prop} {u : Option (Nat × HO)} {F : List Nat} (hu : aS8 u av nid) (hav : ∀ x ∈ av', x ∈ av)
  (hF : ∀ id ∈ F, id ∈ av ∧ (ob id).isSome = true) (hfresh : ∀ t, t < 4 → ob (nid + t) = none) (h : HCall P av f args (app u ob) nid K) :
  HCall P av' f args ob nid (fun v ob' => K v (app u ob') ∧ aS7 F ob ob') := by
 obtain ⟨σ, largs, lob, R, h1, h2, ⟨h3, h4⟩, h5, h6, h7⟩ := h
 have hσ : ∀ p, u = some p → p.1 ∉ σ := fun p hp hin => h4 _ hin (hu p hp).1
 have hmem : ∀ j o, lob j = some o → σ.getD j 0 ∈ σ := fun j o ho => by
  have hj := (h2.none j o ho).1
  rw [List.getD_eq_getElem?_getD, List.getElem?_eq_getElem hj]; exact List.getElem_mem hj
 refine ⟨σ, largs, lob, R, h1, h2, ⟨h3, fun s hs hin => h4 s hs (hav _ hin)⟩, h5, fun j o ho => ?_, fun r lob' hR hr => ⟨?_, fun id hid => ?_⟩⟩
 ·
  rw [← h6 j o ho]
  exact (jK (fun p hp e => hσ p hp (e ▸ hmem j o ho))).symm
 ·
  have := h7 r lob' hR hr
  have e : bD (app u ob) σ nid lob' = app u (bD ob σ nid lob') := by
   funext id
   cases u with
   | none => rfl
   | some p =>
    have h8 := hσ p rfl
    have h9 := (hu p rfl).2
    simp only [app, upd]
    by_cases hid : id = p.1
    ·
     subst hid
     rw [if_pos rfl]
     unfold bD
     have : σ.findIdx? (· == p.1) = none := by
      rw [List.findIdx?_eq_none_iff]
      intro y hy
      simp only [beq_eq_false_iff_ne, ne_eq]
      intro e; exact h8 (e ▸ hy)
     rw [this]
     simp only [if_neg h9]
     exact aR _ _ _
    ·
     rw [if_neg hid]
     unfold bD
     split
     ·
      rfl
     ·
      split
      ·
       rfl
      ·
       exact aV _ _ hid
  rw [← e]; exact this
 ·
  unfold bD
  have h8 : id ∉ σ := fun hin => h4 id hin (hF id hid).1
  have : σ.findIdx? (· == id) = none := by
   rw [List.findIdx?_eq_none_iff]
   intro y hy
   simp only [beq_eq_false_iff_ne, ne_eq]
   intro e; exact h8 (e ▸ hy)
  rw [this]
  simp only
  split
  ·
   rename_i hr
   have := hfresh (id - nid) (by omega)
   rw [show nid + (id - nid) = id from by omega] at this
   have h9 := (hF id hid).2
   rw [this] at h9; cases h9
  ·
   rfl

theorem aA8 {P : Program} {av av' : List Nat} {nid : Nat} {o : Op} {e : Operand → HV} {ob : Ob} {K : HV → Ob → Prop} {u : Option (Nat × HO)} {F : List Nat} (hu : aS8 u av nid) (hav : ∀ x ∈ av', x ∈ av)
  (hF : ∀ id ∈ F, (isEff o = true → id ∈ av) ∧ (ob id).isSome = true) (hfresh : ∀ t, t < 4 → ob (nid + t) = none) (h : dZ P av nid o e (app u ob) K) :
  dZ P av' nid o e ob (fun v ob' => K v (app u ob') ∧ aS7 F ob ob') := by
 unfold dZ at h ⊢
 cases hc : hcallOf o with
 | some p =>
  obtain ⟨f, xs⟩ := p
  rw [hc] at h
  simp only at h ⊢
  have heff : isEff o = true := by
   cases o <;> simp only [hcallOf] at hc <;> try cases hc
   rename_i c
   split at hc
   ·
    rename_i g hg; simp only [isEff, hg]
   ·
    cases hc
  refine ⟨h.1, ?_⟩
  have h := h.2
  split at h
  ·
   exact rR hu hav (fun id hid => ⟨(hF id hid).1 heff, (hF id hid).2⟩) hfresh h
  ·
   exact rR hu hav (fun id hid => ⟨(hF id hid).1 heff, (hF id hid).2⟩) hfresh h
  ·
   exact h.elim
 | none =>
  rw [hc] at h
  simp only at h ⊢
  obtain ⟨ht, h⟩ := h
  have hnt : ∀ p, u = some p → p.1 ∉ touch o e := fun p hp hin => (ht _ hin).1 (hu p hp).1
  have hobt : ∀ id ∈ touch o e, app u ob id = ob id := fun id hid => jK (fun p hp e => hnt p hp (e ▸ hid))
  obtain ⟨v, u', hK, hform, hid'⟩ := mT h
  refine ⟨fun id hid => ⟨fun hin => (ht id hid).1 (hav _ hin), by rw [← hobt id hid]; exact (ht id hid).2⟩, hform ob (fun id hid => (hobt id hid).symm) _ ⟨?_, fun id hid => ?_⟩⟩
  ·
   rw [bE5 (u := u) (u' := u') (ob := ob) (fun p p' hp hp' e => ?_)]
   ·
    exact hK
   ·
    rcases hid' p' hp' with h1 | ⟨_, h1⟩
    ·
     exact (hu p hp).2 ⟨by omega, by omega⟩
    ·
     exact hnt p hp (e ▸ h1)
  ·
   refine jK (fun p hp e => ?_)
   rcases hid' p hp with h1 | ⟨h2, h1⟩
   ·
    have := hfresh 0 (by omega)
    rw [Nat.add_zero, ← h1, e] at this
    have h9 := (hF id hid).2
    rw [this] at h9; cases h9
   ·
    exact (ht _ h1).1 (e ▸ (hF id hid).1 h2)
theorem HCall.mono {P : Program} {av av' : List Nat} {nid : Nat} {f : FuncId} {args : List HV} {ob : Ob} {K K' : HV → Ob → Prop} (hav : ∀ x ∈ av', x ∈ av) (hK : ∀ v ob, K v ob → K' v ob) (h : HCall P av f args ob nid K) : HCall P av' f args ob nid K' := by
 obtain ⟨σ, largs, lob, R, h1, h2, ⟨h3, h4⟩, h5, h6, h7⟩ := h
 exact ⟨σ, largs, lob, R, h1, h2, ⟨h3, fun s hs hin => h4 s hs (hav _ hin)⟩, h5, h6, fun r lob' hR hr => hK _ _ (h7 r lob' hR hr)⟩
theorem aW8 {P : Program} {nid : Nat} {o : Op} {e : Operand → HV} {ob : Ob} {K K' : HV → Ob → Prop} (hK : ∀ v ob, K v ob → K' v ob) (h : aA7 P nid o e ob K) : aA7 P nid o e ob K' := by
 obtain ⟨v, u, h1, h2, _⟩ := mT h
 exact h2 ob (fun _ _ => rfl) K' (hK _ _ h1)
theorem rS {P : Program} {av av' : List Nat} {nid : Nat} {o : Op} {e : Operand → HV} {ob : Ob} {K K' : HV → Ob → Prop} (hav : ∀ x ∈ av', x ∈ av) (hK : ∀ v ob, K v ob → K' v ob) (h : dZ P av nid o e ob K) : dZ P av' nid o e ob K' := by
 unfold dZ at h ⊢
 split at h
 ·
  refine ⟨h.1, ?_⟩
  have h := h.2
  split at h
  ·
   exact h.mono hav hK
  ·
   exact h.mono hav hK
  ·
   exact h.elim
 ·
  exact ⟨fun id hid => ⟨fun hin => (h.1 id hid).1 (hav _ hin), (h.1 id hid).2⟩, aW8 hK h.2⟩
end Go.Hl

namespace Go.Hl
open Go

abbrev iU := List (Nat × List Nat)
def gN (ops : Array Oper) (nx : Nat) (wt : Nat → Nat → Bool) (C : iU) (j : Nat) : List Nat :=
 C.flatMap fun p => if wt j p.1 = true then [] else [nx + 4 * p.1, nx + 4 * p.1 + 1, nx + 4 * p.1 + 2, nx + 4 * p.1 + 3] ++ (if ((ops[j]?).map (fun o => isEff o.op)).getD true = true then p.2 else [])

def tT (P : Program) (ops : Array Oper) (nx : Nat) (wt : Nat → Nat → Bool) (Q : Fr → Ob → Prop) : Nat → iU → Array Bool → Fr → Ob → Prop
 | 0, _, listed, fr, ob => Region.ready .any ops listed = [] ∧ Q fr ob
 | n + 1, C, listed, fr, ob => (Region.ready .any ops listed = [] → Q fr ob) ∧
  ∀ i ∈ Region.ready .any ops listed, dP P ops nx (gN ops nx wt C i) i (tT P ops nx wt Q n C (listed.setIfInBounds i true)) fr ob

def Fresh (nx : Nat) (listed : Array Bool) (ob : Ob) : Prop := ∀ j, listed.getD j true = false → ∀ t, t < 4 → ob (nx + 4 * j + t) = none
def Down (ops : Array Oper) (listed : Array Bool) : Prop := ∀ j o, ops[j]? = some o → listed.getD j false = true → ∀ e ∈ o.after, Region.binds .any e = true → listed.getD e.on false = true
def bE6 (ops : Array Oper) (wt : Nat → Nat → Bool) : Prop := ∀ j i, wt j i = true → ∃ o, ops[j]? = some o ∧ ∃ e ∈ o.after, Region.binds .any e = true ∧ (e.on = i ∨ (e.on < j ∧ wt e.on i = true))

theorem aW9 {ops : Array Oper} {wt : Nat → Nat → Bool} (hw : bE6 ops wt) {listed : Array Bool} (hd : Down ops listed) : ∀ (n j i : Nat), j = n → wt j i = true → (∀ o, ops[j]? = some o → ∀ e ∈ o.after, Region.binds .any e = true → listed.getD e.on false = true) → listed.getD i false = true := by
 intro n
 induction n using Nat.strongRecOn with
 | _ n ih =>
  intro j i hj hwt hall
  obtain ⟨o, ho, e, he, hb, h⟩ := hw j i hwt
  have h1 := hall o ho e he hb
  rcases h with h | ⟨h2, h3⟩
  ·
   rw [← h]; exact h1
  ·
   exact ih e.on (by omega) e.on i rfl h3 (fun o' ho' e' he' hb' => hd e.on o' ho' h1 e' he' hb')

theorem bX8 {ops : Array Oper} {wt : Nat → Nat → Bool} (hw : bE6 ops wt) {listed : Array Bool} (hd : Down ops listed) {i j : Nat} (hj : j ∈ Region.ready .any ops listed) (hi : listed.getD i true = false) : wt j i = false := by
 cases h : wt j i with
 | false => rfl
 | true =>
  obtain ⟨_, o, ho, hall⟩ := mem_ready.1 hj
  have := aW9 hw hd j j i rfl h (fun o' ho' e he hb => by rw [ho] at ho'; cases ho'; exact hall e he hb)
  rcases Nat.lt_or_ge i listed.size with h' | h'
  ·
   simp [h'] at hi this; rw [hi] at this; cases this
  ·
   simp [Array.getElem?_eq_none h'] at hi

theorem Down.set {ops : Array Oper} {listed : Array Bool} (hd : Down ops listed) {i : Nat} (hi : i ∈ Region.ready .any ops listed) : Down ops (listed.setIfInBounds i true) := by
 obtain ⟨_, oi, hoi, hall⟩ := mem_ready.1 hi
 intro j o ho hl e he hb
 by_cases hij : i = j
 ·
  subst hij
  rw [hoi] at ho; cases ho
  exact getD_set_true (hall e he hb)
 ·
  rw [getD_set_ne false hij] at hl
  exact getD_set_true (hd j o ho hl e he hb)

theorem xI (ops : Array Oper) (nx : Nat) (wt : Nat → Nat → Bool) (p : Nat × List Nat) (C : iU) (j : Nat) : ∀ x ∈ gN ops nx wt C j, x ∈ gN ops nx wt (p :: C) j := by
 intro x hx
 unfold gN at hx ⊢
 rw [List.flatMap_cons]
 exact List.mem_append_right _ hx

theorem iC {P : Program} {ops : Array Oper} {nx : Nat} {av av' : List Nat} {i : Nat} {K K' : Fr → Ob → Prop} {fr : Fr} {ob : Ob} (hav : ∀ x ∈ av', x ∈ av) (hK : ∀ fr ob, K fr ob → K' fr ob) (h : dP P ops nx av i K fr ob) : dP P ops nx av' i K' fr ob := by
 unfold dP at h ⊢
 split at h
 ·
  exact h.elim
 ·
  rename_i o ho
  split at h
  ·
   exact rS hav (fun v ob => hK _ _) h
  ·
   exact hK _ _ h
  ·
   exact h.elim

theorem nV {P : Program} {ops : Array Oper} {nx : Nat} {wt : Nat → Nat → Bool} {Q : Fr → Ob → Prop} {p : Nat × List Nat} {C : iU} : ∀ {n : Nat} {listed : Array Bool} {fr : Fr} {ob : Ob}, tT P ops nx wt Q n (p :: C) listed fr ob → tT P ops nx wt Q n C listed fr ob
 | 0, _, _, _, h => h
 | _ + 1, _, _, _, h => ⟨h.1, fun i hi => iC (xI ops nx wt p C i) (fun _ _ => nV) (h.2 i hi)⟩

structure Yld (P : Program) (ops : Array Oper) (nx : Nat) (av : List Nat) (i : Nat) (oi : Oper) (fr : Fr) (ob : Ob) (v : HV) (u : Option (Nat × HO)) (F : List Nat) : Prop where
 run : ∀ fr' ob', (∀ x ∈ oi.op.operands, ev fr' x = ev fr x) → hguard ops oi fr' = hguard ops oi fr → aS7 F ob ob' → ∀ K : Fr → Ob → Prop, K (updo fr' oi.dst v) (app u ob') → dP P ops nx av i K fr' ob'
 new : ∀ p, u = some p → p.1 = nx + 4 * i
 live : ∀ id ∈ F, (ob id).isSome = true

theorem aG0 {P : Program} {ops : Array Oper} {nx : Nat} {av av' : List Nat} {j : Nat} {oi oj : Oper} {K : Fr → Ob → Prop} {fr : Fr} {ob : Ob} {v : HV} {u : Option (Nat × HO)} {F : List Nat}
  (hoj : ops[j]? = some oj) (hap : oi.apart ops oj = true) (hu : aS8 u av (nx + 4 * j)) (hav : ∀ x ∈ av', x ∈ av) (hF : ∀ id ∈ F, (isEff oj.op = true → id ∈ av) ∧ (ob id).isSome = true) (hfresh : ∀ t, t < 4 → ob (nx + 4 * j + t) = none)
  (h : dP P ops nx av j K (updo fr oi.dst v) (app u ob)) :
  dP P ops nx av' j (fun fr' ob' => K (updo fr' oi.dst v) (app u ob') ∧ aS7 F ob ob' ∧ (∀ x ∈ oi.op.operands, ev fr' x = ev fr x) ∧ hguard ops oi fr' = hguard ops oi fr) fr ob := by
 obtain ⟨h1, h2, h3⟩ := Oper.apart_spec hap
 have kept : ∀ y, (∀ x ∈ oi.op.operands, ev (updo fr oj.dst y) x = ev fr x) ∧ hguard ops oi (updo fr oj.dst y) = hguard ops oi fr := fun y => ⟨lT h3, rQ h3⟩
 unfold dP at h ⊢
 rw [hoj] at h ⊢
 simp only at h ⊢
 rw [rQ h1] at h
 split at h
 ·
  rename_i hg
  have h' := oQ (e' := ev fr) (fun x hx => (lT h1 x hx).symm) h
  refine rS (fun x hx => hx) (fun y ob' hK => ?_) (aA8 (F := F) hu hav hF hfresh h')
  obtain ⟨hK, hA⟩ := hK
  rw [xH h2] at hK
  exact ⟨hK, hA, kept y⟩
 ·
  rw [xH h2] at h
  exact ⟨h, fun _ _ => rfl, kept _⟩
 ·
  exact h.elim

theorem Fresh.set {nx : Nat} {listed : Array Bool} {ob : Ob} (h : Fresh nx listed ob) (i : Nat) : Fresh nx (listed.setIfInBounds i true) ob := fun j hj => by
 by_cases hij : i = j
 ·
  subst hij
  rcases Nat.lt_or_ge i listed.size with h' | h'
  ·
   simp [h'] at hj
  ·
   simp [Array.getElem?_eq_none h'] at hj
 ·
  rw [getD_set_ne true hij] at hj; exact h j hj

theorem rT {P : Program} {ops : Array Oper} {nx : Nat} {av : List Nat} {i : Nat} {K : Fr → Ob → Prop} {fr : Fr} {ob : Ob} {listed : Array Bool} (hf : Fresh nx listed ob) (h : dP P ops nx av i K fr ob) :
  dP P ops nx av i (fun fr' ob' => K fr' ob' ∧ Fresh nx (listed.setIfInBounds i true) ob') fr ob := by
 have key : ∀ ob' : Ob, (∀ id, ob id = none → ¬ (nx + 4 * i ≤ id ∧ id < nx + 4 * i + 4) → ob' id = none) → Fresh nx (listed.setIfInBounds i true) ob' := by
  intro ob' h1 j hj t ht
  have h2 := hf.set i j hj t ht
  refine h1 _ h2 (fun h3 => ?_)
  have hij : i = j := by omega
  subst hij
  rcases Nat.lt_or_ge i listed.size with h' | h'
  ·
   simp [h'] at hj
  ·
   simp [Array.getElem?_eq_none h'] at hj
 unfold dP at h ⊢
 cases ho : ops[i]? with
 | none => rw [ho] at h; exact h.elim
 | some o =>
  rw [ho] at h
  simp only at h ⊢
  cases hg : hguard ops o fr with
  | none => rw [hg] at h; exact h.elim
  | some b =>
   rw [hg] at h
   cases b with
   | false => exact ⟨h, key ob (fun id h1 _ => h1)⟩
   | true =>
    simp only at h ⊢
    unfold dZ at h ⊢
    cases hc : hcallOf o.op with
    | none =>
     rw [hc] at h
     simp only at h ⊢
     obtain ⟨v, u, hK, hform, hid⟩ := mT h.2
     refine ⟨h.1, hform ob (fun _ _ => rfl) _ ⟨hK, key _ (fun id h1 h2 => ?_)⟩⟩
     rw [jK (fun p hp e => ?_)]
     ·
      exact h1
     ·
      rcases hid p hp with h3 | ⟨_, h3⟩
      ·
       exact h2 ⟨by omega, by omega⟩
      ·
       have := (h.1 _ h3).2
       rw [e, h1] at this; cases this
    | some p =>
     obtain ⟨f, xs⟩ := p
     rw [hc] at h
     simp only at h ⊢
     refine ⟨h.1, ?_⟩
     have h := h.2
     have hcall : ∀ g args, HCall P av g args ob (nx + 4 * i) (fun v ob' => K (updo fr o.dst v) ob') → HCall P av g args ob (nx + 4 * i) (fun v ob' => K (updo fr o.dst v) ob' ∧ Fresh nx (listed.setIfInBounds i true) ob') := by
      rintro g args ⟨σ, largs, lob, R, h1, h2, h3, h5, h6, h7⟩
      refine ⟨σ, largs, lob, R, h1, h2, h3, h5, h6, fun r lob' hR hr => ⟨h7 r lob' hR hr, key _ (fun id e1 e2 => ?_)⟩⟩
      unfold bD
      split
      ·
       rename_i j hj
       exfalso
       rw [List.findIdx?_eq_some_iff_getElem] at hj
       obtain ⟨hj1, hj2, _⟩ := hj
       obtain ⟨o', ho'⟩ := h2.all j hj1
       have := h6 j o' ho'
       rw [List.getD_eq_getElem?_getD, List.getElem?_eq_getElem hj1] at this
       simp only [beq_iff_eq] at hj2
       simp only [Option.getD_some, hj2, e1] at this
       cases this
      ·
       rw [if_neg e2]; exact e1
     split at h
     ·
      exact hcall _ _ h
     ·
      exact hcall _ _ h
     ·
      exact h.elim

theorem aG1 {P : Program} {ops : Array Oper} {nx : Nat} {wt : Nat → Nat → Bool} {Q : Fr → Ob → Prop} {i : Nat} {oi : Oper} (hi : ops[i]? = some oi) (hw : bE6 ops wt) {v : HV} {u : Option (Nat × HO)} {F : List Nat} {C : iU} :
  ∀ (n : Nat) (listed : Array Bool) (fr : Fr) (ob : Ob), Down ops listed → Fresh nx listed ob →
   (∀ j oj, ops[j]? = some oj → j ≠ i → listed.getD j true = false → (∀ e ∈ oj.after, Region.binds .any e = true → e.on ≠ i) → oi.apart ops oj = true) →
   i ∈ Region.ready .any ops listed → Yld P ops nx (gN ops nx wt C i) i oi fr ob v u F →
   tT P ops nx wt Q n ((i, F) :: C) (listed.setIfInBounds i true) (updo fr oi.dst v) (app u ob) → tT P ops nx wt Q (n + 1) C listed fr ob := by
 intro n
 induction n with
 | zero =>
  intro listed fr ob hd hf hfree hr hy H
  refine ⟨fun h => (by rw [h] at hr; cases hr), fun j hj => ?_⟩
  by_cases hji : j = i
  ·
   subst hji
   exact hy.run fr ob (fun _ _ => rfl) rfl (fun _ _ => rfl) _ (nV H)
  ·
   have := ready_mono hj hji
   rw [H.1] at this
   cases this
 | succ n ih =>
  intro listed fr ob hd hf hfree hr hy H
  have hiun := (mem_ready.1 hr).1
  refine ⟨fun h => (by rw [h] at hr; cases hr), fun j hj => ?_⟩
  by_cases hji : j = i
  ·
   subst hji
   exact hy.run fr ob (fun _ _ => rfl) rfl (fun _ _ => rfl) _ (nV H)
  ·
   have h1 := H.2 j (ready_mono hj hji)
   obtain ⟨hjun, oj, hoj, hall⟩ := mem_ready.1 hj
   have hnot : ∀ e ∈ oj.after, Region.binds .any e = true → e.on ≠ i := fun e he hb heq => by
    have h1 := hall e he hb
    rw [heq] at h1
    rcases Nat.lt_or_ge i listed.size with h' | h'
    ·
     simp [h'] at hiun h1; rw [hiun] at h1; cases h1
    ·
     simp [Array.getElem?_eq_none h'] at h1
   have hnw := bX8 hw hd hj hiun
   have hin : ∀ t, t < 4 → nx + 4 * i + t ∈ gN ops nx wt ((i, F) :: C) j := fun t ht => by
    unfold gN
    rw [List.flatMap_cons]
    refine List.mem_append_left _ ?_
    simp only [hnw, Bool.false_eq_true, if_false]
    refine List.mem_append_left _ ?_
    have : t = 0 ∨ t = 1 ∨ t = 2 ∨ t = 3 := by omega
    rcases this with rfl | rfl | rfl | rfl <;> simp
   have hFin : isEff oj.op = true → ∀ id ∈ F, id ∈ gN ops nx wt ((i, F) :: C) j := fun he id hid => by
    unfold gN
    rw [List.flatMap_cons]
    refine List.mem_append_left _ ?_
    simp only [hnw, Bool.false_eq_true, if_false, hoj, Option.map_some, Option.getD_some, he, if_true]
    exact List.mem_append_right _ hid
   have hu : aS8 u (gN ops nx wt ((i, F) :: C) j) (nx + 4 * j) := fun p hp => by
    have := hy.new p hp
    exact ⟨by rw [this]; exact hin 0 (by omega), by omega⟩
   have h2 := aG0 (F := F) (av' := gN ops nx wt C j) hoj (hfree j oj hoj hji hjun hnot) hu (xI ops nx wt _ C j) (fun id hid => ⟨fun he => hFin he id hid, hy.live id hid⟩) (hf j hjun) h1
   have h3 := rT hf h2
   have hfree' : ∀ k ok, ops[k]? = some ok → k ≠ i → (listed.setIfInBounds j true).getD k true = false →
     (∀ e ∈ ok.after, Region.binds .any e = true → e.on ≠ i) → oi.apart ops ok = true := fun k ok hk hki hun hno => by
    refine hfree k ok hk hki ?_ hno
    by_cases hjk : j = k
    ·
     subst hjk; exact hjun
    ·
     rw [getD_set_ne true hjk] at hun; exact hun
   refine iC (fun x hx => hx) (fun fr' ob' hK => ?_) h3
   obtain ⟨⟨hK, hA, hev, hgd⟩, hf'⟩ := hK
   refine ih (listed.setIfInBounds j true) fr' ob' (hd.set hj) hf' hfree' (ready_mono hr (Ne.symm hji)) ⟨fun fr2 ob2 e1 e2 e3 K hK' => ?_, hy.new, fun id hid => ?_⟩ ?_
   ·
    exact hy.run fr2 ob2 (fun x hx => (e1 x hx).trans (hev x hx)) (e2.trans hgd) (fun id hid => (e3 id hid).trans (hA id hid)) K hK'
   ·
    rw [hA id hid]; exact hy.live id hid
   ·
    rw [Array.setIfInBounds_comm _ _ hji]
    exact hK

def lU (P : Program) (ops : Array Oper) (nx : Nat) (wt : Nat → Nat → Bool) (Q : Fr → Ob → Prop) : List Nat → iU → Fr → Ob → Prop
 | [], _, fr, ob => Q fr ob
 | i :: rest, C, fr, ob => dP P ops nx (gN ops nx wt C i) i (lU P ops nx wt Q rest (match ops[i]? with
   | some o => if isEff o.op = true then C else (i, if hguard ops o fr = some true then touch o.op (ev fr) else []) :: C
   | none => C)) fr ob

def iD (ops : Array Oper) : List Nat → Array Bool → Bool
 | [], listed => (Region.ready .any ops listed).isEmpty
 | i :: rest, listed =>
  (match ops[i]? with
   | some o => if isEff o.op then decide (Region.ready .any ops listed = [i]) else (Region.ready .any ops listed).contains i && Region.free .any ops listed i
   | none => false) && iD ops rest (listed.setIfInBounds i true)

theorem iV {P : Program} {ops : Array Oper} {nx : Nat} {wt : Nat → Nat → Bool} {Q : Fr → Ob → Prop} (hw : bE6 ops wt) : ∀ (plan : List Nat) (C : iU) (listed : Array Bool) (fr : Fr) (ob : Ob), iD ops plan listed = true → Down ops listed → Fresh nx listed ob →
  lU P ops nx wt Q plan C fr ob → tT P ops nx wt Q plan.length C listed fr ob
 | [], C, listed, fr, ob, hp, _, _, h => ⟨by simpa [iD] using hp, h⟩
 | i :: rest, C, listed, fr, ob, hp, hd, hf, h => by
  simp only [iD, Bool.and_eq_true] at hp
  obtain ⟨hp1, hp2⟩ := hp
  cases ho : ops[i]? with
  | none => rw [ho] at hp1; cases hp1
  | some o =>
   rw [ho] at hp1
   simp only at hp1
   have h' := rT hf h
   by_cases he : isEff o.op = true
   ·
    rw [if_pos he, decide_eq_true_eq] at hp1
    have hi : i ∈ Region.ready .any ops listed := by rw [hp1]; simp
    refine ⟨fun h0 => (by rw [hp1] at h0; cases h0), fun j hj => ?_⟩
    rw [hp1] at hj
    have hji : j = i := by simpa using hj
    subst hji
    refine iC (fun x hx => hx) (fun fr' ob' hK => ?_) h'
    obtain ⟨hK, hf'⟩ := hK
    simp only [ho, he, if_true] at hK
    exact iV hw rest C _ fr' ob' hp2 (hd.set hi) hf' hK
   ·
    rw [if_neg he, Bool.and_eq_true] at hp1
    have hi : i ∈ Region.ready .any ops listed := by simpa using hp1.1
    have hfree := Region.free_spec ho hp1.2
    have he' : isEff o.op = false := by simpa using he
    -- what it yields
    have hy : ∃ v u, Yld P ops nx (gN ops nx wt C i) i o fr ob v u (if hguard ops o fr = some true then touch o.op (ev fr) else []) ∧
      (lU P ops nx wt Q rest ((i, if hguard ops o fr = some true then touch o.op (ev fr) else []) :: C) (updo fr o.dst v) (app u ob) ∧ Fresh nx (listed.setIfInBounds i true) (app u ob)) := by
     unfold dP at h'
     rw [ho] at h'
     simp only [he', Bool.false_eq_true, if_false] at h'
     cases hg : hguard ops o fr with
     | none => rw [hg] at h'; exact h'.elim
     | some b =>
      rw [hg] at h'
      cases b with
      | false =>
       refine ⟨.tup [], none, ⟨fun fr2 ob2 e1 e2 e3 K hK => ?_, by simp, by simp⟩, ?_⟩
       ·
        unfold dP
        rw [ho]
        simp only [e2, hg]
        exact hK
       ·
        simpa [app] using h'
      | true =>
       simp only at h'
       unfold dZ at h'
       have hc : hcallOf o.op = none := by
        cases hop : o.op <;> simp only [hcallOf]
        rename_i c
        cases hcal : c.callee with
        | value f => rw [hop] at he'; simp only [isEff, hcal] at he'; cases he'
        | _ => rfl
       rw [hc] at h'
       simp only at h'
       obtain ⟨ht, h'⟩ := h'
       obtain ⟨v, u, hK, hform, hid⟩ := mT h'
       refine ⟨v, u, ⟨fun fr2 ob2 e1 e2 e3 K hK => ?_, fun p hp => ?_, fun id hid => ?_⟩, ?_⟩
       ·
        unfold dP
        rw [ho]
        simp only [e2, hg]
        refine oQ (e := ev fr) e1 ?_
        unfold dZ
        rw [hc]
        simp only [if_true] at e3 ⊢
        exact ⟨fun id hid => ⟨(ht id hid).1, by rw [e3 id hid]; exact (ht id hid).2⟩, hform ob2 e3 _ hK⟩
       ·
        rcases hid p hp with h1 | ⟨h1, _⟩
        ·
         exact h1
        ·
         rw [he'] at h1; cases h1
       ·
        simp only [if_true] at hid
        exact (ht id hid).2
       ·
        simpa [hg] using hK
    obtain ⟨v, u, hy, hK, hf'⟩ := hy
    exact aG1 ho hw rest.length listed fr ob hd hf hfree hi hy (iV hw rest _ _ _ _ hp2 (hd.set hi) hf' hK)
end Go.Hl

namespace Go.Hl
open Go

def Ctx.F (c : Ctx) : Fence := { Fence.wide with round := c.R }
theorem aX0 {P : Program} {c : Ctx} {n : Nat} {f : FuncId} {args : Array Value} {w : World} {R : Ending → World → Prop} (h : Calls P f args w R) : CallsIn c.F n P f args w R := by
 have h1 := (callsIn_wide (n := n)).2 h
 unfold Ctx.F
 cases c.R with
 | none => exact h1
 | some l => exact h1.inRound l

section
variable {P : Program} {c : Ctx} {M M' : Nat → Prop} {fr : Fr} {ob : Ob} {a : Act} {w : World} {ρ : Env}

theorem aX1 {a : Act} {d : Nat} {v : Value} (h : a.tmps.getD d undef = v) (hv : v ≠ undef) : a.tmps[d]? = some v := by
 rw [Array.getD_eq_getD_getElem?] at h
 cases hx : a.tmps[d]? with
 | none => rw [hx] at h; exact absurd h.symm hv
 | some x => rw [hx] at h; rw [← h]; rfl

theorem nO (h : RepA' c M fr ob a w ρ) {ops : Array Oper} {o : Oper} {b : Bool} (hg : hguard ops o fr = some b) : Region.wanted o (yielded ops a.tmps) = b := by
 unfold hguard at hg
 unfold Region.wanted
 split at hg
 ·
  rename_i hn; rw [hn]; cases hg; rfl
 ·
  rename_i j want hn
  rw [hn]
  split at hg
  ·
   rename_i d hd
   split at hg
   ·
    rename_i t ht
    cases hg
    have hr := h.f d (by rw [ht]; simp)
    rw [ht] at hr
    have := aX1 hr.bool (by simp [undef])
    simp only [yielded, hd, Option.bind_some, this]
    cases t <;> cases want <;> rfl
   ·
    rename_i l ht
    cases hg
    have hr := cL (h.f d (by rw [ht]; simp)) (by rw [ht]; rfl)
    rw [ht] at hr
    simp only [RepH, List.cons.injEq, and_true] at hr
    obtain ⟨⟨xs, hx, _⟩, _⟩ := hr
    have : yielded ops a.tmps j = none := by
     simp only [yielded, hd, Option.bind_some]
     rw [Array.getD_eq_getD_getElem?] at hx
     cases hq : a.tmps[d]? with
     | none => rfl
     | some y => rw [hq] at hx; simp only [Option.getD_some] at hx; rw [hx]
    simp only [this]
    rfl
   ·
    cases hg
  ·
   cases hg

theorem oR {w : World} {ρ : Env} {O : Nat → Prop} : ∀ {l l' : List HV} {xs ys : List Value}, RepHV w ρ O l xs → RepHV w ρ O l' ys → RepHV w ρ O (l ++ l') (xs ++ ys)
 | [], _, xs, ys, h, h' => by simp only [RepHV] at h; subst h; simpa using h'
 | v :: vs, l', xs, ys, h, h' => by
  rw [aX] at h
  obtain ⟨z, zs, rfl, h1, h2⟩ := h
  rw [List.cons_append, aX]
  exact ⟨z, zs ++ ys, rfl, h1, oR h2 h'⟩

theorem xJ (h : RepA' c M fr ob a w ρ) : ∀ (l : List Operand), (∀ x ∈ l, ev fr x ≠ .junk) → RepHV w ρ (Owned ρ c.X) (l.map fun x => (ev fr x).den) (l.map a.eval)
 | [], _ => by simp [RepHV]
 | x :: xs, hj => by
  simp only [List.map_cons, aX]
  exact ⟨_, _, rfl, HV.den_rep (h.ev x (hj _ (by simp))), xJ h xs (fun y hy => hj y (by simp [hy]))⟩

theorem aA9 {Q : Exit → Act → World → Prop} (h : RepA' c M fr ob a w ρ) {nid : Nat} (hnid : ∀ t, t < 4 → ¬ M (nid + t)) (hM : ∀ i, M i → M' i) (hM' : ∀ t, t < 4 → M' (nid + t)) {av : List Nat} {o : Oper} {K : HV → Ob → Prop}
  (hl : dZ P av nid o.op (ev fr) ob K) (hd : ∀ k, o.dst = some k → k < c.n) : o.wpIn c.F 0 P a w (fun a' w' => ∃ v ob', K v ob' ∧ RepA c M' (updo fr o.dst v) ob' a' w') Q := by
 unfold dZ at hl
 split at hl
 ·
  rename_i f xs hc
  obtain ⟨hj, hl⟩ := hl
  have hop : ∃ cl : Call, o.op = .call cl ∧ cl.callee = .value f ∧ cl.args.toList = xs := by
   unfold hcallOf at hc
   split at hc
   ·
    rename_i cl hcl
    split at hc
    ·
     rename_i g hg; cases hc; exact ⟨cl, hcl, hg, rfl⟩
    ·
     cases hc
   ·
    cases hc
  obtain ⟨cl, hocl, hcal, hargs⟩ := hop
  have hr := xJ h xs hj
  have hargs' : cl.args.map a.eval = (xs.map a.eval).toArray := by rw [← hargs, ← Array.toList_map, Array.toArray_toList]
  have fin : ∀ (g : FuncId) (first : Array Value) (caps : List Value) (extra : List HV), a.eval f = .func (.func g) #[] caps.toArray → RepHV w ρ (Owned ρ c.X) extra caps → HV.menL M extra → HCall P av g ((xs.map fun x => (ev fr x).den) ++ extra) ob nid K →
    o.wpIn c.F 0 P a w (fun a' w' => ∃ v ob', K v ob' ∧ RepA c M' (updo fr o.dst v) ob' a' w') Q := by
   intro g first caps extra hf hex _ hcallx
   have happ : RepHV w ρ (Owned ρ c.X) ((xs.map fun x => (ev fr x).den) ++ extra) (xs.map a.eval ++ caps) := oR hr hex
   obtain ⟨hok, hcalls⟩ := aF7 h hnid hM hM' happ hcallx o.dst hd
   refine ⟨fun _ _ => trivial, ?_⟩
   rw [Oper.semAt_eq _ _ _ (by rw [hocl]; intro c hc; cases hc)]
   have hnn : ∃ fn, P.funcs[g]? = some fn ∧ fn.name ≠ "runtime.NumGoroutine" := by
    unfold aW5 at hok
    cases hfn : P.funcs[g]? with
    | none => rw [hfn] at hok; cases hok
    | some fn =>
     rw [hfn] at hok
     exact ⟨fn, rfl, by simpa using hok⟩
   obtain ⟨fn, hfn, hnm⟩ := hnn
   rcases hcalls with ⟨hok, hcalls⟩ | ⟨_, y, hrn, hcalls⟩
   rotate_left
   ·
    obtain ⟨y', v, ob', ρ', e, hK, hA⟩ := hcalls
    cases e
    have hrun : (execOp a.eval o).run P w = .ok (.value y) w := by
     rw [← hrn]
     simp [execOp, hocl, resolve, hcal, hf, Deferred.ofValue, invoke, hargs']
    rw [hrun]
    exact ⟨v, ob', hK, ρ', hA⟩
   have hrun : (execOp a.eval o).run P w = .ok (.enter g (xs.map a.eval ++ caps).toArray) w := by
    unfold dM at hok
    cases hfn : P.funcs[g]? with
    | none => rw [hfn] at hok; cases hok
    | some fn =>
     rw [hfn] at hok
     simp only [Bool.and_eq_true, Bool.not_eq_true'] at hok
     have hb : fn.body ≠ none := by intro e; rw [e] at hok; simp at hok
     have hnm : fn.name ≠ "runtime.NumGoroutine" := by simpa using hok.2
     simp [execOp, hocl, resolve, hcal, hf, Deferred.ofValue, invoke, callFunc, hfn, hnm, hb, hargs']
   rw [hrun]
   simp only [Oper.uponIn]
   refine ⟨fun h => (by cases h), aX0 (hcalls.mono ?_)⟩
   rintro e w' ⟨y, v, ob', ρ', rfl, hK, hA⟩
   exact ⟨v, ob', hK, ρ', hA⟩
  split at hl
  ·
   rename_i g hf
   have hrf := h.ev f (by rw [hf]; simp)
   rw [hf] at hrf
   have := hrf.single rfl
   simp only [RepC, List.cons.injEq, and_true] at this
   exact fin g #[] [] [] this (by simp [RepHV]) (by simp [HV.menL]) (by simpa using hl)
  ·
   rename_i g caps hf
   have hrf := cL (h.ev f (by rw [hf]; simp)) (by rw [hf]; rfl)
   have hm := h.evm f
   rw [hf] at hrf hm
   simp only [RepH, List.cons.injEq, and_true, HV.men] at hrf hm
   obtain ⟨⟨ys, hy, hys⟩, _⟩ := hrf
   exact fin g #[] ys caps hy hys hm hl
  ·
   exact hl.elim
 ·
  obtain ⟨_, hl⟩ := hl
  have hnd : ∀ c, o.op ≠ .defer c := by
   intro cc hcc
   rw [hcc] at hl
   rcases hl with hl | ⟨id, hm, hl⟩ <;> exact hl
  rcases hl with hl | ⟨id, hm, hl⟩
  ·
   obtain ⟨y, w', ⟨v, ob', ρ', hK, hA⟩, hr⟩ := xD (M' := M') h (by simpa using hnid 0 (by omega)) hM (by simpa using hM' 0 (by omega)) hl hd
   refine ⟨fun _ _ => trivial, ?_⟩
   rw [Oper.semAt_eq _ _ _ hnd]
   rcases hr with hr | ⟨hr, rfl⟩
   ·
    rw [hr]; exact ⟨v, ob', hK, ρ', hA⟩
   ·
    rw [hr]; exact ⟨v, ob', hK, ρ', hA⟩
  ·
   obtain ⟨y, w', ⟨v, ob', ρ', ⟨n, el, sz, l, rfl, rfl, hn, hK⟩, hA⟩, hr⟩ := xD (M' := M') h (by simpa using hnid 0 (by omega)) hM (by simpa using hM' 0 (by omega)) hl hd
   obtain ⟨ρ2, hA2⟩ := hA.die hn
   refine ⟨fun _ _ => trivial, ?_⟩
   rw [Oper.semAt_eq _ _ _ hnd]
   rcases hr with hr | ⟨hr, rfl⟩
   ·
    rw [hr]; exact ⟨_, _, hK, ρ2, hA2⟩
   ·
    rw [hr]; exact ⟨_, _, hK, ρ2, hA2⟩
end
end Go.Hl
