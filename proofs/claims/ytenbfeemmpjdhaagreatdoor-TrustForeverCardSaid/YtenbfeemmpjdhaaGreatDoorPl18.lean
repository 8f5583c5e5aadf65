/- Digests, subjects, reports; how they lie as closed values. By an AI agent. -/
import Derived.Test.YtenbfeemmpjdhaaGreatDoorHlQ
import Derived.RangeFuncLeaves
import Derived.RangeFuncOwn
import Derived.IntWalk
set_option linter.unusedSimpArgs false
set_option linter.unusedVariables false
set_option linter.defProp false
namespace Go.Hl
open Go

def hres1 (P : Program) (fr : Fr) (ob : Ob) (r : ResultVar) (K : HV → Prop) : Prop :=
 match r with
 | .tmp t => fr t ≠ .junk ∧ K (fr t)
 | .cell t ty => hlift (tyOf P ty) fun ti => HO.isBox (match fr t with | .ptr id _ => ob id | _ => none) = true ∧ hload ti (fr t) ob K
def hresL (P : Program) (fr : Fr) (ob : Ob) : List ResultVar → (List HV → Prop) → Prop
 | [], K => K []
 | r :: rs, K => hres1 P fr ob r fun v => hresL P fr ob rs fun vs => K (v :: vs)
def tupOf (l : List HV) : HV := match l with | [v] => v | l => .tup l

def HRet (k : Nat) (r : HV) (ob : Ob) (R : HV → Ob → Prop) : Prop :=
 ∃ (cl : List Nat) (τ : Nat → Nat) (r' : HV) (ob' : Ob), R r' ob' ∧ (r.close ob cl).norm = r'.ren τ ∧ (∀ j, j < k → τ j = j) ∧ (∀ i j, i < k + 4 → j < k + 4 → τ i = τ j → i = j) ∧ r'.men (· < k + 4) ∧
  ∀ j o, ob' j = some o → j < k + 4 ∧ o.men (· < k + 4) ∧ τ j ∉ cl ∧ ∃ o0, ob (τ j) = some o0 ∧ (match o0 with | .box t v => HO.box t (v.close ob cl).norm | .row e sz l => .row e sz l | .mp e sz D => .mp e sz D | .dead => .dead | .tab T => .tab T) = o.ren τ

def hpost (P : Program) (rs : List ResultVar) (k : Nat) (R : HV → Ob → Prop) : HPost := fun e fr ob _ =>
 match e with
 | .normal | .ret => hresL P fr ob rs fun vs => HRet k (tupOf vs) ob R
 | _ => False

section
variable {P : Program} {c : Ctx} {M : Nat → Prop} {fr : Fr} {ob : Ob} {a : Act} {w : World} {ρ : Env}

def resOf (tm : Array Value) (r : ResultVar) : Sem Value :=
 match r with
 | .tmp t => pure (tm.getD t undef)
 | .cell ad t => do loadVar t (← asAddr (tm.getD ad undef))

theorem hres1_sound (h : RepA' c M fr ob a w ρ) {r : ResultVar} {K : HV → Prop} (hl : hres1 P fr ob r K) :
  ∃ v x, K v ∧ RepV w ρ (Owned ρ c.X) v x ∧ (resOf a.tmps r).run P w = .ok x w := by
 cases r with
 | tmp t => exact ⟨_, _, hl.2, h.f t hl.1, rfl⟩
 | cell ad t =>
  simp only [hres1] at hl
  rw [hlift_iff] at hl
  obtain ⟨ti, ht, hb, hl⟩ := hl
  obtain ⟨u, y, hK, hr, hv, _⟩ := load_sound (P := P) h ht (x := .tmp ad) hl
  refine ⟨u, y, hK, hv, ?_⟩
  have hp : ∃ p, a.tmps.getD ad undef = .pointer (some p) := by
   cases hf : fr ad with
   | ptr id off =>
    rw [hf] at hb
    obtain ⟨b, _, he⟩ := ptr_live (x := .tmp ad) h hf hb
    exact ⟨_, he⟩
   | _ => rw [hf] at hb; cases hb
  obtain ⟨p, hp⟩ := hp
  have hr' : (Instr.loadAt t (.pointer (some p))).run P w = .ok y w := by rw [← hp]; exact hr
  simp only [resOf, hp, asAddr, Sem.run_bind, Sem.run_pure, Result.andThen_ok]
  simpa [Instr.loadAt, Instr.sureAddr] using hr'

theorem hresL_sound (h : RepA' c M fr ob a w ρ) : ∀ {rs : List ResultVar} {K : List HV → Prop}, hresL P fr ob rs K →
  ∃ vs xs, K vs ∧ RepHV w ρ (Owned ρ c.X) vs xs ∧ (rs.mapM (resOf a.tmps)).run P w = .ok xs w
 | [], K, hl => ⟨[], [], hl, by simp [RepHV], by simp⟩
 | r :: rs, K, hl => by
  simp only [hresL] at hl
  obtain ⟨v, x, hK, hv, hr⟩ := hres1_sound h hl
  obtain ⟨vs, xs, hK2, hvs, hrs⟩ := hresL_sound h hK
  refine ⟨v :: vs, x :: xs, hK2, by rw [repHV_cons]; exact ⟨x, xs, rfl, hv, hvs⟩, ?_⟩
  simp only [List.mapM_cons, Sem.run_bind, hr, hrs, Result.andThen_ok, Sem.run_pure]

theorem tupOf_rep {w : World} {ρ : Env} {O : Nat → Prop} {vs : List HV} {xs : List Value} (h : RepHV w ρ O vs xs) : RepV w ρ O (tupOf vs) (if h : xs.toArray.size = 1 then xs.toArray[0] else .tuple xs.toArray) := by
 match vs, h with
 | [], h => simp only [RepHV] at h; subst h; exact ⟨by simp only [tupOf, RepH]; exact ⟨[], rfl, by simp [RepHV]⟩, rfl⟩
 | [v], h =>
  rw [repHV_cons] at h
  obtain ⟨y, ys, rfl, h1, h2⟩ := h
  simp only [RepHV] at h2
  subst h2
  simpa [tupOf] using h1
 | v :: u :: vs, h =>
  have hlen : ∀ {l : List HV} {xs : List Value}, RepHV w ρ O l xs → xs.length = l.length := by
   intro l
   induction l with
   | nil => intro xs h; simp only [RepHV] at h; simp [h]
   | cons x l ih => intro xs h; rw [repHV_cons] at h; obtain ⟨y, ys, rfl, _, h2⟩ := h; simp [ih h2]
  have hl := hlen h
  rw [dif_neg (by simp [hl])]
  exact ⟨by simp only [tupOf, RepH]; exact ⟨xs, rfl, h⟩, rfl⟩

theorem RepA'.turn {o' : Obj} {b : Nat} (h : RepA' c M fr ob a w ρ) (ha : a.defers = []) (hno : ∀ t, ¬ Own ρ t ∨ t ≠ b) (hnc : ¬ CellsAt w b) (hn : c.w0.heap.size ≤ b) : RepA' c M fr ob a (w.putObj b o') ρ := by
 have hother : ∀ t, t ≠ b → (w.putObj b o').heap[t]? = w.heap[t]? := fun t ht => World.putObj_heap_other ht
 have hst : Stay w (Owned ρ c.X) (w.putObj b o') (Owned ρ c.X) := ⟨fun t ht hO => ⟨hother t (fun e => hnc (e ▸ ht)), hO⟩⟩
 have hsz : (w.putObj b o').heap.size = w.heap.size := World.putObj_size
 refine ⟨⟨fun id x hx => ?_, h.s.none, h.s.apart, h.s.xb⟩, fun t ht => ⟨RepH.stay hst (Moves.refl M ρ) (h.mf t) (h.f t ht).1, (h.f t ht).2⟩, h.mf, h.mo, h.m0, ?_, h.moves, ?_, h.size, h.xlt⟩
 ·
  refine RepO.stay hst (Moves.refl M ρ) (h.mo id x hx).2 rfl (fun L t h1 h2 => hother t ?_) (h.s.objs id x hx)
  rcases hno t with h3 | h3
  ·
   exact absurd ⟨id, L, h1, h2⟩ h3
  ·
   exact h3
 ·
  exact ⟨fun t ht hO => by rw [hother t (by omega)]; exact h.base.block t ht hO, h.base.own, by rw [hsz]; exact h.base.size, h.base.os, h.base.tape, h.base.output⟩
 ·
  rw [ha]; exact DefOk.nil _ _ _
def shutAll (w : World) (Ds : List Nat) : World := Ds.foldl (fun w b => w.putObj b (.deferred none)) w
theorem RepA'.shut : ∀ (Ds : List Nat) {w : World}, RepA' c M fr ob a w ρ → a.defers = [] → Ds.Nodup → (∀ b ∈ Ds, c.w0.heap.size ≤ b ∧ w.heap[b]? = some (.deferred (some []))) → RepA' c M fr ob a (shutAll w Ds) ρ
 | [], _, h, _, _, _ => h
 | b :: Ds, w, h, ha, hn, hd => by
  obtain ⟨h1, h2⟩ := hd b List.mem_cons_self
  obtain ⟨n1, n2⟩ := List.nodup_cons.1 hn
  have hno : ∀ t, ¬ Own ρ t ∨ t ≠ b := fun t => by
   by_cases e : t = b
   ·
    subst e; exact .inl fun ho => own_cells h.s ho h2
   ·
    exact .inr e
  refine RepA'.shut Ds (h.turn ha hno (fun ⟨_, _, _, e⟩ => by rw [h2] at e; cases e) h1) ha n2 fun b' hb' => ⟨(hd b' (List.mem_cons_of_mem _ hb')).1, ?_⟩
  have hne : b' ≠ b := by rintro rfl; exact n1 hb'
  exact (World.putObj_heap_other hne).trans (hd b' (List.mem_cons_of_mem _ hb')).2
theorem leaves_marks {F : Fence} {n : Nat} {fn : Func} {tmps : Array Value} {R : Ending → World → Prop} : ∀ (Ds : List Nat) (w : World), Ds.Nodup → (∀ b ∈ Ds, w.heap[b]? = some (.deferred (some []))) →
  (∃ v, (results fn tmps).run P (shutAll w Ds) = .ok v (shutAll w Ds) ∧ R (.returned v) (shutAll w Ds)) → LeavesInM F n P fn tmps R (Ds.map fun b => { target := .collected b, args := #[] }) .returning w
 | [], w, _, _, h => h
 | b :: Ds, w, hn, hd, h => by
  obtain ⟨n1, n2⟩ := List.nodup_cons.1 hn
  refine ⟨by simp, .inl ⟨b, _, rfl, run_takeDeferred (hd b List.mem_cons_self), leaves_marks Ds _ n2 (fun b' hb' => ?_) h⟩⟩
  have hne : b' ≠ b := by rintro rfl; exact n1 hb'
  exact (World.putObj_heap_other hne).trans (hd b' (List.mem_cons_of_mem _ hb'))

theorem hfn_of_hw {f : FuncId} {fn : Func} {code : Code} {args : List HV} {k : Nat} {ob : Ob} {R : HV → Ob → Prop} (hf : P.funcs[f]? = some fn) (hb : fn.body = some code) (hok : callOk P f = true) (hloc : LocOk k args ob) (hn : args.length ≤ fn.ntmps)
  (h : Hw P fn.ntmps k code (hpost P fn.results.toList k R) (fun t => args.getD t .junk) ob k) : HFn P f args k ob R := by
 refine ⟨fnOk_of hok, fun w ρ X xs hS hA hX => Does.of hok ?_⟩
 have hlen : xs.length = args.length := by
  clear h hn hloc
  induction args generalizing xs with
  | nil => simp only [RepHV] at hA; simp [hA]
  | cons x l ih => rw [repHV_cons] at hA; obtain ⟨y, ys, rfl, _, h2⟩ := hA; simp [ih ys h2]
 refine callsIn_wide.1 (callsIn_of_wp_marks (F := Fence.wide) (n := 0) hf hb trivial ?_)
 let c : Ctx := { w0 := w, ρ0 := ρ, X := X, M0 := (· < k), n := fn.ntmps }
 have hget : ∀ (l : List HV) (ys : List Value) (t : Nat), RepHV w ρ (Owned ρ X) l ys → t < l.length → RepV w ρ (Owned ρ X) (l.getD t .junk) (ys.getD t undef) := by
  intro l
  induction l with
  | nil => intro ys t _ ht; simp at ht
  | cons x l ih =>
   intro ys t hl ht
   rw [repHV_cons] at hl
   obtain ⟨y, ys', rfl, h1, h2⟩ := hl
   cases t with
   | zero => simpa using h1
   | succ t => simpa using ih ys' t h2 (by simpa using ht)
 have hmen : ∀ (l : List HV) (t : Nat), HV.menL (· < k) l → (l.getD t .junk).men (· < k) := by
  intro l
  induction l with
  | nil => intro t _; simp [HV.men]
  | cons x l ih =>
   intro t hl
   simp only [HV.menL] at hl
   cases t with
   | zero => simpa using hl.1
   | succ t => simpa using ih t hl.2
 have h0 : RepA c (· < k) (fun t => args.getD t .junk) ob { tmps := xs.toArray ++ Array.replicate (fn.ntmps - xs.toArray.size) undef, defers := [] } w := by
  refine ⟨ρ, hS, fun t ht => ?_, fun t => hmen args t hloc.args, hloc.none, fun id hid => hid, Stay2.refl _ _, Moves.refl _ _, DefOk.nil _ _ _, by simp [c]; omega, hX⟩
  have htl : t < args.length := by
   rcases Nat.lt_or_ge t args.length with h' | h'
   ·
    exact h'
   ·
    exact absurd (by simp [List.getElem?_eq_none h']) ht
  have := hget args xs t hA htl
  have e : (xs.toArray ++ Array.replicate (fn.ntmps - xs.toArray.size) undef).getD t undef = xs.getD t undef := by
   rw [Array.getD_eq_getD_getElem?, Array.getElem?_append_left (by simp; omega)]
   simp
  rw [e]; exact this
 refine wpIn_mono (h c _ w rfl rfl (.inl ⟨rfl, rfl⟩) h0) ?_
 rintro e a1 w1 ⟨fr', ob', nx', hq, ρ', hA1⟩
 obtain ⟨⟨Ds, hD1, hD2, hD3⟩, _⟩ := hA1.defers
 have hA' : RepA' c (· < nx') fr' ob' { a1 with defers := [] } (shutAll w1 Ds) ρ' := RepA'.shut Ds ⟨hA1.s, hA1.f, hA1.mf, hA1.mo, hA1.m0, hA1.base, hA1.moves, DefOk.nil _ _ _, hA1.size, hA1.xlt⟩ rfl hD2 hD3
 have fin : hresL P fr' ob' fn.results.toList (fun vs => HRet k (tupOf vs) ob' R) → LeavesInM Fence.wide 0 P fn a1.tmps (fun e w' => ∃ r ob' ρ' x, e = .returned x ∧ R r ob' ∧ Gave w ρ X k r ob' w' ρ' x) a1.defers .returning w1 := by
  intro hq
  rw [hD1]
  refine leaves_marks Ds w1 hD2 (fun b hb => (hD3 b hb).2) ?_
  generalize shutAll w1 Ds = w' at hA'
  generalize ha' : ({ a1 with defers := [] } : Act) = a' at hA'
  have ht' : a1.tmps = a'.tmps := by rw [← ha']
  rw [ht']
  obtain ⟨vs, ys, ⟨cl, τ, r', ob2, hR, hr, ht1, ht2, hm, ho⟩, hvs, hrun⟩ := hresL_sound hA' hq
  refine ⟨(if h : ys.toArray.size = 1 then ys.toArray[0] else .tuple ys.toArray), ?_, r', ob2, ?_⟩
  ·
   unfold results
   rw [Array.mapM_eq_mapM_toList]
   simp only [Sem.run_bind, Sem.run_map]
   have : (fn.results.toList.mapM (fun r => match r with | .tmp t => pure (a'.tmps.getD t undef) | .cell ad t => do loadVar t (← asAddr (a'.tmps.getD ad undef)) : ResultVar → Sem Value)).run P w' = .ok ys w' := hrun
   erw [this]
   rfl
  ·
   let ρ2 : Env := fun id => match (if cl.contains id = true then none else ob' id) with | some _ => (if ∃ j, j < k + 4 ∧ τ j = id ∧ (ob2 j).isSome = true then ρ' id else none) | none => none
   have hρ2 : ∀ id L, ρ2 id = some L → ρ' id = some L := fun id L hL => by
    simp only [ρ2] at hL
    split at hL
    ·
     split at hL
     ·
      exact hL
     ·
      cases hL
    ·
     cases hL
   have hcl : ∀ id ∈ cl, ρ2 id = none := fun id hid => by
    have : cl.contains id = true := by simpa using hid
    simp only [ρ2, this, if_true]
   have hown : ∀ b, Own ρ2 b → Own ρ' b := fun b ⟨id, L, h1, h2⟩ => ⟨id, L, hρ2 id L h1, h2⟩
   have hst : Stay w' (Owned ρ' X) w' (Owned ρ2 X) := Stay.same (fun b _ hb => hb.imp id (hown b))
   have hval := tupOf_rep hvs
   have hc1 : RepV w' ρ2 (Owned ρ2 X) ((tupOf vs).close ob' cl).norm _ := ⟨HV.norm_rep (close_rep hA'.s hcl hρ2 hst hval.1), by rw [HV.norm_agg, HV.close_agg]; exact hval.2⟩
   rw [hr] at hc1
   -- the caller's view
   let ρ3 : Env := fun j => match ob2 j with | some _ => ρ2 (τ j) | none => none
   have h23 : ∀ j, j < k + 4 → (ob2 j).isSome = true → ρ2 (τ j) = ρ' (τ j) := fun j hj hs => by
    obtain ⟨o, ho'⟩ := Option.isSome_iff_exists.1 hs
    obtain ⟨_, _, hncl, o0, ho0, _⟩ := ho j o ho'
    have hn : cl.contains (τ j) = false := by simpa using hncl
    simp only [ρ2, hn, ho0, Bool.false_eq_true, if_false]
    rw [if_pos ⟨j, hj, rfl, hs⟩]
   have hρ3 : ∀ j L, ρ3 j = some L → j < k + 4 ∧ ρ' (τ j) = some L ∧ (ob2 j).isSome = true := fun j L hL => by
    simp only [ρ3] at hL
    split at hL
    ·
     rename_i o ho'
     exact ⟨(ho j o ho').1, hρ2 _ _ hL, by rw [ho']; rfl⟩
    ·
     cases hL
   have hown3 : ∀ b, Own ρ3 b ↔ Own ρ2 b := by
    intro b
    constructor
    ·
     rintro ⟨j, L, h1, h2⟩
     simp only [ρ3] at h1
     split at h1
     ·
      exact ⟨_, L, h1, h2⟩
     ·
      cases h1
    ·
     rintro ⟨id, L, h1, h2⟩
     have h1' := h1
     simp only [ρ2] at h1
     split at h1
     ·
      split at h1
      ·
       rename_i hex
       obtain ⟨j, hj, rfl, hs⟩ := hex
       obtain ⟨o, ho'⟩ := Option.isSome_iff_exists.1 hs
       exact ⟨j, L, by simp only [ρ3, ho']; exact h1', h2⟩
      ·
       cases h1
     ·
      cases h1
   have hst3 : Stay w' (Owned ρ2 X) w' (Owned ρ3 X) := Stay.same (fun b _ hb => hb.imp id (hown3 b).1)
   have hmv3 : Moves (· < k + 4) (fun i => ρ2 (τ i)) ρ3 := fun id L _ hL => by
    simp only [ρ3] at hL
    split at hL
    ·
     exact ⟨L, hL, .inl rfl⟩
    ·
     cases hL
   refine ⟨ρ3, _, rfl, hR, ⟨RepH.stay hst3 hmv3 hm (repH_ren.1 hc1.1), by rw [← hc1.2, HV.ren_isAgg]⟩, ⟨fun j o hj => ?_, fun j hj => ?_, fun i j L L' b h1 h2 h3 h4 => ?_, fun j L b h1 h2 => ?_⟩, hm, fun j o hj => ⟨(ho j o hj).1, (ho j o hj).2.1⟩, ?_, ?_⟩
   ·
    obtain ⟨hj4, hom, hncl, o0, ho0, hren⟩ := ho j o hj
    have h5 := h23 j hj4 (by rw [hj]; rfl)
    have h6 : ρ3 j = ρ2 (τ j) := by simp only [ρ3, hj]
    have hobj := hA'.s.objs _ _ ho0
    have : RepO w' ρ2 (Owned ρ2 X) (τ j) (o.ren τ) := by
     rw [← hren]
     cases o0 with
     | box t v =>
      obtain ⟨b, cs, e1, e2, e3⟩ := hobj
      exact ⟨b, cs, by rw [h5]; exact e1, e2, HV.norm_rep (close_rep hA'.s hcl hρ2 hst e3)⟩
     | row e sz l =>
      obtain ⟨hd, xs, e1, e2, e3, e4⟩ := hobj
      exact ⟨hd, xs, by rw [h5]; exact e1, e2.stay hst, e3, e4⟩
     | mp e sz D =>
      obtain ⟨b, hf, e1, e2⟩ := hobj
      exact ⟨b, hf, by rw [h5]; exact e1, e2.stay hst rfl (fun _ _ _ _ _ => rfl)⟩
     | dead => exact h5.trans hobj
     | tab T => exact ⟨h5.trans hobj.1, tab_stay hst hobj.2⟩
    exact RepO.sub hst3 hmv3 hom h6 this
   ·
    simp only [ρ3, hj]
   ·
    obtain ⟨g1, g2, _⟩ := hρ3 i L h1
    obtain ⟨g3, g4, _⟩ := hρ3 j L' h2
    exact ht2 i j g1 g3 (hA'.s.apart _ _ L L' b g2 g4 h3 h4)
   ·
    obtain ⟨g1, g2, _⟩ := hρ3 j L h1
    exact hA'.s.xb _ L b g2 h2
   ·
    refine ⟨hA'.base.block, fun b hb => hA'.base.own b (hown b ((hown3 b).1 hb)), hA'.base.size, hA'.base.os, hA'.base.tape, hA'.base.output⟩
   ·
    intro j L' hj hL
    obtain ⟨g1, g2, _⟩ := hρ3 j L' hL
    rw [ht1 j hj] at g2
    exact hA'.moves j L' hj g2
 cases e with
 | normal => exact fin hq
 | ret => exact fin hq
 | _ => exact hq.elim
end
end Go.Hl

namespace Go.Hl
open Go

def fin : List (Nat × HV) → Fr
 | [] => fun _ => .junk
 | (t, v) :: l => upd (fin l) t v
def fob : List (Nat × HO) → Ob
 | [] => fun _ => none
 | (t, v) :: l => upd (fob l) t (some v)
def FinOk (nx : Nat) (fr : Fr) : List (Nat × HV) → Prop
 | [] => True
 | (t, v) :: l => fr t = v ∧ v.men (· < nx) ∧ FinOk nx fr l
def FobOk (nx : Nat) (ob : Ob) : List (Nat × HO) → Prop
 | [] => True
 | (t, v) :: l => ob t = some v ∧ t < nx ∧ v.men (· < nx) ∧ FobOk nx ob l

theorem finOk_eq {nx : Nat} {fr : Fr} : ∀ {l : List (Nat × HV)}, FinOk nx fr l → ∀ t, (fin l t = .junk ∨ fin l t = fr t) ∧ (fin l t).men (· < nx)
 | [], _, t => ⟨.inl rfl, by simp [fin, HV.men]⟩
 | (t', v) :: l, h, t => by
  simp only [FinOk] at h
  by_cases ht : t = t'
  ·
   subst ht
   simp only [fin, upd_same]
   exact ⟨.inr h.1.symm, h.2.1⟩
  ·
   simp only [fin, upd_ne _ _ ht]
   exact finOk_eq h.2.2 t
theorem fobOk_eq {nx : Nat} {ob : Ob} : ∀ {l : List (Nat × HO)}, FobOk nx ob l → ∀ t o, fob l t = some o → ob t = some o ∧ t < nx ∧ o.men (· < nx)
 | [], _, t, o, ho => by simp [fob] at ho
 | (t', v) :: l, h, t, o, ho => by
  simp only [FobOk] at h
  by_cases ht : t = t'
  ·
   subst ht
   simp only [fob, upd_same, Option.some.injEq] at ho
   subst ho
   exact ⟨h.1, h.2.1, h.2.2.1⟩
  ·
   simp only [fob, upd_ne _ _ ht] at ho
   exact fobOk_eq h.2.2.2 t o ho

theorem fits_fin {k nx2 : Nat} {fr : Fr} {ob : Ob} {l : List (Nat × HV)} {h : List (Nat × HO)} (hk : k ≤ nx2) (h1 : FinOk nx2 fr l) (h2 : FobOk nx2 ob h) : Fits k fr ob (fin l) (fob h) nx2 :=
 ⟨fun t => (finOk_eq h1 t).1, fun id o ho => (fobOk_eq h2 id o ho).1, fun t => (finOk_eq h1 t).2, fun id o ho => (fobOk_eq h2 id o ho).2, hk⟩

theorem upd_at {α : Type} (f : Nat → α) (d : Nat) (v : α) (t : Nat) : upd f d v t = if t = d then v else f t := rfl
theorem fin_at (t : Nat) (v : HV) (l : List (Nat × HV)) (t' : Nat) : fin ((t, v) :: l) t' = if t' = t then v else fin l t' := rfl
theorem fin_nil (t : Nat) : fin [] t = .junk := rfl
theorem fob_at (t : Nat) (v : HO) (l : List (Nat × HO)) (t' : Nat) : fob ((t, v) :: l) t' = if t' = t then some v else fob l t' := rfl
theorem fob_nil (t : Nat) : fob [] t = none := rfl
theorem nth_map {α : Type} {f : α → CV} {l : List α} {i : Nat} (h : i < l.length) : nth (l.map f) i = f l[i] := by simp [nth, h]

theorem hopI_quiet {P : Program} {ops : Array Oper} {nx i : Nat} {av : List Nat} {fr : Fr} {ob : Ob} {K K' : Fr → Ob → Prop} (hq : ops.all (fun o => isQuiet o.op) = true) (hav : ∀ id ∈ av, ob id = none) (hK : ∀ fr', K fr' ob → K' fr' ob)
  (h : hopI P ops nx [] i K fr ob) : hopI P ops nx av i K' fr ob := by
 unfold hopI at h ⊢
 cases ho : ops[i]? with
 | none => rw [ho] at h; exact h
 | some o =>
  rw [ho] at h
  simp only at h ⊢
  have hqo : isQuiet o.op = true := Array.all_eq_true_iff_forall_mem.1 hq o (Array.mem_of_getElem? ho)
  have hc : hcallOf o.op = none := by
   cases hop' : o.op <;> simp only [hcallOf]
   rename_i c
   rw [hop'] at hqo
   cases hcc : c.callee <;> simp_all [isQuiet]
  cases hg : hguard ops o fr with
  | none => rw [hg] at h; exact h
  | some b =>
   rw [hg] at h
   cases b with
   | false => exact hK _ h
   | true =>
    simp only [hstep, hc] at h ⊢
    refine ⟨fun id hid => ⟨fun hin => ?_, (h.1 id hid).2⟩, ?_⟩
    ·
     have := (h.1 id hid).2
     rw [hav id hin] at this; cases this
    ·
     obtain ⟨v, u, h1, h2, h3, h4⟩ := hop_form2 h.2
     have hu := h4 hqo
     subst hu
     exact h2 ob (fun _ _ => rfl) _ (hK _ h1)

theorem hlex_walk {P : Program} {ops : Array Oper} {nx : Nat} {wt : Nat → Nat → Bool} {Q : Fr → Ob → Prop} {ob : Ob} (hq : ops.all (fun o => isQuiet o.op) = true) (hf : ∀ id, nx ≤ id → ob id = none) :
  ∀ (l : List Nat) (C : Pend) (fr : Fr), hlex P ops nx Q l fr ob → hwalkG P ops nx wt Q l C fr ob
 | [], C, fr, h => h
 | i :: l, C, fr, h => by
  simp only [hlex, hwalkG] at h ⊢
  have hi : isEff (ops.getD i default).op = false ∨ ops[i]? = none := by
   cases ho : ops[i]? with
   | none => exact .inr rfl
   | some o =>
    left
    have hqo : isQuiet o.op = true := Array.all_eq_true_iff_forall_mem.1 hq o (Array.mem_of_getElem? ho)
    have : ops.getD i default = o := by simp [Array.getD_eq_getD_getElem?, ho]
    rw [this]
    cases hop' : o.op <;> simp only [isEff] <;> rw [hop'] at hqo <;> simp [isQuiet] at hqo
    rename_i c
    cases hcc : c.callee <;> simp_all [isEff]
    rename_i b
    cases b <;> simp_all
  refine hopI_G (fun _ _ h => h) (hopI_quiet hq (fun id hid => hf id ?_) (fun fr' hK => hlex_walk hq hf l _ fr' hK) h)
  simp only [avoid, List.mem_flatMap] at hid
  obtain ⟨p, _, hp⟩ := hid
  split at hp
  ·
   simp at hp
  ·
   have : ((ops[i]?).map (fun o => isEff o.op)).getD true = true → ops[i]? = none := by
    intro he
    rcases hi with hi | hi
    ·
     cases ho : ops[i]? with
     | none => rfl
     | some o =>
      have : ops.getD i default = o := by simp [Array.getD_eq_getD_getElem?, ho]
      rw [this] at hi
      rw [ho] at he
      simp [hi] at he
    ·
     exact hi
   rcases List.mem_append.1 hp with hp | hp
   ·
    simp only [List.mem_cons, List.not_mem_nil, or_false] at hp
    omega
   ·
    split at hp
    ·
     rename_i he
     rw [hopI, this he] at h
     exact h.elim
    ·
     simp at hp

theorem hw_quiet {P : Program} {n k : Nat} {Q : HPost} {fr : Fr} {ob : Ob} {nx id : Nat} {ops : Array Oper} (hm : P.follows .mixedOrders = true) (hd : dstOk n ops = true) (hp : planOk ops (List.range ops.size) (Array.replicate ops.size false) = true) (hq : ops.all (fun o => isQuiet o.op) = true)
  (h : hlex P ops nx (fun fr' ob' => Q .normal fr' ob' (nx + 4 * ops.size)) (List.range ops.size) fr ob) : Hw P n k (.region id ops true) Q fr ob nx := by
 intro c a w hn hk hz hA
 have hf : ∀ id, nx ≤ id → ob id = none := fun id hid => by
  obtain ⟨ρ, hA'⟩ := hA
  exact (hA'.nid_none (nid := id) (by omega)).1
 exact hw_draw hm (List.range ops.size) [] hd hp rfl rfl (by simp) (hlex_walk hq hf _ _ _ h) c a w hn hk hz hA

def none0 : Ob := fun _ => none
theorem none0_at (t : Nat) : none0 t = none := rfl
def HPure (P : Program) (f : FuncId) (args : List CV) (R : CV → Prop) : Prop :=
 HFn P f (args.map .c) 0 none0 (fun r ob' => ∃ v, r = .c v ∧ R v ∧ ob' = none0)

theorem hret_pure {ob : Ob} {r : HV} {R : CV → Prop} (cl : List Nat) (v : CV) (h : (r.close ob cl).norm = .c v) (hR : R v) : HRet 0 r ob (fun r ob' => ∃ v, r = .c v ∧ R v ∧ ob' = none0) :=
 ⟨cl, id, .c v, none0, ⟨v, rfl, hR, rfl⟩, by rw [h]; rfl, fun _ h => by omega, fun _ _ _ _ h => h, by simp [HV.men], fun j o h => by simp [none0] at h⟩

theorem obAfter_nil {ob : Ob} {nid : Nat} (h : ∀ i, nid ≤ i → i < nid + 4 → ob i = none) : obAfter ob [] nid none0 = ob := by
 funext id
 simp only [obAfter, List.findIdx?_nil, none0, Option.map_none]
 split
 ·
  rename_i h'; exact (h id h'.1 h'.2).symm
 ·
  rfl

theorem locOk_nil (args : List CV) : LocOk 0 (args.map .c) none0 := ⟨fun j h => by omega, fun id o h => by simp [none0] at h, HV.menL_c⟩

def finA : Nat → List HV → Fr
 | _, [] => fun _ => .junk
 | k, v :: l => upd (finA (k + 1) l) k v
theorem finA_at (k : Nat) (v : HV) (l : List HV) (t : Nat) : finA k (v :: l) t = if t = k then v else finA (k + 1) l t := rfl
theorem finA_nil (k t : Nat) : finA k [] t = .junk := rfl
theorem finA_eq : ∀ (l : List HV) (k t : Nat), finA k l t = if t < k then .junk else l.getD (t - k) .junk
 | [], k, t => by simp [finA]
 | v :: l, k, t => by
  by_cases h : t = k
  ·
   subst h; simp [finA, upd_same]
  ·
   simp only [finA, upd_ne _ _ h, finA_eq l (k + 1) t]
   rcases Nat.lt_or_ge t k with h1 | h1
   ·
    rw [if_pos (by omega), if_pos h1]
   ·
    rw [if_neg (by omega), if_neg (by omega), show t - k = (t - (k + 1)) + 1 from by omega]
    simp
theorem hfn_walk {P : Program} {f : FuncId} {fn : Func} {code : Code} {args : List HV} {k : Nat} {ob : Ob} {R : HV → Ob → Prop} (hf : P.funcs[f]? = some fn) (hb : fn.body = some code) (hok : callOk P f = true) (hloc : LocOk k args ob) (hn : args.length ≤ fn.ntmps)
  (h : Hw P fn.ntmps k code (hpost P fn.results.toList k R) (finA 0 args) ob k) : HFn P f args k ob R := by
 refine hfn_of_hw hf hb hok hloc hn ?_
 have : (fun t => args.getD t HV.junk) = finA 0 args := by funext t; simp [finA_eq]
 rw [this]; exact h
end Go.Hl

namespace Go.Hl
open Go

section
variable {P : Program} {n k : Nat} {Q : HPost} {fr : Fr} {ob : Ob} {nx : Nat}

def HO.close (ob : Ob) (cl : List Nat) : HO → HO
 | .box t v => .box t (v.close ob cl).norm
 | .row e sz l => .row e sz l
 | .mp e sz D => .mp e sz D
 | .dead => .dead
 | .tab T => .tab T
def clF (ob : Ob) (cl : List Nat) (fr : Fr) : Fr := fun t => ((fr t).close ob cl).norm
def clO (ob : Ob) (cl : List Nat) : Ob := fun id => if cl.contains id = true then none else (ob id).map (HO.close ob cl)
theorem clF_at (cl : List Nat) (t : Nat) : clF ob cl fr t = ((fr t).close ob cl).norm := rfl
theorem clO_at (cl : List Nat) (id : Nat) : clO ob cl id = if cl.contains id = true then none else (ob id).map (HO.close ob cl) := rfl

mutual
theorem HV.close_men {cl : List Nat} {M : Nat → Prop} : ∀ {v : HV}, v.men M → (v.close ob cl).men M
 | .junk, h => h
 | .c _, _ => by simp [HV.close, HV.men]
 | .agg l, h => by simp only [HV.close, HV.men] at h ⊢; exact HV.closeL_men h
 | .own id n, h => by
  simp only [HV.close]
  split
  ·
   split
   ·
    split
    ·
     simp [HV.men]
    ·
     exact h
   ·
    exact h
  ·
   exact h
 | .ptr .., h => h
 | .eptr .., h => h
 | .osl id n lo sz hi, h => by
  simp only [HV.close]
  split
  ·
   split
   ·
    split
    ·
     simp [HV.men]
    ·
     exact h
   ·
    exact h
  ·
   exact h
 | .mapr .., h => h
 | .mrow .., h => h
 | .clo .., h => h
 | .opq _, h => h
 | .tup l, h => by simp only [HV.close, HV.men] at h ⊢; exact HV.closeL_men h
theorem HV.closeL_men {cl : List Nat} {M : Nat → Prop} : ∀ {l : List HV}, HV.menL M l → HV.menL M (HV.closeL ob cl l)
 | [], h => by simp [HV.closeL, HV.menL]
 | v :: l, h => by simp only [HV.closeL, HV.menL] at h ⊢; exact ⟨HV.norm_men (HV.close_men h.1), HV.closeL_men h.2⟩
end

theorem HV.close_junk {cl : List Nat} {v : HV} (h : (v.close ob cl).norm ≠ .junk) : v ≠ .junk := by
 intro e; subst e; exact h rfl

theorem hw_close {code : Code} (cl : List Nat) (h : Hw P n k code Q (clF ob cl fr) (clO ob cl) nx) : Hw P n k code Q fr ob nx := by
 intro c a w hn hk hz hA
 refine h c a w hn hk hz ?_
 obtain ⟨ρ, h⟩ := hA
 let ρ2 : Env := fun id => if cl.contains id = true then none else ρ id
 have hρ2 : ∀ id L, ρ2 id = some L → ρ id = some L := fun id L hL => by
  simp only [ρ2] at hL
  split at hL
  ·
   cases hL
  ·
   exact hL
 have hcl : ∀ id ∈ cl, ρ2 id = none := fun id hid => by
  have : cl.contains id = true := by simpa using hid
  simp only [ρ2, this, if_true]
 have hown : ∀ b, Own ρ2 b → Own ρ b := fun b ⟨id, L, h1, h2⟩ => ⟨id, L, hρ2 id L h1, h2⟩
 have hst : Stay w (Owned ρ c.X) w (Owned ρ2 c.X) := Stay.same (fun b _ hb => hb.imp id (hown b))
 refine ⟨ρ2, ⟨fun id o ho => ?_, fun id hid => ?_, fun id id' L L' b h1 h2 h3 h4 => h.s.apart id id' L L' b (hρ2 _ _ h1) (hρ2 _ _ h2) h3 h4, fun id L b h1 h2 => h.s.xb id L b (hρ2 _ _ h1) h2⟩, fun t ht => ?_, fun t => HV.norm_men (HV.close_men (h.mf t)), fun id o ho => ?_, h.m0, ?_, ?_, h.defers, h.size, h.xlt⟩
 ·
  simp only [clO] at ho
  split at ho
  ·
   cases ho
  ·
   rename_i hc
   obtain ⟨o', ho', rfl⟩ := Option.map_eq_some_iff.1 ho
   have hid : ρ2 id = ρ id := by simp only [ρ2, hc]; rfl
   have hobj := h.s.objs id o' ho'
   cases o' with
   | box t v =>
    obtain ⟨b, cs, e1, e2, e3⟩ := hobj
    exact ⟨b, cs, by rw [hid]; exact e1, e2, HV.norm_rep (close_rep h.s hcl hρ2 hst e3)⟩
   | row e sz l =>
    obtain ⟨hd, xs, e1, e2, e3, e4⟩ := hobj
    exact ⟨hd, xs, by rw [hid]; exact e1, e2.stay hst, e3, e4⟩
   | mp e sz D =>
    obtain ⟨b, hf, e1, e2⟩ := hobj
    exact ⟨b, hf, by rw [hid]; exact e1, e2.stay hst rfl (fun _ _ _ _ _ => rfl)⟩
   | dead => exact hid.trans hobj
   | tab T => exact ⟨hid.trans hobj.1, tab_stay hst hobj.2⟩
 ·
  simp only [clO] at hid
  simp only [ρ2]
  split
  ·
   rfl
  ·
   rename_i hc
   rw [if_neg hc, Option.map_eq_none_iff] at hid
   exact h.s.none id hid
 ·
  have := h.f t (HV.close_junk ht)
  exact ⟨HV.norm_rep (close_rep h.s hcl hρ2 hst this.1), by rw [clF, HV.norm_agg, HV.close_agg]; exact this.2⟩
 ·
  simp only [clO] at ho
  split at ho
  ·
   cases ho
  ·
   obtain ⟨o', ho', rfl⟩ := Option.map_eq_some_iff.1 ho
   obtain ⟨m1, m2⟩ := h.mo id o' ho'
   refine ⟨m1, ?_⟩
   cases o' with
   | box t v => exact HV.norm_men (HV.close_men m2)
   | row e sz l => trivial
   | mp e sz D => trivial
   | dead => trivial
   | tab _ => trivial
 ·
  exact h.base.trans ⟨fun _ _ _ => rfl, fun b hb => .inl (hown b hb), Nat.le_refl _, rfl, rfl, rfl⟩
 ·
  exact Moves.trans (fun _ h => h) h.moves (fun id L _ hL => ⟨L, hρ2 id L hL, .inl rfl⟩)

theorem ownsRow_nil {w : World} {e sz : Nat} : w.ownsRow 0 e sz (.slice none 0 0) 0 [] := by
 refine ⟨by simp, .inl ⟨rfl, rfl⟩⟩

theorem RepA'.emptyRow {c : Ctx} {M M' : Nat → Prop} {a : Act} {w : World} {ρ : Env} (h : RepA' c M fr ob a w ρ) {id e sz : Nat} (hn : ¬ M id) (hM : ∀ i, M i → M' i) (hM' : M' id) :
  RepA' c M' fr (upd ob id (some (.row e sz []))) a w (upd ρ id (some (.hdr (.slice none 0 0)))) := by
 obtain ⟨hob, hρ⟩ := h.nid_none hn
 have hown : ∀ b, Own (upd ρ id (some (.hdr (.slice none 0 0)))) b → Own ρ b := by
  rintro b ⟨i, L, h1, h2⟩
  by_cases e : i = id
  ·
   subst e; rw [upd_same] at h1; cases h1; cases h2
  ·
   rw [upd_ne _ _ e] at h1; exact ⟨i, L, h1, h2⟩
 have hst : Stay w (Owned ρ c.X) w (Owned (upd ρ id (some (.hdr (.slice none 0 0)))) c.X) := Stay.same (fun b _ hb => hb.imp (fun x => x) (hown b))
 have hmv : Moves M ρ (upd ρ id (some (.hdr (.slice none 0 0)))) := Moves.upd_new hn
 refine ⟨⟨fun i o ho => ?_, fun i hi => ?_, fun i i' L L' b h1 h2 h3 h4 => ?_, fun i L b h1 h2 => ?_⟩, fun t ht => ⟨RepH.stay hst hmv (h.mf t) (h.f t ht).1, (h.f t ht).2⟩, fun t => HV.men_mono hM (h.mf t), fun i o ho => ?_, fun i hi => hM i (h.m0 i hi), ?_, ?_, h.defers, h.size, h.xlt⟩
 ·
  by_cases e' : i = id
  ·
   subst e'
   rw [upd_same] at ho
   cases ho
   exact ⟨.slice none 0 0, [], upd_same _ _ _, by simp [RepL], by simp, ownsRow_nil⟩
  ·
   rw [upd_ne _ _ e'] at ho
   exact RepO.stay hst hmv (h.mo i o ho).2 (upd_ne _ _ e') (fun _ _ _ _ => rfl) (h.s.objs i o ho)
 ·
  by_cases e' : i = id
  ·
   subst e'; rw [upd_same] at hi; cases hi
  ·
   rw [upd_ne _ _ e'] at hi ⊢; exact h.s.none i hi
 ·
  by_cases e1 : i = id
  ·
   subst e1; rw [upd_same] at h1; cases h1; cases h3
  ·
   by_cases e2 : i' = id
   ·
    subst e2; rw [upd_same] at h2; cases h2; cases h4
   ·
    rw [upd_ne _ _ e1] at h1; rw [upd_ne _ _ e2] at h2
    exact h.s.apart i i' L L' b h1 h2 h3 h4
 ·
  by_cases e1 : i = id
  ·
   subst e1; rw [upd_same] at h1; cases h1; cases h2
  ·
   rw [upd_ne _ _ e1] at h1; exact h.s.xb i L b h1 h2
 ·
  by_cases e' : i = id
  ·
   subst e'; rw [upd_same] at ho; cases ho; exact ⟨hM', trivial⟩
  ·
   rw [upd_ne _ _ e'] at ho
   exact ⟨hM _ (h.mo i o ho).1, HO.men_mono hM (h.mo i o ho).2⟩
 ·
  exact h.base.trans ⟨fun _ _ _ => rfl, fun b hb => .inl (hown b hb), Nat.le_refl _, rfl, rfl, rfl⟩
 ·
  exact Moves.trans h.m0 h.moves hmv

theorem nil_to_own {w : World} {ρ : Env} {O : Nat → Prop} {v v' : HV} {off id : Nat} {cs : List Value} (hg : HV.getAt off 1 false v = some (.c .nils)) (hs : v.sto = true) (hv : HV.setAt off 1 (.own id 0) v = some v') (hρ : ρ id = some (.hdr (.slice none 0 0)))
  (h : RepH w ρ O v cs) : RepH w ρ O v' cs := by
 obtain ⟨c1, c2, c3, e0, e1, e2, e3, _⟩ := HV.getAt_spec hg hs h
 obtain ⟨d1, d2, d3, f0, f1, f2, f3, _⟩ := HV.setAt_spec (x := .own id 0) rfl hv hs h
 have : c1 = d1 ∧ c2 ++ c3 = d2 ++ d3 := by
  have := e0.symm.trans f0
  rw [List.append_assoc, List.append_assoc] at this
  exact List.append_inj this (by omega)
 obtain ⟨rfl, h23⟩ := this
 have h23 := List.append_inj h23 (by omega)
 obtain ⟨rfl, rfl⟩ := h23
 rw [e0]
 refine f3 c2 ?_
 simp only [RepH, RepC] at e3 ⊢
 refine ⟨_, e3, rfl, fun hd hh => ?_⟩
 rw [hρ] at hh
 cases hh
 exact ⟨Nat.le_refl _, fun _ => rfl⟩

theorem hw_own {code : Code} (t off e sz : Nat) {v' : HV} (hg : HV.getAt off 1 false (fr t) = some (.c .nils)) (hs : (fr t).sto = true) (hv : HV.setAt off 1 (.own nx 0) (fr t) = some v') (ha : v'.isAgg = (fr t).isAgg)
  (h : Hw P n k code Q (upd fr t v') (upd ob nx (some (.row e sz []))) (nx + 1)) : Hw P n k code Q fr ob nx := by
 intro c a w hn hk hz hA
 refine h c a w hn hk hz ?_
 obtain ⟨ρ, hA⟩ := hA
 have hA' := hA.emptyRow (M' := (· < nx + 1)) (id := nx) (e := e) (sz := sz) (by omega) (fun i hi => by omega) (by omega)
 refine ⟨_, hA'.s, fun t' ht' => ?_, fun t' => ?_, hA'.mo, hA'.m0, hA'.base, hA'.moves, hA'.defers, hA'.size, hA'.xlt⟩
 ·
  by_cases e' : t' = t
  ·
   subst e'
   rw [upd_same]
   have hj : fr t' ≠ .junk := by intro e'; rw [e'] at hs; simp [HV.sto] at hs
   have hf := hA'.f t' hj
   have hr := nil_to_own hg hs hv (upd_same _ _ _) hf.1
   exact ⟨hr, by rw [ha]; exact hf.2⟩
  ·
   rw [upd_ne _ _ e'] at ht' ⊢
   exact hA'.f t' ht'
 ·
  by_cases e' : t' = t
  ·
   subst e'
   rw [upd_same]
   have hj : fr t' ≠ .junk := by intro e'; rw [e'] at hs; simp [HV.sto] at hs
   obtain ⟨d1, d2, d3, f0, f1, f2, f3, f4, f5⟩ := HV.setAt_spec (x := .own nx 0) rfl hv hs (hA'.f t' hj).1
   exact f5 _ (by simp [HV.men]) (hA'.mf t')
  ·
   rw [upd_ne _ _ e']; exact hA'.mf t'
theorem hw_ownb {code : Code} (id off e sz : Nat) {T : TypeId} {v v' : HV} (hb : ob id = some (.box T v)) (hg : HV.getAt off 1 false v = some (.c .nils)) (hs : v.sto = true) (hv : HV.setAt off 1 (.own nx 0) v = some v')
  (h : Hw P n k code Q fr (upd (upd ob nx (some (.row e sz []))) id (some (.box T v'))) (nx + 1)) : Hw P n k code Q fr ob nx := by
 intro c a w hn hk hz hA
 refine h c a w hn hk hz ?_
 obtain ⟨ρ, hA⟩ := hA
 have hid : id < nx := (hA.mo id _ hb).1
 have hA' := hA.emptyRow (M' := (· < nx + 1)) (id := nx) (e := e) (sz := sz) (by omega) (fun i hi => by omega) (by omega)
 have hb' : upd ob nx (some (.row e sz [])) id = some (.box T v) := by rw [upd_ne _ _ (by omega)]; exact hb
 obtain ⟨b, cs, e1, e2, e3⟩ := hA'.s.objs id _ hb'
 refine ⟨_, ⟨fun i o ho => ?_, fun i hi => ?_, hA'.s.apart, hA'.s.xb⟩, hA'.f, hA'.mf, fun i o ho => ?_, hA'.m0, hA'.base, hA'.moves, hA'.defers, hA'.size, hA'.xlt⟩
 ·
  by_cases e' : i = id
  ·
   subst e'
   rw [upd_same] at ho
   cases ho
   exact ⟨b, cs, e1, e2, nil_to_own hg hs hv (upd_same _ _ _) e3⟩
  ·
   rw [upd_ne _ _ e'] at ho
   exact hA'.s.objs i o ho
 ·
  by_cases e' : i = id
  ·
   subst e'; rw [upd_same] at hi; cases hi
  ·
   rw [upd_ne _ _ e'] at hi
   exact hA'.s.none i hi
 ·
  by_cases e' : i = id
  ·
   subst e'
   rw [upd_same] at ho
   cases ho
   obtain ⟨d1, d2, d3, f0, f1, f2, f3, f4, f5⟩ := HV.setAt_spec (x := .own nx 0) rfl hv hs e3
   exact ⟨(hA'.mo i _ hb').1, f5 _ (by simp [HV.men]) (hA'.mo i _ hb').2⟩
  ·
   rw [upd_ne _ _ e'] at ho
   exact hA'.mo i o ho

def gone (ob : Ob) (id : Nat) : Ob := fun i => if i = id then none else ob i
theorem gone_at (ob : Ob) (id i : Nat) : gone ob id i = if i = id then none else ob i := rfl
theorem hw_freeze {code : Code} (t id : Nat) {T : TypeId} {v : CV} (ht : fr t = .ptr id 0) (hb : ob id = some (.box T (.c v)))
  (h : Hw P n k code Q (upd fr t (.c (.rp v))) (gone ob id) nx) : Hw P n k code Q fr ob nx := by
 intro c a w hn hk hz hA
 refine h c a w hn hk hz ?_
 obtain ⟨ρ, h⟩ := hA
 let ρ2 : Env := fun i => if i = id then none else ρ i
 have hρ2 : ∀ i L, ρ2 i = some L → ρ i = some L := fun i L hL => by
  simp only [ρ2] at hL
  split at hL
  ·
   cases hL
  ·
   exact hL
 have hown : ∀ b, Own ρ2 b → Own ρ b := fun b ⟨i, L, h1, h2⟩ => ⟨i, L, hρ2 i L h1, h2⟩
 have hst : Stay w (Owned ρ c.X) w (Owned ρ2 c.X) := Stay.same (fun b _ hb => hb.imp (fun x => x) (hown b))
 have hmv : ∀ M : Nat → Prop, Moves M ρ ρ2 := fun M i L _ hL => ⟨L, hρ2 i L hL, .inl rfl⟩
 obtain ⟨b, cs, e1, e2, e3⟩ := h.s.objs id _ hb
 obtain ⟨b', e1', he⟩ := ptr_live (x := .tmp t) h ht (by rw [hb]; rfl)
 rw [e1] at e1'
 cases e1'
 have hnb : ¬ Owned ρ2 c.X b := by
  rintro (hx | ⟨i, L, h1, h2⟩)
  ·
   exact h.s.xb id _ b e1 rfl hx
  ·
   have := h.s.apart i id L _ b (hρ2 i L h1) e1 h2 rfl
   subst this
   simp only [ρ2, if_true] at h1
   cases h1
 refine ⟨ρ2, ⟨fun i o ho => ?_, fun i hi => ?_, fun i i' L L' b h1 h2 h3 h4 => h.s.apart i i' L L' b (hρ2 _ _ h1) (hρ2 _ _ h2) h3 h4, fun i L b h1 h2 => h.s.xb i L b (hρ2 _ _ h1) h2⟩, fun t' ht' => ?_, fun t' => ?_, fun i o ho => ?_, h.m0, ?_, ?_, h.defers, h.size, h.xlt⟩
 ·
  simp only [gone] at ho
  split at ho
  ·
   cases ho
  ·
   rename_i hne
   exact RepO.stay hst (hmv _) (h.mo i o ho).2 (by simp only [ρ2, hne, if_false]) (fun _ _ _ _ => rfl) (h.s.objs i o ho)
 ·
  simp only [gone] at hi
  simp only [ρ2]
  split
  ·
   rfl
  ·
   rename_i hne
   rw [if_neg hne] at hi
   exact h.s.none i hi
 ·
  by_cases e : t' = t
  ·
   subst e
   rw [upd_same]
   have he' : a.tmps.getD t' undef = .pointer (some ⟨b, 0, none⟩) := he
   rw [he']
   refine repV_single ?_ rfl rfl
   simp only [RepC]
   simp only [RepH] at e3
   refine ⟨⟨b, 0, none⟩, cs, rfl, e3.stay hst, fun j u hj => ?_, fun _ => hnb⟩
   have hlt : j < cs.length := (List.getElem?_eq_some_iff.1 hj).1
   rw [addr_add0, cell_of_row w b _ _ _ _ e2]
   simpa using hj
  ·
   rw [upd_ne _ _ e] at ht' ⊢
   exact ⟨RepH.stay hst (hmv _) (h.mf t') (h.f t' ht').1, (h.f t' ht').2⟩
 ·
  by_cases e : t' = t
  ·
   subst e; rw [upd_same]; simp [HV.men]
  ·
   rw [upd_ne _ _ e]; exact h.mf t'
 ·
  simp only [gone] at ho
  split at ho
  ·
   cases ho
  ·
   exact h.mo i o ho
 ·
  exact h.base.trans ⟨fun _ _ _ => rfl, fun b hb => .inl (hown b hb), Nat.le_refl _, rfl, rfl, rfl⟩
 ·
  exact Moves.trans (fun _ h => h) h.moves (hmv _)
end
end Go.Hl

namespace Go.Hl
open Go

def quietAt (ops : Array Oper) (p : Nat) : Bool := match ops[p]? with | some o => isQuiet o.op | none => true
def effAt (ops : Array Oper) (p : Nat) : Bool := match ops[p]? with | some o => isEff o.op | none => false
def ids4 (nx p : Nat) : List Nat := [nx + 4 * p, nx + 4 * p + 1, nx + 4 * p + 2, nx + 4 * p + 3]
def getF (C : Pend) (p : Nat) : List Nat := C.flatMap fun q => if q.1 = p then q.2 else []

abbrev Plan := List (Nat × List Nat × List Nat)
def hwalk2G (P : Program) (ops : Array Oper) (nx : Nat) (Q : Fr → Ob → Prop) : Plan → Pend → Fr → Ob → Prop
 | [], _, fr, ob => Q fr ob
 | (i, cr, rd) :: rest, C, fr, ob => hopIG P ops nx (cr.flatMap (ids4 nx) ++ rd.flatMap (getF C)) i (hwalk2G P ops nx Q rest (match ops[i]? with
   | some o => if isEff o.op = true then C else (i, if hguard ops o fr = some true then touch o.op (ev fr) else []) :: C
   | none => C)) fr ob

def chk (ops : Array Oper) (wt : Nat → Nat → Bool) : Plan → List Nat → Bool
 | [], _ => true
 | (i, cr, rd) :: rest, T => T.all (fun p => wt i p || ((quietAt ops p || cr.contains p) && (!(effAt ops i) || rd.contains p))) && chk ops wt rest (if effAt ops i then T else i :: T)

theorem hopIG_av {P : Program} {ops : Array Oper} {nx : Nat} {av av' : List Nat} {i : Nat} {K : Fr → Ob → Prop} {fr : Fr} {ob : Ob} (hav : ∀ id, (ob id).isSome = true → id ∈ av → id ∈ av') (h : hopIG P ops nx av' i K fr ob) :
  hopIG P ops nx av i (fun fr' ob' => K fr' ob' ∧ (∀ id, ob id = none → (quietAt ops i = true ∨ ¬ (nx + 4 * i ≤ id ∧ id < nx + 4 * i + 4)) → ob' id = none)) fr ob := by
 unfold hopIG at h ⊢
 cases ho : ops[i]? with
 | none => rw [ho] at h; exact h.elim
 | some o =>
  rw [ho] at h
  simp only at h ⊢
  cases hg : hguard ops o fr with
  | none => rw [hg] at h; exact h.elim
  | some b =>
   rw [hg] at h
   cases b with
   | false => exact ⟨h, fun id h1 _ => h1⟩
   | true =>
    simp only at h ⊢
    unfold hstepG at h ⊢
    cases hc : hcallOf o.op with
    | none =>
     rw [hc] at h
     simp only at h ⊢
     obtain ⟨v, u, hK, hform, hid, hq⟩ := hop2_form2 h.2
     refine ⟨fun id hi => ⟨fun hin => (h.1 id hi).1 (hav id (h.1 id hi).2 hin), (h.1 id hi).2⟩, hform ob (fun _ _ => rfl) _ ⟨hK, fun id h1 h2 => ?_⟩⟩
     rw [app_other (fun p hp e => ?_)]
     ·
      exact h1
     ·
      rcases hid p hp with h3 | ⟨_, h3⟩
      ·
       rcases h2 with h2 | h2
       ·
        simp only [quietAt, ho] at h2
        rw [hq h2] at hp; cases hp
       ·
        exact h2 ⟨by omega, by omega⟩
      ·
       have := (h.1 _ h3).2
       rw [e, h1] at this; cases this
    | some p =>
     obtain ⟨f, xs⟩ := p
     rw [hc] at h
     simp only at h ⊢
     refine ⟨h.1, ?_⟩
     have h := h.2
     have hnq : quietAt ops i = false := by
      simp only [quietAt, ho]
      cases hop' : o.op <;> rw [hop'] at hc <;> simp only [hcallOf] at hc <;> try cases hc
      rename_i cl
      cases hcc : cl.callee <;> rw [hcc] at hc <;> simp only at hc <;> first | (cases hc; done) | simp [isQuiet, hcc]
     have hcall : ∀ g args, HCall P av' g args ob (nx + 4 * i) (fun v ob' => K (updo fr o.dst v) ob') → HCall P av g args ob (nx + 4 * i) (fun v ob' => K (updo fr o.dst v) ob' ∧ (∀ id, ob id = none → (quietAt ops i = true ∨ ¬ (nx + 4 * i ≤ id ∧ id < nx + 4 * i + 4)) → ob' id = none)) := by
      rintro g args ⟨σ, largs, lob, R, h1, h2, h3, h5, h6, h7⟩
      have hσ : ∀ j, j < σ.length → (ob (σ.getD j 0)).isSome = true := fun j hj => by
       obtain ⟨o', ho'⟩ := h2.all j hj
       rw [h6 j o' ho']; rfl
      refine ⟨σ, largs, lob, R, h1, h2, ⟨h3.1, fun s hs hin => ?_⟩, h5, h6, fun r lob' hR hr => ⟨h7 r lob' hR hr, fun id e1 e2 => ?_⟩⟩
      ·
       obtain ⟨j, hj, rfl⟩ := List.getElem_of_mem hs
       have := hσ j hj
       rw [List.getD_eq_getElem?_getD, List.getElem?_eq_getElem hj, Option.getD_some] at this
       exact h3.2 _ hs (hav _ this hin)
      ·
       unfold obAfter
       split
       ·
        rename_i j hj
        exfalso
        rw [List.findIdx?_eq_some_iff_getElem] at hj
        obtain ⟨hj1, hj2, _⟩ := hj
        have := hσ j hj1
        rw [List.getD_eq_getElem?_getD, List.getElem?_eq_getElem hj1, Option.getD_some] at this
        simp only [beq_iff_eq] at hj2
        rw [hj2, e1] at this; cases this
       ·
        rcases e2 with e2 | e2
        ·
         rw [hnq] at e2; cases e2
        ·
         rw [if_neg e2]; exact e1
     split at h
     ·
      exact hcall _ _ h
     ·
      exact hcall _ _ h
     ·
      exact h.elim

theorem hwalkG_of2 {P : Program} {ops : Array Oper} {nx : Nat} {wt : Nat → Nat → Bool} {Q : Fr → Ob → Prop} : ∀ (plan : Plan) (C : Pend) (fr : Fr) (ob : Ob), chk ops wt plan (C.map (·.1)) = true →
  (∀ p, quietAt ops p = true → ∀ t, t < 4 → ob (nx + 4 * p + t) = none) → hwalk2G P ops nx Q plan C fr ob → hwalkG P ops nx wt Q (plan.map (·.1)) C fr ob
 | [], C, fr, ob, _, _, h => h
 | (i, cr, rd) :: rest, C, fr, ob, hc, hn, h => by
  simp only [hwalk2G, hwalkG, List.map_cons, chk, Bool.and_eq_true] at h hc ⊢
  have hav : ∀ id, (ob id).isSome = true → id ∈ avoid ops nx wt C i → id ∈ cr.flatMap (ids4 nx) ++ rd.flatMap (getF C) := by
   intro id hs hid
   simp only [avoid, List.mem_flatMap] at hid
   obtain ⟨p, hp, hid⟩ := hid
   have hT := List.all_eq_true.1 hc.1 p.1 (List.mem_map.2 ⟨p, hp, rfl⟩)
   split at hid
   ·
    simp at hid
   ·
    rename_i hw
    have hw' : wt i p.1 = false := by simpa using hw
    simp only [hw', Bool.false_or, Bool.and_eq_true, Bool.or_eq_true, Bool.not_eq_true'] at hT
    rcases List.mem_append.1 hid with hid | hid
    ·
     rcases hT.1 with hq | hq
     ·
      simp only [List.mem_cons, List.not_mem_nil, or_false] at hid
      have : ∃ t, t < 4 ∧ id = nx + 4 * p.1 + t := by
       rcases hid with e | e | e | e
       ·
        exact ⟨0, by omega, e⟩
       ·
        exact ⟨1, by omega, e⟩
       ·
        exact ⟨2, by omega, e⟩
       ·
        exact ⟨3, by omega, e⟩
      obtain ⟨t, ht, rfl⟩ := this
      rw [hn _ hq t ht] at hs; cases hs
     ·
      refine List.mem_append_left _ (List.mem_flatMap.2 ⟨p.1, by simpa using hq, hid⟩)
    ·
     split at hid
     ·
      rename_i he
      have he' : effAt ops i = true := by
       simp only [effAt]
       cases ho : ops[i]? with
       | none => exact absurd h (by simp [hopIG, ho])
       | some o => rw [ho] at he; simpa using he
      rcases hT.2 with h' | h'
      ·
       rw [he'] at h'; cases h'
      ·
       refine List.mem_append_right _ (List.mem_flatMap.2 ⟨p.1, by simpa using h', ?_⟩)
       exact List.mem_flatMap.2 ⟨p, hp, by simpa using hid⟩
     ·
      simp at hid
  refine hopIG_mono (fun _ h => h) (fun fr' ob' hK => ?_) (hopIG_av hav h)
  refine hwalkG_of2 rest _ fr' ob' ?_ (fun p hq t ht => ?_) hK.1
  ·
   have := hc.2
   cases ho : ops[i]? with
   | none => simp only [effAt, ho] at this; exact absurd h (by simp [hopIG, ho])
   | some o =>
    simp only [effAt, ho] at this ⊢
    by_cases he : isEff o.op = true
    ·
     simpa [he] using this
    ·
     simpa [he] using this
  ·
   refine hK.2 _ (hn p hq t ht) ?_
   by_cases e : i = p
   ·
    subst e; exact .inl hq
   ·
    exact .inr (by omega)

theorem hw_draw2G {P : Program} {n k : Nat} {Q : HPost} {fr : Fr} {ob : Ob} {nx id : Nat} {ops : Array Oper} (hm : P.follows .mixedOrders = true) (plan : Plan) (ms : List Nat) (hd : dstOk n ops = true) (hp : planOk ops (plan.map (·.1)) (Array.replicate ops.size false) = true) (hw1 : wtOkB ops ms = true)
  (hw2 : ms.all (fun m => decide (m < 2 ^ ms.length)) = true) (hl : plan.length = ops.size) (hc : chk ops (wtOf ms) plan [] = true)
  (h : hwalk2G P ops nx (fun fr' ob' => Q .normal fr' ob' (nx + 4 * ops.size)) plan [] fr ob) : Hw P n k (.region id ops true) Q fr ob nx := by
 intro c a w hn hk hz hA
 have hf : ∀ id, nx ≤ id → ob id = none := fun id hid => by
  obtain ⟨ρ, hA'⟩ := hA
  exact (hA'.nid_none (nid := id) (by omega)).1
 exact hw_draw hm (plan.map (·.1)) ms hd hp hw1 hw2 (by simpa using hl) (hwalkG_of2 plan [] fr ob hc (fun p _ t _ => hf _ (by omega)) h) c a w hn hk hz hA

def hwalk2 (P : Program) (ops : Array Oper) (nx : Nat) (Q : Fr → Ob → Prop) : Plan → Pend → Fr → Ob → Prop
 | [], _, fr, ob => Q fr ob
 | (i, cr, rd) :: rest, C, fr, ob => hopI P ops nx (cr.flatMap (ids4 nx) ++ rd.flatMap (getF C)) i (hwalk2 P ops nx Q rest (match ops[i]? with
   | some o => if isEff o.op = true then C else (i, if hguard ops o fr = some true then touch o.op (ev fr) else []) :: C
   | none => C)) fr ob
theorem hwalk2_G {P : Program} {ops : Array Oper} {nx : Nat} {Q : Fr → Ob → Prop} : ∀ {l : Plan} {C : Pend} {fr : Fr} {ob : Ob}, hwalk2 P ops nx Q l C fr ob → hwalk2G P ops nx Q l C fr ob
 | [], _, _, _, h => h
 | (_, _, _) :: _, _, _, _, h => hopI_G (fun _ _ => hwalk2_G) h
theorem hw_draw2 {P : Program} {n k : Nat} {Q : HPost} {fr : Fr} {ob : Ob} {nx id : Nat} {ops : Array Oper} (hm : P.follows .mixedOrders = true) (plan : Plan) (ms : List Nat) (hd : dstOk n ops = true) (hp : planOk ops (plan.map (·.1)) (Array.replicate ops.size false) = true) (hw1 : wtOkB ops ms = true)
  (hw2 : ms.all (fun m => decide (m < 2 ^ ms.length)) = true) (hl : plan.length = ops.size) (hc : chk ops (wtOf ms) plan [] = true)
  (h : hwalk2 P ops nx (fun fr' ob' => Q .normal fr' ob' (nx + 4 * ops.size)) plan [] fr ob) : Hw P n k (.region id ops true) Q fr ob nx :=
 hw_draw2G hm plan ms hd hp hw1 hw2 hl hc (hwalk2_G h)

theorem call_pure {P : Program} {av : List Nat} {f : FuncId} {ob : Ob} {nid : Nat} {K : HV → Ob → Prop} {args : List CV} {R : CV → Prop} (h : HPure P f args R) (hfree : ob nid = none ∧ ob (nid + 1) = none ∧ ob (nid + 2) = none ∧ ob (nid + 3) = none) (hK : ∀ v, R v → K (.c v) ob) :
  HCall P av f (args.map .c) ob nid K := by
 refine ⟨[], args.map .c, none0, _, h, locOk_nil args, ⟨List.nodup_nil, by simp⟩, (HV.renL_c _ _).symm, fun j o h => by simp [none0] at h, fun r lob' hR _ => ?_⟩
 obtain ⟨v, rfl, hv, rfl⟩ := hR
 rw [obAfter_nil (fun i h1 h2 => ?_)]
 ·
  exact hK v hv
 ·
  have : i = nid ∨ i = nid + 1 ∨ i = nid + 2 ∨ i = nid + 3 := by omega
  rcases this with rfl | rfl | rfl | rfl
  ·
   exact hfree.1
  ·
   exact hfree.2.1
  ·
   exact hfree.2.2.1
  ·
   exact hfree.2.2.2

def HPureH (P : Program) (f : FuncId) (args : List HV) (R : CV → Prop) : Prop :=
 HFn P f args 0 none0 (fun r ob' => ∃ v, r = .c v ∧ R v ∧ ob' = none0)
theorem locOk_h {args : List HV} (hm : HV.menL (· < 0) args) : LocOk 0 args none0 := ⟨fun j h => by omega, fun id o h => by simp [none0] at h, hm⟩
theorem call_pureh {P : Program} {av : List Nat} {f : FuncId} {ob : Ob} {nid : Nat} {K : HV → Ob → Prop} {args : List HV} {R : CV → Prop} (h : HPureH P f args R) (hm : HV.menL (· < 0) args) (hr : ∀ m, HV.renL m args = args)
  (hfree : ob nid = none ∧ ob (nid + 1) = none ∧ ob (nid + 2) = none ∧ ob (nid + 3) = none) (hK : ∀ v, R v → K (.c v) ob) : HCall P av f args ob nid K := by
 refine ⟨[], args, none0, _, h, locOk_h hm, ⟨List.nodup_nil, by simp⟩, (hr _).symm, fun j o h => by simp [none0] at h, fun r lob' hR _ => ?_⟩
 obtain ⟨v, rfl, hv, rfl⟩ := hR
 rw [obAfter_nil (fun i h1 h2 => ?_)]
 ·
  exact hK v hv
 ·
  have : i = nid ∨ i = nid + 1 ∨ i = nid + 2 ∨ i = nid + 3 := by omega
  rcases this with rfl | rfl | rfl | rfl
  ·
   exact hfree.1
  ·
   exact hfree.2.1
  ·
   exact hfree.2.2.1
  ·
   exact hfree.2.2.2

theorem denilL_map {α : Type} {f : α → CV} (h : ∀ x, (f x).denil = f x) : ∀ l : List α, CV.denilL (l.map f) = l.map f
 | [] => rfl
 | x :: l => by simp only [List.map_cons, CV.denilL, h, denilL_map h l]
theorem denilL_str (l : List (List UInt8)) : CV.denilL (l.map .str) = l.map .str := denilL_map (fun _ => rfl) l
theorem denilL_int (k : IntKind) (l : List Int) : CV.denilL (l.map (.int k)) = l.map (.int k) := denilL_map (fun _ => rfl) l
theorem cells_mem_str {l : List (List UInt8)} : (∀ v ∈ l.map CV.str, v.cells = 1) ↔ True := by simp [CV.cells]

def HBox (P : Program) (f : FuncId) (T : TypeId) (v : CV) (args : List CV) (R : CV → CV → Prop) : Prop :=
 HFn P f (.ptr 0 0 :: args.map .c) 1 (fob [(0, .box T (.c v))]) (fun r ob' => ∃ u v', r = .c u ∧ ob' = fob [(0, .box T (.c v'))] ∧ R u v')

theorem locOk_box (T : TypeId) (v : CV) (args : List CV) : LocOk 1 (.ptr 0 0 :: args.map .c) (fob [(0, .box T (.c v))]) := by
 refine ⟨fun j h => ?_, fun id o h => ?_, ?_⟩
 ·
  have : j = 0 := by omega
  subst this
  exact ⟨_, rfl⟩
 ·
  by_cases e : id = 0
  ·
   subst e
   simp only [fob_at, if_true, Option.some.injEq] at h
   subst h
   exact ⟨by omega, by simp [HO.men, HV.men]⟩
  ·
   simp [fob_at, fob_nil, e] at h
 ·
  simp only [HV.menL, HV.men]
  exact ⟨by omega, HV.menL_c⟩

theorem hret_box {ob : Ob} {r w : HV} {T : TypeId} {R : CV → CV → Prop} (cl : List Nat) (u v' : CV) (h : (r.close ob cl).norm = .c u) (hb : ob 0 = some (.box T w)) (hw : (w.close ob cl).norm = .c v') (h0 : 0 ∉ cl) (hR : R u v') :
  HRet 1 r ob (fun r ob' => ∃ u v', r = .c u ∧ ob' = fob [(0, .box T (.c v'))] ∧ R u v') := by
 refine ⟨cl, id, .c u, fob [(0, .box T (.c v'))], ⟨u, v', rfl, rfl, hR⟩, by rw [h]; rfl, fun _ _ => rfl, fun _ _ _ _ h => h, by simp [HV.men], fun j o ho => ?_⟩
 by_cases e : j = 0
 ·
  subst e
  simp only [fob_at, if_true, Option.some.injEq] at ho
  subst ho
  refine ⟨by omega, by simp [HO.men, HV.men], h0, .box T w, hb, ?_⟩
  simp only [hw]
  rfl
 ·
  simp [fob_at, fob_nil, e] at ho

theorem call_box {P : Program} {av : List Nat} {f : FuncId} {ob : Ob} {nid id : Nat} {K : HV → Ob → Prop} {T : TypeId} {v : CV} {args : List CV} {R : CV → CV → Prop} (h : HBox P f T v args R) (hid : ob id = some (.box T (.c v))) (hav : id ∉ av)
  (hfree : ob nid = none ∧ ob (nid + 1) = none ∧ ob (nid + 2) = none ∧ ob (nid + 3) = none) (hK : ∀ u v', R u v' → K (.c u) (upd ob id (some (.box T (.c v'))))) :
  HCall P av f (.ptr id 0 :: args.map .c) ob nid K := by
 refine ⟨[id], .ptr 0 0 :: args.map .c, _, _, h, locOk_box T v args, ⟨by simp, by simpa using hav⟩, ?_, fun j o hj => ?_, fun r lob' hR _ => ?_⟩
 ·
  simp only [HV.renL, HV.ren, HV.renL_c]
  rfl
 ·
  by_cases e : j = 0
  ·
   subst e
   simp only [fob_at, if_true, Option.some.injEq] at hj
   subst hj
   simpa [HO.ren, HV.ren] using hid
  ·
   simp [fob_at, fob_nil, e] at hj
 ·
  obtain ⟨u, v', rfl, rfl, hR⟩ := hR
  have e : obAfter ob [id] nid (fob [(0, .box T (.c v'))]) = upd ob id (some (.box T (.c v'))) := by
   funext i
   by_cases e : i = id
   ·
    subst e
    simp only [obAfter, upd_same, List.findIdx?_cons, beq_self_eq_true, if_true, fob_at, Option.map_some]
    rfl
   ·
    have e' : (id == i) = false := by simp; exact fun h => e h.symm
    simp only [obAfter, List.findIdx?_cons, e', List.findIdx?_nil, Option.map_none, upd_ne _ _ e]
    simp only [Bool.false_eq_true, if_false]
    split
    ·
     rename_i hr
     have h1 : [id].length + (i - nid) ≠ 0 := by simp
     rw [fob_at, if_neg h1, fob_nil]
     have : i = nid ∨ i = nid + 1 ∨ i = nid + 2 ∨ i = nid + 3 := by omega
     rcases this with rfl | rfl | rfl | rfl
     ·
      exact hfree.1.symm
     ·
      exact hfree.2.1.symm
     ·
      exact hfree.2.2.1.symm
     ·
      exact hfree.2.2.2.symm
    ·
     rfl
  rw [e]
  exact hK u v' hR

section
variable {P : Program} {ti : TyI} {t t2 f nid nx i : Nat} {a a' b b' x x' y y' : HV} {ob ob' : Ob} {K : HV → Prop} {KO : HV → Ob → Prop} {KC : CV → Prop}
@[congr] theorem hload_cg (h : a = a') : hload ti a ob K = hload ti a' ob K := by rw [h]
@[congr] theorem hstore_cg (h : a = a') (h2 : b = b') : hstore ti a b ob KO = hstore ti a' b' ob KO := by rw [h, h2]
@[congr] theorem hfieldAddr_cg (h : a = a') : hfieldAddr P t a f ob K = hfieldAddr P t a' f ob K := by rw [h]
@[congr] theorem hindexAddr_cg (h : a = a') (h2 : b = b') : hindexAddr P t a b ob K = hindexAddr P t a' b' ob K := by rw [h, h2]
@[congr] theorem hbuild_cg {ps : List (Nat × Operand)} {e : Operand → HV} {ps' : List (Nat × Operand)} (h : ps = ps') : hbuild ti ps e K = hbuild ti ps' e K := by rw [h]
@[congr] theorem hslice_cg {lo lo' hi hi' : Option HV} (h : a = a') (h1 : lo = lo') (h2 : hi = hi') : hslice P t a lo hi K = hslice P t a' lo' hi' K := by rw [h, h1, h2]
@[congr] theorem hindex_cg (h : a = a') (h2 : b = b') : hindex P t a b K = hindex P t a' b' K := by rw [h, h2]
@[congr] theorem hext_cg (h : a = a') : hext a i K = hext a' i K := by rw [h]
@[congr] theorem hconv_cg (h : a = a') : hconv P t t2 a K = hconv P t t2 a' K := by rw [h]
@[congr] theorem hun_cg {op : UnOp} (h : a = a') : hun op a K = hun op a' K := by rw [h]
@[congr] theorem hclo_cg {l l' : List HV} (h : l = l') : hclo f l K = hclo f l' K := by rw [h]
@[congr] theorem hmax_cg {mx : Bool} (h : a = a') (h2 : b = b') : hmax mx a b K = hmax mx a' b' K := by rw [h, h2]
@[congr] theorem hpick_cg (h : x = x') (h1 : a = a') (h2 : b = b') : hpick x a b K = hpick x' a' b' K := by rw [h, h1, h2]
@[congr] theorem happend_cg (h : a = a') (h2 : b = b') : happend P t a b nid ob KO = happend P t a' b' nid ob KO := by rw [h, h2]
@[congr] theorem happend2_cg (h : a = a') (h2 : b = b') : happend2 P t a b nid ob KO = happend2 P t a' b' nid ob KO := by rw [h, h2]
@[congr] theorem hslice2_cg {lo lo' hi hi' : Option HV} (h : a = a') (h1 : lo = lo') (h2 : hi = hi') (h3 : ob = ob') : hslice2 P t a lo hi ob K = hslice2 P t a' lo' hi' ob' K := by rw [h, h1, h2, h3]
@[congr] theorem hslice3_cg {lo lo' : Option HV} {hi hi' mx mx' : HV} (h : a = a') (h1 : lo = lo') (h2 : hi = hi') (h3 : mx = mx') : hslice3 P t a lo hi mx K = hslice3 P t a' lo' hi' mx' K := by rw [h, h1, h2, h3]
@[congr] theorem hcopy_cg (h : a = a') (h2 : b = b') (h3 : ob = ob') : hcopy P t a b ob KO = hcopy P t a' b' ob' KO := by rw [h, h2, h3]
@[congr] theorem hclear_cg (h : a = a') : hclear P t a ob KO = hclear P t a' ob KO := by rw [h]
@[congr] theorem hlookup_cg (h : a = a') (h2 : b = b') : hlookup P t a b ob K = hlookup P t a' b' ob K := by rw [h, h2]
@[congr] theorem hmapUpdate_cg (h : a = a') (h2 : b = b') (h3 : x = x') : hmapUpdate P t a b x ob KO = hmapUpdate P t a' b' x' ob KO := by rw [h, h2, h3]
@[congr] theorem hbin_cg {op : BinOp} (h : a = a') (h2 : b = b') : hbin P op t a b KC = hbin P op t a' b' KC := by rw [h, h2]
@[congr] theorem hint_cg {op : BinOp} {k : IntKind} {m m' n n' : Int} (h : m = m') (h2 : n = n') : hint op k m n KC = hint op k m' n' KC := by rw [h, h2]
@[congr] theorem hshift_cg {op : BinOp} {k : IntKind} {m m' n n' : Int} (h : m = m') (h2 : n = n') : hshift op k m n KC = hshift op k m' n' KC := by rw [h, h2]
@[congr] theorem hstr_cg {op : BinOp} {m m' n n' : List UInt8} (h : m = m') (h2 : n = n') : hstr op m n KC = hstr op m' n' KC := by rw [h, h2]
@[congr] theorem hlexG_cg {ops : Array Oper} {G : Fr → Ob → Prop} {l l' : List Nat} {fr fr' : Fr} (h : l = l') (h1 : fr = fr') (h2 : ob = ob') : hlexG P ops nx G l fr ob = hlexG P ops nx G l' fr' ob' := by rw [h, h1, h2]
@[congr] theorem hwalk2G_cg {ops : Array Oper} {G : Fr → Ob → Prop} {l : Plan} {C C' : Pend} {fr fr' : Fr} (h : C = C') (h1 : fr = fr') (h2 : ob = ob') : hwalk2G P ops nx G l C fr ob = hwalk2G P ops nx G l C' fr' ob' := by rw [h, h1, h2]
@[congr] theorem HCall_cg {av av' : List Nat} {l l' : List HV} {n n' : Nat} (h1 : av = av') (h2 : l = l') (h3 : ob = ob') (h4 : n = n') : HCall P av f l ob n KO = HCall P av' f l' ob' n' KO := by rw [h1, h2, h3, h4]
theorem updo_at (fr : Fr) (d : Nat) (v : HV) (t : Nat) : updo fr (some d) v t = if t = d then v else fr t := rfl
theorem updo_none (fr : Fr) (v : HV) : updo fr none v = fr := rfl
theorem hbin_int {op : BinOp} {k k' : IntKind} {m n : Int} : hbin P op t (.c (.int k m)) (.c (.int k' n)) KC = if isShift op then hshift op k m n KC else k = k' ∧ hint op k m n KC := rfl
theorem hbin_str {op : BinOp} {m n : List UInt8} : hbin P op t (.c (.str m)) (.c (.str n)) KC = hstr op m n KC := rfl
theorem hbin_bool {op : BinOp} {m n : Bool} : hbin P op t (.c (.bool m)) (.c (.bool n)) KC = hlift (tyOf P t) fun ti => ti.d = .bool ∧ match op with
  | .eql => KC (.bool (m == n))
  | .neq => KC (.bool (!(m == n)))
  | _ => False := rfl
end
end Go.Hl

namespace Go.Pl
open Go Go.Hl

abbrev Word := List UInt8
def ascB : List Word → Bool
 | a :: b :: l => slt a b && ascB (b :: l)
 | _ => true
theorem ascB_iff : ∀ {l : List Word}, ascB l = true ↔ ∀ i (h : i + 1 < l.length), slt l[i] l[i + 1] = true
 | [] => by simp [ascB]
 | [a] => by simp [ascB]
 | a :: b :: l => by
  simp only [ascB, Bool.and_eq_true, ascB_iff (l := b :: l)]
  constructor
  ·
   rintro ⟨h1, h2⟩ i hi
   cases i with
   | zero => simpa using h1
   | succ i => exact h2 i (by simpa using hi)
  ·
   intro h
   exact ⟨by simpa using h 0 (by simp), fun i hi => h (i + 1) (by simpa using hi)⟩

def addW (l : List Word) (w : Word) : List Word :=
 if l.contains w then l else l.takeWhile (slt · w) ++ w :: l.dropWhile (slt · w)
theorem addW_eq {l : List Word} {w : Word} {i : Nat} (hc : l.contains w = false) (hi : i ≤ l.length) (h : ∀ j (h : j < i) (h' : j < l.length), slt l[j] w = true) (he : ∀ h : i < l.length, slt l[i] w = false) : addW l w = l.take i ++ w :: l.drop i := by
 have key : ∀ (l : List Word) (i : Nat), i ≤ l.length → (∀ j (h : j < i) (h' : j < l.length), slt l[j] w = true) → (∀ h : i < l.length, slt l[i] w = false) → l.takeWhile (slt · w) = l.take i ∧ l.dropWhile (slt · w) = l.drop i := by
  intro l
  induction l with
  | nil => intro i _ _ _; simp
  | cons a l ih =>
   intro i hi h he
   cases i with
   | zero =>
    have := he (by simp)
    simp at this
    simp [List.takeWhile_cons, List.dropWhile_cons, this]
   | succ i =>
    have h0 := h 0 (by omega) (by simp)
    simp at h0
    have := ih i (by simpa using hi) (fun j h1 h2 => h (j + 1) (by omega) (by simpa using h2)) (fun h1 => he (by simpa using h1))
    simp [List.takeWhile_cons, List.dropWhile_cons, h0, this]
 simp only [addW, hc, Bool.false_eq_true, if_false, (key l i hi h he).1, (key l i hi h he).2]
end Go.Pl

namespace Go.Pl
open Go Go.Hl

abbrev Dig := {l : List UInt8 // l.length = 32}
def dgl (d : Dig) : List CV := d.1.map fun b => .int .u8 b.toNat
def dg (d : Dig) : CV := .agg (dgl d)
def dg1 (b : UInt8) : Dig := ⟨b :: List.replicate 31 0, by simp⟩
def zdg : Dig := ⟨List.replicate 32 0, by simp⟩
def zd : CV := dg zdg
def dgi (k : IntKind) (n : Int) : CV := .agg (.int k n :: List.replicate 31 (.int .u8 0))
theorem dgi_1 : dgi .u8 1 = dg (dg1 1) := rfl
theorem dgi_2 : dgi .u8 2 = dg (dg1 2) := rfl
theorem dgi_3 : dgi .u8 3 = dg (dg1 3) := rfl
theorem cellsL_ints : ∀ {α : Type} (l : List α) (k : IntKind) (f : α → Int), CV.cellsL (l.map fun b => .int k (f b)) = l.length
 | _, [], _, _ => rfl
 | _, x :: l, k, f => by simp only [List.map_cons, CV.cellsL, CV.cells, cellsL_ints l, List.length_cons]; omega
theorem dg_cells (d : Dig) : (dg d).cells = 32 := by simp only [dg, dgl, CV.cells, cellsL_ints, d.2]
theorem dg_isAgg (d : Dig) : (dg d).isAgg = true := rfl
theorem denilL_ints : ∀ {α : Type} (l : List α) (k : IntKind) (f : α → Int), CV.denilL (l.map fun b => .int k (f b)) = l.map fun b => .int k (f b)
 | _, [], _, _ => rfl
 | _, x :: l, k, f => by simp only [List.map_cons, CV.denilL, CV.denil, denilL_ints l]
theorem dg_denil (d : Dig) : (dg d).denil = dg d := by simp only [dg, dgl, CV.denil, denilL_ints]
theorem dg_getAt (d : Dig) : CV.getAt 0 32 true (dg d) = some (dg d) := by
 have := dg_cells d
 simp only [dg, CV.cells] at this
 simp only [dg, CV.getAt, this, and_self, if_true]
theorem dg_setAt (d : Dig) (x : HV) : CV.setAt 0 32 x (dg d) = some x := by
 have := dg_cells d
 simp only [dg, CV.cells] at this
 simp only [dg, CV.setAt, this, and_self, if_true]
theorem zd_cells : zd.cells = 32 := dg_cells _
theorem zd_isAgg : zd.isAgg = true := rfl
theorem zd_denil : zd.denil = zd := dg_denil _
theorem zd_getAt : CV.getAt 0 32 true zd = some zd := dg_getAt _
theorem zd_setAt (x : HV) : CV.setAt 0 32 x zd = some x := dg_setAt _ x
theorem dgi_cells (k : IntKind) (n : Int) : (dgi k n).cells = 32 := rfl
theorem dgi_isAgg (k : IntKind) (n : Int) : (dgi k n).isAgg = true := rfl
theorem dgi_denil (k : IntKind) (n : Int) : (dgi k n).denil = dgi k n := rfl
theorem dgi_getAt (k : IntKind) (n : Int) : CV.getAt 0 32 true (dgi k n) = some (dgi k n) := rfl

def hbuildElse (ti : TyI) (v : HV) (K : HV → Prop) : Prop := hbuild ti [(0, .tmp 0)] (fun _ => v) K
def hbuildDig (ti : TyI) (v : HV) (K : HV → Prop) : Prop :=
 match v with
 | .c (.int k n) => K (.c (dgi k n))
 | v => hbuildElse ti v K
@[congr] theorem hbuildDig_cg {ti : TyI} {v v' : HV} {K : HV → Prop} (h : v = v') : hbuildDig ti v K = hbuildDig ti v' K := by rw [h]
theorem hbuild_dig {bytes : Nat} {t : TypeId} {e : Operand → HV} {x : Operand} {K : HV → Prop} : hbuild ⟨32, bytes, .array 32 t, zd⟩ [(0, x)] e K = hbuildDig ⟨32, bytes, .array 32 t, zd⟩ (e x) K := by
 have key : hbuild ⟨32, bytes, .array 32 t, zd⟩ [(0, x)] e K = hbuild ⟨32, bytes, .array 32 t, zd⟩ [(0, .tmp 0)] (fun _ => e x) K := rfl
 rw [key]
 unfold hbuildDig
 split
 ·
  rename_i k n h
  rw [h]
  have : hfill (fun _ => HV.c (.int k n)) [(0, .tmp 0)] ((dgl zdg).map .c) = some (.c (.int k n) :: (List.replicate 31 (CV.int .u8 0)).map .c) := by
   simp only [hfill]
   rfl
  simp only [hbuild, zd, dg, this, hlift_some]
  rfl
 ·
  rfl

theorem hbuild_agg {s bytes : Nat} {d : TyD} {zs : List CV} {ps : List (Nat × Operand)} {e : Operand → HV} {K : HV → Prop} : hbuild ⟨s, bytes, d, .agg zs⟩ ps e K = hlift (hfill e ps (zs.map .c)) fun hs => K (HV.norm (.agg hs)) := rfl

theorem eqvL_ints : ∀ (l m : List UInt8), CV.eqvL (l.map fun b => .int .u8 b.toNat) (m.map fun b => .int .u8 b.toNat) = (l == m)
 | [], [] => rfl
 | [], _ :: _ => rfl
 | _ :: _, [] => rfl
 | a :: l, b :: m => by
  simp only [List.map_cons, CV.eqvL, CV.eqv, eqvL_ints l m, List.cons_beq_cons]
  congr 1
  rw [Bool.eq_iff_iff]
  simp only [beq_iff_eq]
  constructor
  ·
   intro h; exact UInt8.toNat_inj.1 (by omega)
  ·
   rintro rfl; rfl
theorem dg_eqv (a b : Dig) : CV.eqv (dg a) (dg b) = (a == b) := by
 simp only [dg, dgl, CV.eqv, eqvL_ints]
 rw [Bool.eq_iff_iff]
 simp only [beq_iff_eq, Subtype.ext_iff]
theorem ofTyA_ints {P : Program} {n : Nat} {e : TypeId} {z : CV} {s b : Nat} (he : tyOf P e = some ⟨s, b, .int .u8, z⟩) (l : List UInt8) : CV.ofTyA P (n + 1) e (l.map fun b => .int .u8 b.toNat) = true := by
 induction l with
 | nil => simp only [List.map_nil, CV.ofTyA]
 | cons x l ih =>
  rw [List.map_cons, CV.ofTyA, ih, Bool.and_true]
  unfold CV.ofTy
  rw [he]
  rfl
theorem dg_ofTy {P : Program} {n : Nat} {t e : TypeId} {z z' : CV} {s b s' b' : Nat} (ht : tyOf P t = some ⟨s, b, .array 32 e, z⟩) (he : tyOf P e = some ⟨s', b', .int .u8, z'⟩) (hc : P.cellsOf e = 1) (d : Dig) : CV.ofTy P (n + 2) t (dg d) = true := by
 have h1 : (dgl d).length = 32 := by simp only [dgl, List.length_map, d.2]
 have h2 : (dgl d).all (fun v => v.cells == P.cellsOf e) = true := by
  rw [hc]
  simp only [dgl, List.all_map, List.all_eq_true, Function.comp, CV.cells, beq_self_eq_true, implies_true]
 simp only [dg, CV.ofTy, ht, h1, h2, beq_self_eq_true, Bool.true_and]
 exact ofTyA_ints he d.1
theorem hbin_dg {P : Program} {t e : TypeId} {z z' : CV} {s b s' b' : Nat} (ha : aggEq P t = true) (ht : tyOf P t = some ⟨s, b, .array 32 e, z⟩) (he : tyOf P e = some ⟨s', b', .int .u8, z'⟩) (hc : P.cellsOf e = 1) (x y : Dig) (K : CV → Prop) :
  hbin P .eql t (.c (dg x)) (.c (dg y)) K = K (.bool (x == y)) ∧ hbin P .neq t (.c (dg x)) (.c (dg y)) K = K (.bool (!(x == y))) := by
 have h1 := dg_ofTy (n := 6) ht he hc x
 have h2 := dg_ofTy (n := 6) ht he hc y
 have h3 := dg_eqv x y
 simp only [dg] at h1 h2 h3
 simp only [dg, hbin, ha, h1, h2, h3, and_self, true_and]

structure Rp where
 s : Dig
 r : Dig
 o : Dig
 at_ : Int
structure Rb where
 w : Word
 p : Rp
def Rp.cv (x : Rp) : CV := .agg [.agg [dg x.s, dg x.r, dg x.o], .int .i64 x.at_]
def Rb.cv (x : Rb) : CV := .agg [.str x.w, x.p.cv]
theorem Rb.denil (x : Rb) : x.cv.denil = x.cv := by simp only [Rb.cv, Rp.cv, CV.denil, CV.denilL, dg_denil]
theorem Rp.denil (x : Rp) : x.cv.denil = x.cv := by simp only [Rp.cv, CV.denil, CV.denilL, dg_denil]
theorem Rb.cells (x : Rb) : x.cv.cells = 98 := by simp [Rb.cv, Rp.cv, CV.cells, CV.cellsL, dg_cells]
theorem Rp.cells (x : Rp) : x.cv.cells = 97 := by simp [Rp.cv, CV.cells, CV.cellsL, dg_cells]
theorem Rb.getAll (x : Rb) : CV.getAt 0 98 true x.cv = some x.cv := by
 have := Rb.cells x
 simp only [Rb.cv, CV.cells] at this
 simp only [Rb.cv, CV.getAt, this, and_self, if_true]
theorem Rp.getAll (p : Rp) : CV.getAt 0 97 true p.cv = some p.cv := by
 have := Rp.cells p
 simp only [Rp.cv, CV.cells] at this
 simp only [Rp.cv, CV.getAt, this, and_self, if_true]
theorem Rb.isAgg (x : Rb) : x.cv.isAgg = true := rfl
theorem Rp.isAgg (x : Rp) : x.cv.isAgg = true := rfl

def later (some : List Rb) (x : Rb) : Bool := some.all fun y => !(y.w == x.w) || decide (y.p.at_ ≤ x.p.at_)
structure Jd where
 a : List Word
 d : List Word
 f : List Word
def ns (l : List Word) : CV := if l = [] then .nils else .slc (l.map .str)
theorem ns_denil (l : List Word) : (ns l).denil = .slc (l.map .str) := by
 unfold ns
 split
 ·
  rename_i h; rw [h]; rfl
 ·
  simp only [CV.denil, denilL_str]
theorem ns_cells (l : List Word) : (ns l).cells = 1 := by unfold ns; split <;> rfl
theorem ns_isAgg (l : List Word) : (ns l).isAgg = false := by unfold ns; split <;> rfl
theorem ns_getAt (l : List Word) : CV.getAt 0 1 false (ns l) = some (ns l) := by unfold ns; split <;> rfl
theorem ns_setAt (l : List Word) (x : HV) : CV.setAt 0 1 x (ns l) = some x := by unfold ns; split <;> rfl
end Go.Pl
