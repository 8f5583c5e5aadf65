/- Plain Lean: SHA-256 cE4 lists of bytes, and what the operations on words of 32 bits give. By an AI agent. -/
import Derived.Test.YtlldglbooaefhaaGreatDoorHlQ
import Derived.RangeFuncLeaves
import Derived.RangeFuncOwn
import Derived.IntWalk
set_option linter.unusedSimpArgs false
set_option linter.unusedVariables false
set_option linter.defProp false
namespace Go.Hl
open Go

def gT (P : Program) (fr : Fr) (ob : Ob) (r : ResultVar) (K : HV → Prop) : Prop :=
 match r with
 | .tmp t => fr t ≠ .junk ∧ K (fr t)
 | .cell t ty => hlift (aO P ty) fun ti => HO.isBox (match fr t with | .ptr id _ => ob id | _ => none) = true ∧ hload ti (fr t) ob K
def fV (P : Program) (fr : Fr) (ob : Ob) : List ResultVar → (List HV → Prop) → Prop
 | [], K => K []
 | r :: rs, K => gT P fr ob r fun v => fV P fr ob rs fun vs => K (v :: vs)
def fD (l : List HV) : HV := match l with | [v] => v | l => .tup l

def mO (k : Nat) (r : HV) (ob : Ob) (R : HV → Ob → Prop) : Prop :=
 ∃ (cl : List Nat) (τ : Nat → Nat) (r' : HV) (ob' : Ob), R r' ob' ∧ (r.close ob cl).norm = r'.ren τ ∧ (∀ j, j < k → τ j = j) ∧ (∀ i j, i < k + 4 → j < k + 4 → τ i = τ j → i = j) ∧ r'.men (· < k + 4) ∧
  ∀ j o, ob' j = some o → j < k + 4 ∧ o.men (· < k + 4) ∧ τ j ∉ cl ∧ ∃ o0, ob (τ j) = some o0 ∧ (match o0 with | .box t v => HO.box t (v.close ob cl).norm | .row e sz l => .row e sz l | .mp e sz D => .mp e sz D | .dead => .dead | .tab T => .tab T | .hrow e sz l => .hrow e sz (HV.closeL ob cl l)) = o.ren τ

def gU (P : Program) (rs : List ResultVar) (k : Nat) (R : HV → Ob → Prop) : dV := fun e fr ob _ =>
 match e with
 | .normal | .ret => fV P fr ob rs fun vs => mO k (fD vs) ob R
 | _ => False

section
variable {P : Program} {c : Ctx} {M : Nat → Prop} {fr : Fr} {ob : Ob} {a : Act} {w : World} {ρ : Env}

def bL2 (tm : Array Value) (r : ResultVar) : Sem Value :=
 match r with
 | .tmp t => pure (tm.getD t undef)
 | .cell ad t => do loadVar t (← asAddr (tm.getD ad undef))

theorem aK2 (h : RepA' c M fr ob a w ρ) {r : ResultVar} {K : HV → Prop} (hl : gT P fr ob r K) :
  ∃ v x, K v ∧ RepV w ρ (Owned ρ c.X) v x ∧ (bL2 a.tmps r).run P w = .ok x w := by
 cases r with
 | tmp t => exact ⟨_, _, hl.2, h.f t hl.1, rfl⟩
 | cell ad t =>
  simp only [gT] at hl
  rw [aD] at hl
  obtain ⟨ti, ht, hb, hl⟩ := hl
  obtain ⟨u, y, hK, hr, hv, _⟩ := vM (P := P) h ht (x := .tmp ad) hl
  refine ⟨u, y, hK, hv, ?_⟩
  have hp : ∃ p, a.tmps.getD ad undef = .pointer (some p) := by
   cases hf : fr ad with
   | ptr id off =>
    rw [hf] at hb
    obtain ⟨b, _, he⟩ := jQ (x := .tmp ad) h hf hb
    exact ⟨_, he⟩
   | _ => rw [hf] at hb; cases hb
  obtain ⟨p, hp⟩ := hp
  have hr' : (Instr.loadAt t (.pointer (some p))).run P w = .ok y w := by rw [← hp]; exact hr
  grind [bL2, asAddr, Sem.run_bind, Sem.run_pure, Result.andThen_ok, Instr.loadAt, Instr.sureAddr]

theorem tV (h : RepA' c M fr ob a w ρ) : ∀ {rs : List ResultVar} {K : List HV → Prop}, fV P fr ob rs K →
  ∃ vs xs, K vs ∧ RepHV w ρ (Owned ρ c.X) vs xs ∧ (rs.mapM (bL2 a.tmps)).run P w = .ok xs w
 | [], K, hl => ⟨[], [], hl, by simp [RepHV], by simp⟩
 | r :: rs, K, hl => by
  simp only [fV] at hl
  obtain ⟨v, x, hK, hv, hr⟩ := aK2 h hl
  obtain ⟨vs, xs, hK2, hvs, hrs⟩ := tV h hK
  refine ⟨v :: vs, x :: xs, hK2, by rw [bH]; grind, ?_⟩
  simp_all

theorem bD7 {w : World} {ρ : Env} {O : Nat → Prop} {vs : List HV} {xs : List Value} (h : RepHV w ρ O vs xs) : RepV w ρ O (fD vs) (if h : xs.toArray.size = 1 then xs.toArray[0] else .tuple xs.toArray) := by
 match vs, h with
 | [], h => simp only [RepHV] at h; subst h; exact ⟨by simp only [fD, RepH]; exact ⟨[], rfl, by simp [RepHV]⟩, rfl⟩
 | [v], h =>
  rw [bH] at h
  obtain ⟨y, ys, rfl, h1, h2⟩ := h
  simp only [RepHV] at h2
  subst h2
  simpa [fD] using h1
 | v :: u :: vs, h =>
  have hlen : ∀ {l : List HV} {xs : List Value}, RepHV w ρ O l xs → xs.length = l.length := by
   intro l
   induction l with
   | nil => intro xs h; simp only [RepHV] at h; simp [h]
   | cons x l ih => intro xs h; rw [bH] at h; obtain ⟨y, ys, rfl, _, h2⟩ := h; simp [ih h2]
  have hl := hlen h
  rw [dif_neg (by simp [hl])]
  exact ⟨by simp only [fD, RepH]; exact ⟨xs, rfl, h⟩, rfl⟩

theorem RepA'.turn {o' : Obj} {b : Nat} (h : RepA' c M fr ob a w ρ) (ha : a.defers = []) (hno : ∀ t, ¬ Own ρ t ∨ t ≠ b) (hnc : ¬ CellsAt w b) (hn : c.w0.heap.size ≤ b) : RepA' c M fr ob a (w.putObj b o') ρ := by
 have hother : ∀ t, t ≠ b → (w.putObj b o').heap[t]? = w.heap[t]? := fun t ht => World.putObj_heap_other ht
 have hst : Stay w (Owned ρ c.X) (w.putObj b o') (Owned ρ c.X) := ⟨fun t ht hO => ⟨hother t (fun e => hnc (e ▸ ht)), hO⟩⟩
 have hsz : (w.putObj b o').heap.size = w.heap.size := World.putObj_size
 refine ⟨⟨fun id x hx => ?_, h.s.none, h.s.apart, h.s.xb⟩, fun t ht => ⟨RepH.stay hst (Moves.refl M ρ) (h.mf t) (h.f t ht).1, (h.f t ht).2⟩, h.mf, h.mo, h.m0, ?_, h.moves, ?_, h.size, h.xlt⟩
 ·
  refine RepO.stay hst (Moves.refl M ρ) (h.mo id x hx).2 rfl (fun L t h1 h2 => hother t ?_) (h.s.objs id x hx)
  rcases hno t with h3 | h3
  ·
   exact absurd ⟨id, L, h1, h2⟩ h3
  grind
 ·
  exact ⟨fun t ht hO => by rw [hother t (by omega)]; exact h.base.block t ht hO, h.base.own, by rw [hsz]; exact h.base.size, h.base.os, h.base.tape, h.base.output⟩
 grind [DefOk.nil]
def oI (w : World) (Ds : List Nat) : World := Ds.foldl (fun w b => w.putObj b (.deferred none)) w
theorem RepA'.shut : ∀ (Ds : List Nat) {w : World}, RepA' c M fr ob a w ρ → a.defers = [] → Ds.Nodup → (∀ b ∈ Ds, c.w0.heap.size ≤ b ∧ w.heap[b]? = some (.deferred (some []))) → RepA' c M fr ob a (oI w Ds) ρ
 | [], _, h, _, _, _ => h
 | b :: Ds, w, h, ha, hn, hd => by
  obtain ⟨h1, h2⟩ := hd b List.mem_cons_self
  obtain ⟨n1, n2⟩ := List.nodup_cons.1 hn
  have hno : ∀ t, ¬ Own ρ t ∨ t ≠ b := fun t => by
   by_cases e : t = b
   ·
    subst e; exact .inl fun ho => rW h.s ho h2
   ·
    exact .inr e
  refine RepA'.shut Ds (h.turn ha hno (fun ⟨_, _, _, e⟩ => by rw [h2] at e; cases e) h1) ha n2 fun b' hb' => ⟨(hd b' (List.mem_cons_of_mem _ hb')).1, ?_⟩
  have hne : b' ≠ b := by rintro rfl; exact n1 hb'
  exact (World.putObj_heap_other hne).trans (hd b' (List.mem_cons_of_mem _ hb')).2
theorem mB {F : Fence} {n : Nat} {fn : Func} {tmps : Array Value} {R : Ending → World → Prop} : ∀ (Ds : List Nat) (w : World), Ds.Nodup → (∀ b ∈ Ds, w.heap[b]? = some (.deferred (some []))) →
  (∃ v, (results fn tmps).run P (oI w Ds) = .ok v (oI w Ds) ∧ R (.returned v) (oI w Ds)) → LeavesInM F n P fn tmps R (Ds.map fun b => { target := .collected b, args := #[] }) .returning w
 | [], w, _, _, h => h
 | b :: Ds, w, hn, hd, h => by
  obtain ⟨n1, n2⟩ := List.nodup_cons.1 hn
  refine ⟨by simp, .inl ⟨b, _, rfl, run_takeDeferred (hd b List.mem_cons_self), mB Ds _ n2 (fun b' hb' => ?_) h⟩⟩
  have hne : b' ≠ b := by rintro rfl; exact n1 hb'
  grind [World.putObj_heap_other, trans, List.mem_cons_of_mem]

theorem bD8 {f : FuncId} {fn : Func} {code : Code} {args : List HV} {k : Nat} {ob : Ob} {R : HV → Ob → Prop} (hf : P.funcs[f]? = some fn) (hb : fn.body = some code) (hok : eV P f = true) (hloc : LocOk k args ob) (hn : args.length ≤ fn.ntmps)
  (h : Hw P fn.ntmps k code (gU P fn.results.toList k R) (fun t => args.getD t .junk) ob k) : HFn P f args k ob R := by
 refine ⟨aX1 hok, fun w ρ X xs hS hA hX => Does.of hok ?_⟩
 have hlen : xs.length = args.length := by
  clear h hn hloc
  induction args generalizing xs with
  | nil => simp only [RepHV] at hA; simp [hA]
  | cons x l ih => rw [bH] at hA; obtain ⟨y, ys, rfl, _, h2⟩ := hA; simp [ih ys h2]
 refine callsIn_wide.1 (callsIn_of_wp_marks (F := Fence.wide) (n := 0) hf hb trivial ?_)
 let c : Ctx := { w0 := w, ρ0 := ρ, X := X, M0 := (· < k), n := fn.ntmps }
 have hget : ∀ (l : List HV) (ys : List Value) (t : Nat), RepHV w ρ (Owned ρ X) l ys → t < l.length → RepV w ρ (Owned ρ X) (l.getD t .junk) (ys.getD t undef) := by
  intro l
  induction l with
  | nil => intro ys t _ ht; simp at ht
  | cons x l ih =>
   intro ys t hl ht
   rw [bH] at hl
   obtain ⟨y, ys', rfl, h1, h2⟩ := hl
   cases t with
   | zero => simpa using h1
   | succ t => simpa using ih ys' t h2 (by simpa using ht)
 have hmen : ∀ (l : List HV) (t : Nat), HV.menL (· < k) l → (l.getD t .junk).men (· < k) := by
  intro l
  induction l with
  | nil => intro t _; simp [HV.men]
  | cons x l ih =>
   intro t hl
   simp only [HV.menL] at hl
   cases t with
   | zero => simpa using hl.1
   | succ t => simpa using ih t hl.2
 have h0 : RepA c (· < k) (fun t => args.getD t .junk) ob { tmps := xs.toArray ++ Array.replicate (fn.ntmps - xs.toArray.size) undef, defers := [] } w := by
  refine ⟨ρ, hS, fun t ht => ?_, fun t => hmen args t hloc.args, hloc.none, fun id hid => hid, Stay2.refl _ _, Moves.refl _ _, DefOk.nil _ _ _, by simp [c]; omega, hX⟩
  have htl : t < args.length := by
   rcases Nat.lt_or_ge t args.length with h' | h'
   ·
    exact h'
   ·
    exact absurd (by simp [List.getElem?_eq_none h']) ht
  have := hget args xs t hA htl
  have e : (xs.toArray ++ Array.replicate (fn.ntmps - xs.toArray.size) undef).getD t undef = xs.getD t undef := by
   rw [Array.getD_eq_getD_getElem?, Array.getElem?_append_left (by simp; omega)]
   simp
  rw [e]; exact this
 refine wpIn_mono (h c _ w rfl rfl (.inl ⟨rfl, rfl⟩) h0) ?_
 rintro e a1 w1 ⟨fr', ob', nx', hq, ρ', hA1⟩
 obtain ⟨⟨Ds, hD1, hD2, hD3⟩, _⟩ := hA1.defers
 have hA' : RepA' c (· < nx') fr' ob' { a1 with defers := [] } (oI w1 Ds) ρ' := RepA'.shut Ds ⟨hA1.s, hA1.f, hA1.mf, hA1.mo, hA1.m0, hA1.base, hA1.moves, DefOk.nil _ _ _, hA1.size, hA1.xlt⟩ rfl hD2 hD3
 have fin : fV P fr' ob' fn.results.toList (fun vs => mO k (fD vs) ob' R) → LeavesInM Fence.wide 0 P fn a1.tmps (fun e w' => ∃ r ob' ρ' x, e = .returned x ∧ R r ob' ∧ Gave w ρ X k r ob' w' ρ' x) a1.defers .returning w1 := by
  intro hq
  rw [hD1]
  refine mB Ds w1 hD2 (fun b hb => (hD3 b hb).2) ?_
  generalize oI w1 Ds = w' at hA'
  generalize ha' : ({ a1 with defers := [] } : Act) = a' at hA'
  have ht' : a1.tmps = a'.tmps := by rw [← ha']
  rw [ht']
  obtain ⟨vs, ys, ⟨cl, τ, r', ob2, hR, hr, ht1, ht2, hm, ho⟩, hvs, hrun⟩ := tV hA' hq
  refine ⟨(if h : ys.toArray.size = 1 then ys.toArray[0] else .tuple ys.toArray), ?_, r', ob2, ?_⟩
  ·
   unfold results
   rw [Array.mapM_eq_mapM_toList]
   simp only [Sem.run_bind, Sem.run_map]
   have : (fn.results.toList.mapM (fun r => match r with | .tmp t => pure (a'.tmps.getD t undef) | .cell ad t => do loadVar t (← asAddr (a'.tmps.getD ad undef)) : ResultVar → Sem Value)).run P w' = .ok ys w' := hrun
   erw [this]
   rfl
  ·
   let ρ2 : Env := fun id => match (if cl.contains id = true then none else ob' id) with | some _ => (if ∃ j, j < k + 4 ∧ τ j = id ∧ (ob2 j).isSome = true then ρ' id else none) | none => none
   have hρ2 : ∀ id L, ρ2 id = some L → ρ' id = some L := fun id L hL => by
    simp only [ρ2] at hL
    split at hL
    ·
     split at hL
     ·
      exact hL
     ·
      cases hL
    ·
     cases hL
   have hcl : ∀ id ∈ cl, ρ2 id = none := fun id hid => by
    have : cl.contains id = true := by simpa using hid
    simp only [ρ2, this, if_true]
   have hown : ∀ b, Own ρ2 b → Own ρ' b := fun b ⟨id, L, h1, h2⟩ => ⟨id, L, hρ2 id L h1, h2⟩
   have hst : Stay w' (Owned ρ' X) w' (Owned ρ2 X) := Stay.same (fun b _ hb => hb.imp id (hown b))
   have hval := bD7 hvs
   have hc1 : RepV w' ρ2 (Owned ρ2 X) ((fD vs).close ob' cl).norm _ := ⟨HV.norm_rep (iK hA'.s hcl hρ2 hst hval.1), by rw [HV.norm_agg, HV.close_agg]; exact hval.2⟩
   rw [hr] at hc1
   -- the caller's view
   let ρ3 : Env := fun j => match ob2 j with | some _ => ρ2 (τ j) | none => none
   have h23 : ∀ j, j < k + 4 → (ob2 j).isSome = true → ρ2 (τ j) = ρ' (τ j) := fun j hj hs => by
    obtain ⟨o, ho'⟩ := Option.isSome_iff_exists.1 hs
    obtain ⟨_, _, hncl, o0, ho0, _⟩ := ho j o ho'
    have hn : cl.contains (τ j) = false := by simpa using hncl
    simp only [ρ2, hn, ho0, Bool.false_eq_true, if_false]
    rw [if_pos ⟨j, hj, rfl, hs⟩]
   have hρ3 : ∀ j L, ρ3 j = some L → j < k + 4 ∧ ρ' (τ j) = some L ∧ (ob2 j).isSome = true := fun j L hL => by
    simp only [ρ3] at hL
    split at hL
    ·
     rename_i o ho'
     exact ⟨(ho j o ho').1, hρ2 _ _ hL, by rw [ho']; rfl⟩
    ·
     cases hL
   have hown3 : ∀ b, Own ρ3 b ↔ Own ρ2 b := by
    intro b
    constructor
    ·
     rintro ⟨j, L, h1, h2⟩
     simp only [ρ3] at h1
     split at h1
     ·
      exact ⟨_, L, h1, h2⟩
     ·
      cases h1
    ·
     rintro ⟨id, L, h1, h2⟩
     have h1' := h1
     simp only [ρ2] at h1
     split at h1
     ·
      split at h1
      ·
       rename_i hex
       obtain ⟨j, hj, rfl, hs⟩ := hex
       obtain ⟨o, ho'⟩ := Option.isSome_iff_exists.1 hs
       exact ⟨j, L, by simp only [ρ3, ho']; exact h1', h2⟩
      ·
       cases h1
     ·
      cases h1
   have hst3 : Stay w' (Owned ρ2 X) w' (Owned ρ3 X) := Stay.same (fun b _ hb => hb.imp id (hown3 b).1)
   have hmv3 : Moves (· < k + 4) (fun i => ρ2 (τ i)) ρ3 := fun id L _ hL => by
    simp only [ρ3] at hL
    split at hL
    ·
     exact ⟨L, hL, .inl rfl⟩
    ·
     cases hL
   refine ⟨ρ3, _, rfl, hR, ⟨RepH.stay hst3 hmv3 hm (jR.1 hc1.1), by rw [← hc1.2, HV.ren_isAgg]⟩, ⟨fun j o hj => ?_, fun j hj => ?_, fun i j L L' b h1 h2 h3 h4 => ?_, fun j L b h1 h2 => ?_⟩, hm, fun j o hj => ⟨(ho j o hj).1, (ho j o hj).2.1⟩, ?_, ?_⟩
   ·
    obtain ⟨hj4, hom, hncl, o0, ho0, hren⟩ := ho j o hj
    have h5 := h23 j hj4 (by rw [hj]; rfl)
    have h6 : ρ3 j = ρ2 (τ j) := by simp only [ρ3, hj]
    have hobj := hA'.s.objs _ _ ho0
    have : RepO w' ρ2 (Owned ρ2 X) (τ j) (o.ren τ) := by
     rw [← hren]
     cases o0 with
     | box t v =>
      obtain ⟨b, cs, e1, e2, e3⟩ := hobj
      exact ⟨b, cs, by rw [h5]; exact e1, e2, HV.norm_rep (iK hA'.s hcl hρ2 hst e3)⟩
     | row e sz l =>
      obtain ⟨hd, xs, e1, e2, e3, e4⟩ := hobj
      exact ⟨hd, xs, by rw [h5]; exact e1, e2.stay hst, e3, e4⟩
     | mp e sz D =>
      obtain ⟨b, hf, e1, e2⟩ := hobj
      exact ⟨b, hf, by rw [h5]; exact e1, e2.stay hst rfl (fun _ _ _ _ _ => rfl)⟩
     | dead => exact h5.trans hobj
     | tab T => exact ⟨h5.trans hobj.1, lC hst hobj.2⟩
     | hrow e sz l =>
      obtain ⟨hd, xs, e1, e2, e3, e4⟩ := hobj
      exact ⟨hd, xs, by rw [h5]; exact e1, mA hA'.s hcl hρ2 hst e2, pH l e3, by rw [kV]; exact e4⟩
    exact RepO.sub hst3 hmv3 hom h6 this
   ·
    simp only [ρ3, hj]
   ·
    obtain ⟨g1, g2, _⟩ := hρ3 i L h1
    obtain ⟨g3, g4, _⟩ := hρ3 j L' h2
    exact ht2 i j g1 g3 (hA'.s.apart _ _ L L' b g2 g4 h3 h4)
   ·
    obtain ⟨g1, g2, _⟩ := hρ3 j L h1
    exact hA'.s.xb _ L b g2 h2
   ·
    refine ⟨hA'.base.block, fun b hb => hA'.base.own b (hown b ((hown3 b).1 hb)), hA'.base.size, hA'.base.os, hA'.base.tape, hA'.base.output⟩
   ·
    intro j L' hj hL
    obtain ⟨g1, g2, _⟩ := hρ3 j L' hL
    rw [ht1 j hj] at g2
    exact hA'.moves j L' hj g2
 cases e with
 | normal => exact fin hq
 | ret => exact fin hq
 | _ => exact hq.elim
end
end Go.Hl

namespace Go.Hl
open Go

def fin : List (Nat × HV) → Fr
 | [] => fun _ => .junk
 | (t, v) :: l => upd (fin l) t v
def fob : List (Nat × HO) → Ob
 | [] => fun _ => none
 | (t, v) :: l => upd (fob l) t (some v)
def aW (nx : Nat) (fr : Fr) : List (Nat × HV) → Prop
 | [] => True
 | (t, v) :: l => fr t = v ∧ v.men (· < nx) ∧ aW nx fr l
def aY (nx : Nat) (ob : Ob) : List (Nat × HO) → Prop
 | [] => True
 | (t, v) :: l => ob t = some v ∧ t < nx ∧ v.men (· < nx) ∧ aY nx ob l

theorem wG {nx : Nat} {fr : Fr} : ∀ {l : List (Nat × HV)}, aW nx fr l → ∀ t, (fin l t = .junk ∨ fin l t = fr t) ∧ (fin l t).men (· < nx)
 | [], _, t => ⟨.inl rfl, by simp [fin, HV.men]⟩
 | (t', v) :: l, h, t => by
  simp only [aW] at h
  by_cases ht : t = t'
  ·
   simp_all [fin, aS]
  ·
   simp only [fin, aX _ _ ht]
   exact wG h.2.2 t
theorem wH {nx : Nat} {ob : Ob} : ∀ {l : List (Nat × HO)}, aY nx ob l → ∀ t o, fob l t = some o → ob t = some o ∧ t < nx ∧ o.men (· < nx)
 | [], _, t, o, ho => by simp [fob] at ho
 | (t', v) :: l, h, t, o, ho => by
  simp only [aY] at h
  by_cases ht : t = t'
  ·
   simp_all [fob, aS, Option.some.injEq]
  ·
   simp only [fob, aX _ _ ht] at ho
   exact wH h.2.2.2 t o ho

theorem aN {k nx2 : Nat} {fr : Fr} {ob : Ob} {l : List (Nat × HV)} {h : List (Nat × HO)} (hk : k ≤ nx2) (h1 : aW nx2 fr l) (h2 : aY nx2 ob h) : Fits k fr ob (fin l) (fob h) nx2 :=
 ⟨fun t => (wG h1 t).1, fun id o ho => (wH h2 id o ho).1, fun t => (wG h1 t).2, fun id o ho => (wH h2 id o ho).2, hk⟩

theorem upd_at {α : Type} (f : Nat → α) (d : Nat) (v : α) (t : Nat) : upd f d v t = if t = d then v else f t := rfl
theorem fin_at (t : Nat) (v : HV) (l : List (Nat × HV)) (t' : Nat) : fin ((t, v) :: l) t' = if t' = t then v else fin l t' := rfl
theorem fin_nil (t : Nat) : fin [] t = .junk := rfl
theorem fob_at (t : Nat) (v : HO) (l : List (Nat × HO)) (t' : Nat) : fob ((t, v) :: l) t' = if t' = t then some v else fob l t' := rfl
theorem fob_nil (t : Nat) : fob [] t = none := rfl
theorem bK {α : Type} {f : α → CV} {l : List α} {i : Nat} (h : i < l.length) : nth (l.map f) i = f l[i] := by simp [nth, h]

theorem aS2 {P : Program} {ops : Array Oper} {nx i : Nat} {av : List Nat} {fr : Fr} {ob : Ob} {K K' : Fr → Ob → Prop} (hq : ops.all (fun o => bN o.op) = true) (hav : ∀ id ∈ av, ob id = none) (hK : ∀ fr', K fr' ob → K' fr' ob)
  (h : hopI P ops nx [] i K fr ob) : hopI P ops nx av i K' fr ob := by
 unfold hopI at h ⊢
 cases ho : ops[i]? with
 | none => grind
 | some o =>
  rw [ho] at h
  simp only at h ⊢
  have hqo : bN o.op = true := Array.all_eq_true_iff_forall_mem.1 hq o (Array.mem_of_getElem? ho)
  have hc : hcallOf o.op = none := by
   cases hop' : o.op <;> simp only [hcallOf]
   rename_i c
   rw [hop'] at hqo
   grind [bN]
  cases hg : hguard ops o fr with
  | none => grind
  | some b =>
   rw [hg] at h
   cases b with
   | false => grind
   | true =>
    simp only [hstep, hc] at h ⊢
    refine ⟨fun id hid => ⟨fun hin => ?_, (h.1 id hid).2⟩, ?_⟩
    ·
     grind
    ·
     obtain ⟨v, u, h1, h2, h3, h4⟩ := zB h.2
     have hu := h4 hqo
     subst hu
     exact h2 ob (fun _ _ => rfl) _ (hK _ h1)

theorem zG {P : Program} {ops : Array Oper} {nx : Nat} {wt : Nat → Nat → Bool} {Q : Fr → Ob → Prop} {ob : Ob} (hq : ops.all (fun o => bN o.op) = true) (hf : ∀ id, nx ≤ id → ob id = none) :
  ∀ (l : List Nat) (C : jS) (fr : Fr), hlex P ops nx Q l fr ob → nE P ops nx wt Q l C fr ob
 | [], C, fr, h => h
 | i :: l, C, fr, h => by
  simp only [hlex, nE] at h ⊢
  have hi : isEff (ops.getD i default).op = false ∨ ops[i]? = none := by
   cases ho : ops[i]? with
   | none => grind
   | some o =>
    left
    have hqo : bN o.op = true := Array.all_eq_true_iff_forall_mem.1 hq o (Array.mem_of_getElem? ho)
    have : ops.getD i default = o := by simp [Array.getD_eq_getD_getElem?, ho]
    rw [this]
    cases hop' : o.op <;> simp only [isEff] <;> rw [hop'] at hqo <;> simp [bN] at hqo
    grind
  refine sM (fun _ _ h => h) (aS2 hq (fun id hid => hf id ?_) (fun fr' hK => zG hq hf l _ fr' hK) h)
  simp only [jD, List.mem_flatMap] at hid
  obtain ⟨p, _, hp⟩ := hid
  split at hp
  ·
   grind
  ·
   have : ((ops[i]?).map (fun o => isEff o.op)).getD true = true → ops[i]? = none := by
    intro he
    rcases hi with hi | hi
    ·
     cases ho : ops[i]? with
     | none => rfl
     | some o =>
      simp_all
    ·
     grind
   rcases List.mem_append.1 hp with hp | hp
   ·
    grind
   grind [hopI]

theorem aK3 {P : Program} {n k : Nat} {Q : dV} {fr : Fr} {ob : Ob} {nx id : Nat} {ops : Array Oper} (hm : P.follows .mixedOrders = true) (hd : iG n ops = true) (hp : jU ops (List.range ops.size) (Array.replicate ops.size false) = true) (hq : ops.all (fun o => bN o.op) = true)
  (h : hlex P ops nx (fun fr' ob' => Q .normal fr' ob' (nx + 4 * ops.size)) (List.range ops.size) fr ob) : Hw P n k (.region id ops true) Q fr ob nx := by
 intro c a w hn hk hz hA
 have hf : ∀ id, nx ≤ id → ob id = none := fun id hid => by
  obtain ⟨ρ, hA'⟩ := hA
  exact (hA'.nid_none (nid := id) (by omega)).1
 exact aX4 hm (List.range ops.size) [] hd hp rfl rfl (by simp) (zG hq hf _ _ _ h) c a w hn hk hz hA

def cQ : Ob := fun _ => none
theorem none0_at (t : Nat) : cQ t = none := rfl
def bQ (P : Program) (f : FuncId) (args : List CV) (R : CV → Prop) : Prop :=
 HFn P f (args.map .c) 0 cQ (fun r ob' => ∃ v, r = .c v ∧ R v ∧ ob' = cQ)

theorem aH {ob : Ob} {r : HV} {R : CV → Prop} (cl : List Nat) (v : CV) (h : (r.close ob cl).norm = .c v) (hR : R v) : mO 0 r ob (fun r ob' => ∃ v, r = .c v ∧ R v ∧ ob' = cQ) :=
 ⟨cl, id, .c v, cQ, ⟨v, rfl, hR, rfl⟩, by rw [h]; rfl, fun _ h => by omega, fun _ _ _ _ h => h, by simp [HV.men], fun j o h => by simp [cQ] at h⟩

theorem kO {ob : Ob} {nid : Nat} (h : ∀ i, nid ≤ i → i < nid + 4 → ob i = none) : bV ob [] nid cQ = ob := by grind [id, bV, cQ]

theorem jN (args : List CV) : LocOk 0 (args.map .c) cQ := ⟨fun j h => by omega, fun id o h => by simp [cQ] at h, HV.menL_c⟩

def qJ : Nat → List HV → Fr
 | _, [] => fun _ => .junk
 | k, v :: l => upd (qJ (k + 1) l) k v
theorem finA_at (k : Nat) (v : HV) (l : List HV) (t : Nat) : qJ k (v :: l) t = if t = k then v else qJ (k + 1) l t := rfl
theorem finA_nil (k t : Nat) : qJ k [] t = .junk := rfl
theorem vA : ∀ (l : List HV) (k t : Nat), qJ k l t = if t < k then .junk else l.getD (t - k) .junk
 | [], k, t => by simp [qJ]
 | v :: l, k, t => by
  by_cases h : t = k
  ·
   subst h; simp [qJ, aS]
  ·
   simp only [qJ, aX _ _ h, vA l (k + 1) t]
   grind
theorem bR {P : Program} {f : FuncId} {fn : Func} {code : Code} {args : List HV} {k : Nat} {ob : Ob} {R : HV → Ob → Prop} (hf : P.funcs[f]? = some fn) (hb : fn.body = some code) (hok : eV P f = true) (hloc : LocOk k args ob) (hn : args.length ≤ fn.ntmps)
  (h : Hw P fn.ntmps k code (gU P fn.results.toList k R) (qJ 0 args) ob k) : HFn P f args k ob R := by
 refine bD8 hf hb hok hloc hn ?_
 have : (fun t => args.getD t HV.junk) = qJ 0 args := by funext t; simp [vA]
 rw [this]; exact h
end Go.Hl

namespace Go.Hl
open Go

section
variable {P : Program} {n k : Nat} {Q : dV} {fr : Fr} {ob : Ob} {nx : Nat}

def HO.close (ob : Ob) (cl : List Nat) : HO → HO
 | .box t v => .box t (v.close ob cl).norm
 | .row e sz l => .row e sz l
 | .mp e sz D => .mp e sz D
 | .dead => .dead
 | .tab T => .tab T
 | .hrow e sz l => .hrow e sz (HV.closeL ob cl l)
def clF (ob : Ob) (cl : List Nat) (fr : Fr) : Fr := fun t => ((fr t).close ob cl).norm
def clO (ob : Ob) (cl : List Nat) : Ob := fun id => if cl.contains id = true then none else (ob id).map (HO.close ob cl)
theorem gJ (cl : List Nat) (t : Nat) : clF ob cl fr t = ((fr t).close ob cl).norm := rfl
theorem gK (cl : List Nat) (id : Nat) : clO ob cl id = if cl.contains id = true then none else (ob id).map (HO.close ob cl) := rfl

mutual
theorem HV.close_men {cl : List Nat} {M : Nat → Prop} : ∀ {v : HV}, v.men M → (v.close ob cl).men M
 | .junk, h => h
 | .c _, _ => by simp [HV.close, HV.men]
 | .agg l, h => by simp only [HV.close, HV.men] at h ⊢; exact HV.closeL_men h
 | .own id n, h => by
  simp only [HV.close]
  split
  ·
   split
   ·
    split
    ·
     simp [HV.men]
    ·
     exact h
   ·
    exact h
  ·
   exact h
 | .ptr .., h => h
 | .eptr .., h => h
 | .osl id n lo sz hi, h => by
  simp only [HV.close]
  split
  ·
   split
   ·
    split
    ·
     simp [HV.men]
    ·
     exact h
   ·
    exact h
  ·
   exact h
 | .mapr .., h => h
 | .mrow .., h => h
 | .clo .., h => h
 | .opq _, h => h
 | .tup l, h => by simp only [HV.close, HV.men] at h ⊢; exact HV.closeL_men h
theorem HV.closeL_men {cl : List Nat} {M : Nat → Prop} : ∀ {l : List HV}, HV.menL M l → HV.menL M (HV.closeL ob cl l)
 | [], h => by simp [HV.closeL, HV.menL]
 | v :: l, h => by simp only [HV.closeL, HV.menL] at h ⊢; exact ⟨HV.norm_men (HV.close_men h.1), HV.closeL_men h.2⟩
end

theorem HV.close_junk {cl : List Nat} {v : HV} (h : (v.close ob cl).norm ≠ .junk) : v ≠ .junk := by
 intro e; subst e; exact h rfl

theorem dW {code : Code} (cl : List Nat) (h : Hw P n k code Q (clF ob cl fr) (clO ob cl) nx) : Hw P n k code Q fr ob nx := by
 intro c a w hn hk hz hA
 refine h c a w hn hk hz ?_
 obtain ⟨ρ, h⟩ := hA
 let ρ2 : Env := fun id => if cl.contains id = true then none else ρ id
 have hρ2 : ∀ id L, ρ2 id = some L → ρ id = some L := fun id L hL => by grind
 have hcl : ∀ id ∈ cl, ρ2 id = none := fun id hid => by grind
 have hown : ∀ b, Own ρ2 b → Own ρ b := fun b ⟨id, L, h1, h2⟩ => ⟨id, L, hρ2 id L h1, h2⟩
 have hst : Stay w (Owned ρ c.X) w (Owned ρ2 c.X) := Stay.same (fun b _ hb => hb.imp id (hown b))
 refine ⟨ρ2, ⟨fun id o ho => ?_, fun id hid => ?_, fun id id' L L' b h1 h2 h3 h4 => h.s.apart id id' L L' b (hρ2 _ _ h1) (hρ2 _ _ h2) h3 h4, fun id L b h1 h2 => h.s.xb id L b (hρ2 _ _ h1) h2⟩, fun t ht => ?_, fun t => HV.norm_men (HV.close_men (h.mf t)), fun id o ho => ?_, h.m0, ?_, ?_, h.defers, h.size, h.xlt⟩
 ·
  simp only [clO] at ho
  split at ho
  ·
   grind
  ·
   rename_i hc
   obtain ⟨o', ho', rfl⟩ := Option.map_eq_some_iff.1 ho
   have hid : ρ2 id = ρ id := by simp only [ρ2, hc]; rfl
   have hobj := h.s.objs id o' ho'
   cases o' with
   | box t v =>
    obtain ⟨b, cs, e1, e2, e3⟩ := hobj
    exact ⟨b, cs, by grind, e2, HV.norm_rep (iK h.s hcl hρ2 hst e3)⟩
   | row e sz l =>
    obtain ⟨hd, xs, e1, e2, e3, e4⟩ := hobj
    exact ⟨hd, xs, by grind, e2.stay hst, e3, e4⟩
   | mp e sz D =>
    obtain ⟨b, hf, e1, e2⟩ := hobj
    exact ⟨b, hf, by grind, e2.stay hst rfl (fun _ _ _ _ _ => rfl)⟩
   | dead => exact hid.trans hobj
   | tab T => exact ⟨hid.trans hobj.1, lC hst hobj.2⟩
   | hrow e sz l =>
    obtain ⟨hd, xs, e1, e2, e3, e4⟩ := hobj
    exact ⟨hd, xs, by grind, mA h.s hcl hρ2 hst e2, pH l e3, by grind [kV]⟩
 ·
  simp only [clO] at hid
  simp only [ρ2]
  split
  ·
   rfl
  ·
   rename_i hc
   rw [if_neg hc, Option.map_eq_none_iff] at hid
   exact h.s.none id hid
 ·
  have := h.f t (HV.close_junk ht)
  exact ⟨HV.norm_rep (iK h.s hcl hρ2 hst this.1), by rw [clF, HV.norm_agg, HV.close_agg]; exact this.2⟩
 ·
  simp only [clO] at ho
  split at ho
  ·
   grind
  ·
   obtain ⟨o', ho', rfl⟩ := Option.map_eq_some_iff.1 ho
   obtain ⟨m1, m2⟩ := h.mo id o' ho'
   refine ⟨m1, ?_⟩
   cases o' with
   | box t v => exact HV.norm_men (HV.close_men m2)
   | row e sz l => trivial
   | mp e sz D => trivial
   | dead => trivial
   | tab _ => trivial
   | hrow e sz l => exact HV.closeL_men m2
 ·
  exact h.base.trans ⟨fun _ _ _ => rfl, fun b hb => .inl (hown b hb), Nat.le_refl _, rfl, rfl, rfl⟩
 ·
  exact Moves.trans (fun _ h => h) h.moves (fun id L _ hL => ⟨L, hρ2 id L hL, .inl rfl⟩)

theorem ownsRow_nil {w : World} {e sz : Nat} : w.ownsRow 0 e sz (.slice none 0 0) 0 [] := by
 refine ⟨by simp, .inl ⟨rfl, rfl⟩⟩

theorem RepA'.emptyRow {c : Ctx} {M M' : Nat → Prop} {a : Act} {w : World} {ρ : Env} (h : RepA' c M fr ob a w ρ) {id e sz : Nat} (hn : ¬ M id) (hM : ∀ i, M i → M' i) (hM' : M' id) :
  RepA' c M' fr (upd ob id (some (.row e sz []))) a w (upd ρ id (some (.hdr (.slice none 0 0)))) := by
 obtain ⟨hob, hρ⟩ := h.nid_none hn
 have hown : ∀ b, Own (upd ρ id (some (.hdr (.slice none 0 0)))) b → Own ρ b := by
  rintro b ⟨i, L, h1, h2⟩
  by_cases e : i = id
  ·
   subst e; rw [aS] at h1; cases h1; cases h2
  ·
   rw [aX _ _ e] at h1; exact ⟨i, L, h1, h2⟩
 have hst : Stay w (Owned ρ c.X) w (Owned (upd ρ id (some (.hdr (.slice none 0 0)))) c.X) := Stay.same (fun b _ hb => hb.imp (fun x => x) (hown b))
 have hmv : Moves M ρ (upd ρ id (some (.hdr (.slice none 0 0)))) := Moves.upd_new hn
 refine ⟨⟨fun i o ho => ?_, fun i hi => ?_, fun i i' L L' b h1 h2 h3 h4 => ?_, fun i L b h1 h2 => ?_⟩, fun t ht => ⟨RepH.stay hst hmv (h.mf t) (h.f t ht).1, (h.f t ht).2⟩, fun t => HV.men_mono hM (h.mf t), fun i o ho => ?_, fun i hi => hM i (h.m0 i hi), ?_, ?_, h.defers, h.size, h.xlt⟩
 ·
  by_cases e' : i = id
  ·
   subst e'
   rw [aS] at ho
   cases ho
   exact ⟨.slice none 0 0, [], aS _ _ _, by simp [RepL], by simp, ownsRow_nil⟩
  ·
   rw [aX _ _ e'] at ho
   exact RepO.stay hst hmv (h.mo i o ho).2 (aX _ _ e') (fun _ _ _ _ => rfl) (h.s.objs i o ho)
 ·
  by_cases e' : i = id
  ·
   simp_all
  ·
   rw [aX _ _ e'] at hi ⊢; exact h.s.none i hi
 ·
  by_cases e1 : i = id
  ·
   subst e1; rw [aS] at h1; cases h1; cases h3
  ·
   by_cases e2 : i' = id
   ·
    subst e2; rw [aS] at h2; cases h2; cases h4
   ·
    rw [aX _ _ e1] at h1; rw [aX _ _ e2] at h2
    exact h.s.apart i i' L L' b h1 h2 h3 h4
 ·
  by_cases e1 : i = id
  ·
   subst e1; rw [aS] at h1; cases h1; cases h2
  ·
   rw [aX _ _ e1] at h1; exact h.s.xb i L b h1 h2
 ·
  by_cases e' : i = id
  ·
   subst e'; rw [aS] at ho; cases ho; exact ⟨hM', trivial⟩
  ·
   rw [aX _ _ e'] at ho
   exact ⟨hM _ (h.mo i o ho).1, HO.men_mono hM (h.mo i o ho).2⟩
 ·
  exact h.base.trans ⟨fun _ _ _ => rfl, fun b hb => .inl (hown b hb), Nat.le_refl _, rfl, rfl, rfl⟩
 ·
  exact Moves.trans h.m0 h.moves hmv

theorem wI {w : World} {ρ : Env} {O : Nat → Prop} {v v' : HV} {off id : Nat} {cs : List Value} (hg : HV.getAt off 1 false v = some (.c .nils)) (hs : v.sto = true) (hv : HV.setAt off 1 (.own id 0) v = some v') (hρ : ρ id = some (.hdr (.slice none 0 0)))
  (h : RepH w ρ O v cs) : RepH w ρ O v' cs := by
 obtain ⟨c1, c2, c3, e0, e1, e2, e3, _⟩ := HV.getAt_spec hg hs h
 obtain ⟨d1, d2, d3, f0, f1, f2, f3, _⟩ := HV.setAt_spec (x := .own id 0) rfl hv hs h
 have : c1 = d1 ∧ c2 ++ c3 = d2 ++ d3 := by
  have := e0.symm.trans f0
  rw [List.append_assoc, List.append_assoc] at this
  exact List.append_inj this (by omega)
 obtain ⟨rfl, h23⟩ := this
 have h23 := List.append_inj h23 (by omega)
 obtain ⟨rfl, rfl⟩ := h23
 rw [e0]
 refine f3 c2 ?_
 simp only [RepH, RepC] at e3 ⊢
 refine ⟨_, e3, rfl, fun hd hh => ?_⟩
 grind

theorem jW {code : Code} (t off e sz : Nat) {v' : HV} (hg : HV.getAt off 1 false (fr t) = some (.c .nils)) (hs : (fr t).sto = true) (hv : HV.setAt off 1 (.own nx 0) (fr t) = some v') (ha : v'.isAgg = (fr t).isAgg)
  (h : Hw P n k code Q (upd fr t v') (upd ob nx (some (.row e sz []))) (nx + 1)) : Hw P n k code Q fr ob nx := by
 intro c a w hn hk hz hA
 refine h c a w hn hk hz ?_
 obtain ⟨ρ, hA⟩ := hA
 have hA' := hA.emptyRow (M' := (· < nx + 1)) (id := nx) (e := e) (sz := sz) (by omega) (fun i hi => by omega) (by omega)
 refine ⟨_, hA'.s, fun t' ht' => ?_, fun t' => ?_, hA'.mo, hA'.m0, hA'.base, hA'.moves, hA'.defers, hA'.size, hA'.xlt⟩
 ·
  by_cases e' : t' = t
  ·
   subst e'
   rw [aS]
   have hj : fr t' ≠ .junk := by intro e'; rw [e'] at hs; simp [HV.sto] at hs
   have hf := hA'.f t' hj
   have hr := wI hg hs hv (aS _ _ _) hf.1
   exact ⟨hr, by rw [ha]; exact hf.2⟩
  ·
   rw [aX _ _ e'] at ht' ⊢
   exact hA'.f t' ht'
 ·
  by_cases e' : t' = t
  ·
   subst e'
   rw [aS]
   have hj : fr t' ≠ .junk := by intro e'; rw [e'] at hs; simp [HV.sto] at hs
   obtain ⟨d1, d2, d3, f0, f1, f2, f3, f4, f5⟩ := HV.setAt_spec (x := .own nx 0) rfl hv hs (hA'.f t' hj).1
   exact f5 _ (by simp [HV.men]) (hA'.mf t')
  ·
   rw [aX _ _ e']; exact hA'.mf t'
theorem aE3 {code : Code} (id off e sz : Nat) {T : TypeId} {v v' : HV} (hb : ob id = some (.box T v)) (hg : HV.getAt off 1 false v = some (.c .nils)) (hs : v.sto = true) (hv : HV.setAt off 1 (.own nx 0) v = some v')
  (h : Hw P n k code Q fr (upd (upd ob nx (some (.row e sz []))) id (some (.box T v'))) (nx + 1)) : Hw P n k code Q fr ob nx := by
 intro c a w hn hk hz hA
 refine h c a w hn hk hz ?_
 obtain ⟨ρ, hA⟩ := hA
 have hid : id < nx := (hA.mo id _ hb).1
 have hA' := hA.emptyRow (M' := (· < nx + 1)) (id := nx) (e := e) (sz := sz) (by omega) (fun i hi => by omega) (by omega)
 have hb' : upd ob nx (some (.row e sz [])) id = some (.box T v) := by rw [aX _ _ (by omega)]; exact hb
 obtain ⟨b, cs, e1, e2, e3⟩ := hA'.s.objs id _ hb'
 refine ⟨_, ⟨fun i o ho => ?_, fun i hi => ?_, hA'.s.apart, hA'.s.xb⟩, hA'.f, hA'.mf, fun i o ho => ?_, hA'.m0, hA'.base, hA'.moves, hA'.defers, hA'.size, hA'.xlt⟩
 ·
  by_cases e' : i = id
  ·
   subst e'
   rw [aS] at ho
   cases ho
   exact ⟨b, cs, e1, e2, wI hg hs hv (aS _ _ _) e3⟩
  ·
   rw [aX _ _ e'] at ho
   exact hA'.s.objs i o ho
 ·
  by_cases e' : i = id
  ·
   simp_all
  ·
   rw [aX _ _ e'] at hi
   exact hA'.s.none i hi
 ·
  by_cases e' : i = id
  ·
   subst e'
   rw [aS] at ho
   cases ho
   obtain ⟨d1, d2, d3, f0, f1, f2, f3, f4, f5⟩ := HV.setAt_spec (x := .own nx 0) rfl hv hs e3
   exact ⟨(hA'.mo i _ hb').1, f5 _ (by simp [HV.men]) (hA'.mo i _ hb').2⟩
  ·
   rw [aX _ _ e'] at ho
   exact hA'.mo i o ho

def bX (ob : Ob) (id : Nat) : Ob := fun i => if i = id then none else ob i
theorem bW5 (ob : Ob) (id i : Nat) : bX ob id i = if i = id then none else ob i := rfl
theorem zH {code : Code} (t id : Nat) {T : TypeId} {v : CV} (ht : fr t = .ptr id 0) (hb : ob id = some (.box T (.c v)))
  (h : Hw P n k code Q (upd fr t (.c (.rp v))) (bX ob id) nx) : Hw P n k code Q fr ob nx := by
 intro c a w hn hk hz hA
 refine h c a w hn hk hz ?_
 obtain ⟨ρ, h⟩ := hA
 let ρ2 : Env := fun i => if i = id then none else ρ i
 have hρ2 : ∀ i L, ρ2 i = some L → ρ i = some L := fun i L hL => by grind
 have hown : ∀ b, Own ρ2 b → Own ρ b := fun b ⟨i, L, h1, h2⟩ => ⟨i, L, hρ2 i L h1, h2⟩
 have hst : Stay w (Owned ρ c.X) w (Owned ρ2 c.X) := Stay.same (fun b _ hb => hb.imp (fun x => x) (hown b))
 have hmv : ∀ M : Nat → Prop, Moves M ρ ρ2 := fun M i L _ hL => ⟨L, hρ2 i L hL, .inl rfl⟩
 obtain ⟨b, cs, e1, e2, e3⟩ := h.s.objs id _ hb
 obtain ⟨b', e1', he⟩ := jQ (x := .tmp t) h ht (by rw [hb]; rfl)
 rw [e1] at e1'
 cases e1'
 have hnb : ¬ Owned ρ2 c.X b := by
  rintro (hx | ⟨i, L, h1, h2⟩)
  ·
   exact h.s.xb id _ b e1 rfl hx
  ·
   have := h.s.apart i id L _ b (hρ2 i L h1) e1 h2 rfl
   grind
 refine ⟨ρ2, ⟨fun i o ho => ?_, fun i hi => ?_, fun i i' L L' b h1 h2 h3 h4 => h.s.apart i i' L L' b (hρ2 _ _ h1) (hρ2 _ _ h2) h3 h4, fun i L b h1 h2 => h.s.xb i L b (hρ2 _ _ h1) h2⟩, fun t' ht' => ?_, fun t' => ?_, fun i o ho => ?_, h.m0, ?_, ?_, h.defers, h.size, h.xlt⟩
 ·
  simp only [bX] at ho
  split at ho
  ·
   grind
  ·
   rename_i hne
   exact RepO.stay hst (hmv _) (h.mo i o ho).2 (by grind) (fun _ _ _ _ => rfl) (h.s.objs i o ho)
 ·
  simp only [bX] at hi
  simp only [ρ2]
  split
  ·
   rfl
  ·
   rename_i hne
   rw [if_neg hne] at hi
   exact h.s.none i hi
 ·
  by_cases e : t' = t
  ·
   subst e
   rw [aS]
   have he' : a.tmps.getD t' undef = .pointer (some ⟨b, 0, none⟩) := he
   rw [he']
   refine cT ?_ rfl rfl
   simp only [RepC]
   simp only [RepH] at e3
   refine ⟨⟨b, 0, none⟩, cs, rfl, e3.stay hst, fun j u hj => ?_, fun _ => hnb⟩
   have hlt : j < cs.length := (List.getElem?_eq_some_iff.1 hj).1
   rw [dQ, cell_of_row w b _ _ _ _ e2]
   simpa using hj
  ·
   rw [aX _ _ e] at ht' ⊢
   exact ⟨RepH.stay hst (hmv _) (h.mf t') (h.f t' ht').1, (h.f t' ht').2⟩
 ·
  by_cases e : t' = t
  ·
   grind [aS, HV.men]
  ·
   rw [aX _ _ e]; exact h.mf t'
 ·
  simp only [bX] at ho
  split at ho
  ·
   grind
  ·
   exact h.mo i o ho
 ·
  exact h.base.trans ⟨fun _ _ _ => rfl, fun b hb => .inl (hown b hb), Nat.le_refl _, rfl, rfl, rfl⟩
 ·
  exact Moves.trans (fun _ h => h) h.moves (hmv _)
end
end Go.Hl

namespace Go.Hl
open Go

def mC (ops : Array Oper) (p : Nat) : Bool := match ops[p]? with | some o => bN o.op | none => true
def effAt (ops : Array Oper) (p : Nat) : Bool := match ops[p]? with | some o => isEff o.op | none => false
def ids4 (nx p : Nat) : List Nat := [nx + 4 * p, nx + 4 * p + 1, nx + 4 * p + 2, nx + 4 * p + 3]
def getF (C : jS) (p : Nat) : List Nat := C.flatMap fun q => if q.1 = p then q.2 else []

abbrev nH := List (Nat × List Nat × List Nat)
def hwalk2G (P : Program) (ops : Array Oper) (nx : Nat) (Q : Fr → Ob → Prop) : nH → jS → Fr → Ob → Prop
 | [], _, fr, ob => Q fr ob
 | (i, cr, rd) :: rest, C, fr, ob => dF P ops nx (cr.flatMap (ids4 nx) ++ rd.flatMap (getF C)) i (hwalk2G P ops nx Q rest (match ops[i]? with
   | some o => if isEff o.op = true then C else (i, if hguard ops o fr = some true then touch o.op (ev fr) else []) :: C
   | none => C)) fr ob

def chk (ops : Array Oper) (wt : Nat → Nat → Bool) : nH → List Nat → Bool
 | [], _ => true
 | (i, cr, rd) :: rest, T => T.all (fun p => wt i p || ((mC ops p || cr.contains p) && (!(effAt ops i) || rd.contains p))) && chk ops wt rest (if effAt ops i then T else i :: T)

theorem bL3 {P : Program} {ops : Array Oper} {nx : Nat} {av av' : List Nat} {i : Nat} {K : Fr → Ob → Prop} {fr : Fr} {ob : Ob} (hav : ∀ id, (ob id).isSome = true → id ∈ av → id ∈ av') (h : dF P ops nx av' i K fr ob) :
  dF P ops nx av i (fun fr' ob' => K fr' ob' ∧ (∀ id, ob id = none → (mC ops i = true ∨ ¬ (nx + 4 * i ≤ id ∧ id < nx + 4 * i + 4)) → ob' id = none)) fr ob := by
 unfold dF at h ⊢
 cases ho : ops[i]? with
 | none => grind
 | some o =>
  rw [ho] at h
  simp only at h ⊢
  cases hg : hguard ops o fr with
  | none => grind
  | some b =>
   rw [hg] at h
   cases b with
   | false => grind
   | true =>
    simp only at h ⊢
    unfold dZ at h ⊢
    cases hc : hcallOf o.op with
    | none =>
     rw [hc] at h
     simp only at h ⊢
     obtain ⟨v, u, hK, hform, hid, hq⟩ := wE h.2
     refine ⟨fun id hi => ⟨fun hin => (h.1 id hi).1 (hav id (h.1 id hi).2 hin), (h.1 id hi).2⟩, hform ob (fun _ _ => rfl) _ ⟨hK, fun id h1 h2 => ?_⟩⟩
     grind [jM, mC]
    | some p =>
     obtain ⟨f, xs⟩ := p
     rw [hc] at h
     simp only at h ⊢
     obtain ⟨h1, nd, h⟩ := h
     refine ⟨h1, nd, ?_⟩
     have hnq : mC ops i = false := by
      simp only [mC, ho]
      cases hop' : o.op <;> rw [hop'] at hc <;> simp only [hcallOf] at hc <;> try cases hc
      rename_i cl
      grind [bN]
     have hcall : ∀ g args, HCallL P av' g args ob (nx + 4 * i) (fun v ob' => K (updo fr o.dst v) ob') → HCallL P av g args ob (nx + 4 * i) (fun v ob' => K (updo fr o.dst v) ob' ∧ (∀ id, ob id = none → (mC ops i = true ∨ ¬ (nx + 4 * i ≤ id ∧ id < nx + 4 * i + 4)) → ob' id = none)) := by
      rintro g args ⟨σ, largs, lob, R, h1, h2, h3, h5, h6, h7⟩
      have hσ : ∀ j, j < σ.length → (ob (σ.getD j 0)).isSome = true := fun j hj => by
       obtain ⟨o', ho'⟩ := h2.all j hj
       grind
      refine ⟨σ, largs, lob, R, h1, h2, ⟨h3.1, fun j hj => (h3.2 j hj).imp (fun h hin => h (hav _ (hσ j hj) hin)) (fun h => h)⟩, h5, h6, fun r lob' hR hr => ⟨h7 r lob' hR hr, fun id e1 e2 => ?_⟩⟩
      ·
       unfold bV
       split
       ·
        rename_i j hj
        exfalso
        rw [List.findIdx?_eq_some_iff_getElem] at hj
        obtain ⟨hj1, hj2, _⟩ := hj
        have := hσ j hj1
        rw [List.getD_eq_getElem?_getD, List.getElem?_eq_getElem hj1, Option.getD_some] at this
        simp only [beq_iff_eq] at hj2
        rw [hj2, e1] at this; cases this
       ·
        rcases e2 with e2 | e2
        ·
         rw [hnq] at e2; cases e2
        ·
         rw [if_neg e2]; exact e1
     grind

theorem wJ {P : Program} {ops : Array Oper} {nx : Nat} {wt : Nat → Nat → Bool} {Q : Fr → Ob → Prop} : ∀ (plan : nH) (C : jS) (fr : Fr) (ob : Ob), chk ops wt plan (C.map (·.1)) = true →
  (∀ p, mC ops p = true → ∀ t, t < 4 → ob (nx + 4 * p + t) = none) → hwalk2G P ops nx Q plan C fr ob → nE P ops nx wt Q (plan.map (·.1)) C fr ob
 | [], C, fr, ob, _, _, h => h
 | (i, cr, rd) :: rest, C, fr, ob, hc, hn, h => by
  simp only [hwalk2G, nE, List.map_cons, chk, Bool.and_eq_true] at h hc ⊢
  have hav : ∀ id, (ob id).isSome = true → id ∈ jD ops nx wt C i → id ∈ cr.flatMap (ids4 nx) ++ rd.flatMap (getF C) := by
   intro id hs hid
   simp only [jD, List.mem_flatMap] at hid
   obtain ⟨p, hp, hid⟩ := hid
   have hT := List.all_eq_true.1 hc.1 p.1 (List.mem_map.2 ⟨p, hp, rfl⟩)
   split at hid
   ·
    grind
   ·
    rename_i hw
    have hw' : wt i p.1 = false := by simpa using hw
    simp only [hw', Bool.false_or, Bool.and_eq_true, Bool.or_eq_true, Bool.not_eq_true'] at hT
    rcases List.mem_append.1 hid with hid | hid
    ·
     rcases hT.1 with hq | hq
     ·
      simp only [List.mem_cons, List.not_mem_nil, or_false] at hid
      have : ∃ t, t < 4 ∧ id = nx + 4 * p.1 + t := by
       rcases hid with e | e | e | e
       ·
        simp_all
       ·
        grind
       ·
        grind
       ·
        grind
      grind
     ·
      refine List.mem_append_left _ (List.mem_flatMap.2 ⟨p.1, by grind, hid⟩)
    ·
     split at hid
     ·
      rename_i he
      have he' : effAt ops i = true := by
       simp only [effAt]
       cases ho : ops[i]? with
       | none => grind [absurd, dF]
       | some o => grind
      rcases hT.2 with h' | h'
      ·
       grind
      ·
       refine List.mem_append_right _ (List.mem_flatMap.2 ⟨p.1, by grind, ?_⟩)
       exact List.mem_flatMap.2 ⟨p, hp, by grind⟩
     grind
  refine jT (fun _ h => h) (fun fr' ob' hK => ?_) (bL3 hav h)
  refine wJ rest _ fr' ob' ?_ (fun p hq t ht => ?_) hK.1
  ·
   grind [effAt, absurd, dF, isEff]
  ·
   refine hK.2 _ (hn p hq t ht) ?_
   by_cases e : i = p
   all_goals grind

theorem eF {P : Program} {n k : Nat} {Q : dV} {fr : Fr} {ob : Ob} {nx id : Nat} {ops : Array Oper} (hm : P.follows .mixedOrders = true) (plan : nH) (ms : List Nat) (hd : iG n ops = true) (hp : jU ops (plan.map (·.1)) (Array.replicate ops.size false) = true) (hw1 : aK0 ops ms = true)
  (hw2 : ms.all (fun m => decide (m < 2 ^ ms.length)) = true) (hl : plan.length = ops.size) (hc : chk ops (aE2 ms) plan [] = true)
  (h : hwalk2G P ops nx (fun fr' ob' => Q .normal fr' ob' (nx + 4 * ops.size)) plan [] fr ob) : Hw P n k (.region id ops true) Q fr ob nx := by
 intro c a w hn hk hz hA
 have hf : ∀ id, nx ≤ id → ob id = none := fun id hid => by
  obtain ⟨ρ, hA'⟩ := hA
  exact (hA'.nid_none (nid := id) (by omega)).1
 exact aX4 hm (plan.map (·.1)) ms hd hp hw1 hw2 (by grind) (wJ plan [] fr ob hc (fun p _ t _ => hf _ (by omega)) h) c a w hn hk hz hA

def hwalk2 (P : Program) (ops : Array Oper) (nx : Nat) (Q : Fr → Ob → Prop) : nH → jS → Fr → Ob → Prop
 | [], _, fr, ob => Q fr ob
 | (i, cr, rd) :: rest, C, fr, ob => hopI P ops nx (cr.flatMap (ids4 nx) ++ rd.flatMap (getF C)) i (hwalk2 P ops nx Q rest (match ops[i]? with
   | some o => if isEff o.op = true then C else (i, if hguard ops o fr = some true then touch o.op (ev fr) else []) :: C
   | none => C)) fr ob
theorem aK4 {P : Program} {ops : Array Oper} {nx : Nat} {Q : Fr → Ob → Prop} : ∀ {l : nH} {C : jS} {fr : Fr} {ob : Ob}, hwalk2 P ops nx Q l C fr ob → hwalk2G P ops nx Q l C fr ob
 | [], _, _, _, h => h
 | (_, _, _) :: _, _, _, _, h => sM (fun _ _ => aK4) h
theorem bL4 {P : Program} {n k : Nat} {Q : dV} {fr : Fr} {ob : Ob} {nx id : Nat} {ops : Array Oper} (hm : P.follows .mixedOrders = true) (plan : nH) (ms : List Nat) (hd : iG n ops = true) (hp : jU ops (plan.map (·.1)) (Array.replicate ops.size false) = true) (hw1 : aK0 ops ms = true)
  (hw2 : ms.all (fun m => decide (m < 2 ^ ms.length)) = true) (hl : plan.length = ops.size) (hc : chk ops (aE2 ms) plan [] = true)
  (h : hwalk2 P ops nx (fun fr' ob' => Q .normal fr' ob' (nx + 4 * ops.size)) plan [] fr ob) : Hw P n k (.region id ops true) Q fr ob nx :=
 eF hm plan ms hd hp hw1 hw2 hl hc (aK4 h)

theorem iL {P : Program} {av : List Nat} {f : FuncId} {ob : Ob} {nid : Nat} {K : HV → Ob → Prop} {args : List CV} {R : CV → Prop} (h : bQ P f args R) (hfree : ob nid = none ∧ ob (nid + 1) = none ∧ ob (nid + 2) = none ∧ ob (nid + 3) = none) (hK : ∀ v, R v → K (.c v) ob) :
  HCall P av f (args.map .c) ob nid K := by
 refine ⟨[], args.map .c, cQ, _, h, jN args, ⟨List.nodup_nil, by simp⟩, (HV.renL_c _ _).symm, fun j o h => by simp [cQ] at h, fun r lob' hR _ => ?_⟩
 obtain ⟨v, rfl, hv, rfl⟩ := hR
 rw [kO (fun i h1 h2 => ?_)]
 ·
  exact hK v hv
 grind

def bL5 (P : Program) (f : FuncId) (args : List HV) (R : CV → Prop) : Prop :=
 HFn P f args 0 cQ (fun r ob' => ∃ v, r = .c v ∧ R v ∧ ob' = cQ)
theorem aX5 {args : List HV} (hm : HV.menL (· < 0) args) : LocOk 0 args cQ := ⟨fun j h => by omega, fun id o h => by simp [cQ] at h, hm⟩
theorem aS3 {P : Program} {av : List Nat} {f : FuncId} {ob : Ob} {nid : Nat} {K : HV → Ob → Prop} {args : List HV} {R : CV → Prop} (h : bL5 P f args R) (hm : HV.menL (· < 0) args) (hr : ∀ m, HV.renL m args = args)
  (hfree : ob nid = none ∧ ob (nid + 1) = none ∧ ob (nid + 2) = none ∧ ob (nid + 3) = none) (hK : ∀ v, R v → K (.c v) ob) : HCall P av f args ob nid K := by
 refine ⟨[], args, cQ, _, h, aX5 hm, ⟨List.nodup_nil, by simp⟩, (hr _).symm, fun j o h => by simp [cQ] at h, fun r lob' hR _ => ?_⟩
 obtain ⟨v, rfl, hv, rfl⟩ := hR
 rw [kO (fun i h1 h2 => ?_)]
 ·
  exact hK v hv
 grind

theorem cE {α : Type} {f : α → CV} (h : ∀ x, (f x).denil = f x) : ∀ l : List α, CV.denilL (l.map f) = l.map f
 | [] => rfl
 | x :: l => by simp only [List.map_cons, CV.denilL, h, cE h l]
theorem denilL_str (l : List (List UInt8)) : CV.denilL (l.map .str) = l.map .str := cE (fun _ => rfl) l
theorem denilL_int (k : IntKind) (l : List Int) : CV.denilL (l.map (.int k)) = l.map (.int k) := cE (fun _ => rfl) l
theorem cells_mem_str {l : List (List UInt8)} : (∀ v ∈ l.map CV.str, v.cells = 1) ↔ True := by simp [CV.cells]

def aS4 (P : Program) (f : FuncId) (T : TypeId) (v : CV) (args : List CV) (R : CV → CV → Prop) : Prop :=
 HFn P f (.ptr 0 0 :: args.map .c) 1 (fob [(0, .box T (.c v))]) (fun r ob' => ∃ u v', r = .c u ∧ ob' = fob [(0, .box T (.c v'))] ∧ R u v')

theorem cZ (T : TypeId) (v : CV) (args : List CV) : LocOk 1 (.ptr 0 0 :: args.map .c) (fob [(0, .box T (.c v))]) := by
 refine ⟨fun j h => ?_, fun id o h => ?_, ?_⟩
 ·
  have : j = 0 := by omega
  subst this
  exact ⟨_, rfl⟩
 ·
  by_cases e : id = 0
  ·
   subst e
   simp only [fob_at, if_true, Option.some.injEq] at h
   grind [HO.men, HV.men]
  grind [fob_at, fob_nil]
 grind [HV.menL, HV.men, HV.menL_c]

theorem fE {ob : Ob} {r w : HV} {T : TypeId} {R : CV → CV → Prop} (cl : List Nat) (u v' : CV) (h : (r.close ob cl).norm = .c u) (hb : ob 0 = some (.box T w)) (hw : (w.close ob cl).norm = .c v') (h0 : 0 ∉ cl) (hR : R u v') :
  mO 1 r ob (fun r ob' => ∃ u v', r = .c u ∧ ob' = fob [(0, .box T (.c v'))] ∧ R u v') := by
 refine ⟨cl, id, .c u, fob [(0, .box T (.c v'))], ⟨u, v', rfl, rfl, hR⟩, by rw [h]; rfl, fun _ _ => rfl, fun _ _ _ _ h => h, by simp [HV.men], fun j o ho => ?_⟩
 by_cases e : j = 0
 ·
  subst e
  simp only [fob_at, if_true, Option.some.injEq] at ho
  subst ho
  refine ⟨by omega, by simp [HO.men, HV.men], h0, .box T w, hb, ?_⟩
  simp only [hw]
  rfl
 grind [fob_at, fob_nil]

theorem bS {P : Program} {av : List Nat} {f : FuncId} {ob : Ob} {nid id : Nat} {K : HV → Ob → Prop} {T : TypeId} {v : CV} {args : List CV} {R : CV → CV → Prop} (h : aS4 P f T v args R) (hid : ob id = some (.box T (.c v))) (hav : id ∉ av)
  (hfree : ob nid = none ∧ ob (nid + 1) = none ∧ ob (nid + 2) = none ∧ ob (nid + 3) = none) (hK : ∀ u v', R u v' → K (.c u) (upd ob id (some (.box T (.c v'))))) :
  HCall P av f (.ptr id 0 :: args.map .c) ob nid K := by
 refine ⟨[id], .ptr 0 0 :: args.map .c, _, _, h, cZ T v args, ⟨by simp, by grind⟩, ?_, fun j o hj => ?_, fun r lob' hR _ => ?_⟩
 ·
  simp only [HV.renL, HV.ren, HV.renL_c]
  rfl
 ·
  by_cases e : j = 0
  ·
   subst e
   simp only [fob_at, if_true, Option.some.injEq] at hj
   grind [HO.ren, HV.ren]
  grind [fob_at, fob_nil]
 ·
  obtain ⟨u, v', rfl, rfl, hR⟩ := hR
  have e : bV ob [id] nid (fob [(0, .box T (.c v'))]) = upd ob id (some (.box T (.c v'))) := by
   funext i
   by_cases e : i = id
   ·
    subst e
    simp only [bV, aS, List.findIdx?_cons, beq_self_eq_true, if_true, fob_at, Option.map_some]
    rfl
   ·
    have e' : (id == i) = false := by simp; exact fun h => e h.symm
    simp only [bV, List.findIdx?_cons, e', List.findIdx?_nil, Option.map_none, aX _ _ e]
    simp only [Bool.false_eq_true, if_false]
    split
    ·
     rename_i hr
     have h1 : [id].length + (i - nid) ≠ 0 := by simp
     rw [fob_at, if_neg h1, fob_nil]
     grind
    ·
     rfl
  rw [e]
  exact hK u v' hR

section
variable {P : Program} {ti : TyI} {t t2 f nid nx i : Nat} {a a' b b' x x' y y' : HV} {ob ob' : Ob} {K : HV → Prop} {KO : HV → Ob → Prop} {KC : CV → Prop}
@[congr] theorem cJ4 (h : a = a') : hload ti a ob K = hload ti a' ob K := by rw [h]
@[congr] theorem cI3 (h : a = a') (h2 : b = b') : hstore ti a b ob KO = hstore ti a' b' ob KO := by rw [h, h2]
@[congr] theorem bV8 (h : a = a') : hfieldAddr P t a f ob K = hfieldAddr P t a' f ob K := by rw [h]
@[congr] theorem bV9 (h : a = a') (h2 : b = b') : hindexAddr P t a b ob K = hindexAddr P t a' b' ob K := by rw [h, h2]
@[congr] theorem cI4 {ps : List (Nat × Operand)} {e : Operand → HV} {ps' : List (Nat × Operand)} (h : ps = ps') : gS ti ps e K = gS ti ps' e K := by rw [h]
@[congr] theorem cI5 {lo lo' hi hi' : Option HV} (h : a = a') (h1 : lo = lo') (h2 : hi = hi') : hslice P t a lo hi K = hslice P t a' lo' hi' K := by rw [h, h1, h2]
@[congr] theorem cI6 (h : a = a') (h2 : b = b') : hindex P t a b K = hindex P t a' b' K := by rw [h, h2]
@[congr] theorem cM8 (h : a = a') : hext a i K = hext a' i K := by rw [h]
@[congr] theorem cJ5 (h : a = a') : hconv P t t2 a K = hconv P t t2 a' K := by rw [h]
@[congr] theorem cN7 {op : UnOp} (h : a = a') : hun op a K = hun op a' K := by rw [h]
@[congr] theorem cM9 {l l' : List HV} (h : l = l') : hclo f l K = hclo f l' K := by rw [h]
@[congr] theorem cN0 {mx : Bool} (h : a = a') (h2 : b = b') : hmax mx a b K = hmax mx a' b' K := by rw [h, h2]
@[congr] theorem cJ6 (h : x = x') (h1 : a = a') (h2 : b = b') : hpick x a b K = hpick x' a' b' K := by rw [h, h1, h2]
@[congr] theorem cE9 (h : a = a') (h2 : b = b') : happend P t a b nid ob KO = happend P t a' b' nid ob KO := by rw [h, h2]
@[congr] theorem cD3 (h : a = a') (h2 : b = b') : happend2 P t a b nid ob KO = happend2 P t a' b' nid ob KO := by rw [h, h2]
@[congr] theorem cF0 {lo lo' hi hi' : Option HV} (h : a = a') (h1 : lo = lo') (h2 : hi = hi') (h3 : ob = ob') : hslice2 P t a lo hi ob K = hslice2 P t a' lo' hi' ob' K := by rw [h, h1, h2, h3]
@[congr] theorem cF1 {lo lo' : Option HV} {hi hi' mx mx' : HV} (h : a = a') (h1 : lo = lo') (h2 : hi = hi') (h3 : mx = mx') : hslice3 P t a lo hi mx K = hslice3 P t a' lo' hi' mx' K := by rw [h, h1, h2, h3]
@[congr] theorem cJ7 (h : a = a') (h2 : b = b') (h3 : ob = ob') : hcopy P t a b ob KO = hcopy P t a' b' ob' KO := by rw [h, h2, h3]
@[congr] theorem cI7 (h : a = a') : hclear P t a ob KO = hclear P t a' ob KO := by rw [h]
@[congr] theorem cF2 (h : a = a') (h2 : b = b') : hlookup P t a b ob K = hlookup P t a' b' ob K := by rw [h, h2]
@[congr] theorem bW0 (h : a = a') (h2 : b = b') (h3 : x = x') : hmapUpdate P t a b x ob KO = hmapUpdate P t a' b' x' ob KO := by rw [h, h2, h3]
@[congr] theorem cN1 {op : BinOp} (h : a = a') (h2 : b = b') : kG P op t a b KC = kG P op t a' b' KC := by rw [h, h2]
@[congr] theorem cN2 {op : BinOp} {k : IntKind} {m m' n n' : Int} (h : m = m') (h2 : n = n') : hint op k m n KC = hint op k m' n' KC := by rw [h, h2]
@[congr] theorem cI8 {op : BinOp} {k : IntKind} {m m' n n' : Int} (h : m = m') (h2 : n = n') : hshift op k m n KC = hshift op k m' n' KC := by rw [h, h2]
@[congr] theorem cN3 {op : BinOp} {m m' n n' : List UInt8} (h : m = m') (h2 : n = n') : hstr op m n KC = hstr op m' n' KC := by rw [h, h2]
@[congr] theorem cJ8 {ops : Array Oper} {G : Fr → Ob → Prop} {l l' : List Nat} {fr fr' : Fr} (h : l = l') (h1 : fr = fr') (h2 : ob = ob') : hlexG P ops nx G l fr ob = hlexG P ops nx G l' fr' ob' := by rw [h, h1, h2]
@[congr] theorem cF3 {ops : Array Oper} {G : Fr → Ob → Prop} {l : nH} {C C' : jS} {fr fr' : Fr} (h : C = C') (h1 : fr = fr') (h2 : ob = ob') : hwalk2G P ops nx G l C fr ob = hwalk2G P ops nx G l C' fr' ob' := by rw [h, h1, h2]
@[congr] theorem cJ9 {av av' : List Nat} {l l' : List HV} {n n' : Nat} (h1 : av = av') (h2 : l = l') (h3 : ob = ob') (h4 : n = n') : HCall P av f l ob n KO = HCall P av' f l' ob' n' KO := by rw [h1, h2, h3, h4]
theorem updo_at (fr : Fr) (d : Nat) (v : HV) (t : Nat) : updo fr (some d) v t = if t = d then v else fr t := rfl
theorem updo_none (fr : Fr) (v : HV) : updo fr none v = fr := rfl
theorem hbin_int {op : BinOp} {k k' : IntKind} {m n : Int} : kG P op t (.c (.int k m)) (.c (.int k' n)) KC = if isShift op then hshift op k m n KC else k = k' ∧ hint op k m n KC := rfl
theorem hbin_str {op : BinOp} {m n : List UInt8} : kG P op t (.c (.str m)) (.c (.str n)) KC = hstr op m n KC := rfl
theorem hbin_bool {op : BinOp} {m n : Bool} : kG P op t (.c (.bool m)) (.c (.bool n)) KC = hlift (aO P t) fun ti => ti.d = .bool ∧ match op with
  | .eql => KC (.bool (m == n))
  | .neq => KC (.bool (!(m == n)))
  | _ => False := rfl
end
end Go.Hl

namespace Go.Pl
open Go Go.Hl

abbrev aJ := List UInt8
end Go.Pl

namespace Go.Pl
open Go Go.Hl

abbrev Dig := {l : List UInt8 // l.length = 32}
def dgl (d : Dig) : List CV := d.1.map fun b => .int .u8 b.toNat
def dg (d : Dig) : CV := .agg (dgl d)
def zdg : Dig := ⟨List.replicate 32 0, by simp⟩
def zd : CV := dg zdg
def dgi (k : IntKind) (n : Int) : CV := .agg (.int k n :: List.replicate 31 (.int .u8 0))
theorem tW : ∀ {α : Type} (l : List α) (k : IntKind) (f : α → Int), CV.cellsL (l.map fun b => .int k (f b)) = l.length
 | _, [], _, _ => rfl
 | _, x :: l, k, f => by simp only [List.map_cons, CV.cellsL, CV.cells, tW l, List.length_cons]; omega
theorem dg_cells (d : Dig) : (dg d).cells = 32 := by simp only [dg, dgl, CV.cells, tW, d.2]
theorem dg_isAgg (d : Dig) : (dg d).isAgg = true := rfl
theorem tX : ∀ {α : Type} (l : List α) (k : IntKind) (f : α → Int), CV.denilL (l.map fun b => .int k (f b)) = l.map fun b => .int k (f b)
 | _, [], _, _ => rfl
 | _, x :: l, k, f => by simp only [List.map_cons, CV.denilL, CV.denil, tX l]
theorem dg_denil (d : Dig) : (dg d).denil = dg d := by simp only [dg, dgl, CV.denil, tX]
theorem dg_getAt (d : Dig) : CV.getAt 0 32 true (dg d) = some (dg d) := by
 have := dg_cells d
 simp_all [dg, CV.cells, CV.getAt, and_self, if_true]
theorem dg_setAt (d : Dig) (x : HV) : CV.setAt 0 32 x (dg d) = some x := by
 have := dg_cells d
 simp_all [dg, CV.cells, CV.setAt, and_self, if_true]
def aS5 (ti : TyI) (v : HV) (K : HV → Prop) : Prop := gS ti [(0, .tmp 0)] (fun _ => v) K
def hbuildDig (ti : TyI) (v : HV) (K : HV → Prop) : Prop :=
 match v with
 | .c (.int k n) => K (.c (dgi k n))
 | v => aS5 ti v K
@[congr] theorem bW6 {ti : TyI} {v v' : HV} {K : HV → Prop} (h : v = v') : hbuildDig ti v K = hbuildDig ti v' K := by rw [h]
theorem hbuild_dig {bytes : Nat} {t : TypeId} {e : Operand → HV} {x : Operand} {K : HV → Prop} : gS ⟨32, bytes, .array 32 t, zd⟩ [(0, x)] e K = hbuildDig ⟨32, bytes, .array 32 t, zd⟩ (e x) K := by
 have key : gS ⟨32, bytes, .array 32 t, zd⟩ [(0, x)] e K = gS ⟨32, bytes, .array 32 t, zd⟩ [(0, .tmp 0)] (fun _ => e x) K := rfl
 rw [key]
 unfold hbuildDig
 split
 ·
  rename_i k n h
  rw [h]
  have : hfill (fun _ => HV.c (.int k n)) [(0, .tmp 0)] ((dgl zdg).map .c) = some (.c (.int k n) :: (List.replicate 31 (CV.int .u8 0)).map .c) := by
   simp only [hfill]
   rfl
  simp only [gS, zd, dg, this, hlift_some]
  rfl
 ·
  rfl

theorem hbuild_agg {s bytes : Nat} {d : TyD} {zs : List CV} {ps : List (Nat × Operand)} {e : Operand → HV} {K : HV → Prop} : gS ⟨s, bytes, d, .agg zs⟩ ps e K = hlift (hfill e ps (zs.map .c)) fun hs => K (HV.norm (.agg hs)) := rfl

theorem zI : ∀ (l m : List UInt8), CV.eqvL (l.map fun b => .int .u8 b.toNat) (m.map fun b => .int .u8 b.toNat) = (l == m)
 | [], [] => rfl
 | [], _ :: _ => rfl
 | _ :: _, [] => rfl
 | a :: l, b :: m => by
  simp only [List.map_cons, CV.eqvL, CV.eqv, zI l m, List.cons_beq_cons]
  congr 1
  rw [Bool.eq_iff_iff]
  simp only [beq_iff_eq]
  constructor
  ·
   grind [UInt8.toNat_inj]
  grind
theorem cF4 (a b : Dig) : CV.eqv (dg a) (dg b) = (a == b) := by simp_all [dg, dgl, CV.eqv, zI, Bool.eq_iff_iff, beq_iff_eq, Subtype.ext_iff]
theorem aS6 {P : Program} {n : Nat} {e : TypeId} {z : CV} {s b : Nat} (he : aO P e = some ⟨s, b, .int .u8, z⟩) (l : List UInt8) : CV.ofTyA P (n + 1) e (l.map fun b => .int .u8 b.toNat) = true := by
 induction l with
 | nil => simp only [List.map_nil, CV.ofTyA]
 | cons x l ih =>
  rw [List.map_cons, CV.ofTyA, ih, Bool.and_true]
  unfold CV.ofTy
  rw [he]
  rfl
theorem aX6 {P : Program} {n : Nat} {t e : TypeId} {z z' : CV} {s b s' b' : Nat} (ht : aO P t = some ⟨s, b, .array 32 e, z⟩) (he : aO P e = some ⟨s', b', .int .u8, z'⟩) (hc : P.cellsOf e = 1) (d : Dig) : CV.ofTy P (n + 2) t (dg d) = true := by
 have h1 : (dgl d).length = 32 := by simp only [dgl, List.length_map, d.2]
 have h2 : (dgl d).all (fun v => v.cells == P.cellsOf e) = true := by
  rw [hc]
  simp only [dgl, List.all_map, List.all_eq_true, Function.comp, CV.cells, beq_self_eq_true, implies_true]
 simp only [dg, CV.ofTy, ht, h1, h2, beq_self_eq_true, Bool.true_and]
 exact aS6 he d.1
theorem aX7 {P : Program} {t e : TypeId} {z z' : CV} {s b s' b' : Nat} (ha : aW6 P t = true) (ht : aO P t = some ⟨s, b, .array 32 e, z⟩) (he : aO P e = some ⟨s', b', .int .u8, z'⟩) (hc : P.cellsOf e = 1) (x y : Dig) (K : CV → Prop) :
  kG P .eql t (.c (dg x)) (.c (dg y)) K = K (.bool (x == y)) ∧ kG P .neq t (.c (dg x)) (.c (dg y)) K = K (.bool (!(x == y))) := by
 have h1 := aX6 (n := 6) ht he hc x
 have h2 := aX6 (n := 6) ht he hc y
 have h3 := cF4 x y
 simp_all [dg, kG, and_self, true_and]

structure Rp where
 s : Dig
 r : Dig
 o : Dig
 at_ : Int
structure Rb where
 w : aJ
 p : Rp
def Rp.cv (x : Rp) : CV := .agg [.agg [dg x.s, dg x.r, dg x.o], .int .i64 x.at_]
def Rb.cv (x : Rb) : CV := .agg [.str x.w, x.p.cv]
theorem Rb.denil (x : Rb) : x.cv.denil = x.cv := by simp only [Rb.cv, Rp.cv, CV.denil, CV.denilL, dg_denil]
theorem Rp.denil (x : Rp) : x.cv.denil = x.cv := by simp only [Rp.cv, CV.denil, CV.denilL, dg_denil]
theorem Rb.cells (x : Rb) : x.cv.cells = 98 := by simp [Rb.cv, Rp.cv, CV.cells, CV.cellsL, dg_cells]
theorem Rp.cells (x : Rp) : x.cv.cells = 97 := by simp [Rp.cv, CV.cells, CV.cellsL, dg_cells]
theorem Rb.getAll (x : Rb) : CV.getAt 0 98 true x.cv = some x.cv := by
 have := Rb.cells x
 simp_all [Rb.cv, CV.cells, CV.getAt, and_self, if_true]
theorem Rp.getAll (p : Rp) : CV.getAt 0 97 true p.cv = some p.cv := by
 have := Rp.cells p
 simp_all [Rp.cv, CV.cells, CV.getAt, and_self, if_true]
theorem Rb.isAgg (x : Rb) : x.cv.isAgg = true := rfl
theorem Rp.isAgg (x : Rp) : x.cv.isAgg = true := rfl

def cP2 (some : List Rb) (x : Rb) : Bool := some.all fun y => !(y.w == x.w) || decide (y.p.at_ ≤ x.p.at_)
structure Jd where
 a : List aJ
 d : List aJ
 f : List aJ
def ns (l : List aJ) : CV := if l = [] then .nils else .slc (l.map .str)
end Go.Pl

namespace Go.Pl
open Go Go.Hl

abbrev W32 := BitVec 32
def w32 (x : W32) : CV := .int .u32 (x.toNat : Int)
def ws (l : List W32) : CV := .agg (l.map w32)
def u8 (x : UInt8) : CV := .int .u8 (x.toNat : Int)
def us (l : List UInt8) : CV := .agg (l.map u8)

def itN {α : Type} (f : Nat → α → α) : Nat → α → α
 | 0, s => s
 | n + 1, s => f n (itN f n s)
def gw (l : List W32) (i : Nat) : W32 := l.getD i 0
def gb (l : List UInt8) (i : Nat) : UInt8 := l.getD i 0
def yI (x : W32) (n : Nat) : W32 := (x >>> n) ||| (x <<< (32 - n))
def bw (x : UInt8) : W32 := BitVec.ofNat 32 x.toNat
def be (b : List UInt8) (i : Nat) : W32 := ((bw (gb b (4 * i)) <<< 24 ||| bw (gb b (4 * i + 1)) <<< 16) ||| bw (gb b (4 * i + 2)) <<< 8) ||| bw (gb b (4 * i + 3))
def sg0 (x : W32) : W32 := (yI x 7 ^^^ yI x 18) ^^^ (x >>> 3)
def sg1 (x : W32) : W32 := (yI x 17 ^^^ yI x 19) ^^^ (x >>> 10)
def wA (b : List UInt8) (n : Nat) : List W32 := itN (fun i w => w.set i (be b i)) n (List.replicate 64 0)
def wB (w : List W32) (n : Nat) : List W32 := itN (fun i w => w.set (i + 16) (((gw w i + sg0 (gw w (i + 1))) + gw w (i + 9)) + sg1 (gw w (i + 14)))) n w
def cF5 (b : List UInt8) : List W32 := wB (wA b 16) 48

def cK0 : List W32 := [
 0x428a2f98, 0x71374491, 0xb5c0fbcf, 0xe9b5dba5, 0x3956c25b, 0x59f111f1, 0x923f82a4, 0xab1c5ed5,
 0xd807aa98, 0x12835b01, 0x243185be, 0x550c7dc3, 0x72be5d74, 0x80deb1fe, 0x9bdc06a7, 0xc19bf174,
 0xe49b69c1, 0xefbe4786, 0x0fc19dc6, 0x240ca1cc, 0x2de92c6f, 0x4a7484aa, 0x5cb0a9dc, 0x76f988da,
 0x983e5152, 0xa831c66d, 0xb00327c8, 0xbf597fc7, 0xc6e00bf3, 0xd5a79147, 0x06ca6351, 0x14292967,
 0x27b70a85, 0x2e1b2138, 0x4d2c6dfc, 0x53380d13, 0x650a7354, 0x766a0abb, 0x81c2c92e, 0x92722c85,
 0xa2bfe8a1, 0xa81a664b, 0xc24b8b70, 0xc76c51a3, 0xd192e819, 0xd6990624, 0xf40e3585, 0x106aa070,
 0x19a4c116, 0x1e376c08, 0x2748774c, 0x34b0bcb5, 0x391c0cb3, 0x4ed8aa4a, 0x5b9cca4f, 0x682e6ff3,
 0x748f82ee, 0x78a5636f, 0x84c87814, 0x8cc70208, 0x90befffa, 0xa4506ceb, 0xbef9a3f7, 0xc67178f2]

structure St where
 (a b c d e f g h : W32)
def St.l (s : St) : List W32 := [s.a, s.b, s.c, s.d, s.e, s.f, s.g, s.h]
def t1 (s : St) (k w : W32) : W32 := (((s.h + ((yI s.e 6 ^^^ yI s.e 11) ^^^ yI s.e 25)) + ((s.e &&& s.f) ^^^ (~~~ s.e &&& s.g))) + k) + w
def t2 (s : St) : W32 := ((yI s.a 2 ^^^ yI s.a 13) ^^^ yI s.a 22) + (((s.a &&& s.b) ^^^ (s.a &&& s.c)) ^^^ (s.b &&& s.c))
def rnd (w : List W32) (i : Nat) (s : St) : St := ⟨t1 s (gw cK0 i) (gw w i) + t2 s, s.a, s.b, s.c, s.d + t1 s (gw cK0 i) (gw w i), s.e, s.f, s.g⟩
def cK1 (s r : St) : St := ⟨s.a + r.a, s.b + r.b, s.c + r.c, s.d + r.d, s.e + r.e, s.f + r.f, s.g + r.g, s.h + r.h⟩
def comp (s : St) (p : List UInt8) : St := cK1 s (itN (rnd (cF5 p)) 64 s)
def blk (p : List UInt8) (n : Nat) (s : St) : St := itN (fun i s => comp s ((p.drop (64 * i)).take 64)) n s
def zs (n : Nat) : Nat := (119 - n % 64) % 64
section
variable {α : Type} {f : α → CV}
theorem wK (hc : ∀ x, (f x).cells = 1) : ∀ l : List α, CV.cellsL (l.map f) = l.length
 | [] => rfl
 | x :: l => by simp only [List.map_cons, CV.cellsL, hc, wK hc l, List.length_cons]; omega
end
theorem us_cells (l : List UInt8) : (us l).cells = l.length := wK (fun _ => rfl) l
def wz (n : Nat) : List W32 := List.replicate n 0
def uz (n : Nat) : List UInt8 := List.replicate n 0
end Go.Pl
