/- HL, part U: steps that only change what is known. By an AI agent. -/
import Derived.Test.YtenbfeemmpjdhaaGreatDoorHlP
import Derived.StillTail
import Derived.ControlIn
import Derived.Scope
import Derived.RangeFuncLeaves
import Derived.RangeFuncOwn
import Derived.IntWalk
set_option linter.unusedSimpArgs false
set_option linter.unusedVariables false
set_option linter.defProp false
namespace Go.Hl
open Go

section
variable {P : Program} {c : Ctx} {M M' : Nat → Prop} {fr : Fr} {ob : Ob} {a : Act} {w : World} {ρ : Env}

theorem RepA.mono (h : RepA c M fr ob a w) (hM : ∀ i, M i → M' i) : RepA c M' fr ob a w := let ⟨ρ, h⟩ := h; ⟨ρ, h.weaken hM⟩

theorem aX2 (w : World) (ρ : Env) (O : Nat → Prop) : RepV w ρ O (.tup []) undef := ⟨by simp only [RepH]; exact ⟨[], rfl, by simp [RepHV]⟩, rfl⟩

theorem lV {Q : Exit → Act → World → Prop} {ops : Array Oper} {nx i : Nat} {av : List Nat} {K : Fr → Ob → Prop} (h : RepA c M fr ob a w) (hnid : ∀ t, t < 4 → ¬ M (nx + 4 * i + t)) (hM : ∀ i, M i → M' i) (hM' : ∀ t, t < 4 → M' (nx + 4 * i + t))
  (hd : ∀ o ∈ ops, ∀ k, o.dst = some k → k < c.n) (hl : dP P ops nx av i K fr ob) : wpOpIn c.F 0 P ops Q i (fun a' w' => ∃ fr' ob', K fr' ob' ∧ RepA c M' fr' ob' a' w') a w := by
 obtain ⟨ρ, h⟩ := h
 unfold dP at hl
 unfold wpOpIn
 cases ho : ops[i]? with
 | none => rw [ho] at hl; exact hl.elim
 | some o =>
  rw [ho] at hl
  simp only at hl ⊢
  have hdo := hd o (Array.mem_of_getElem? ho)
  cases hg : hguard ops o fr with
  | none => rw [hg] at hl; exact hl.elim
  | some b =>
   rw [hg] at hl
   rw [nO h hg]
   cases b with
   | true =>
    simp only [if_true] at hl ⊢
    refine Oper.wpIn_mono (fun a' w' hx => ?_) (aA9 (Q := Q) h hnid hM hM' hl hdo)
    obtain ⟨v, ob', hK, hA⟩ := hx
    exact ⟨_, ob', hK, hA⟩
   | false =>
    simp only [Bool.false_eq_true, if_false] at hl ⊢
    exact ⟨fun _ _ => trivial, _, ob, hl, ρ, (h.value (.inr (aX2 _ _ _)) (by simp [HV.men, HV.menL]) hdo).weaken hM⟩

def hlexG (P : Program) (ops : Array Oper) (nx : Nat) (Q : Fr → Ob → Prop) : List Nat → Fr → Ob → Prop
 | [], fr, ob => Q fr ob
 | i :: rest, fr, ob => dP P ops nx [] i (hlexG P ops nx Q rest) fr ob

theorem lW {Q : Exit → Act → World → Prop} {ops : Array Oper} {nx : Nat} {K : Fr → Ob → Prop} (hd : ∀ o ∈ ops, ∀ k, o.dst = some k → k < c.n) (N : Nat)
  (hQ : ∀ fr ob a w, K fr ob → RepA c (· < nx + 4 * N) fr ob a w → Q .normal a w) : ∀ (n k : Nat) (fr : Fr) (ob : Ob) (a : Act) (w : World), k + n = N → RepA c (· < nx + 4 * k) fr ob a w → hlexG P ops nx K (List.range' k n) fr ob → wpOpsIn c.F 0 P ops Q (List.range' k n) a w
 | 0, k, fr, ob, a, w, hk, h, hl => by
  simp only [List.range'_zero, hlexG, wpOpsIn] at hl ⊢
  exact hQ fr ob a w hl (by have : k = N := (by omega); subst this; exact h)
 | n + 1, k, fr, ob, a, w, hk, h, hl => by
  simp only [List.range'_succ, hlexG, wpOpsIn_cons] at hl ⊢
  refine wpOpIn_mono (fun a' w' hx => ?_) (lV (Q := Q) (M' := (· < nx + 4 * (k + 1))) h (fun t ht => by omega) (fun i hi => by omega) (fun t ht => by omega) hd hl)
  obtain ⟨fr', ob', hK, hA⟩ := hx
  exact lW hd N hQ n (k + 1) fr' ob' a' w' (by omega) hA hK

def hstep (P : Program) (av : List Nat) (nid : Nat) (o : Op) (e : Operand → HV) (ob : Ob) (K : HV → Ob → Prop) : Prop :=
 match hcallOf o with
 | some (f, xs) => (∀ x ∈ xs, e x ≠ .junk) ∧ match e f with
  | .c (.fn g) => HCall P av g (xs.map fun x => (e x).den) ob nid K
  | .clo g caps => HCall P av g ((xs.map fun x => (e x).den) ++ caps) ob nid K
  | _ => False
 | none => (∀ id ∈ touch o e, id ∉ av ∧ (ob id).isSome = true) ∧ hop P nid o e ob K
def hopI (P : Program) (ops : Array Oper) (nx : Nat) (av : List Nat) (i : Nat) (K : Fr → Ob → Prop) (fr : Fr) (ob : Ob) : Prop :=
 match ops[i]? with
 | none => False
 | some o => match hguard ops o fr with
  | some true => hstep P av (nx + 4 * i) o.op (ev fr) ob fun v ob' => K (updo fr o.dst v) ob'
  | some false => K (updo fr o.dst (.tup [])) ob
  | none => False
def hlex (P : Program) (ops : Array Oper) (nx : Nat) (Q : Fr → Ob → Prop) : List Nat → Fr → Ob → Prop
 | [], fr, ob => Q fr ob
 | i :: rest, fr, ob => hopI P ops nx [] i (hlex P ops nx Q rest) fr ob
theorem bO6 {P : Program} {av : List Nat} {nid : Nat} {o : Op} {e : Operand → HV} {ob : Ob} {K : HV → Ob → Prop} (h : hstep P av nid o e ob K) : dZ P av nid o e ob K := by
 unfold hstep at h
 unfold dZ
 cases hc : hcallOf o with
 | some p => rw [hc] at h; exact h
 | none => rw [hc] at h; exact ⟨h.1, .inl h.2⟩
theorem tU {P : Program} {ops : Array Oper} {nx : Nat} {av : List Nat} {i : Nat} {K K' : Fr → Ob → Prop} {fr : Fr} {ob : Ob} (hK : ∀ fr ob, K fr ob → K' fr ob) (h : hopI P ops nx av i K fr ob) : dP P ops nx av i K' fr ob := by
 refine iC (K := K) (fun _ hx => hx) hK ?_
 unfold hopI at h
 unfold dP
 cases ho : ops[i]? with
 | none => rw [ho] at h; exact h.elim
 | some o =>
  rw [ho] at h
  simp only at h ⊢
  cases hg : hguard ops o fr with
  | none => rw [hg] at h; exact h.elim
  | some b =>
   rw [hg] at h
   cases b with
   | true => exact bO6 h
   | false => exact h
theorem aB0 {P : Program} {ops : Array Oper} {nx : Nat} {Q : Fr → Ob → Prop} : ∀ {l : List Nat} {fr : Fr} {ob : Ob}, hlex P ops nx Q l fr ob → hlexG P ops nx Q l fr ob
 | [], _, _, h => h
 | _ :: _, _, _, h => tU (fun _ _ => aB0) h

def bO7 (nx : Nat) (listed : Array Bool) (id : Nat) : Prop := id < nx ∨ ∃ i t, listed.getD i false = true ∧ t < 4 ∧ id = nx + 4 * i + t

theorem aG2 {Q : Exit → Act → World → Prop} {ops : Array Oper} {nx : Nat} {wt : Nat → Nat → Bool} {K : Fr → Ob → Prop} {C : iU} (hd : ∀ o ∈ ops, ∀ k, o.dst = some k → k < c.n)
  (hQ : ∀ fr ob a w, K fr ob → RepA c (· < nx + 4 * ops.size) fr ob a w → Q .normal a w) : ∀ (n : Nat) (listed : Array Bool) (fr : Fr) (ob : Ob) (a : Act) (w : World), listed.size = ops.size → RepA c (bO7 nx listed) fr ob a w →
  tT P ops nx wt K n C listed fr ob → wpAnyIn c.F 0 P .any ops Q n listed a w := by
 have fin : ∀ (listed : Array Bool) fr ob a w, listed.size = ops.size → K fr ob → RepA c (bO7 nx listed) fr ob a w → Q .normal a w := fun listed fr ob a w hs hK hA => by
  refine hQ fr ob a w hK (hA.mono (fun id hid => ?_))
  rcases hid with h | ⟨i, t, h1, h2, rfl⟩
  ·
   omega
  ·
   have hi : i < listed.size := by
    rcases Nat.lt_or_ge i listed.size with h' | h'
    ·
     exact h'
    ·
     simp [Array.getElem?_eq_none h'] at h1
   omega
 intro n
 induction n with
 | zero => intro listed fr ob a w hs hA h; exact ⟨h.1, fin listed fr ob a w hs h.2 hA⟩
 | succ n ih =>
  intro listed fr ob a w hs hA h
  refine ⟨fun h0 => fin listed fr ob a w hs (h.1 h0) hA, fun i hi => ?_⟩
  obtain ⟨hun, oi, hoi, _⟩ := mem_ready.1 hi
  have hil : i < listed.size := by rw [hs]; exact (Array.getElem?_eq_some_iff.1 hoi).1
  have hun' : listed.getD i false = false := by simpa [hil] using hun
  refine wpOpIn_mono (fun a' w' hx => ?_) (lV (Q := Q) (M' := bO7 nx (listed.setIfInBounds i true)) hA (fun t ht => ?_) (fun id hid => ?_) (fun t ht => ?_) hd (h.2 i hi))
  ·
   obtain ⟨fr', ob', hK, hA'⟩ := hx
   exact ih _ fr' ob' a' w' (by simp [hs]) hA' hK
  ·
   rintro (h1 | ⟨j, t', h1, h2, h3⟩)
   ·
    omega
   ·
    have : j = i := by omega
    subst this
    rw [hun'] at h1; cases h1
  ·
   rcases hid with h1 | ⟨j, t', h1, h2, h3⟩
   ·
    exact .inl h1
   ·
    exact .inr ⟨j, t', getD_set_true h1, h2, h3⟩
  ·
   exact .inr ⟨i, t, by simp [hil], ht, rfl⟩
end

def iQ (n : Nat) (ops : Array Oper) : Bool := ops.all fun o => match o.dst with | some k => decide (k < n) | none => true
theorem iE {n : Nat} {ops : Array Oper} (h : iQ n ops = true) : ∀ o ∈ ops, ∀ k, o.dst = some k → k < n := by
 intro o ho k hk
 have := Array.all_eq_true_iff_forall_mem.1 h o ho
 rw [hk] at this
 simpa using this

def aB1 (ms : List Nat) (j i : Nat) : Bool := (ms.getD j 0).testBit i
def aG3 (ops : Array Oper) (ms : List Nat) : Bool :=
 (List.range ms.length).all fun j => (List.range ms.length).all fun i => !(aB1 ms j i) ||
  match ops[j]? with
  | some o => o.after.any fun e => Region.binds .any e && (e.on == i || (decide (e.on < j) && aB1 ms e.on i))
  | none => false
theorem aG4 {m i n : Nat} (h : m < 2 ^ n) (hi : n ≤ i) : m.testBit i = false := Nat.testBit_lt_two_pow (Nat.lt_of_lt_of_le h (Nat.pow_le_pow_right (by omega) hi))
theorem aN2 {ops : Array Oper} {ms : List Nat} (h : aG3 ops ms = true) (hm : ms.all (fun m => decide (m < 2 ^ ms.length)) = true) : bE6 ops (aB1 ms) := by
 intro j i hw
 have hj : j < ms.length := by
  rcases Nat.lt_or_ge j ms.length with h' | h'
  ·
   exact h'
  ·
   simp [aB1, List.getElem?_eq_none h'] at hw
 have hi : i < ms.length := by
  rcases Nat.lt_or_ge i ms.length with h' | h'
  ·
   exact h'
  ·
   have h1 := List.all_eq_true.1 hm (ms.getD j 0) (by simp [hj])
   rw [aB1, aG4 (by simpa using h1) h'] at hw
   cases hw
 have h1 := List.all_eq_true.1 (List.all_eq_true.1 h j (List.mem_range.2 hj)) i (List.mem_range.2 hi)
 simp only [hw, Bool.not_true, Bool.false_or] at h1
 split at h1
 ·
  rename_i o ho
  obtain ⟨e, he, hb⟩ := Array.any_eq_true'.1 h1
  simp only [Bool.and_eq_true, Bool.or_eq_true, beq_iff_eq, decide_eq_true_eq] at hb
  exact ⟨o, ho, e, he, hb.1, hb.2⟩
 ·
  cases h1

abbrev dI := Exit → Fr → Ob → Nat → Prop
def cO : Code → Bool
 | .rangeFunc .. => false
 | .seq x y => cO x && cO y
 | .cond _ x y => cO x && cO y
 | .block _ x => cO x
 | .loop x => cO x
 | .scope x => cO x
 | _ => true
def Ctx.fit (c : Ctx) (code : Code) : Prop := c.may = true ∧ c.R = none ∨ cO code = true
section
variable {c : Ctx} {x y : Code}
theorem Ctx.fit.seq1 (h : c.fit (.seq x y)) : c.fit x := h.imp id fun h => by simp only [cO, Bool.and_eq_true] at h; exact h.1
theorem Ctx.fit.seq2 (h : c.fit (.seq x y)) : c.fit y := h.imp id fun h => by simp only [cO, Bool.and_eq_true] at h; exact h.2
theorem Ctx.fit.cond1 {o : Operand} (h : c.fit (.cond o x y)) : c.fit x := h.imp id fun h => by simp only [cO, Bool.and_eq_true] at h; exact h.1
theorem Ctx.fit.cond2 {o : Operand} (h : c.fit (.cond o x y)) : c.fit y := h.imp id fun h => by simp only [cO, Bool.and_eq_true] at h; exact h.2
theorem Ctx.fit.block {id : Nat} (h : c.fit (.block id x)) : c.fit x := h.imp (fun h => h) fun h => by simpa only [cO] using h
theorem Ctx.fit.loop (h : c.fit (.loop x)) : c.fit x := h.imp id fun h => by simpa only [cO] using h
theorem Ctx.fit.scope (h : c.fit (.scope x)) : c.fit x := h.imp id fun h => by simpa only [cO] using h
end
def Hw (P : Program) (n k : Nat) (code : Code) (Q : dI) (fr : Fr) (ob : Ob) (nx : Nat) : Prop :=
 ∀ (c : Ctx) (a : Act) (w : World), c.n = n → c.M0 = (· < k) → c.fit code → RepA c (· < nx) fr ob a w → code.wpIn c.F 0 P (fun e a' w' => ∃ fr' ob' nx', Q e fr' ob' nx' ∧ RepA c (· < nx') fr' ob' a' w') a w

def hthen (K : Fr → Ob → Nat → Prop) (Q : dI) : dI
 | .normal => K
 | e => Q e
def hblk (id : Nat) (Q : dI) : dI
 | .exit id' => if id' = id then Q .normal else Q (.exit id')
 | e => Q e

section
variable {P : Program} {n k : Nat} {Q : dI} {fr : Fr} {ob : Ob} {nx : Nat}

theorem Hw.mono {code : Code} {Q' : dI} (h : Hw P n k code Q fr ob nx) (hq : ∀ e fr ob nx, Q e fr ob nx → Q' e fr ob nx) : Hw P n k code Q' fr ob nx :=
 fun c a w hn hk hz hA => wpIn_mono (h c a w hn hk hz hA) (fun _ _ _ ⟨fr', ob', nx', h1, h2⟩ => ⟨fr', ob', nx', hq _ _ _ _ h1, h2⟩)
theorem aG (h : Q .normal fr ob nx) : Hw P n k .skip Q fr ob nx := fun _ _ _ _ _ _ hA => wpIn_skip ⟨fr, ob, nx, h, hA⟩
theorem bE7 {l : Nat} (h : Q .normal fr ob nx) : Hw P n k (.label l) Q fr ob nx := fun _ _ _ _ _ _ hA => wpIn_label ⟨fr, ob, nx, h, hA⟩
theorem aS {id : Nat} (h : Q (.exit id) fr ob nx) : Hw P n k (.exit id) Q fr ob nx := fun _ _ _ _ _ _ hA => wpIn_exit ⟨fr, ob, nx, h, hA⟩
theorem aD (h : Q .ret fr ob nx) : Hw P n k .ret Q fr ob nx := fun _ _ _ _ _ _ hA => wpIn_ret ⟨fr, ob, nx, h, hA⟩
theorem aB {x y : Code} (h : ∀ K : Fr → Ob → Nat → Prop, (∀ fr ob nx, Hw P n k y Q fr ob nx → K fr ob nx) → Hw P n k x (hthen K Q) fr ob nx) : Hw P n k (.seq x y) Q fr ob nx := by
 intro c a w hn hk hz hA
 have := h (Hw P n k y Q) (fun _ _ _ h => h) c a w hn hk hz.seq1 hA
 refine wpIn_seq (wpIn_mono this fun e a' w' hx => ?_)
 obtain ⟨fr', ob', nx', h1, h2⟩ := hx
 cases e with
 | normal => exact h1 c a' w' hn hk hz.seq2 h2
 | _ => exact ⟨fr', ob', nx', h1, h2⟩
theorem aJ {x y : Code} {o : Operand} {b : Bool} (hb : ev fr o = .c (.bool b)) (h1 : b = true → Hw P n k x Q fr ob nx) (h2 : b = false → Hw P n k y Q fr ob nx) : Hw P n k (.cond o x y) Q fr ob nx := by
 intro c a w hn hk hz hA
 obtain ⟨ρ, hA'⟩ := hA
 have := mO hA' hb
 exact wpIn_cond_split this (fun e => h1 e c a w hn hk hz.cond1 ⟨ρ, hA'⟩) (fun e => h2 e c a w hn hk hz.cond2 ⟨ρ, hA'⟩)
theorem aH {id : Nat} {x : Code} (h : Hw P n k x (hblk id Q) fr ob nx) : Hw P n k (.block id x) Q fr ob nx := by
 intro c a w hn hk hz hA
 refine wpIn_block (wpIn_mono (h c a w hn hk hz.block hA) fun e a' w' hx => ?_)
 obtain ⟨fr', ob', nx', h1, h2⟩ := hx
 cases e with
 | exit id' =>
  simp only [Exit.inBlock, hblk] at h1 ⊢
  by_cases hid : id' = id
  ·
   rw [if_pos hid] at h1 ⊢; exact ⟨fr', ob', nx', h1, h2⟩
  ·
   rw [if_neg hid] at h1 ⊢; exact ⟨fr', ob', nx', h1, h2⟩
 | _ => exact ⟨fr', ob', nx', h1, h2⟩
theorem dN {id : Nat} {ops : Array Oper} (hd : iQ n ops = true) (h : hlexG P ops nx (fun fr' ob' => Q .normal fr' ob' (nx + 4 * ops.size)) (List.range ops.size) fr ob) : Hw P n k (.region id ops false) Q fr ob nx := by
 intro c a w hn hk hz hA
 refine wpIn_region ?_
 rw [List.range_eq_range'] at h ⊢
 exact lW (c := c) (by rw [hn]; exact iE hd) ops.size (fun fr' ob' a' w' hK hA' => ⟨fr', ob', _, hK, hA'⟩) ops.size 0 fr ob a w (by omega) hA h
theorem aL {id : Nat} {ops : Array Oper} (hd : iQ n ops = true) (h : hlex P ops nx (fun fr' ob' => Q .normal fr' ob' (nx + 4 * ops.size)) (List.range ops.size) fr ob) : Hw P n k (.region id ops false) Q fr ob nx :=
 dN hd (aB0 h)
theorem aS9 {id : Nat} {ops : Array Oper} (hm : P.follows .mixedOrders = true) (plan ms : List Nat) (hd : iQ n ops = true) (hp : iD ops plan (Array.replicate ops.size false) = true) (hw1 : aG3 ops ms = true) (hw2 : ms.all (fun m => decide (m < 2 ^ ms.length)) = true) (hl : plan.length = ops.size)
  (h : lU P ops nx (aB1 ms) (fun fr' ob' => Q .normal fr' ob' (nx + 4 * ops.size)) plan [] fr ob) : Hw P n k (.region id ops true) Q fr ob nx := by
 intro c a w hn hk hz hA
 refine wpIn_region_any hm ?_
 have hA0 : RepA c (bO7 nx (Array.replicate ops.size false)) fr ob a w := hA.mono (fun i hi => .inl hi)
 have hfresh : Fresh nx (Array.replicate ops.size false) ob := by
  intro j _ t _
  obtain ⟨ρ, hA'⟩ := hA
  exact (hA'.nid_none (nid := nx + 4 * j + t) (by omega)).1
 have hdown : Down ops (Array.replicate ops.size false) := by
  intro j o _ hl
  rw [getD_replicate_false] at hl; cases hl
 have hany := iV (aN2 hw1 hw2) plan [] _ fr ob hp hdown hfresh h
 rw [hl] at hany
 obtain ⟨ρ, hA1⟩ := hA0
 refine aG2 (c := c) (by rw [hn]; exact iE hd) (fun fr' ob' a' w' hK hA' => ⟨fr', ob', _, hK, hA'⟩) ops.size _ fr ob a _ (by simp) ⟨ρ, ?_⟩ hany
 exact ⟨⟨fun id o ho => by
   have := hA1.s.objs id o ho
   exact RepO.stay (w := w) (ρ := ρ) (M := fun _ => True) ⟨fun b hb hO => ⟨rfl, hO⟩⟩ (Moves.refl _ _) (by cases o with | box t v => exact HV.men_mono (fun _ _ => trivial) (hA1.mo id _ ho).2 | row _ _ _ => trivial | mp _ _ _ => trivial | dead => trivial | tab _ => trivial) rfl (fun _ _ _ _ => rfl) this, hA1.s.none, hA1.s.apart, hA1.s.xb⟩,
  fun t ht => ⟨RepH.stay (w := w) (w' := { w with drawn := w.drawn + 1 }) (ρ := ρ) (O := Owned ρ c.X) (M := fun _ => True) ⟨fun b hb hO => ⟨rfl, hO⟩⟩ (Moves.refl _ _) (HV.men_mono (fun _ _ => trivial) (hA1.mf t)) (hA1.f t ht).1, (hA1.f t ht).2⟩, hA1.mf, hA1.mo, hA1.m0,
  ⟨hA1.base.block, hA1.base.own, hA1.base.size, hA1.base.os, hA1.base.tape, hA1.base.output⟩, hA1.moves, hA1.defers, hA1.size, hA1.xlt⟩

structure Fits (k : Nat) (fr : Fr) (ob : Ob) (fr2 : Fr) (ob2 : Ob) (nx2 : Nat) : Prop where
 f : ∀ t, fr2 t = .junk ∨ fr2 t = fr t
 o : ∀ id o, ob2 id = some o → ob id = some o
 mf : ∀ t, (fr2 t).men (· < nx2)
 mo : ∀ id o, ob2 id = some o → id < nx2 ∧ o.men (· < nx2)
 k : k ≤ nx2

theorem RepA.fits {c : Ctx} {a : Act} {w : World} {fr2 : Fr} {ob2 : Ob} {nx2 : Nat} {M : Nat → Prop} (hk : c.M0 = (· < k)) (h : RepA c M fr ob a w) (hf : Fits k fr ob fr2 ob2 nx2) : RepA c (· < nx2) fr2 ob2 a w := by
 obtain ⟨ρ, h⟩ := h
 let ρ2 : Env := fun id => match ob2 id with | some _ => ρ id | none => none
 have hρ2 : ∀ id L, ρ2 id = some L → ρ id = some L := fun id L hL => by
  simp only [ρ2] at hL
  split at hL
  ·
   exact hL
  ·
   cases hL
 have hown : ∀ b, Own ρ2 b → Own ρ b := fun b ⟨id, L, h1, h2⟩ => ⟨id, L, hρ2 id L h1, h2⟩
 have hst : Stay w (Owned ρ c.X) w (Owned ρ2 c.X) := Stay.same (fun b _ hb => hb.imp id (hown b))
 have hmv : ∀ M, Moves M ρ ρ2 := fun M id L _ hL => ⟨L, hρ2 id L hL, .inl rfl⟩
 refine ⟨ρ2, ⟨fun id o ho => ?_, fun id hid => ?_, fun id id' L L' b h1 h2 h3 h4 => h.s.apart id id' L L' b (hρ2 _ _ h1) (hρ2 _ _ h2) h3 h4, fun id L b h1 h2 => h.s.xb id L b (hρ2 _ _ h1) h2⟩, fun t ht => ?_, hf.mf, hf.mo, ?_, ?_, ?_, h.defers, h.size, h.xlt⟩
 ·
  have hid : ρ2 id = ρ id := by simp only [ρ2, ho]
  exact RepO.stay hst (hmv M) (h.mo id o (hf.o id o ho)).2 hid (fun _ _ _ _ => rfl) (h.s.objs id o (hf.o id o ho))
 ·
  simp only [ρ2, hid]
 ·
  rcases hf.f t with e | e
  ·
   exact absurd e ht
  ·
   rw [e] at ht ⊢
   exact ⟨RepH.stay hst (hmv M) (h.mf t) (h.f t ht).1, (h.f t ht).2⟩
 ·
  intro id hid
  rw [hk] at hid
  exact Nat.lt_of_lt_of_le hid hf.k
 ·
  exact h.base.trans ⟨fun _ _ _ => rfl, fun b hb => .inl (hown b hb), Nat.le_refl _, rfl, rfl, rfl⟩
 ·
  exact Moves.trans (fun _ h => h) h.moves (hmv _)

theorem bF {code : Code} {fr2 : Fr} {ob2 : Ob} {nx2 : Nat} (hf : Fits k fr ob fr2 ob2 nx2) (h : Hw P n k code Q fr2 ob2 nx2) : Hw P n k code Q fr ob nx :=
 fun c a w hn hk hz hA => h c a w hn hk hz (hA.fits hk hf)

theorem aU {α : Type} {x : Code} (inv : α → Fr × Ob) (nx2 : Nat) (μ : α → Nat) (x0 : α) (h0 : Fits k fr ob (inv x0).1 (inv x0).2 nx2)
  (round : ∀ y, Hw P n k x (hthen (fun fr' ob' _ => ∃ y', Fits k fr' ob' (inv y').1 (inv y').2 nx2 ∧ μ y' < μ y) Q) (inv y).1 (inv y).2 nx2) : Hw P n k (.loop x) Q fr ob nx := by
 intro c a w hn hk hz hA b kk cs hro hbf hrm
 have key : ∀ (m : Nat) (y : α) (a : Act) (w : World), μ y = m → RepA c (· < nx2) (inv y).1 (inv y).2 a w →
   ∃ e a' w', (∃ fr' ob' nx', Q e fr' ob' nx' ∧ RepA c (· < nx') fr' ob' a' w') ∧ ArrivesIn (Machine.fenced P c.F) P (lone (b.atR a (.code x :: .inLoop x :: kk)) cs w) b kk cs e a' w' := by
  intro m
  induction m using Nat.strongRecOn with
  | _ m ih =>
   intro y a w hy hA
   obtain ⟨e, a₁, w₁, hq, harr⟩ := round y c a w hn hk hz.loop hA b (.inLoop x :: kk) cs hro hbf hrm
   cases e with
   | normal =>
    obtain ⟨fr', ob', nx', ⟨y', hf, hlt⟩, hA'⟩ := hq
    obtain ⟨e₂, a₂, w₂, hq₂, harr₂⟩ := ih (μ y') (by omega) y' a₁ w₁ rfl (hA'.fits hk hf)
    exact ⟨e₂, a₂, w₂, hq₂, .of_steps (StepsIn.trans harr (.one (fenced_calm hbf hrm rfl) stepR_inLoop)) harr₂⟩
   | exit id => exact ⟨_, a₁, w₁, hq, .pass (x := .inLoop x) rfl (fun _ _ => .inl (by simp)) harr⟩
   | goto l => exact ⟨_, a₁, w₁, hq, .pass (x := .inLoop x) rfl (fun _ _ => .inl (by simp)) harr⟩
   | ret => exact ⟨_, a₁, w₁, hq, .pass (x := .inLoop x) rfl (fun _ _ => .inl (by simp)) harr⟩
   | panic ch => exact ⟨_, a₁, w₁, hq, .pass (x := .inLoop x) rfl (fun _ _ => .inl (by simp)) harr⟩
   | outgrown => exact ⟨_, a₁, w₁, hq, .pass (x := .inLoop x) rfl (fun _ _ => .inl (by simp)) harr⟩
 obtain ⟨e, a', w', hq, harr⟩ := key _ x0 a w rfl (hA.fits hk h0)
 exact ⟨e, a', w', hq, .of_steps (.one (fenced_calm hbf hrm rfl) stepR_loop) harr⟩
end
end Go.Hl

namespace Go.Hl
open Go

def cG (P : Program) (fr : Fr) (ob : Ob) (r : ResultVar) (K : HV → Prop) : Prop :=
 match r with
 | .tmp t => fr t ≠ .junk ∧ K (fr t)
 | .cell t ty => hlift (aP P ty) fun ti => HO.isBox (match fr t with | .ptr id _ => ob id | _ => none) = true ∧ hload ti (fr t) ob K
def cD (P : Program) (fr : Fr) (ob : Ob) : List ResultVar → (List HV → Prop) → Prop
 | [], K => K []
 | r :: rs, K => cG P fr ob r fun v => cD P fr ob rs fun vs => K (v :: vs)
def cA (l : List HV) : HV := match l with | [v] => v | l => .tup l

def oS (k : Nat) (r : HV) (ob : Ob) (R : HV → Ob → Prop) : Prop :=
 ∃ (cl : List Nat) (τ : Nat → Nat) (r' : HV) (ob' : Ob), R r' ob' ∧ (r.close ob cl).norm = r'.ren τ ∧ (∀ j, j < k → τ j = j) ∧ (∀ i j, i < k + 4 → j < k + 4 → τ i = τ j → i = j) ∧ r'.men (· < k + 4) ∧
  ∀ j o, ob' j = some o → j < k + 4 ∧ o.men (· < k + 4) ∧ τ j ∉ cl ∧ ∃ o0, ob (τ j) = some o0 ∧ (match o0 with | .box t v => HO.box t (v.close ob cl).norm | .row e sz l => .row e sz l | .mp e sz D => .mp e sz D | .dead => .dead | .tab T => .tab T) = o.ren τ

def cH (P : Program) (rs : List ResultVar) (k : Nat) (R : HV → Ob → Prop) : dI := fun e fr ob _ =>
 match e with
 | .normal | .ret => cD P fr ob rs fun vs => oS k (cA vs) ob R
 | _ => False

section
variable {P : Program} {c : Ctx} {M : Nat → Prop} {fr : Fr} {ob : Ob} {a : Act} {w : World} {ρ : Env}

def bE8 (tm : Array Value) (r : ResultVar) : Sem Value :=
 match r with
 | .tmp t => pure (tm.getD t undef)
 | .cell ad t => do loadVar t (← asAddr (tm.getD ad undef))

theorem aG5 (h : RepA' c M fr ob a w ρ) {r : ResultVar} {K : HV → Prop} (hl : cG P fr ob r K) :
  ∃ v x, K v ∧ RepV w ρ (Owned ρ c.X) v x ∧ (bE8 a.tmps r).run P w = .ok x w := by
 cases r with
 | tmp t => exact ⟨_, _, hl.2, h.f t hl.1, rfl⟩
 | cell ad t =>
  simp only [cG] at hl
  rw [aE] at hl
  obtain ⟨ti, ht, hb, hl⟩ := hl
  obtain ⟨u, y, hK, hr, hv, _⟩ := tE (P := P) h ht (x := .tmp ad) hl
  refine ⟨u, y, hK, hv, ?_⟩
  have hp : ∃ p, a.tmps.getD ad undef = .pointer (some p) := by
   cases hf : fr ad with
   | ptr id off =>
    rw [hf] at hb
    obtain ⟨b, _, he⟩ := iB (x := .tmp ad) h hf hb
    exact ⟨_, he⟩
   | _ => rw [hf] at hb; cases hb
  obtain ⟨p, hp⟩ := hp
  have hr' : (Instr.loadAt t (.pointer (some p))).run P w = .ok y w := by rw [← hp]; exact hr
  simp only [bE8, hp, asAddr, Sem.run_bind, Sem.run_pure, Result.andThen_ok]
  simpa [Instr.loadAt, Instr.sureAddr] using hr'

theorem rU (h : RepA' c M fr ob a w ρ) : ∀ {rs : List ResultVar} {K : List HV → Prop}, cD P fr ob rs K →
  ∃ vs xs, K vs ∧ RepHV w ρ (Owned ρ c.X) vs xs ∧ (rs.mapM (bE8 a.tmps)).run P w = .ok xs w
 | [], K, hl => ⟨[], [], hl, by simp [RepHV], by simp⟩
 | r :: rs, K, hl => by
  simp only [cD] at hl
  obtain ⟨v, x, hK, hv, hr⟩ := aG5 h hl
  obtain ⟨vs, xs, hK2, hvs, hrs⟩ := rU h hK
  refine ⟨v :: vs, x :: xs, hK2, by rw [aX]; exact ⟨x, xs, rfl, hv, hvs⟩, ?_⟩
  simp only [List.mapM_cons, Sem.run_bind, hr, hrs, Result.andThen_ok, Sem.run_pure]

theorem aX3 {w : World} {ρ : Env} {O : Nat → Prop} {vs : List HV} {xs : List Value} (h : RepHV w ρ O vs xs) : RepV w ρ O (cA vs) (if h : xs.toArray.size = 1 then xs.toArray[0] else .tuple xs.toArray) := by
 match vs, h with
 | [], h => simp only [RepHV] at h; subst h; exact ⟨by simp only [cA, RepH]; exact ⟨[], rfl, by simp [RepHV]⟩, rfl⟩
 | [v], h =>
  rw [aX] at h
  obtain ⟨y, ys, rfl, h1, h2⟩ := h
  simp only [RepHV] at h2
  subst h2
  simpa [cA] using h1
 | v :: u :: vs, h =>
  have hlen : ∀ {l : List HV} {xs : List Value}, RepHV w ρ O l xs → xs.length = l.length := by
   intro l
   induction l with
   | nil => intro xs h; simp only [RepHV] at h; simp [h]
   | cons x l ih => intro xs h; rw [aX] at h; obtain ⟨y, ys, rfl, _, h2⟩ := h; simp [ih h2]
  have hl := hlen h
  rw [dif_neg (by simp [hl])]
  exact ⟨by simp only [cA, RepH]; exact ⟨xs, rfl, h⟩, rfl⟩

theorem RepA'.turn {o' : Obj} {b : Nat} (h : RepA' c M fr ob a w ρ) (ha : a.defers = []) (hno : ∀ t, ¬ Own ρ t ∨ t ≠ b) (hnc : ¬ CellsAt w b) (hn : c.w0.heap.size ≤ b) : RepA' c M fr ob a (w.putObj b o') ρ := by
 have hother : ∀ t, t ≠ b → (w.putObj b o').heap[t]? = w.heap[t]? := fun t ht => World.putObj_heap_other ht
 have hst : Stay w (Owned ρ c.X) (w.putObj b o') (Owned ρ c.X) := ⟨fun t ht hO => ⟨hother t (fun e => hnc (e ▸ ht)), hO⟩⟩
 have hsz : (w.putObj b o').heap.size = w.heap.size := World.putObj_size
 refine ⟨⟨fun id x hx => ?_, h.s.none, h.s.apart, h.s.xb⟩, fun t ht => ⟨RepH.stay hst (Moves.refl M ρ) (h.mf t) (h.f t ht).1, (h.f t ht).2⟩, h.mf, h.mo, h.m0, ?_, h.moves, ?_, h.size, h.xlt⟩
 ·
  refine RepO.stay hst (Moves.refl M ρ) (h.mo id x hx).2 rfl (fun L t h1 h2 => hother t ?_) (h.s.objs id x hx)
  rcases hno t with h3 | h3
  ·
   exact absurd ⟨id, L, h1, h2⟩ h3
  ·
   exact h3
 ·
  exact ⟨fun t ht hO => by rw [hother t (by omega)]; exact h.base.block t ht hO, h.base.own, by rw [hsz]; exact h.base.size, h.base.os, h.base.tape, h.base.output⟩
 ·
  rw [ha]; exact DefOk.nil _ _ _
def mU (w : World) (Ds : List Nat) : World := Ds.foldl (fun w b => w.putObj b (.deferred none)) w
theorem RepA'.shut : ∀ (Ds : List Nat) {w : World}, RepA' c M fr ob a w ρ → a.defers = [] → Ds.Nodup → (∀ b ∈ Ds, c.w0.heap.size ≤ b ∧ w.heap[b]? = some (.deferred (some []))) → RepA' c M fr ob a (mU w Ds) ρ
 | [], _, h, _, _, _ => h
 | b :: Ds, w, h, ha, hn, hd => by
  obtain ⟨h1, h2⟩ := hd b List.mem_cons_self
  obtain ⟨n1, n2⟩ := List.nodup_cons.1 hn
  have hno : ∀ t, ¬ Own ρ t ∨ t ≠ b := fun t => by
   by_cases e : t = b
   ·
    subst e; exact .inl fun ho => qG h.s ho h2
   ·
    exact .inr e
  refine RepA'.shut Ds (h.turn ha hno (fun ⟨_, _, _, e⟩ => by rw [h2] at e; cases e) h1) ha n2 fun b' hb' => ⟨(hd b' (List.mem_cons_of_mem _ hb')).1, ?_⟩
  have hne : b' ≠ b := by rintro rfl; exact n1 hb'
  exact (World.putObj_heap_other hne).trans (hd b' (List.mem_cons_of_mem _ hb')).2
theorem kN {F : Fence} {n : Nat} {fn : Func} {tmps : Array Value} {R : Ending → World → Prop} : ∀ (Ds : List Nat) (w : World), Ds.Nodup → (∀ b ∈ Ds, w.heap[b]? = some (.deferred (some []))) →
  (∃ v, (results fn tmps).run P (mU w Ds) = .ok v (mU w Ds) ∧ R (.returned v) (mU w Ds)) → LeavesInM F n P fn tmps R (Ds.map fun b => { target := .collected b, args := #[] }) .returning w
 | [], w, _, _, h => h
 | b :: Ds, w, hn, hd, h => by
  obtain ⟨n1, n2⟩ := List.nodup_cons.1 hn
  refine ⟨by simp, .inl ⟨b, _, rfl, run_takeDeferred (hd b List.mem_cons_self), kN Ds _ n2 (fun b' hb' => ?_) h⟩⟩
  have hne : b' ≠ b := by rintro rfl; exact n1 hb'
  exact (World.putObj_heap_other hne).trans (hd b' (List.mem_cons_of_mem _ hb'))

theorem aX4 {f : FuncId} {fn : Func} {code : Code} {args : List HV} {k : Nat} {ob : Ob} {R : HV → Ob → Prop} (hf : P.funcs[f]? = some fn) (hb : fn.body = some code) (hok : dM P f = true) (hloc : LocOk k args ob) (hn : args.length ≤ fn.ntmps)
  (h : Hw P fn.ntmps k code (cH P fn.results.toList k R) (fun t => args.getD t .junk) ob k) : HFn P f args k ob R := by
 refine ⟨oP hok, fun w ρ X xs hS hA hX => Does.of hok ?_⟩
 have hlen : xs.length = args.length := by
  clear h hn hloc
  induction args generalizing xs with
  | nil => simp only [RepHV] at hA; simp [hA]
  | cons x l ih => rw [aX] at hA; obtain ⟨y, ys, rfl, _, h2⟩ := hA; simp [ih ys h2]
 refine callsIn_wide.1 (callsIn_of_wp_marks (F := Fence.wide) (n := 0) hf hb trivial ?_)
 let c : Ctx := { w0 := w, ρ0 := ρ, X := X, M0 := (· < k), n := fn.ntmps }
 have hget : ∀ (l : List HV) (ys : List Value) (t : Nat), RepHV w ρ (Owned ρ X) l ys → t < l.length → RepV w ρ (Owned ρ X) (l.getD t .junk) (ys.getD t undef) := by
  intro l
  induction l with
  | nil => intro ys t _ ht; simp at ht
  | cons x l ih =>
   intro ys t hl ht
   rw [aX] at hl
   obtain ⟨y, ys', rfl, h1, h2⟩ := hl
   cases t with
   | zero => simpa using h1
   | succ t => simpa using ih ys' t h2 (by simpa using ht)
 have hmen : ∀ (l : List HV) (t : Nat), HV.menL (· < k) l → (l.getD t .junk).men (· < k) := by
  intro l
  induction l with
  | nil => intro t _; simp [HV.men]
  | cons x l ih =>
   intro t hl
   simp only [HV.menL] at hl
   cases t with
   | zero => simpa using hl.1
   | succ t => simpa using ih t hl.2
 have h0 : RepA c (· < k) (fun t => args.getD t .junk) ob { tmps := xs.toArray ++ Array.replicate (fn.ntmps - xs.toArray.size) undef, defers := [] } w := by
  refine ⟨ρ, hS, fun t ht => ?_, fun t => hmen args t hloc.args, hloc.none, fun id hid => hid, Stay2.refl _ _, Moves.refl _ _, DefOk.nil _ _ _, by simp [c]; omega, hX⟩
  have htl : t < args.length := by
   rcases Nat.lt_or_ge t args.length with h' | h'
   ·
    exact h'
   ·
    exact absurd (by simp [List.getElem?_eq_none h']) ht
  have := hget args xs t hA htl
  have e : (xs.toArray ++ Array.replicate (fn.ntmps - xs.toArray.size) undef).getD t undef = xs.getD t undef := by
   rw [Array.getD_eq_getD_getElem?, Array.getElem?_append_left (by simp; omega)]
   simp
  rw [e]; exact this
 refine wpIn_mono (h c _ w rfl rfl (.inl ⟨rfl, rfl⟩) h0) ?_
 rintro e a1 w1 ⟨fr', ob', nx', hq, ρ', hA1⟩
 obtain ⟨⟨Ds, hD1, hD2, hD3⟩, _⟩ := hA1.defers
 have hA' : RepA' c (· < nx') fr' ob' { a1 with defers := [] } (mU w1 Ds) ρ' := RepA'.shut Ds ⟨hA1.s, hA1.f, hA1.mf, hA1.mo, hA1.m0, hA1.base, hA1.moves, DefOk.nil _ _ _, hA1.size, hA1.xlt⟩ rfl hD2 hD3
 have fin : cD P fr' ob' fn.results.toList (fun vs => oS k (cA vs) ob' R) → LeavesInM Fence.wide 0 P fn a1.tmps (fun e w' => ∃ r ob' ρ' x, e = .returned x ∧ R r ob' ∧ Gave w ρ X k r ob' w' ρ' x) a1.defers .returning w1 := by
  intro hq
  rw [hD1]
  refine kN Ds w1 hD2 (fun b hb => (hD3 b hb).2) ?_
  generalize mU w1 Ds = w' at hA'
  generalize ha' : ({ a1 with defers := [] } : Act) = a' at hA'
  have ht' : a1.tmps = a'.tmps := by rw [← ha']
  rw [ht']
  obtain ⟨vs, ys, ⟨cl, τ, r', ob2, hR, hr, ht1, ht2, hm, ho⟩, hvs, hrun⟩ := rU hA' hq
  refine ⟨(if h : ys.toArray.size = 1 then ys.toArray[0] else .tuple ys.toArray), ?_, r', ob2, ?_⟩
  ·
   unfold results
   rw [Array.mapM_eq_mapM_toList]
   simp only [Sem.run_bind, Sem.run_map]
   have : (fn.results.toList.mapM (fun r => match r with | .tmp t => pure (a'.tmps.getD t undef) | .cell ad t => do loadVar t (← asAddr (a'.tmps.getD ad undef)) : ResultVar → Sem Value)).run P w' = .ok ys w' := hrun
   erw [this]
   rfl
  ·
   let ρ2 : Env := fun id => match (if cl.contains id = true then none else ob' id) with | some _ => (if ∃ j, j < k + 4 ∧ τ j = id ∧ (ob2 j).isSome = true then ρ' id else none) | none => none
   have hρ2 : ∀ id L, ρ2 id = some L → ρ' id = some L := fun id L hL => by
    simp only [ρ2] at hL
    split at hL
    ·
     split at hL
     ·
      exact hL
     ·
      cases hL
    ·
     cases hL
   have hcl : ∀ id ∈ cl, ρ2 id = none := fun id hid => by
    have : cl.contains id = true := by simpa using hid
    simp only [ρ2, this, if_true]
   have hown : ∀ b, Own ρ2 b → Own ρ' b := fun b ⟨id, L, h1, h2⟩ => ⟨id, L, hρ2 id L h1, h2⟩
   have hst : Stay w' (Owned ρ' X) w' (Owned ρ2 X) := Stay.same (fun b _ hb => hb.imp id (hown b))
   have hval := aX3 hvs
   have hc1 : RepV w' ρ2 (Owned ρ2 X) ((cA vs).close ob' cl).norm _ := ⟨HV.norm_rep (fX hA'.s hcl hρ2 hst hval.1), by rw [HV.norm_agg, HV.close_agg]; exact hval.2⟩
   rw [hr] at hc1
   -- the caller's view
   let ρ3 : Env := fun j => match ob2 j with | some _ => ρ2 (τ j) | none => none
   have h23 : ∀ j, j < k + 4 → (ob2 j).isSome = true → ρ2 (τ j) = ρ' (τ j) := fun j hj hs => by
    obtain ⟨o, ho'⟩ := Option.isSome_iff_exists.1 hs
    obtain ⟨_, _, hncl, o0, ho0, _⟩ := ho j o ho'
    have hn : cl.contains (τ j) = false := by simpa using hncl
    simp only [ρ2, hn, ho0, Bool.false_eq_true, if_false]
    rw [if_pos ⟨j, hj, rfl, hs⟩]
   have hρ3 : ∀ j L, ρ3 j = some L → j < k + 4 ∧ ρ' (τ j) = some L ∧ (ob2 j).isSome = true := fun j L hL => by
    simp only [ρ3] at hL
    split at hL
    ·
     rename_i o ho'
     exact ⟨(ho j o ho').1, hρ2 _ _ hL, by rw [ho']; rfl⟩
    ·
     cases hL
   have hown3 : ∀ b, Own ρ3 b ↔ Own ρ2 b := by
    intro b
    constructor
    ·
     rintro ⟨j, L, h1, h2⟩
     simp only [ρ3] at h1
     split at h1
     ·
      exact ⟨_, L, h1, h2⟩
     ·
      cases h1
    ·
     rintro ⟨id, L, h1, h2⟩
     have h1' := h1
     simp only [ρ2] at h1
     split at h1
     ·
      split at h1
      ·
       rename_i hex
       obtain ⟨j, hj, rfl, hs⟩ := hex
       obtain ⟨o, ho'⟩ := Option.isSome_iff_exists.1 hs
       exact ⟨j, L, by simp only [ρ3, ho']; exact h1', h2⟩
      ·
       cases h1
     ·
      cases h1
   have hst3 : Stay w' (Owned ρ2 X) w' (Owned ρ3 X) := Stay.same (fun b _ hb => hb.imp id (hown3 b).1)
   have hmv3 : Moves (· < k + 4) (fun i => ρ2 (τ i)) ρ3 := fun id L _ hL => by
    simp only [ρ3] at hL
    split at hL
    ·
     exact ⟨L, hL, .inl rfl⟩
    ·
     cases hL
   refine ⟨ρ3, _, rfl, hR, ⟨RepH.stay hst3 hmv3 hm (jI.1 hc1.1), by rw [← hc1.2, HV.ren_isAgg]⟩, ⟨fun j o hj => ?_, fun j hj => ?_, fun i j L L' b h1 h2 h3 h4 => ?_, fun j L b h1 h2 => ?_⟩, hm, fun j o hj => ⟨(ho j o hj).1, (ho j o hj).2.1⟩, ?_, ?_⟩
   ·
    obtain ⟨hj4, hom, hncl, o0, ho0, hren⟩ := ho j o hj
    have h5 := h23 j hj4 (by rw [hj]; rfl)
    have h6 : ρ3 j = ρ2 (τ j) := by simp only [ρ3, hj]
    have hobj := hA'.s.objs _ _ ho0
    have : RepO w' ρ2 (Owned ρ2 X) (τ j) (o.ren τ) := by
     rw [← hren]
     cases o0 with
     | box t v =>
      obtain ⟨b, cs, e1, e2, e3⟩ := hobj
      exact ⟨b, cs, by rw [h5]; exact e1, e2, HV.norm_rep (fX hA'.s hcl hρ2 hst e3)⟩
     | row e sz l =>
      obtain ⟨hd, xs, e1, e2, e3, e4⟩ := hobj
      exact ⟨hd, xs, by rw [h5]; exact e1, e2.stay hst, e3, e4⟩
     | mp e sz D =>
      obtain ⟨b, hf, e1, e2⟩ := hobj
      exact ⟨b, hf, by rw [h5]; exact e1, e2.stay hst rfl (fun _ _ _ _ _ => rfl)⟩
     | dead => exact h5.trans hobj
     | tab T => exact ⟨h5.trans hobj.1, jG hst hobj.2⟩
    exact RepO.sub hst3 hmv3 hom h6 this
   ·
    simp only [ρ3, hj]
   ·
    obtain ⟨g1, g2, _⟩ := hρ3 i L h1
    obtain ⟨g3, g4, _⟩ := hρ3 j L' h2
    exact ht2 i j g1 g3 (hA'.s.apart _ _ L L' b g2 g4 h3 h4)
   ·
    obtain ⟨g1, g2, _⟩ := hρ3 j L h1
    exact hA'.s.xb _ L b g2 h2
   ·
    refine ⟨hA'.base.block, fun b hb => hA'.base.own b (hown b ((hown3 b).1 hb)), hA'.base.size, hA'.base.os, hA'.base.tape, hA'.base.output⟩
   ·
    intro j L' hj hL
    obtain ⟨g1, g2, _⟩ := hρ3 j L' hL
    rw [ht1 j hj] at g2
    exact hA'.moves j L' hj g2
 cases e with
 | normal => exact fin hq
 | ret => exact fin hq
 | _ => exact hq.elim
end
end Go.Hl

namespace Go.Hl
open Go

def fin : List (Nat × HV) → Fr
 | [] => fun _ => .junk
 | (t, v) :: l => upd (fin l) t v
def fob : List (Nat × HO) → Ob
 | [] => fun _ => none
 | (t, v) :: l => upd (fob l) t (some v)
def aY (nx : Nat) (fr : Fr) : List (Nat × HV) → Prop
 | [] => True
 | (t, v) :: l => fr t = v ∧ v.men (· < nx) ∧ aY nx fr l
def bC (nx : Nat) (ob : Ob) : List (Nat × HO) → Prop
 | [] => True
 | (t, v) :: l => ob t = some v ∧ t < nx ∧ v.men (· < nx) ∧ bC nx ob l

theorem tV {nx : Nat} {fr : Fr} : ∀ {l : List (Nat × HV)}, aY nx fr l → ∀ t, (fin l t = .junk ∨ fin l t = fr t) ∧ (fin l t).men (· < nx)
 | [], _, t => ⟨.inl rfl, by simp [fin, HV.men]⟩
 | (t', v) :: l, h, t => by
  simp only [aY] at h
  by_cases ht : t = t'
  ·
   subst ht
   simp only [fin, aR]
   exact ⟨.inr h.1.symm, h.2.1⟩
  ·
   simp only [fin, aV _ _ ht]
   exact tV h.2.2 t
theorem tW {nx : Nat} {ob : Ob} : ∀ {l : List (Nat × HO)}, bC nx ob l → ∀ t o, fob l t = some o → ob t = some o ∧ t < nx ∧ o.men (· < nx)
 | [], _, t, o, ho => by simp [fob] at ho
 | (t', v) :: l, h, t, o, ho => by
  simp only [bC] at h
  by_cases ht : t = t'
  ·
   subst ht
   simp only [fob, aR, Option.some.injEq] at ho
   subst ho
   exact ⟨h.1, h.2.1, h.2.2.1⟩
  ·
   simp only [fob, aV _ _ ht] at ho
   exact tW h.2.2.2 t o ho

theorem aQ {k nx2 : Nat} {fr : Fr} {ob : Ob} {l : List (Nat × HV)} {h : List (Nat × HO)} (hk : k ≤ nx2) (h1 : aY nx2 fr l) (h2 : bC nx2 ob h) : Fits k fr ob (fin l) (fob h) nx2 :=
 ⟨fun t => (tV h1 t).1, fun id o ho => (tW h2 id o ho).1, fun t => (tV h1 t).2, fun id o ho => (tW h2 id o ho).2, hk⟩

theorem upd_at {α : Type} (f : Nat → α) (d : Nat) (v : α) (t : Nat) : upd f d v t = if t = d then v else f t := rfl
theorem fin_at (t : Nat) (v : HV) (l : List (Nat × HV)) (t' : Nat) : fin ((t, v) :: l) t' = if t' = t then v else fin l t' := rfl
theorem fin_nil (t : Nat) : fin [] t = .junk := rfl
theorem fob_at (t : Nat) (v : HO) (l : List (Nat × HO)) (t' : Nat) : fob ((t, v) :: l) t' = if t' = t then some v else fob l t' := rfl
theorem fob_nil (t : Nat) : fob [] t = none := rfl
theorem aN {α : Type} {f : α → CV} {l : List α} {i : Nat} (h : i < l.length) : nth (l.map f) i = f l[i] := by simp [nth, h]

theorem aN3 {P : Program} {ops : Array Oper} {nx i : Nat} {av : List Nat} {fr : Fr} {ob : Ob} {K K' : Fr → Ob → Prop} (hq : ops.all (fun o => bI o.op) = true) (hav : ∀ id ∈ av, ob id = none) (hK : ∀ fr', K fr' ob → K' fr' ob)
  (h : hopI P ops nx [] i K fr ob) : hopI P ops nx av i K' fr ob := by
 unfold hopI at h ⊢
 cases ho : ops[i]? with
 | none => rw [ho] at h; exact h
 | some o =>
  rw [ho] at h
  simp only at h ⊢
  have hqo : bI o.op = true := Array.all_eq_true_iff_forall_mem.1 hq o (Array.mem_of_getElem? ho)
  have hc : hcallOf o.op = none := by
   cases hop' : o.op <;> simp only [hcallOf]
   rename_i c
   rw [hop'] at hqo
   cases hcc : c.callee <;> simp_all [bI]
  cases hg : hguard ops o fr with
  | none => rw [hg] at h; exact h
  | some b =>
   rw [hg] at h
   cases b with
   | false => exact hK _ h
   | true =>
    simp only [hstep, hc] at h ⊢
    refine ⟨fun id hid => ⟨fun hin => ?_, (h.1 id hid).2⟩, ?_⟩
    ·
     have := (h.1 id hid).2
     rw [hav id hin] at this; cases this
    ·
     obtain ⟨v, u, h1, h2, h3, h4⟩ := xF h.2
     have hu := h4 hqo
     subst hu
     exact h2 ob (fun _ _ => rfl) _ (hK _ h1)

theorem xK {P : Program} {ops : Array Oper} {nx : Nat} {wt : Nat → Nat → Bool} {Q : Fr → Ob → Prop} {ob : Ob} (hq : ops.all (fun o => bI o.op) = true) (hf : ∀ id, nx ≤ id → ob id = none) :
  ∀ (l : List Nat) (C : iU) (fr : Fr), hlex P ops nx Q l fr ob → lU P ops nx wt Q l C fr ob
 | [], C, fr, h => h
 | i :: l, C, fr, h => by
  simp only [hlex, lU] at h ⊢
  have hi : isEff (ops.getD i default).op = false ∨ ops[i]? = none := by
   cases ho : ops[i]? with
   | none => exact .inr rfl
   | some o =>
    left
    have hqo : bI o.op = true := Array.all_eq_true_iff_forall_mem.1 hq o (Array.mem_of_getElem? ho)
    have : ops.getD i default = o := by simp [Array.getD_eq_getD_getElem?, ho]
    rw [this]
    cases hop' : o.op <;> simp only [isEff] <;> rw [hop'] at hqo <;> simp [bI] at hqo
    rename_i c
    cases hcc : c.callee <;> simp_all [isEff]
    rename_i b
    cases b <;> simp_all
  refine tU (fun _ _ h => h) (aN3 hq (fun id hid => hf id ?_) (fun fr' hK => xK hq hf l _ fr' hK) h)
  simp only [gN, List.mem_flatMap] at hid
  obtain ⟨p, _, hp⟩ := hid
  split at hp
  ·
   simp at hp
  ·
   have : ((ops[i]?).map (fun o => isEff o.op)).getD true = true → ops[i]? = none := by
    intro he
    rcases hi with hi | hi
    ·
     cases ho : ops[i]? with
     | none => rfl
     | some o =>
      have : ops.getD i default = o := by simp [Array.getD_eq_getD_getElem?, ho]
      rw [this] at hi
      rw [ho] at he
      simp [hi] at he
    ·
     exact hi
   rcases List.mem_append.1 hp with hp | hp
   ·
    simp only [List.mem_cons, List.not_mem_nil, or_false] at hp
    omega
   ·
    split at hp
    ·
     rename_i he
     rw [hopI, this he] at h
     exact h.elim
    ·
     simp at hp

theorem oT {P : Program} {n k : Nat} {Q : dI} {fr : Fr} {ob : Ob} {nx id : Nat} {ops : Array Oper} (hm : P.follows .mixedOrders = true) (hd : iQ n ops = true) (hp : iD ops (List.range ops.size) (Array.replicate ops.size false) = true) (hq : ops.all (fun o => bI o.op) = true)
  (h : hlex P ops nx (fun fr' ob' => Q .normal fr' ob' (nx + 4 * ops.size)) (List.range ops.size) fr ob) : Hw P n k (.region id ops true) Q fr ob nx := by
 intro c a w hn hk hz hA
 have hf : ∀ id, nx ≤ id → ob id = none := fun id hid => by
  obtain ⟨ρ, hA'⟩ := hA
  exact (hA'.nid_none (nid := id) (by omega)).1
 exact aS9 hm (List.range ops.size) [] hd hp rfl rfl (by simp) (xK hq hf _ _ _ h) c a w hn hk hz hA

def bP : Ob := fun _ => none
theorem none0_at (t : Nat) : bP t = none := rfl
def aW (P : Program) (f : FuncId) (args : List CV) (R : CV → Prop) : Prop :=
 HFn P f (args.map .c) 0 bP (fun r ob' => ∃ v, r = .c v ∧ R v ∧ ob' = bP)

theorem aC {ob : Ob} {r : HV} {R : CV → Prop} (cl : List Nat) (v : CV) (h : (r.close ob cl).norm = .c v) (hR : R v) : oS 0 r ob (fun r ob' => ∃ v, r = .c v ∧ R v ∧ ob' = bP) :=
 ⟨cl, id, .c v, bP, ⟨v, rfl, hR, rfl⟩, by rw [h]; rfl, fun _ h => by omega, fun _ _ _ _ h => h, by simp [HV.men], fun j o h => by simp [bP] at h⟩

theorem iR {ob : Ob} {nid : Nat} (h : ∀ i, nid ≤ i → i < nid + 4 → ob i = none) : bD ob [] nid bP = ob := by
 funext id
 simp only [bD, List.findIdx?_nil, bP, Option.map_none]
 split
 ·
  rename_i h'; exact (h id h'.1 h'.2).symm
 ·
  rfl

theorem cS (args : List CV) : LocOk 0 (args.map .c) bP := ⟨fun j h => by omega, fun id o h => by simp [bP] at h, HV.menL_c⟩

def oU : Nat → List HV → Fr
 | _, [] => fun _ => .junk
 | k, v :: l => upd (oU (k + 1) l) k v
theorem finA_at (k : Nat) (v : HV) (l : List HV) (t : Nat) : oU k (v :: l) t = if t = k then v else oU (k + 1) l t := rfl
theorem finA_nil (k t : Nat) : oU k [] t = .junk := rfl
theorem sS : ∀ (l : List HV) (k t : Nat), oU k l t = if t < k then .junk else l.getD (t - k) .junk
 | [], k, t => by simp [oU]
 | v :: l, k, t => by
  by_cases h : t = k
  ·
   subst h; simp [oU, aR]
  ·
   simp only [oU, aV _ _ h, sS l (k + 1) t]
   rcases Nat.lt_or_ge t k with h1 | h1
   ·
    rw [if_pos (by omega), if_pos h1]
   ·
    rw [if_neg (by omega), if_neg (by omega), show t - k = (t - (k + 1)) + 1 from by omega]
    simp
theorem bH {P : Program} {f : FuncId} {fn : Func} {code : Code} {args : List HV} {k : Nat} {ob : Ob} {R : HV → Ob → Prop} (hf : P.funcs[f]? = some fn) (hb : fn.body = some code) (hok : dM P f = true) (hloc : LocOk k args ob) (hn : args.length ≤ fn.ntmps)
  (h : Hw P fn.ntmps k code (cH P fn.results.toList k R) (oU 0 args) ob k) : HFn P f args k ob R := by
 refine aX4 hf hb hok hloc hn ?_
 have : (fun t => args.getD t HV.junk) = oU 0 args := by funext t; simp [sS]
 rw [this]; exact h
end Go.Hl

namespace Go.Hl
open Go

section
variable {P : Program} {n k : Nat} {Q : dI} {fr : Fr} {ob : Ob} {nx : Nat}

def HO.close (ob : Ob) (cl : List Nat) : HO → HO
 | .box t v => .box t (v.close ob cl).norm
 | .row e sz l => .row e sz l
 | .mp e sz D => .mp e sz D
 | .dead => .dead
 | .tab T => .tab T
def clF (ob : Ob) (cl : List Nat) (fr : Fr) : Fr := fun t => ((fr t).close ob cl).norm
def clO (ob : Ob) (cl : List Nat) : Ob := fun id => if cl.contains id = true then none else (ob id).map (HO.close ob cl)
theorem cQ (cl : List Nat) (t : Nat) : clF ob cl fr t = ((fr t).close ob cl).norm := rfl
theorem cR (cl : List Nat) (id : Nat) : clO ob cl id = if cl.contains id = true then none else (ob id).map (HO.close ob cl) := rfl

mutual
theorem HV.close_men {cl : List Nat} {M : Nat → Prop} : ∀ {v : HV}, v.men M → (v.close ob cl).men M
 | .junk, h => h
 | .c _, _ => by simp [HV.close, HV.men]
 | .agg l, h => by simp only [HV.close, HV.men] at h ⊢; exact HV.closeL_men h
 | .own id n, h => by
  simp only [HV.close]
  split
  ·
   split
   ·
    split
    ·
     simp [HV.men]
    ·
     exact h
   ·
    exact h
  ·
   exact h
 | .ptr .., h => h
 | .eptr .., h => h
 | .osl id n lo sz hi, h => by
  simp only [HV.close]
  split
  ·
   split
   ·
    split
    ·
     simp [HV.men]
    ·
     exact h
   ·
    exact h
  ·
   exact h
 | .mapr .., h => h
 | .mrow .., h => h
 | .clo .., h => h
 | .opq _, h => h
 | .tup l, h => by simp only [HV.close, HV.men] at h ⊢; exact HV.closeL_men h
theorem HV.closeL_men {cl : List Nat} {M : Nat → Prop} : ∀ {l : List HV}, HV.menL M l → HV.menL M (HV.closeL ob cl l)
 | [], h => by simp [HV.closeL, HV.menL]
 | v :: l, h => by simp only [HV.closeL, HV.menL] at h ⊢; exact ⟨HV.norm_men (HV.close_men h.1), HV.closeL_men h.2⟩
end

theorem HV.close_junk {cl : List Nat} {v : HV} (h : (v.close ob cl).norm ≠ .junk) : v ≠ .junk := by
 intro e; subst e; exact h rfl

theorem cM {code : Code} (cl : List Nat) (h : Hw P n k code Q (clF ob cl fr) (clO ob cl) nx) : Hw P n k code Q fr ob nx := by
 intro c a w hn hk hz hA
 refine h c a w hn hk hz ?_
 obtain ⟨ρ, h⟩ := hA
 let ρ2 : Env := fun id => if cl.contains id = true then none else ρ id
 have hρ2 : ∀ id L, ρ2 id = some L → ρ id = some L := fun id L hL => by
  simp only [ρ2] at hL
  split at hL
  ·
   cases hL
  ·
   exact hL
 have hcl : ∀ id ∈ cl, ρ2 id = none := fun id hid => by
  have : cl.contains id = true := by simpa using hid
  simp only [ρ2, this, if_true]
 have hown : ∀ b, Own ρ2 b → Own ρ b := fun b ⟨id, L, h1, h2⟩ => ⟨id, L, hρ2 id L h1, h2⟩
 have hst : Stay w (Owned ρ c.X) w (Owned ρ2 c.X) := Stay.same (fun b _ hb => hb.imp id (hown b))
 refine ⟨ρ2, ⟨fun id o ho => ?_, fun id hid => ?_, fun id id' L L' b h1 h2 h3 h4 => h.s.apart id id' L L' b (hρ2 _ _ h1) (hρ2 _ _ h2) h3 h4, fun id L b h1 h2 => h.s.xb id L b (hρ2 _ _ h1) h2⟩, fun t ht => ?_, fun t => HV.norm_men (HV.close_men (h.mf t)), fun id o ho => ?_, h.m0, ?_, ?_, h.defers, h.size, h.xlt⟩
 ·
  simp only [clO] at ho
  split at ho
  ·
   cases ho
  ·
   rename_i hc
   obtain ⟨o', ho', rfl⟩ := Option.map_eq_some_iff.1 ho
   have hid : ρ2 id = ρ id := by simp only [ρ2, hc]; rfl
   have hobj := h.s.objs id o' ho'
   cases o' with
   | box t v =>
    obtain ⟨b, cs, e1, e2, e3⟩ := hobj
    exact ⟨b, cs, by rw [hid]; exact e1, e2, HV.norm_rep (fX h.s hcl hρ2 hst e3)⟩
   | row e sz l =>
    obtain ⟨hd, xs, e1, e2, e3, e4⟩ := hobj
    exact ⟨hd, xs, by rw [hid]; exact e1, e2.stay hst, e3, e4⟩
   | mp e sz D =>
    obtain ⟨b, hf, e1, e2⟩ := hobj
    exact ⟨b, hf, by rw [hid]; exact e1, e2.stay hst rfl (fun _ _ _ _ _ => rfl)⟩
   | dead => exact hid.trans hobj
   | tab T => exact ⟨hid.trans hobj.1, jG hst hobj.2⟩
 ·
  simp only [clO] at hid
  simp only [ρ2]
  split
  ·
   rfl
  ·
   rename_i hc
   rw [if_neg hc, Option.map_eq_none_iff] at hid
   exact h.s.none id hid
 ·
  have := h.f t (HV.close_junk ht)
  exact ⟨HV.norm_rep (fX h.s hcl hρ2 hst this.1), by rw [clF, HV.norm_agg, HV.close_agg]; exact this.2⟩
 ·
  simp only [clO] at ho
  split at ho
  ·
   cases ho
  ·
   obtain ⟨o', ho', rfl⟩ := Option.map_eq_some_iff.1 ho
   obtain ⟨m1, m2⟩ := h.mo id o' ho'
   refine ⟨m1, ?_⟩
   cases o' with
   | box t v => exact HV.norm_men (HV.close_men m2)
   | row e sz l => trivial
   | mp e sz D => trivial
   | dead => trivial
   | tab _ => trivial
 ·
  exact h.base.trans ⟨fun _ _ _ => rfl, fun b hb => .inl (hown b hb), Nat.le_refl _, rfl, rfl, rfl⟩
 ·
  exact Moves.trans (fun _ h => h) h.moves (fun id L _ hL => ⟨L, hρ2 id L hL, .inl rfl⟩)

theorem ownsRow_nil {w : World} {e sz : Nat} : w.ownsRow 0 e sz (.slice none 0 0) 0 [] := by
 refine ⟨by simp, .inl ⟨rfl, rfl⟩⟩

theorem RepA'.emptyRow {c : Ctx} {M M' : Nat → Prop} {a : Act} {w : World} {ρ : Env} (h : RepA' c M fr ob a w ρ) {id e sz : Nat} (hn : ¬ M id) (hM : ∀ i, M i → M' i) (hM' : M' id) :
  RepA' c M' fr (upd ob id (some (.row e sz []))) a w (upd ρ id (some (.hdr (.slice none 0 0)))) := by
 obtain ⟨hob, hρ⟩ := h.nid_none hn
 have hown : ∀ b, Own (upd ρ id (some (.hdr (.slice none 0 0)))) b → Own ρ b := by
  rintro b ⟨i, L, h1, h2⟩
  by_cases e : i = id
  ·
   subst e; rw [aR] at h1; cases h1; cases h2
  ·
   rw [aV _ _ e] at h1; exact ⟨i, L, h1, h2⟩
 have hst : Stay w (Owned ρ c.X) w (Owned (upd ρ id (some (.hdr (.slice none 0 0)))) c.X) := Stay.same (fun b _ hb => hb.imp (fun x => x) (hown b))
 have hmv : Moves M ρ (upd ρ id (some (.hdr (.slice none 0 0)))) := Moves.upd_new hn
 refine ⟨⟨fun i o ho => ?_, fun i hi => ?_, fun i i' L L' b h1 h2 h3 h4 => ?_, fun i L b h1 h2 => ?_⟩, fun t ht => ⟨RepH.stay hst hmv (h.mf t) (h.f t ht).1, (h.f t ht).2⟩, fun t => HV.men_mono hM (h.mf t), fun i o ho => ?_, fun i hi => hM i (h.m0 i hi), ?_, ?_, h.defers, h.size, h.xlt⟩
 ·
  by_cases e' : i = id
  ·
   subst e'
   rw [aR] at ho
   cases ho
   exact ⟨.slice none 0 0, [], aR _ _ _, by simp [RepL], by simp, ownsRow_nil⟩
  ·
   rw [aV _ _ e'] at ho
   exact RepO.stay hst hmv (h.mo i o ho).2 (aV _ _ e') (fun _ _ _ _ => rfl) (h.s.objs i o ho)
 ·
  by_cases e' : i = id
  ·
   subst e'; rw [aR] at hi; cases hi
  ·
   rw [aV _ _ e'] at hi ⊢; exact h.s.none i hi
 ·
  by_cases e1 : i = id
  ·
   subst e1; rw [aR] at h1; cases h1; cases h3
  ·
   by_cases e2 : i' = id
   ·
    subst e2; rw [aR] at h2; cases h2; cases h4
   ·
    rw [aV _ _ e1] at h1; rw [aV _ _ e2] at h2
    exact h.s.apart i i' L L' b h1 h2 h3 h4
 ·
  by_cases e1 : i = id
  ·
   subst e1; rw [aR] at h1; cases h1; cases h2
  ·
   rw [aV _ _ e1] at h1; exact h.s.xb i L b h1 h2
 ·
  by_cases e' : i = id
  ·
   subst e'; rw [aR] at ho; cases ho; exact ⟨hM', trivial⟩
  ·
   rw [aV _ _ e'] at ho
   exact ⟨hM _ (h.mo i o ho).1, HO.men_mono hM (h.mo i o ho).2⟩
 ·
  exact h.base.trans ⟨fun _ _ _ => rfl, fun b hb => .inl (hown b hb), Nat.le_refl _, rfl, rfl, rfl⟩
 ·
  exact Moves.trans h.m0 h.moves hmv

theorem tX {w : World} {ρ : Env} {O : Nat → Prop} {v v' : HV} {off id : Nat} {cs : List Value} (hg : HV.getAt off 1 false v = some (.c .nils)) (hs : v.sto = true) (hv : HV.setAt off 1 (.own id 0) v = some v') (hρ : ρ id = some (.hdr (.slice none 0 0)))
  (h : RepH w ρ O v cs) : RepH w ρ O v' cs := by
 obtain ⟨c1, c2, c3, e0, e1, e2, e3, _⟩ := HV.getAt_spec hg hs h
 obtain ⟨d1, d2, d3, f0, f1, f2, f3, _⟩ := HV.setAt_spec (x := .own id 0) rfl hv hs h
 have : c1 = d1 ∧ c2 ++ c3 = d2 ++ d3 := by
  have := e0.symm.trans f0
  rw [List.append_assoc, List.append_assoc] at this
  exact List.append_inj this (by omega)
 obtain ⟨rfl, h23⟩ := this
 have h23 := List.append_inj h23 (by omega)
 obtain ⟨rfl, rfl⟩ := h23
 rw [e0]
 refine f3 c2 ?_
 simp only [RepH, RepC] at e3 ⊢
 refine ⟨_, e3, rfl, fun hd hh => ?_⟩
 rw [hρ] at hh
 cases hh
 exact ⟨Nat.le_refl _, fun _ => rfl⟩

theorem fE {code : Code} (t off e sz : Nat) {v' : HV} (hg : HV.getAt off 1 false (fr t) = some (.c .nils)) (hs : (fr t).sto = true) (hv : HV.setAt off 1 (.own nx 0) (fr t) = some v') (ha : v'.isAgg = (fr t).isAgg)
  (h : Hw P n k code Q (upd fr t v') (upd ob nx (some (.row e sz []))) (nx + 1)) : Hw P n k code Q fr ob nx := by
 intro c a w hn hk hz hA
 refine h c a w hn hk hz ?_
 obtain ⟨ρ, hA⟩ := hA
 have hA' := hA.emptyRow (M' := (· < nx + 1)) (id := nx) (e := e) (sz := sz) (by omega) (fun i hi => by omega) (by omega)
 refine ⟨_, hA'.s, fun t' ht' => ?_, fun t' => ?_, hA'.mo, hA'.m0, hA'.base, hA'.moves, hA'.defers, hA'.size, hA'.xlt⟩
 ·
  by_cases e' : t' = t
  ·
   subst e'
   rw [aR]
   have hj : fr t' ≠ .junk := by intro e'; rw [e'] at hs; simp [HV.sto] at hs
   have hf := hA'.f t' hj
   have hr := tX hg hs hv (aR _ _ _) hf.1
   exact ⟨hr, by rw [ha]; exact hf.2⟩
  ·
   rw [aV _ _ e'] at ht' ⊢
   exact hA'.f t' ht'
 ·
  by_cases e' : t' = t
  ·
   subst e'
   rw [aR]
   have hj : fr t' ≠ .junk := by intro e'; rw [e'] at hs; simp [HV.sto] at hs
   obtain ⟨d1, d2, d3, f0, f1, f2, f3, f4, f5⟩ := HV.setAt_spec (x := .own nx 0) rfl hv hs (hA'.f t' hj).1
   exact f5 _ (by simp [HV.men]) (hA'.mf t')
  ·
   rw [aV _ _ e']; exact hA'.mf t'
theorem gQ {code : Code} (id off e sz : Nat) {T : TypeId} {v v' : HV} (hb : ob id = some (.box T v)) (hg : HV.getAt off 1 false v = some (.c .nils)) (hs : v.sto = true) (hv : HV.setAt off 1 (.own nx 0) v = some v')
  (h : Hw P n k code Q fr (upd (upd ob nx (some (.row e sz []))) id (some (.box T v'))) (nx + 1)) : Hw P n k code Q fr ob nx := by
 intro c a w hn hk hz hA
 refine h c a w hn hk hz ?_
 obtain ⟨ρ, hA⟩ := hA
 have hid : id < nx := (hA.mo id _ hb).1
 have hA' := hA.emptyRow (M' := (· < nx + 1)) (id := nx) (e := e) (sz := sz) (by omega) (fun i hi => by omega) (by omega)
 have hb' : upd ob nx (some (.row e sz [])) id = some (.box T v) := by rw [aV _ _ (by omega)]; exact hb
 obtain ⟨b, cs, e1, e2, e3⟩ := hA'.s.objs id _ hb'
 refine ⟨_, ⟨fun i o ho => ?_, fun i hi => ?_, hA'.s.apart, hA'.s.xb⟩, hA'.f, hA'.mf, fun i o ho => ?_, hA'.m0, hA'.base, hA'.moves, hA'.defers, hA'.size, hA'.xlt⟩
 ·
  by_cases e' : i = id
  ·
   subst e'
   rw [aR] at ho
   cases ho
   exact ⟨b, cs, e1, e2, tX hg hs hv (aR _ _ _) e3⟩
  ·
   rw [aV _ _ e'] at ho
   exact hA'.s.objs i o ho
 ·
  by_cases e' : i = id
  ·
   subst e'; rw [aR] at hi; cases hi
  ·
   rw [aV _ _ e'] at hi
   exact hA'.s.none i hi
 ·
  by_cases e' : i = id
  ·
   subst e'
   rw [aR] at ho
   cases ho
   obtain ⟨d1, d2, d3, f0, f1, f2, f3, f4, f5⟩ := HV.setAt_spec (x := .own nx 0) rfl hv hs e3
   exact ⟨(hA'.mo i _ hb').1, f5 _ (by simp [HV.men]) (hA'.mo i _ hb').2⟩
  ·
   rw [aV _ _ e'] at ho
   exact hA'.mo i o ho

def bT (ob : Ob) (id : Nat) : Ob := fun i => if i = id then none else ob i
theorem kO (ob : Ob) (id i : Nat) : bT ob id i = if i = id then none else ob i := rfl
theorem dQ {code : Code} (t id : Nat) {T : TypeId} {v : CV} (ht : fr t = .ptr id 0) (hb : ob id = some (.box T (.c v)))
  (h : Hw P n k code Q (upd fr t (.c (.rp v))) (bT ob id) nx) : Hw P n k code Q fr ob nx := by
 intro c a w hn hk hz hA
 refine h c a w hn hk hz ?_
 obtain ⟨ρ, h⟩ := hA
 let ρ2 : Env := fun i => if i = id then none else ρ i
 have hρ2 : ∀ i L, ρ2 i = some L → ρ i = some L := fun i L hL => by
  simp only [ρ2] at hL
  split at hL
  ·
   cases hL
  ·
   exact hL
 have hown : ∀ b, Own ρ2 b → Own ρ b := fun b ⟨i, L, h1, h2⟩ => ⟨i, L, hρ2 i L h1, h2⟩
 have hst : Stay w (Owned ρ c.X) w (Owned ρ2 c.X) := Stay.same (fun b _ hb => hb.imp (fun x => x) (hown b))
 have hmv : ∀ M : Nat → Prop, Moves M ρ ρ2 := fun M i L _ hL => ⟨L, hρ2 i L hL, .inl rfl⟩
 obtain ⟨b, cs, e1, e2, e3⟩ := h.s.objs id _ hb
 obtain ⟨b', e1', he⟩ := iB (x := .tmp t) h ht (by rw [hb]; rfl)
 rw [e1] at e1'
 cases e1'
 have hnb : ¬ Owned ρ2 c.X b := by
  rintro (hx | ⟨i, L, h1, h2⟩)
  ·
   exact h.s.xb id _ b e1 rfl hx
  ·
   have := h.s.apart i id L _ b (hρ2 i L h1) e1 h2 rfl
   subst this
   simp only [ρ2, if_true] at h1
   cases h1
 refine ⟨ρ2, ⟨fun i o ho => ?_, fun i hi => ?_, fun i i' L L' b h1 h2 h3 h4 => h.s.apart i i' L L' b (hρ2 _ _ h1) (hρ2 _ _ h2) h3 h4, fun i L b h1 h2 => h.s.xb i L b (hρ2 _ _ h1) h2⟩, fun t' ht' => ?_, fun t' => ?_, fun i o ho => ?_, h.m0, ?_, ?_, h.defers, h.size, h.xlt⟩
 ·
  simp only [bT] at ho
  split at ho
  ·
   cases ho
  ·
   rename_i hne
   exact RepO.stay hst (hmv _) (h.mo i o ho).2 (by simp only [ρ2, hne, if_false]) (fun _ _ _ _ => rfl) (h.s.objs i o ho)
 ·
  simp only [bT] at hi
  simp only [ρ2]
  split
  ·
   rfl
  ·
   rename_i hne
   rw [if_neg hne] at hi
   exact h.s.none i hi
 ·
  by_cases e : t' = t
  ·
   subst e
   rw [aR]
   have he' : a.tmps.getD t' undef = .pointer (some ⟨b, 0, none⟩) := he
   rw [he']
   refine bR ?_ rfl rfl
   simp only [RepC]
   simp only [RepH] at e3
   refine ⟨⟨b, 0, none⟩, cs, rfl, e3.stay hst, fun j u hj => ?_, fun _ => hnb⟩
   have hlt : j < cs.length := (List.getElem?_eq_some_iff.1 hj).1
   rw [eF, cell_of_row w b _ _ _ _ e2]
   simpa using hj
  ·
   rw [aV _ _ e] at ht' ⊢
   exact ⟨RepH.stay hst (hmv _) (h.mf t') (h.f t' ht').1, (h.f t' ht').2⟩
 ·
  by_cases e : t' = t
  ·
   subst e; rw [aR]; simp [HV.men]
  ·
   rw [aV _ _ e]; exact h.mf t'
 ·
  simp only [bT] at ho
  split at ho
  ·
   cases ho
  ·
   exact h.mo i o ho
 ·
  exact h.base.trans ⟨fun _ _ _ => rfl, fun b hb => .inl (hown b hb), Nat.le_refl _, rfl, rfl, rfl⟩
 ·
  exact Moves.trans (fun _ h => h) h.moves (hmv _)
end
end Go.Hl
