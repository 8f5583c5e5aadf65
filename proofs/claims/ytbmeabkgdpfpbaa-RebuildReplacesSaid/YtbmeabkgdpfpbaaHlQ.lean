/- HL, part Q: regions and control. By an AI agent. -/
import Derived.Test.YtbmeabkgdpfpbaaHlP
import Derived.StillTail
set_option linter.unusedSimpArgs false
set_option linter.unusedVariables false
namespace Go.Hl
open Go

section
variable {P : Program} {c : Ctx} {M M' : Nat → Prop} {fr : Fr} {ob : Ob} {a : Act} {w : World} {ρ : Env}

theorem RepA.mono (h : RepA c M fr ob a w) (hM : ∀ i, M i → M' i) : RepA c M' fr ob a w := let ⟨ρ, h⟩ := h; ⟨ρ, h.weaken hM⟩

theorem undef_rep (w : World) (ρ : Env) (O : Nat → Prop) : RepV w ρ O (.tup []) undef := ⟨by simp only [RepH]; exact ⟨[], rfl, by simp [RepHV]⟩, rfl⟩

theorem hopI_sound {Q : Exit → Act → World → Prop} {ops : Array Oper} {nx i : Nat} {av : List Nat} {K : Fr → Ob → Prop} (h : RepA c M fr ob a w) (hnid : ∀ t, t < 4 → ¬ M (nx + 4 * i + t)) (hM : ∀ i, M i → M' i) (hM' : ∀ t, t < 4 → M' (nx + 4 * i + t))
    (hd : ∀ o ∈ ops, ∀ k, o.dst = some k → k < c.n) (hl : hopI P ops nx av i K fr ob) : wpOp P ops Q i (fun a' w' => ∃ fr' ob', K fr' ob' ∧ RepA c M' fr' ob' a' w') a w := by
  obtain ⟨ρ, h⟩ := h
  unfold hopI at hl
  unfold wpOp
  cases ho : ops[i]? with
  | none => rw [ho] at hl; exact hl.elim
  | some o =>
    rw [ho] at hl
    simp only at hl ⊢
    have hdo := hd o (Array.mem_of_getElem? ho)
    cases hg : hguard ops o fr with
    | none => rw [hg] at hl; exact hl.elim
    | some b =>
      rw [hg] at hl
      rw [hguard_wanted h hg]
      cases b with
      | true =>
        simp only [if_true] at hl ⊢
        refine .inl (Oper.wp_mono (fun a' w' hx => ?_) (hstep_sound (Q := Q) h hnid hM hM' hl hdo))
        obtain ⟨v, ob', hK, hA⟩ := hx
        exact ⟨_, ob', hK, hA⟩
      | false =>
        simp only [Bool.false_eq_true, if_false] at hl ⊢
        exact ⟨_, ob, hl, ρ, (h.value (.inr (undef_rep _ _ _)) (by simp [HV.men, HV.menL]) hdo).weaken hM⟩

/-- The order of the text. -/
def hlex (P : Program) (ops : Array Oper) (nx : Nat) (Q : Fr → Ob → Prop) : List Nat → Fr → Ob → Prop
  | [], fr, ob => Q fr ob
  | i :: rest, fr, ob => hopI P ops nx [] i (hlex P ops nx Q rest) fr ob

theorem hlex_sound {Q : Exit → Act → World → Prop} {ops : Array Oper} {nx : Nat} {K : Fr → Ob → Prop} (hd : ∀ o ∈ ops, ∀ k, o.dst = some k → k < c.n) (N : Nat)
    (hQ : ∀ fr ob a w, K fr ob → RepA c (· < nx + 4 * N) fr ob a w → Q .normal a w) : ∀ (n k : Nat) (fr : Fr) (ob : Ob) (a : Act) (w : World), k + n = N → RepA c (· < nx + 4 * k) fr ob a w → hlex P ops nx K (List.range' k n) fr ob → wpOps P ops Q (List.range' k n) a w
  | 0, k, fr, ob, a, w, hk, h, hl => by
    simp only [List.range'_zero, hlex, wpOps] at hl ⊢
    exact hQ fr ob a w hl (by have : k = N := by omega
                              subst this; exact h)
  | n + 1, k, fr, ob, a, w, hk, h, hl => by
    simp only [List.range'_succ, hlex, wpOps_cons] at hl ⊢
    refine wpOp_mono (fun a' w' hx => ?_) (hopI_sound (Q := Q) (M' := (· < nx + 4 * (k + 1))) h (fun t ht => by omega) (fun i hi => by omega) (fun t ht => by omega) hd hl)
    obtain ⟨fr', ob', hK, hA⟩ := hx
    exact hlex_sound hd N hQ n (k + 1) fr' ob' a' w' (by omega) hA hK

/-- Whatever order. -/
def MReg (nx : Nat) (listed : Array Bool) (id : Nat) : Prop := id < nx ∨ ∃ i t, listed.getD i false = true ∧ t < 4 ∧ id = nx + 4 * i + t

theorem hAny_sound {Q : Exit → Act → World → Prop} {ops : Array Oper} {nx : Nat} {wt : Nat → Nat → Bool} {K : Fr → Ob → Prop} {C : Pend} (hd : ∀ o ∈ ops, ∀ k, o.dst = some k → k < c.n)
    (hQ : ∀ fr ob a w, K fr ob → RepA c (· < nx + 4 * ops.size) fr ob a w → Q .normal a w) : ∀ (n : Nat) (listed : Array Bool) (fr : Fr) (ob : Ob) (a : Act) (w : World), listed.size = ops.size → RepA c (MReg nx listed) fr ob a w →
    hAny P ops nx wt K n C listed fr ob → wpAny P .any ops Q n listed a w := by
  have fin : ∀ (listed : Array Bool) fr ob a w, listed.size = ops.size → K fr ob → RepA c (MReg nx listed) fr ob a w → Q .normal a w := fun listed fr ob a w hs hK hA => by
    refine hQ fr ob a w hK (hA.mono (fun id hid => ?_))
    rcases hid with h | ⟨i, t, h1, h2, rfl⟩
    · omega
    · have hi : i < listed.size := by
        rcases Nat.lt_or_ge i listed.size with h' | h'
        · exact h'
        · simp [Array.getElem?_eq_none h'] at h1
      omega
  intro n
  induction n with
  | zero => intro listed fr ob a w hs hA h; exact ⟨h.1, fin listed fr ob a w hs h.2 hA⟩
  | succ n ih =>
    intro listed fr ob a w hs hA h
    refine ⟨fun h0 => fin listed fr ob a w hs (h.1 h0) hA, fun i hi => ?_⟩
    obtain ⟨hun, oi, hoi, _⟩ := mem_ready.1 hi
    have hil : i < listed.size := by rw [hs]; exact (Array.getElem?_eq_some_iff.1 hoi).1
    have hun' : listed.getD i false = false := by simpa [hil] using hun
    refine wpOp_mono (fun a' w' hx => ?_) (hopI_sound (Q := Q) (M' := MReg nx (listed.setIfInBounds i true)) hA (fun t ht => ?_) (fun id hid => ?_) (fun t ht => ?_) hd (h.2 i hi))
    · obtain ⟨fr', ob', hK, hA'⟩ := hx
      exact ih _ fr' ob' a' w' (by simp [hs]) hA' hK
    · rintro (h1 | ⟨j, t', h1, h2, h3⟩)
      · omega
      · have : j = i := by omega
        subst this
        rw [hun'] at h1; cases h1
    · rcases hid with h1 | ⟨j, t', h1, h2, h3⟩
      · exact .inl h1
      · exact .inr ⟨j, t', getD_set_true h1, h2, h3⟩
    · exact .inr ⟨i, t, by simp [hil], ht, rfl⟩
end

def dstOk (n : Nat) (ops : Array Oper) : Bool := ops.all fun o => match o.dst with | some k => decide (k < n) | none => true
theorem dstOk_spec {n : Nat} {ops : Array Oper} (h : dstOk n ops = true) : ∀ o ∈ ops, ∀ k, o.dst = some k → k < n := by
  intro o ho k hk
  have := Array.all_eq_true_iff_forall_mem.1 h o ho
  rw [hk] at this
  simpa using this

/-- Waiting, by masks that are checked. -/
def wtOf (ms : List Nat) (j i : Nat) : Bool := (ms.getD j 0).testBit i
def wtOkB (ops : Array Oper) (ms : List Nat) : Bool :=
  (List.range ms.length).all fun j => (List.range ms.length).all fun i => !(wtOf ms j i) ||
    match ops[j]? with
    | some o => o.after.any fun e => Region.binds .any e && (e.on == i || (decide (e.on < j) && wtOf ms e.on i))
    | none => false
theorem testBit_big {m i n : Nat} (h : m < 2 ^ n) (hi : n ≤ i) : m.testBit i = false := Nat.testBit_lt_two_pow (Nat.lt_of_lt_of_le h (Nat.pow_le_pow_right (by omega) hi))
theorem wtOkB_spec {ops : Array Oper} {ms : List Nat} (h : wtOkB ops ms = true) (hm : ms.all (fun m => decide (m < 2 ^ ms.length)) = true) : WtOk ops (wtOf ms) := by
  intro j i hw
  have hj : j < ms.length := by
    rcases Nat.lt_or_ge j ms.length with h' | h'
    · exact h'
    · simp [wtOf, List.getElem?_eq_none h'] at hw
  have hi : i < ms.length := by
    rcases Nat.lt_or_ge i ms.length with h' | h'
    · exact h'
    · have h1 := List.all_eq_true.1 hm (ms.getD j 0) (by simp [hj])
      rw [wtOf, testBit_big (by simpa using h1) h'] at hw
      cases hw
  have h1 := List.all_eq_true.1 (List.all_eq_true.1 h j (List.mem_range.2 hj)) i (List.mem_range.2 hi)
  simp only [hw, Bool.not_true, Bool.false_or] at h1
  split at h1
  · rename_i o ho
    obtain ⟨e, he, hb⟩ := Array.any_eq_true'.1 h1
    simp only [Bool.and_eq_true, Bool.or_eq_true, beq_iff_eq, decide_eq_true_eq] at hb
    exact ⟨o, ho, e, he, hb.1, hb.2⟩
  · cases h1

/-! ## Control -/
abbrev HPost := Exit → Fr → Ob → Nat → Prop
/-- THE WALK's GOAL. 'n' slots; 'k' objects came in. -/
def Hw (P : Program) (n k : Nat) (code : Code) (Q : HPost) (fr : Fr) (ob : Ob) (nx : Nat) : Prop :=
  ∀ (c : Ctx) (a : Act) (w : World), c.n = n → c.M0 = (· < k) → RepA c (· < nx) fr ob a w → code.wp P (fun e a' w' => ∃ fr' ob' nx', Q e fr' ob' nx' ∧ RepA c (· < nx') fr' ob' a' w') a w

def hthen (K : Fr → Ob → Nat → Prop) (Q : HPost) : HPost
  | .normal => K
  | e => Q e
def hblk (id : Nat) (Q : HPost) : HPost
  | .exit id' => if id' = id then Q .normal else Q (.exit id')
  | e => Q e

section
variable {P : Program} {n k : Nat} {Q : HPost} {fr : Fr} {ob : Ob} {nx : Nat}

theorem Hw.mono {code : Code} {Q' : HPost} (h : Hw P n k code Q fr ob nx) (hq : ∀ e fr ob nx, Q e fr ob nx → Q' e fr ob nx) : Hw P n k code Q' fr ob nx :=
  fun c a w hn hk hA => wp_mono (h c a w hn hk hA) (fun _ _ _ ⟨fr', ob', nx', h1, h2⟩ => ⟨fr', ob', nx', hq _ _ _ _ h1, h2⟩)
theorem hw_skip (h : Q .normal fr ob nx) : Hw P n k .skip Q fr ob nx := fun _ _ _ _ _ hA => wp_skip ⟨fr, ob, nx, h, hA⟩
theorem hw_label {l : Nat} (h : Q .normal fr ob nx) : Hw P n k (.label l) Q fr ob nx := fun _ _ _ _ _ hA => wp_label ⟨fr, ob, nx, h, hA⟩
theorem hw_exit {id : Nat} (h : Q (.exit id) fr ob nx) : Hw P n k (.exit id) Q fr ob nx := fun _ _ _ _ _ hA => wp_exit ⟨fr, ob, nx, h, hA⟩
theorem hw_ret (h : Q .ret fr ob nx) : Hw P n k .ret Q fr ob nx := fun _ _ _ _ _ hA => wp_ret ⟨fr, ob, nx, h, hA⟩
theorem hw_seq {x y : Code} (h : ∀ K : Fr → Ob → Nat → Prop, (∀ fr ob nx, Hw P n k y Q fr ob nx → K fr ob nx) → Hw P n k x (hthen K Q) fr ob nx) : Hw P n k (.seq x y) Q fr ob nx := by
  intro c a w hn hk hA
  have := h (Hw P n k y Q) (fun _ _ _ h => h) c a w hn hk hA
  refine wp_seq (wp_mono this fun e a' w' hx => ?_)
  obtain ⟨fr', ob', nx', h1, h2⟩ := hx
  cases e with
  | normal => exact h1 c a' w' hn hk h2
  | _ => exact ⟨fr', ob', nx', h1, h2⟩
theorem hw_cond {x y : Code} {o : Operand} {b : Bool} (hb : ev fr o = .c (.bool b)) (h1 : b = true → Hw P n k x Q fr ob nx) (h2 : b = false → Hw P n k y Q fr ob nx) : Hw P n k (.cond o x y) Q fr ob nx := by
  intro c a w hn hk hA
  obtain ⟨ρ, hA'⟩ := hA
  have := bool_of hA' hb
  exact wp_cond_split this (fun e => h1 e c a w hn hk ⟨ρ, hA'⟩) (fun e => h2 e c a w hn hk ⟨ρ, hA'⟩)
theorem hw_block {id : Nat} {x : Code} (h : Hw P n k x (hblk id Q) fr ob nx) : Hw P n k (.block id x) Q fr ob nx := by
  intro c a w hn hk hA
  refine wp_block (wp_mono (h c a w hn hk hA) fun e a' w' hx => ?_)
  obtain ⟨fr', ob', nx', h1, h2⟩ := hx
  cases e with
  | exit id' =>
    simp only [Exit.inBlock, hblk] at h1 ⊢
    by_cases hid : id' = id
    · rw [if_pos hid] at h1 ⊢; exact ⟨fr', ob', nx', h1, h2⟩
    · rw [if_neg hid] at h1 ⊢; exact ⟨fr', ob', nx', h1, h2⟩
  | _ => exact ⟨fr', ob', nx', h1, h2⟩
theorem hw_region {id : Nat} {ops : Array Oper} (hd : dstOk n ops = true) (h : hlex P ops nx (fun fr' ob' => Q .normal fr' ob' (nx + 4 * ops.size)) (List.range ops.size) fr ob) : Hw P n k (.region id ops false) Q fr ob nx := by
  intro c a w hn hk hA
  refine wp_region ?_
  rw [List.range_eq_range'] at h ⊢
  exact hlex_sound (c := c) (by rw [hn]; exact dstOk_spec hd) ops.size (fun fr' ob' a' w' hK hA' => ⟨fr', ob', _, hK, hA'⟩) ops.size 0 fr ob a w (by omega) hA h
theorem hw_draw {id : Nat} {ops : Array Oper} (hm : P.follows .mixedOrders = true) (plan ms : List Nat) (hd : dstOk n ops = true) (hp : planOk ops plan (Array.replicate ops.size false) = true) (hw1 : wtOkB ops ms = true) (hw2 : ms.all (fun m => decide (m < 2 ^ ms.length)) = true) (hl : plan.length = ops.size)
    (h : hwalk P ops nx (wtOf ms) (fun fr' ob' => Q .normal fr' ob' (nx + 4 * ops.size)) plan [] fr ob) : Hw P n k (.region id ops true) Q fr ob nx := by
  intro c a w hn hk hA
  refine wp_region_any hm ?_
  have hA0 : RepA c (MReg nx (Array.replicate ops.size false)) fr ob a w := hA.mono (fun i hi => .inl hi)
  have hfresh : Fresh nx (Array.replicate ops.size false) ob := by
    intro j _ t _
    obtain ⟨ρ, hA'⟩ := hA
    exact (hA'.nid_none (nid := nx + 4 * j + t) (by omega)).1
  have hdown : Down ops (Array.replicate ops.size false) := by
    intro j o _ hl
    rw [getD_replicate_false] at hl; cases hl
  have hany := hAny_of_walk (wtOkB_spec hw1 hw2) plan [] _ fr ob hp hdown hfresh h
  rw [hl] at hany
  obtain ⟨ρ, hA1⟩ := hA0
  refine hAny_sound (c := c) (by rw [hn]; exact dstOk_spec hd) (fun fr' ob' a' w' hK hA' => ⟨fr', ob', _, hK, hA'⟩) ops.size _ fr ob a _ (by simp) ⟨ρ, ?_⟩ hany
  exact ⟨⟨fun id o ho => by
      have := hA1.s.objs id o ho
      exact RepO.stay (w := w) (ρ := ρ) (M := fun _ => True) ⟨fun b hb hO => ⟨rfl, hO⟩⟩ (Moves.refl _ _) (by cases o with | box t v => exact HV.men_mono (fun _ _ => trivial) (hA1.mo id _ ho).2 | row _ _ _ => trivial | mp _ _ _ => trivial) rfl (fun _ _ _ _ => rfl) this, hA1.s.none, hA1.s.apart, hA1.s.xb⟩,
    fun t ht => ⟨RepH.stay (w := w) (w' := { w with drawn := w.drawn + 1 }) (ρ := ρ) (O := Owned ρ c.X) (M := fun _ => True) ⟨fun b hb hO => ⟨rfl, hO⟩⟩ (Moves.refl _ _) (HV.men_mono (fun _ _ => trivial) (hA1.mf t)) (hA1.f t ht).1, (hA1.f t ht).2⟩, hA1.mf, hA1.mo, hA1.m0,
    ⟨hA1.base.block, hA1.base.own, hA1.base.size, hA1.base.os, hA1.base.tape, hA1.base.output⟩, hA1.moves, hA1.defers, hA1.size, hA1.xlt⟩

/-- What is forgotten. -/
structure Fits (k : Nat) (fr : Fr) (ob : Ob) (fr2 : Fr) (ob2 : Ob) (nx2 : Nat) : Prop where
  f : ∀ t, fr2 t = .junk ∨ fr2 t = fr t
  o : ∀ id o, ob2 id = some o → ob id = some o
  mf : ∀ t, (fr2 t).men (· < nx2)
  mo : ∀ id o, ob2 id = some o → id < nx2 ∧ o.men (· < nx2)
  k : k ≤ nx2

theorem RepA.fits {c : Ctx} {a : Act} {w : World} {fr2 : Fr} {ob2 : Ob} {nx2 : Nat} {M : Nat → Prop} (hk : c.M0 = (· < k)) (h : RepA c M fr ob a w) (hf : Fits k fr ob fr2 ob2 nx2) : RepA c (· < nx2) fr2 ob2 a w := by
  obtain ⟨ρ, h⟩ := h
  let ρ2 : Env := fun id => match ob2 id with | some _ => ρ id | none => none
  have hρ2 : ∀ id L, ρ2 id = some L → ρ id = some L := fun id L hL => by
    simp only [ρ2] at hL
    split at hL
    · exact hL
    · cases hL
  have hown : ∀ b, Own ρ2 b → Own ρ b := fun b ⟨id, L, h1, h2⟩ => ⟨id, L, hρ2 id L h1, h2⟩
  have hst : Stay w (Owned ρ c.X) w (Owned ρ2 c.X) := Stay.same (fun b _ hb => hb.imp id (hown b))
  have hmv : ∀ M, Moves M ρ ρ2 := fun M id L _ hL => ⟨L, hρ2 id L hL, .inl rfl⟩
  refine ⟨ρ2, ⟨fun id o ho => ?_, fun id hid => ?_, fun id id' L L' b h1 h2 h3 h4 => h.s.apart id id' L L' b (hρ2 _ _ h1) (hρ2 _ _ h2) h3 h4, fun id L b h1 h2 => h.s.xb id L b (hρ2 _ _ h1) h2⟩, fun t ht => ?_, hf.mf, hf.mo, ?_, ?_, ?_, h.defers, h.size, h.xlt⟩
  · have hid : ρ2 id = ρ id := by simp only [ρ2, ho]
    exact RepO.stay hst (hmv M) (h.mo id o (hf.o id o ho)).2 hid (fun _ _ _ _ => rfl) (h.s.objs id o (hf.o id o ho))
  · simp only [ρ2, hid]
  · rcases hf.f t with e | e
    · exact absurd e ht
    · rw [e] at ht ⊢
      exact ⟨RepH.stay hst (hmv M) (h.mf t) (h.f t ht).1, (h.f t ht).2⟩
  · intro id hid
    rw [hk] at hid
    exact Nat.lt_of_lt_of_le hid hf.k
  · exact h.base.trans ⟨fun _ _ _ => rfl, fun b hb => .inl (hown b hb), Nat.le_refl _, rfl, rfl, rfl⟩
  · exact Moves.trans (fun _ h => h) h.moves (hmv _)

theorem hw_fits {code : Code} {fr2 : Fr} {ob2 : Ob} {nx2 : Nat} (hf : Fits k fr ob fr2 ob2 nx2) (h : Hw P n k code Q fr2 ob2 nx2) : Hw P n k code Q fr ob nx :=
  fun c a w hn hk hA => h c a w hn hk (hA.fits hk hf)

theorem hw_loop {α : Type} {x : Code} (inv : α → Fr × Ob) (nx2 : Nat) (μ : α → Nat) (x0 : α) (h0 : Fits k fr ob (inv x0).1 (inv x0).2 nx2)
    (round : ∀ y, Hw P n k x (hthen (fun fr' ob' _ => ∃ y', Fits k fr' ob' (inv y').1 (inv y').2 nx2 ∧ μ y' < μ y) Q) (inv y).1 (inv y).2 nx2) : Hw P n k (.loop x) Q fr ob nx := by
  intro c a w hn hk hA b kk cs
  have key : ∀ (m : Nat) (y : α) (a : Act) (w : World), μ y = m → RepA c (· < nx2) (inv y).1 (inv y).2 a w →
      ∃ e a' w', (∃ fr' ob' nx', Q e fr' ob' nx' ∧ RepA c (· < nx') fr' ob' a' w') ∧ Arrives P (lone (b.at a (.code x :: .inLoop x :: kk)) cs w) b kk cs e a' w' := by
    intro m
    induction m using Nat.strongRecOn with
    | _ m ih =>
      intro y a w hy hA
      obtain ⟨e, a₁, w₁, hq, harr⟩ := round y c a w hn hk hA b (.inLoop x :: kk) cs
      cases e with
      | normal =>
        obtain ⟨fr', ob', nx', ⟨y', hf, hlt⟩, hA'⟩ := hq
        obtain ⟨e₂, a₂, w₂, hq₂, harr₂⟩ := ih (μ y') (by omega) y' a₁ w₁ rfl (hA'.fits hk hf)
        exact ⟨e₂, a₂, w₂, hq₂, .of_steps (Steps.trans harr (.one step_inLoop)) harr₂⟩
      | exit id => exact ⟨_, a₁, w₁, hq, .pass (x := .inLoop x) rfl (fun _ _ => .inl (by simp)) harr⟩
      | goto l => exact ⟨_, a₁, w₁, hq, .pass (x := .inLoop x) rfl (fun _ _ => .inl (by simp)) harr⟩
      | ret => exact ⟨_, a₁, w₁, hq, .pass (x := .inLoop x) rfl (fun _ _ => .inl (by simp)) harr⟩
      | panic ch => exact ⟨_, a₁, w₁, hq, .pass (x := .inLoop x) rfl (fun _ _ => .inl (by simp)) harr⟩
      | outgrown => exact ⟨_, a₁, w₁, hq, .pass (x := .inLoop x) rfl (fun _ _ => .inl (by simp)) harr⟩
  obtain ⟨e, a', w', hq, harr⟩ := key _ x0 a w rfl (hA.fits hk h0)
  exact ⟨e, a', w', hq, .of_steps (.one step_loop) harr⟩
end
end Go.Hl
