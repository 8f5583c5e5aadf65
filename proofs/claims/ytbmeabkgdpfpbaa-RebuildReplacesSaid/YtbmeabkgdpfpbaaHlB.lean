/- HL, part B: objects, states, and how a state lies in a world; the steps that worlds take. By an AI agent. -/
import Derived.Test.YtbmeabkgdpfpbaaHlA
set_option linter.unusedSimpArgs false
set_option linter.unusedVariables false
namespace Go.Hl
open Go

/-- A map's element: lent (its row is no longer the map's), a row of the map's own; a row that is not stored yet; a closed value. -/
inductive MV where
  | lent
  | row (l : List CV)
  | pend (l : List CV)
  | val (v : CV)
  deriving Inhabited

abbrev MD := List (List UInt8 × MV)
def mget (D : MD) (k : List UInt8) : Option MV := match D with
  | [] => none
  | (k', m) :: D => if k' = k then some m else mget D k
def mput (D : MD) (k : List UInt8) (m : MV) : MD := match D with
  | [] => [(k, m)]
  | (k', m') :: D => if k' = k then (k, m) :: D else (k', m') :: mput D k m

theorem mget_put_same (D : MD) (k : List UInt8) (m : MV) : mget (mput D k m) k = some m := by
  induction D with
  | nil => simp [mput, mget]
  | cons p D ih =>
    obtain ⟨k', m'⟩ := p
    unfold mput
    split
    · simp [mget]
    · rename_i h; simp [mget, h, ih]
theorem mget_put_other (D : MD) {k k2 : List UInt8} (m : MV) (h : k2 ≠ k) : mget (mput D k m) k2 = mget D k2 := by
  induction D with
  | nil => simp [mput, mget, Ne.symm h]
  | cons p D ih =>
    obtain ⟨k', m'⟩ := p
    unfold mput
    split
    · rename_i e; subst e; simp [mget, Ne.symm h]
    · simp only [mget, ih]
theorem mput_put (D : MD) (k : List UInt8) (m m' : MV) : mput (mput D k m) k m' = mput D k m' := by
  induction D with
  | nil => simp [mput]
  | cons p D ih =>
    obtain ⟨k', m''⟩ := p
    by_cases e : k' = k
    · simp [mput, e]
    · simp [mput, e, ih]
theorem mput_length (D : MD) (k : List UInt8) (m : MV) : (mput D k m).length = if mget D k = none then D.length + 1 else D.length := by
  induction D with
  | nil => simp [mput, mget]
  | cons p D ih =>
    obtain ⟨k', m''⟩ := p
    by_cases e : k' = k
    · simp [mput, mget, e]
    · simp only [mput, mget, e, if_false, List.length_cons, ih]; split <;> rfl

inductive HO where
  | box (t : TypeId) (v : HV)
  | row (e : TypeId) (sz : Nat) (l : List CV)
  | mp (e : TypeId) (sz : Nat) (D : MD)
  deriving Inhabited

abbrev Fr := Nat → HV
abbrev Ob := Nat → Option HO

def upd {α : Type} (f : Nat → α) (d : Nat) (v : α) : Nat → α := fun t => if t = d then v else f t
@[simp] theorem upd_same {α : Type} (f : Nat → α) (d : Nat) (v : α) : upd f d v d = v := by simp [upd]
theorem upd_ne {α : Type} (f : Nat → α) {d t : Nat} (v : α) (h : t ≠ d) : upd f d v t = f t := by simp [upd, h]
def updo (f : Fr) (d : Option Nat) (v : HV) : Fr := match d with | some d => upd f d v | none => f

def skey (k : List UInt8) : Value := .string ⟨k.toArray⟩
theorem skey_inj {k k' : List UInt8} (h : skey k = skey k') : k = k' := by
  simp only [skey, Value.string.injEq, ByteArray.mk.injEq] at h
  exact Array.toList_inj.2 h |> fun e => by simpa using e

def rowOf : Option MV → List CV
  | some (.row l) => l
  | some (.pend l) => l
  | _ => []
def MV.there : MV → Bool
  | .pend _ => false
  | _ => true

def RepMV (w : World) (O : Nat → Prop) (o : Option Value) : MV → Value → Prop
  | .row _, v => o = some v
  | .val c, v => ∃ cs, RepC w O c cs ∧ v = mkVal c.isAgg cs
  | _, _ => True

structure RepM (w : World) (O : Nat → Prop) (e : TypeId) (sz : Nat) (D : MD) (b : Nat) (hf : List UInt8 → Option Value) : Prop where
  blk : ∃ es clock, w.heap[b]? = some (.map es clock) ∧ Go.MapKept.Stamped es clock ∧
    (∀ x ∈ es.toList, ∃ k m, mget D k = some m ∧ x.key = skey k ∧ k.length ≤ maxLen ∧ RepMV w O (hf k) m x.val) ∧ ∀ k m, mget D k = some m → m.there = true → ∃ x ∈ es.toList, x.key = skey k
  row : ∀ k h, hf k = some h → h.ownBlock ≠ some b ∧ ∃ xs, RepL w O (rowOf (mget D k)) xs ∧ (∀ c ∈ rowOf (mget D k), c.cells = sz) ∧ w.ownsRow 0 e sz h (rowOf (mget D k)).length xs
  lent : ∀ k, hf k = none ↔ mget D k = some .lent
  nil : ∀ k h, hf k = some h → mget D k = none → h = .slice none 0 0
  apart : ∀ k k' h h' g, hf k = some h → hf k' = some h' → h.ownBlock = some g → h'.ownBlock = some g → k = k'

def RepO (w : World) (ρ : Env) (O : Nat → Prop) (id : Nat) : HO → Prop
  | .box t v => ∃ b cs, ρ id = some (.blk b) ∧ w.heap[b]? = some (.cells cs.toArray t (0, 0)) ∧ RepH w ρ O v cs
  | .row e sz l => ∃ h xs, ρ id = some (.hdr h) ∧ RepL w O l xs ∧ (∀ v ∈ l, v.cells = sz) ∧ w.ownsRow 0 e sz h l.length xs
  | .mp e sz D => ∃ b hf, ρ id = some (.mp b hf) ∧ RepM w O e sz D b hf

def HO.men (M : Nat → Prop) : HO → Prop
  | .box _ v => v.men M
  | .row .. => True
  | .mp .. => True

structure RepS (w : World) (ρ : Env) (X : Nat → Prop) (ob : Ob) : Prop where
  objs : ∀ id o, ob id = some o → RepO w ρ (Owned ρ X) id o
  none : ∀ id, ob id = none → ρ id = none
  apart : ∀ id id' L L' b, ρ id = some L → ρ id' = some L' → L.has b → L'.has b → id = id'
  xb : ∀ id L b, ρ id = some L → L.has b → ¬ X b

/-- What a state's places own. -/
structure Stay2 (w : World) (O : Nat → Prop) (w' : World) (O' : Nat → Prop) : Prop where
  block : ∀ b, b < w.heap.size → ¬ O b → w'.heap[b]? = w.heap[b]?
  own : ∀ b, O' b → O b ∨ w.heap.size ≤ b
  size : w.heap.size ≤ w'.heap.size
  os : w'.os = w.os
  tape : w'.tape = w.tape
  output : w'.output = w.output

theorem Stay2.stay {w w' : World} {ρ ρ' : Env} (h : Stay2 w (Own ρ) w' (Own ρ')) (X : Nat → Prop) : Stay w (Owned ρ X) w' (Owned ρ' X) :=
  ⟨fun b hb hO => ⟨h.block b hb (fun h1 => hO (.inr h1)), fun h' => h'.elim (fun h1 => hO (.inl h1)) (fun h1 => (h.own b h1).elim (fun h2 => hO (.inr h2)) (fun h2 => absurd hb (Nat.not_lt.2 h2)))⟩⟩
theorem Stay2.refl (w : World) (O : Nat → Prop) : Stay2 w O w O := ⟨fun _ _ _ => rfl, fun _ h => .inl h, Nat.le_refl _, rfl, rfl, rfl⟩
theorem Stay2.trans {a b c : World} {A B C : Nat → Prop} (h : Stay2 a A b B) (h' : Stay2 b B c C) : Stay2 a A c C :=
  ⟨fun k hk hA => by
      have h1 := h.block k hk hA
      have h2 : ¬ B k := fun hB => (h.own k hB).elim hA (fun x => absurd hk (Nat.not_lt.2 x))
      rw [h'.block k (Nat.lt_of_lt_of_le hk h.size) h2, h1],
    fun k hk => (h'.own k hk).elim (fun x => h.own k x) (fun x => .inr (Nat.le_trans h.size x)),
    Nat.le_trans h.size h'.size, h'.os.trans h.os, h'.tape.trans h.tape, h'.output.trans h.output⟩

/-- What does not change while a function runs: the world and the places at its beginning, the blocks that are others', the ids that were. -/
structure Ctx where
  w0 : World
  ρ0 : Env
  X : Nat → Prop
  M0 : Nat → Prop
  n : Nat

structure RepA' (c : Ctx) (M : Nat → Prop) (fr : Fr) (ob : Ob) (a : Act) (w : World) (ρ : Env) : Prop where
  s : RepS w ρ c.X ob
  f : ∀ t, fr t ≠ .junk → RepV w ρ (Owned ρ c.X) (fr t) (a.tmps.getD t undef)
  mf : ∀ t, (fr t).men M
  mo : ∀ id o, ob id = some o → M id ∧ o.men M
  m0 : ∀ id, c.M0 id → M id
  base : Stay2 c.w0 (Own c.ρ0) w (Own ρ)
  moves : Moves c.M0 c.ρ0 ρ
  defers : a.defers = []
  size : a.tmps.size = c.n
  xlt : ∀ b, c.X b → b < c.w0.heap.size

def RepA (c : Ctx) (M : Nat → Prop) (fr : Fr) (ob : Ob) (a : Act) (w : World) : Prop := ∃ ρ, RepA' c M fr ob a w ρ

theorem put_size (a : Act) (d : Option Tmp) (v : Value) : (a.put d v).tmps.size = a.tmps.size := by cases d <;> simp [Act.put]
theorem put_defers (a : Act) (d : Option Tmp) (v : Value) : (a.put d v).defers = a.defers := by cases d <;> simp [Act.put]

/-- THE STEP OF A STATE. -/
theorem RepA'.step {c : Ctx} {M M' : Nat → Prop} {fr : Fr} {ob ob' : Ob} {a : Act} {w w' : World} {ρ ρ' : Env} {d : Option Nat} {v : HV} {x : Value}
    (h : RepA' c M fr ob a w ρ) (hM : ∀ i, M i → M' i) (hs : Stay2 w (Own ρ) w' (Own ρ')) (hm : Moves M ρ ρ') (hS : RepS w' ρ' c.X ob')
    (hv : v = .junk ∨ RepV w' ρ' (Owned ρ' c.X) v x) (hvm : v.men M') (ho : ∀ id o, ob' id = some o → M' id ∧ o.men M') (hd : ∀ k, d = some k → k < c.n) :
    RepA' c M' (updo fr d v) ob' (a.put d x) w' ρ' := by
  have keep : ∀ t, fr t ≠ .junk → RepV w' ρ' (Owned ρ' c.X) (fr t) (a.tmps.getD t undef) := fun t ht =>
    ⟨RepH.stay (hs.stay c.X) hm (h.mf t) (h.f t ht).1, (h.f t ht).2⟩
  refine ⟨hS, ?_, ?_, ho, fun id hid => hM _ (h.m0 id hid), h.base.trans hs, Moves.trans h.m0 h.moves hm, by rw [put_defers]; exact h.defers, by rw [put_size]; exact h.size, h.xlt⟩
  · intro t ht
    cases d with
    | none => exact keep t ht
    | some k =>
      simp only [updo] at ht ⊢
      by_cases e : t = k
      · subst e
        rw [upd_same] at ht ⊢
        have hk : t < a.tmps.size := by rw [h.size]; exact hd t rfl
        have : (a.put (some t) x).tmps.getD t undef = x := by simp [Act.put, Array.getD, hk]
        rw [this]
        exact hv.resolve_left ht
      · rw [upd_ne _ _ e] at ht ⊢
        have : (a.put (some k) x).tmps.getD t undef = a.tmps.getD t undef := by
          simp only [Act.put, Array.getD_eq_getD_getElem?]
          rw [Array.getElem?_setIfInBounds_ne (by omega)]
        rw [this]
        exact keep t ht
  · intro t
    cases d with
    | none => exact HV.men_mono hM (h.mf t)
    | some k =>
      simp only [updo]
      by_cases e : t = k
      · subst e; rw [upd_same]; exact hvm
      · rw [upd_ne _ _ e]; exact HV.men_mono hM (h.mf t)

/-- The world stands (but for draws): a value is computed. -/
theorem RepA'.value {c : Ctx} {M : Nat → Prop} {fr : Fr} {ob : Ob} {a : Act} {w : World} {ρ : Env} {d : Option Nat} {v : HV} {x : Value}
    (h : RepA' c M fr ob a w ρ) (hv : v = .junk ∨ RepV w ρ (Owned ρ c.X) v x) (hvm : v.men M) (hd : ∀ k, d = some k → k < c.n) :
    RepA' c M (updo fr d v) ob (a.put d x) w ρ :=
  h.step (fun _ h => h) (Stay2.refl _ _) (Moves.refl _ _) h.s hv hvm h.mo hd

theorem ownsRow_stay {w w' : World} {n0 : Nat} {e : TypeId} {sz n : Nat} {v : Value} {xs : List Value} (h4 : w.ownsRow n0 e sz v n xs) (hb : ∀ g, v.ownBlock = some g → w'.heap[g]? = w.heap[g]?) : w'.ownsRow n0 e sz v n xs := by
  refine ⟨h4.1, ?_⟩
  rcases h4.2 with h5 | ⟨g, cap, cur, rfl, h6, h7, h8⟩
  · exact .inl h5
  · exact .inr ⟨g, cap, cur, rfl, h6, by rw [hb g (by simp [Value.ownBlock])]; exact h7, h8⟩
theorem RepMV.stay {w w' : World} {O O' : Nat → Prop} (hs : Stay w O w' O') {o : Option Value} {m : MV} {v : Value} (h : RepMV w O o m v) : RepMV w' O' o m v := by
  cases m with
  | row l => exact h
  | val c =>
    obtain ⟨cs, h2, h3⟩ := h
    exact ⟨cs, h2.stay hs, h3⟩
  | _ => trivial
theorem RepM.stay {w w' : World} {O O' : Nat → Prop} (hs : Stay w O w' O') {e : TypeId} {sz : Nat} {D : MD} {b : Nat} {hf : List UInt8 → Option Value} (h : RepM w O e sz D b hf) (h0 : w'.heap[b]? = w.heap[b]?)
    (hb : ∀ k h g, hf k = some h → h.ownBlock = some g → w'.heap[g]? = w.heap[g]?) : RepM w' O' e sz D b hf := by
  refine ⟨?_, fun k v hk => ?_, h.lent, h.nil, h.apart⟩
  · obtain ⟨es, clock, h1, h2, h4, h5⟩ := h.blk
    refine ⟨es, clock, by rw [h0]; exact h1, h2, fun x hx => ?_, h5⟩
    obtain ⟨k, m, e1, e2, e3, e4⟩ := h4 x hx
    exact ⟨k, m, e1, e2, e3, e4.stay hs⟩
  · obtain ⟨h1, xs, h2, h3, h4⟩ := h.row k v hk
    exact ⟨h1, xs, h2.stay hs, h3, ownsRow_stay h4 (fun g hg => hb k v g hk hg)⟩
theorem RepM.lt {w : World} {O : Nat → Prop} {e : TypeId} {sz : Nat} {D : MD} {b : Nat} {hf : List UInt8 → Option Value} (h : RepM w O e sz D b hf) : ∀ g, (Loc.mp b hf).has g → g < w.heap.size := by
  obtain ⟨es, clock, h1, h2, h4, h5⟩ := h.blk
  rintro g (rfl | ⟨k, v, e1, e2⟩)
  · exact (Array.getElem?_eq_some_iff.1 h1).1
  · obtain ⟨_, xs, _, _, f8⟩ := h.row k v e1
    exact (f8.lt g e2).2
theorem RepO.stay {w w' : World} {ρ ρ' : Env} {O O' : Nat → Prop} {M : Nat → Prop} {id : Nat} {o : HO} (hs : Stay w O w' O') (hm : Moves M ρ ρ') (hmen : o.men M)
    (hρ : ρ' id = ρ id) (hb : ∀ L b, ρ id = some L → L.has b → w'.heap[b]? = w.heap[b]?) (h : RepO w ρ O id o) : RepO w' ρ' O' id o := by
  cases o with
  | box t v =>
    obtain ⟨b, cs, h1, h2, h3⟩ := h
    exact ⟨b, cs, by rw [hρ]; exact h1, by rw [hb _ b h1 rfl]; exact h2, RepH.stay hs hm hmen h3⟩
  | row e sz l =>
    obtain ⟨x, xs, h1, h2, h3, h4⟩ := h
    refine ⟨x, xs, by rw [hρ]; exact h1, h2.stay hs, h3, h4.1, ?_⟩
    rcases h4.2 with h5 | ⟨g, cap, cur, rfl, h6, h7, h8⟩
    · exact .inl h5
    · exact .inr ⟨g, cap, cur, rfl, h6, by rw [hb _ g h1 (by simp [Loc.has, Value.ownBlock])]; exact h7, h8⟩
  | mp e sz D =>
    obtain ⟨b, hf, h1, h2⟩ := h
    exact ⟨b, hf, by rw [hρ]; exact h1, h2.stay hs (hb _ b h1 (.inl rfl)) (fun k h g e1 e2 => hb _ g h1 (.inr ⟨k, h, e1, e2⟩))⟩

/-- Draws change nothing that is said here. -/
theorem Stay2.drewn (w : World) (O : Nat → Prop) (k : Nat) : Stay2 w O { w with drawn := k } O := ⟨fun _ _ _ => rfl, fun _ h => .inl h, Nat.le_refl _, rfl, rfl, rfl⟩

theorem cell_drawn (w : World) (k : Nat) : ({ w with drawn := k } : World).heap = w.heap := rfl

/-- A new block. -/
theorem Owned.lt {w : World} {ρ : Env} {X : Nat → Prop} {ob : Ob} (h : RepS w ρ X ob) {id : Nat} {L : Loc} {b : Nat} (h1 : ρ id = some L) (h2 : L.has b) : b < w.heap.size := by
  cases ho : ob id with
  | none => rw [h.none id ho] at h1; cases h1
  | some o =>
    have := h.objs id o ho
    cases o with
    | box t v =>
      obtain ⟨b', cs, e1, e2, _⟩ := this
      rw [e1] at h1; cases h1; cases h2
      exact (Array.getElem?_eq_some_iff.1 e2).1
    | mp e sz D =>
      obtain ⟨b', hf, e1, e2⟩ := this
      rw [e1] at h1; cases h1
      exact e2.lt b h2
    | row e sz l =>
      obtain ⟨x, xs, e1, _, _, e4⟩ := this
      rw [e1] at h1; cases h1
      exact (e4.lt b h2).2

theorem RepA'.nid_none {c : Ctx} {M : Nat → Prop} {fr : Fr} {ob : Ob} {a : Act} {w : World} {ρ : Env} (h : RepA' c M fr ob a w ρ) {nid : Nat} (hn : ¬ M nid) : ob nid = none ∧ ρ nid = none := by
  have : ob nid = none := by
    cases ho : ob nid with
    | none => rfl
    | some o => exact absurd (h.mo nid o ho).1 hn
  exact ⟨this, h.s.none nid this⟩

theorem Moves.upd_new {M : Nat → Prop} {ρ : Env} {nid : Nat} {L : Loc} (hn : ¬ M nid) : Moves M ρ (upd ρ nid (some L)) := by
  intro id L' hm h
  rw [upd_ne _ _ (fun e => hn (by rw [← e]; exact hm))] at h
  exact ⟨L', h, .inl rfl⟩

/-- A NEW BLOCK, kept as an object under the id 'nid'. 'w1' is the world with some draws. -/
theorem RepA'.newObj {c : Ctx} {M M' : Nat → Prop} {fr : Fr} {ob : Ob} {a : Act} {w w1 : World} {ρ : Env} {d : Option Nat} {v : HV} {x : Value} {nid : Nat} {L : Loc} {o : HO} {obj : Obj}
    (h : RepA' c M fr ob a w ρ) (hn : ¬ M nid) (hM : ∀ i, M i → M' i) (hM' : M' nid) (e1 : w1.heap = w.heap) (e2 : w1.os = w.os) (e3 : w1.tape = w.tape) (e4 : w1.output = w.output)
    (hL : ∀ b, L.has b → b = w.heap.size)
    (hO : Stay w (Owned ρ c.X) (w1.alloc obj) (Owned (upd ρ nid (some L)) c.X) → RepO (w1.alloc obj) (upd ρ nid (some L)) (Owned (upd ρ nid (some L)) c.X) nid o)
    (ho : o.men M')
    (hv : v = .junk ∨ RepV (w1.alloc obj) (upd ρ nid (some L)) (Owned (upd ρ nid (some L)) c.X) v x) (hvm : v.men M') (hd : ∀ k, d = some k → k < c.n) :
    RepA' c M' (updo fr d v) (upd ob nid (some o)) (a.put d x) (w1.alloc obj) (upd ρ nid (some L)) := by
  obtain ⟨hob, hρ⟩ := h.nid_none hn
  have hsz : w1.heap.size = w.heap.size := by rw [e1]
  have hown : ∀ b, Own (upd ρ nid (some L)) b → Own ρ b ∨ w.heap.size ≤ b := by
    rintro b ⟨id, L', h1, h2⟩
    by_cases e : id = nid
    · subst e
      rw [upd_same] at h1
      cases h1
      cases hL _ h2
      exact .inr (Nat.le_refl _)
    · rw [upd_ne _ _ e] at h1; exact .inl ⟨id, L', h1, h2⟩
  have hheap : ∀ b, b < w.heap.size → (w1.alloc obj).heap[b]? = w.heap[b]? := fun b hb => by
    rw [RowKit.Below.heap_alloc _ _ _ (by omega), e1]
  have hs : Stay2 w (Own ρ) (w1.alloc obj) (Own (upd ρ nid (some L))) :=
    ⟨fun b hb _ => hheap b hb, hown, by rw [World.size_alloc]; omega, e2, e3, e4⟩
  have hmv : Moves M ρ (upd ρ nid (some L)) := Moves.upd_new hn
  refine h.step hM hs hmv ⟨fun id o' ho' => ?_, fun id hid => ?_, ?_, ?_⟩ hv hvm (fun id o' ho' => ?_) hd
  · by_cases e : id = nid
    · subst e
      rw [upd_same] at ho'
      cases ho'
      exact hO (hs.stay c.X)
    · rw [upd_ne _ _ e] at ho'
      exact RepO.stay (hs.stay c.X) hmv (h.mo id o' ho').2 (upd_ne _ _ e) (fun L b h1 h2 => hheap b (Owned.lt h.s h1 h2)) (h.s.objs id o' ho')
  · by_cases e : id = nid
    · subst e; rw [upd_same] at hid; cases hid
    · rw [upd_ne _ _ e] at hid ⊢; exact h.s.none id hid
  · intro id id' L1 L2 b h1 h2 h3 h4
    by_cases e : id = nid <;> by_cases e' : id' = nid
    · rw [e, e']
    · subst e
      rw [upd_same] at h1
      rw [upd_ne _ _ e'] at h2
      cases h1
      have hlt := Owned.lt h.s h2 h4
      have := hL _ h3
      omega
    · subst e'
      rw [upd_same] at h2
      rw [upd_ne _ _ e] at h1
      cases h2
      have hlt := Owned.lt h.s h1 h3
      have := hL _ h4
      omega
    · rw [upd_ne _ _ e] at h1; rw [upd_ne _ _ e'] at h2
      exact h.s.apart id id' L1 L2 b h1 h2 h3 h4
  · intro id L' b h1 h2
    by_cases e : id = nid
    · subst e
      rw [upd_same] at h1
      cases h1
      cases hL _ h2
      exact fun hx => absurd (Nat.lt_of_lt_of_le (h.xlt _ hx) h.base.size) (Nat.lt_irrefl _)
    · rw [upd_ne _ _ e] at h1
      exact h.s.xb id L' b h1 h2
  · by_cases e : id = nid
    · subst e; rw [upd_same] at ho'; cases ho'; exact ⟨hM', ho⟩
    · rw [upd_ne _ _ e] at ho'
      obtain ⟨h1, h2⟩ := h.mo id o' ho'
      refine ⟨hM _ h1, ?_⟩
      cases o' with
      | box t v => exact HV.men_mono hM h2
      | row _ _ _ => trivial
      | mp _ _ _ => trivial

/-- AN OBJECT's CONTENT CHANGES: its block alone is written. -/
theorem RepA'.setObj {c : Ctx} {M : Nat → Prop} {fr : Fr} {ob : Ob} {a : Act} {w w' : World} {ρ : Env} {d : Option Nat} {v : HV} {x : Value} {id0 : Nat} {L : Loc} {o : HO} {b0 : Nat}
    (h : RepA' c M fr ob a w ρ) (hid : ρ id0 = some L) (hLb : L.has b0) (hm0 : M id0)
    (hb : ∀ b, b ≠ b0 → w'.heap[b]? = w.heap[b]?) (e0 : w'.heap.size = w.heap.size) (e2 : w'.os = w.os) (e3 : w'.tape = w.tape) (e4 : w'.output = w.output)
    (hO : Stay w (Owned ρ c.X) w' (Owned ρ c.X) → RepO w' ρ (Owned ρ c.X) id0 o) (ho : o.men M)
    (hv : Stay w (Owned ρ c.X) w' (Owned ρ c.X) → (v = .junk ∨ RepV w' ρ (Owned ρ c.X) v x)) (hvm : v.men M) (hd : ∀ k, d = some k → k < c.n) :
    RepA' c M (updo fr d v) (upd ob id0 (some o)) (a.put d x) w' ρ := by
  have hs : Stay2 w (Own ρ) w' (Own ρ) :=
    ⟨fun b _ hO => hb b (fun e => hO (e ▸ ⟨id0, L, hid, hLb⟩)), fun _ h => .inl h, by omega, e2, e3, e4⟩
  refine h.step (fun _ h => h) hs (Moves.refl _ _) ⟨fun id o' ho' => ?_, fun id hid' => ?_, h.s.apart, h.s.xb⟩ (hv (hs.stay c.X)) hvm (fun id o' ho' => ?_) hd
  · by_cases e : id = id0
    · subst e; rw [upd_same] at ho'; cases ho'; exact hO (hs.stay c.X)
    · rw [upd_ne _ _ e] at ho'
      exact RepO.stay (hs.stay c.X) (Moves.refl M ρ) (h.mo id o' ho').2 rfl (fun L' b h1 h2 => hb b (fun e' => e (h.s.apart id id0 L' L b h1 hid h2 (e' ▸ hLb)))) (h.s.objs id o' ho')
  · by_cases e : id = id0
    · subst e; rw [upd_same] at hid'; cases hid'
    · rw [upd_ne _ _ e] at hid'; exact h.s.none id hid'
  · by_cases e : id = id0
    · subst e; rw [upd_same] at ho'; cases ho'; exact ⟨hm0, ho⟩
    · rw [upd_ne _ _ e] at ho'; exact h.mo id o' ho'
end Go.Hl
