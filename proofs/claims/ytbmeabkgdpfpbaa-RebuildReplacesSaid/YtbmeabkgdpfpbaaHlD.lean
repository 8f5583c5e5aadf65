/- HL, part D: the operations. By an AI agent. -/
import Derived.Test.YtbmeabkgdpfpbaaHlC
set_option linter.unusedSimpArgs false
set_option linter.unusedVariables false
namespace Go.Hl
open Go

/-! ## Operands -/
def cvC1 : Value → Option CV
  | .bool b => some (.bool b)
  | .int k n => some (.int k n)
  | .string s => some (.str s.data.toList)
  | .pointer none => some .nilp
  | .slice none 0 0 => some .nils
  | .map none => some .nilm
  | .nilFunc => some .nilf
  | .nilIface => some .nili
  | _ => none
def cvC : Value → Option CV
  | .agg cs => (cs.toList.mapM cvC1).map .agg
  | v => cvC1 v
def ev (fr : Fr) : Operand → HV
  | .tmp t => fr t
  | .const v => match cvC v with | some c => .c c | none => .junk
  | .global _ => .junk
  | .func f => .c (.fn f)

theorem cvC1_rep {w : World} {O : Nat → Prop} {v : Value} {c : CV} (h : cvC1 v = some c) : RepC w O c [v] ∧ c.isAgg = false ∧ Value.isAgg' v = false := by
  unfold cvC1 at h
  split at h <;> first | (cases h; done) | (simp only [Option.some.injEq] at h; subst h; simp [RepC, CV.isAgg, Value.isAgg'])
theorem cvC1_list {w : World} {O : Nat → Prop} : ∀ {l : List Value} {cs : List CV}, l.mapM cvC1 = some cs → RepL w O cs l
  | [], cs, h => by simp at h; subst h; simp [RepL]
  | v :: vs, cs, h => by
    simp only [List.mapM_cons, Option.bind_eq_bind, Option.bind_eq_some_iff, Option.pure_def, Option.some.injEq] at h
    obtain ⟨c, h1, cs', h2, rfl⟩ := h
    simp only [RepL]
    exact ⟨[v], vs, rfl, (cvC1_rep h1).1, cvC1_list h2⟩
theorem cvC_rep {w : World} {O : Nat → Prop} {v : Value} {c : CV} (h : cvC v = some c) : RepC w O c v.cells.toList ∧ c.isAgg = Value.isAgg' v := by
  unfold cvC at h
  split at h
  · rename_i cs
    rw [Option.map_eq_some_iff] at h
    obtain ⟨l, h1, rfl⟩ := h
    exact ⟨by simp only [RepC, Value.cells]; exact cvC1_list h1, rfl⟩
  · obtain ⟨h1, h2, h3⟩ := cvC1_rep (w := w) (O := O) h
    exact ⟨by rw [cells_single h3]; exact h1, by rw [h2, h3]⟩

theorem RepA'.ev {c : Ctx} {M : Nat → Prop} {fr : Fr} {ob : Ob} {a : Act} {w : World} {ρ : Env} (h : RepA' c M fr ob a w ρ) (x : Operand) (hj : ev fr x ≠ .junk) :
    RepV w ρ (Owned ρ c.X) (ev fr x) (a.eval x) := by
  cases x with
  | tmp t => exact h.f t hj
  | const v =>
    simp only [Hl.ev] at hj ⊢
    cases hc : cvC v with
    | none => rw [hc] at hj; exact absurd rfl hj
    | some cv =>
      obtain ⟨h1, h2⟩ := cvC_rep (w := w) (O := Owned ρ c.X) hc
      exact ⟨by simp only [RepH]; exact h1, h2⟩
  | global g => exact absurd rfl hj
  | func f => exact ⟨by simp [Hl.ev, RepH, RepC, Act.eval, Value.cells], rfl⟩
theorem RepA'.evm {c : Ctx} {M : Nat → Prop} {fr : Fr} {ob : Ob} {a : Act} {w : World} {ρ : Env} (h : RepA' c M fr ob a w ρ) (x : Operand) : (Hl.ev fr x).men M := by
  cases x with
  | tmp t => exact h.mf t
  | const v => simp only [Hl.ev]; cases cvC v <;> simp [HV.men]
  | global g => simp [Hl.ev, HV.men]
  | func f => simp [Hl.ev, HV.men]

/-- A closed single value is this very value. -/
theorem RepV.single {w : World} {ρ : Env} {O : Nat → Prop} {v : CV} {x : Value} (h : RepV w ρ O (.c v) x) (hv : v.isAgg = false) : RepC w O v [x] := by
  obtain ⟨h1, h2⟩ := h
  simp only [RepH] at h1
  rw [HV.isAgg, hv] at h2
  rwa [cells_single h2.symm] at h1
theorem repV_single {w : World} {ρ : Env} {O : Nat → Prop} {v : CV} {x : Value} (h : RepC w O v [x]) (hv : v.isAgg = false) (hx : Value.isAgg' x = false) : RepV w ρ O (.c v) x :=
  ⟨by simp only [RepH]; rw [cells_single hx]; exact h, by rw [HV.isAgg, hv, hx]⟩
theorem repV_ref {w : World} {ρ : Env} {O : Nat → Prop} {v : HV} {x : Value} (h : RepV w ρ O v x) (hv : v.isAgg = false) : RepH w ρ O v [x] ∧ Value.isAgg' x = false := by
  obtain ⟨h1, h2⟩ := h
  rw [hv] at h2
  rw [cells_single h2.symm] at h1
  exact ⟨h1, h2.symm⟩
theorem repV_mk {w : World} {ρ : Env} {O : Nat → Prop} {v : HV} {x : Value} (h : RepH w ρ O v [x]) (hv : v.isAgg = false) (hx : Value.isAgg' x = false) : RepV w ρ O v x :=
  ⟨by rw [cells_single hx]; exact h, by rw [hv, hx]⟩
theorem oneCell_isAgg {x : Value} (h : x.oneCell' = true) : Value.isAgg' x = false := by cases x <;> simp_all [Value.oneCell', Value.isAgg']

theorem RepV.bool {w : World} {ρ : Env} {O : Nat → Prop} {b : Bool} {x : Value} (h : RepV w ρ O (.c (.bool b)) x) : x = .bool b := by
  have := h.single rfl; simpa [RepC] using this
theorem RepV.int {w : World} {ρ : Env} {O : Nat → Prop} {k : IntKind} {n : Int} {x : Value} (h : RepV w ρ O (.c (.int k n)) x) : x = .int k n := by
  have := h.single rfl; simpa [RepC] using this
theorem RepV.str {w : World} {ρ : Env} {O : Nat → Prop} {s : List UInt8} {x : Value} (h : RepV w ρ O (.c (.str s)) x) : x = .string ⟨s.toArray⟩ := by
  have := h.single rfl; simpa [RepC] using this
theorem repV_bool (w : World) (ρ : Env) (O : Nat → Prop) (b : Bool) : RepV w ρ O (.c (.bool b)) (.bool b) := repV_single (by simp [RepC]) rfl rfl
theorem repV_int (w : World) (ρ : Env) (O : Nat → Prop) (k : IntKind) (n : Int) : RepV w ρ O (.c (.int k n)) (.int k n) := repV_single (by simp [RepC]) rfl rfl
theorem repV_str (w : World) (ρ : Env) (O : Nat → Prop) (s : List UInt8) : RepV w ρ O (.c (.str s)) (.string ⟨s.toArray⟩) := repV_single (by simp [RepC]) rfl rfl

/-! ## What an operation asks and gives -/
def hlift {α : Type} (o : Option α) (f : α → Prop) : Prop := match o with | some a => f a | none => False
@[simp] theorem hlift_some {α : Type} (a : α) (f : α → Prop) : hlift (some a) f = f a := rfl
@[simp] theorem hlift_none {α : Type} (f : α → Prop) : hlift none f = False := rfl
/-- The simplifier looks at what is lifted before it looks at what is done with it. -/
@[congr] theorem hlift_congr {α : Type} {o o' : Option α} (h : o = o') (f : α → Prop) : hlift o f = hlift o' f := by rw [h]
theorem hlift_iff {α : Type} {o : Option α} {f : α → Prop} : hlift o f ↔ ∃ a, o = some a ∧ f a := by cases o <;> simp [hlift]

def nth (l : List CV) (i : Nat) : CV := l.getD i .nilp

def hpick (c a b : HV) (K : HV → Prop) : Prop := match c with | .c (.bool t) => K (if t then a else b) | _ => False

def hload (ti : TyI) (a : HV) (ob : Ob) (K : HV → Prop) : Prop :=
  match a with
  | .c (.rp v) => hlift (v.getAt 0 ti.size ti.d.isAgg) fun u => K (.c u)
  | .ptr id off => match ob id with
    | some (.box _ v) => v.sto = true ∧ hlift (v.getAt off ti.size ti.d.isAgg) K
    | _ => False
  | .eptr id n i sz off => match ob id with
    | some (.row _ sz' l) => (n = l.length ∧ sz = sz' ∧ i < l.length) ∧ hlift ((nth l i).getAt off ti.size ti.d.isAgg) fun u => K (.c u)
    | _ => False
  | _ => False

def hfield (P : Program) (t : TypeId) (f : Nat) (K : Nat → TyI → Prop) : Prop :=
  hlift (tyOf P t) fun ti => match ti.d with
    | .struct fs => hlift fs[f]? fun p => hlift (tyOf P p.2) fun tf => K p.1 tf
    | _ => False

def HO.isBox : Option HO → Bool
  | some (.box _ _) => true
  | _ => false
def HO.isRow (n : Nat) : Option HO → Prop
  | some (.row _ _ l) => n = l.length ∧ l ≠ []
  | _ => False
def hfieldAddr (P : Program) (t : TypeId) (a : HV) (f : Nat) (ob : Ob) (K : HV → Prop) : Prop :=
  hfield P t f fun off tf => match a with
    | .c (.rp v) => hlift (v.getAt off tf.size tf.d.isAgg) fun u => K (.c (.rp u))
    | .ptr id o => HO.isBox (ob id) = true ∧ K (.ptr id (o + off))
    | .eptr id n i sz o => HO.isRow n (ob id) ∧ K (.eptr id n i sz (o + off))
    | _ => False

def hindexAddr (P : Program) (t : TypeId) (x i : HV) (ob : Ob) (K : HV → Prop) : Prop :=
  hlift (tyOf P t) fun ti => match ti.d, i with
    | .slice e, .c (.int _ i) => hlift (tyOf P e) fun te => match x with
      | .c (.slc l) => (0 ≤ i ∧ i < (l.length : Int)) ∧ (nth l i.toNat).cells = te.size ∧ K (.c (.rp (nth l i.toNat)))
      | .own id n => match ob id with
        | some (.row _ sz l) => (n = l.length ∧ sz = te.size) ∧ (0 ≤ i ∧ i < (n : Int)) ∧ K (.eptr id n i.toNat sz 0)
        | _ => False
      | _ => False
    | .array m e, .c (.int _ i) => hlift (tyOf P e) fun te => (0 ≤ i ∧ i < (m : Int)) ∧ match x with
      | .ptr id o => HO.isBox (ob id) = true ∧ K (.ptr id (o + i.toNat * te.size))
      | .eptr id n j sz o => HO.isRow n (ob id) ∧ K (.eptr id n j sz (o + i.toNat * te.size))
      | .c (.rp v) => hlift (v.getAt (i.toNat * te.size) te.size te.d.isAgg) fun u => K (.c (.rp u))
      | _ => False
    | _, _ => False

/-! ## The run equations -/
section
variable {P : Program} {w : World}

theorem run_sizeOf' {t : TypeId} {i : TypeInfo} (h : P.info? t = some i) : (sizeOf t).run P w = .ok i.size w := by
  simp [sizeOf, typeInfo, h]
theorem run_isAgg' {t : TypeId} {d : TypeDesc} (h : P.underlying t = some d) : (Go.isAgg t).run P w = .ok (tyd d).isAgg w := by
  unfold Go.isAgg
  rw [Sem.run_bind, run_underlying h]
  cases d <;> simp [tyd, TyD.isAgg]

/-- The cells at an address as one variable. -/
theorem run_loadVar' {t : TypeId} {ti : TyI} {i : TypeInfo} {d : TypeDesc} {zv : Value} (ht : TyOk P t ti i d zv) (ad : Addr) (cs : List Value) (hl : cs.length = ti.size)
    (h : ∀ j u, cs[j]? = some u → w.cell? (ad.add j) = some u) : (loadVar t ad).run P w = .ok (mkVal ti.d.isAgg cs) w := by
  have ha : (Go.isAgg t).run P w = .ok ti.d.isAgg w := by rw [run_isAgg' ht.under, ht.d_]
  have hp := ht.pos
  simp only [loadVar, Sem.run_bind, ha, Result.andThen_ok]
  cases hag : ti.d.isAgg with
  | true =>
    have := run_loadCells_list (P := P) w ad cs h
    rw [hl, ← ht.size] at this
    simp [run_sizeOf' ht.info, this, mkVal]
  | false =>
    have hz : ti.z.isAgg = false := by rw [← ht.dagg, hag]
    have h1 : ti.size = 1 := by
      have := ht.zsize
      have hzv : Value.isAgg' zv = false := by rw [ht.agg, hz]
      rw [cells_single hzv] at this
      simpa using this.symm
    match cs, hl with
    | [u], _ =>
      have := h 0 u (by simp)
      simp [Addr.add] at this
      simp [this, mkVal]
    | [], hl => simp at hl; omega
    | _ :: _ :: _, hl => simp at hl; omega

theorem repV_mkVal {ρ : Env} {O : Nat → Prop} {v : HV} {cs : List Value} {ag : Bool} (h : RepH w ρ O v cs) (hv : v.isAgg = ag) (hs : v.sto = true) : RepV w ρ O v (mkVal ag cs) := by
  cases ag with
  | true => exact ⟨by rw [cells_mkVal_agg]; exact h, by rw [hv, isAgg_mkVal_agg]⟩
  | false =>
    have hl := repH_len h
    rw [HV.cells_single hv] at hl
    match cs, hl with
    | [x], _ =>
      have hx := oneCell_isAgg (repH_one hs h x (by simp))
      exact repV_mk (by simpa [mkVal] using h) hv (by simpa [mkVal] using hx)
end

theorem add_add (ad : Addr) (i j : Nat) : (ad.add i).add j = ad.add (i + j) := by
  unfold Addr.add
  by_cases h1 : i = 0 <;> by_cases h2 : j = 0 <;> simp [h1, h2, Nat.add_assoc]
theorem add_block (ad : Addr) (i : Nat) : (ad.add i).block = ad.block := by unfold Addr.add; split <;> rfl

theorem Reads.part {w : World} {O : Nat → Prop} {ad : Addr} {c1 c2 c3 : List Value} (h : Reads w O ad (c1 ++ c2 ++ c3)) : Reads w O (ad.add c1.length) c2 := by
  refine ⟨fun j u hj => ?_, fun hne => by rw [add_block]; exact h.2 (by simp [hne])⟩
  rw [add_add]
  have hlt : j < c2.length := (List.getElem?_eq_some_iff.1 hj).1
  refine h.1 (c1.length + j) u ?_
  rw [List.append_assoc, List.getElem?_append_right (by omega)]
  simpa [List.getElem?_append_left hlt] using hj

/-- The i-th of parts of one size. -/
theorem repL_nth {w : World} {O : Nat → Prop} {sz : Nat} : ∀ {l : List CV} {cs : List Value} {i : Nat}, RepL w O l cs → (∀ v ∈ l, v.cells = sz) → i < l.length →
    ∃ c1 c2 c3, cs = c1 ++ c2 ++ c3 ∧ c1.length = i * sz ∧ RepC w O (nth l i) c2
  | [], cs, i, _, _, hi => by simp at hi
  | v :: vs, cs, 0, h, _, _ => by
    simp only [RepL] at h
    obtain ⟨c1, c2, rfl, h1, h2⟩ := h
    exact ⟨[], c1, c2, by simp, by simp, by simpa [nth] using h1⟩
  | v :: vs, cs, i + 1, h, hc, hi => by
    simp only [RepL] at h
    obtain ⟨c1, c2, rfl, h1, h2⟩ := h
    obtain ⟨d1, d2, d3, rfl, e1, e2⟩ := repL_nth (i := i) h2 (fun v hv => hc v (by simp [hv])) (by simpa using hi)
    refine ⟨c1 ++ d1, d2, d3, by simp, ?_, by simpa [nth] using e2⟩
    rw [List.length_append, repC_len h1, hc v (by simp), e1, Nat.add_mul]
    omega

theorem nth_mem {l : List CV} {i : Nat} (h : i < l.length) : nth l i ∈ l := by
  simp [nth, h]

section
variable {P : Program} {c : Ctx} {M : Nat → Prop} {fr : Fr} {ob : Ob} {a : Act} {w : World} {ρ : Env}

/-- The block of a box. -/
theorem RepA'.box (h : RepA' c M fr ob a w ρ) {id : Nat} {t : TypeId} {v : HV} (ho : ob id = some (.box t v)) :
    ∃ b cs, ρ id = some (.blk b) ∧ w.heap[b]? = some (.cells cs.toArray t (0, 0)) ∧ RepH w ρ (Owned ρ c.X) v cs := h.s.objs id _ ho
theorem RepA'.rowO (h : RepA' c M fr ob a w ρ) {id sz : Nat} {t : TypeId} {l : List CV} (ho : ob id = some (.row t sz l)) :
    ∃ hd xs, ρ id = some (.hdr hd) ∧ RepL w (Owned ρ c.X) l xs ∧ (∀ v ∈ l, v.cells = sz) ∧ w.ownsRow 0 t sz hd l.length xs := h.s.objs id _ ho

theorem addr_add0 (b o j : Nat) : (⟨b, o, none⟩ : Addr).add j = ⟨b, o + j, none⟩ := by unfold Addr.add; split <;> simp_all

/-- THE LOAD. -/
theorem load_sound (h : RepA' c M fr ob a w ρ) {t : TypeId} {ti : TyI} (ht : tyOf P t = some ti) {x : Operand} {K : HV → Prop} (hl : hload ti (ev fr x) ob K) :
    ∃ u y, K u ∧ (Instr.loadAt t (a.eval x)).run P w = .ok y w ∧ RepV w ρ (Owned ρ c.X) u y ∧ u.men M := by
  obtain ⟨i, d, zv, hty⟩ := tyOf_ok ht
  unfold hload at hl
  split at hl
  · rename_i v hx
    rw [hlift_iff] at hl
    obtain ⟨u, hg, hK⟩ := hl
    have hr := h.ev x (by rw [hx]; simp)
    rw [hx] at hr
    have := hr.single rfl
    simp only [RepC] at this
    obtain ⟨ad, xs, he, hv, hrd⟩ := this
    have he' : a.eval x = .pointer (some ad) := by simpa using he
    obtain ⟨c1, c2, c3, rfl, e1, e2, e3, e4⟩ := CV.getAt_spec hg hv
    have hrd' := hrd.part
    have h0 : c1 = [] := List.eq_nil_of_length_eq_zero e1
    subst h0
    simp only [List.length_nil] at hrd'
    have hadd : ad.add 0 = ad := by simp [Addr.add]
    rw [hadd] at hrd'
    refine ⟨.c u, mkVal ti.d.isAgg c2, hK, ?_, repV_mkVal (by simpa only [RepH] using e3) e4 rfl, by simp [HV.men]⟩
    rw [he']
    simp only [Instr.loadAt, Instr.sureAddr, Sem.run_bind, Sem.run_pure, Result.andThen_ok]
    exact run_loadVar' hty ad c2 e2 hrd'.1
  · rename_i id off hx
    split at hl
    · rename_i tb v ho
      obtain ⟨hs, hl⟩ := hl
      rw [hlift_iff] at hl
      obtain ⟨u, hg, hK⟩ := hl
      obtain ⟨b, cs, hρ, hb, hv⟩ := h.box ho
      have hr := repV_ref (h.ev x (by rw [hx]; simp)) (by rw [hx]; rfl)
      rw [hx] at hr
      simp only [RepH] at hr
      obtain ⟨⟨y, hy, _, hp⟩, _⟩ := hr
      have he : a.eval x = .pointer (some ⟨b, off, none⟩) := by
        have : a.eval x = y := by simpa using hy
        rw [this]; exact hp b hρ
      obtain ⟨c1, c2, c3, rfl, e1, e2, e3, e4, e5, e6⟩ := HV.getAt_spec hg hs hv
      refine ⟨u, mkVal ti.d.isAgg c2, hK, ?_, repV_mkVal e3 e4 e5, ?_⟩
      · rw [he]
        simp only [Instr.loadAt, Instr.sureAddr, Sem.run_bind, Sem.run_pure, Result.andThen_ok]
        refine run_loadVar' hty _ c2 e2 (fun j u hj => ?_)
        have hlt : j < c2.length := (List.getElem?_eq_some_iff.1 hj).1
        rw [addr_add0, cell_of_row w b _ _ _ _ hb]
        simp only [List.getElem?_toArray, List.append_assoc]
        rw [List.getElem?_append_right (by omega), List.getElem?_append_left (by omega)]
        rw [← hj]; congr 1; omega
      · exact e6 M (h.mo id _ ho).2
    · exact hl.elim
  · rename_i id n i' sz off hx
    split at hl
    · rename_i tb sz' l ho
      obtain ⟨⟨hn, hsz, hi⟩, hl⟩ := hl
      subst hn hsz
      rw [hlift_iff] at hl
      obtain ⟨u, hg, hK⟩ := hl
      obtain ⟨hd, xs, hρ, hl2, hcs, how⟩ := h.rowO ho
      have hr := repV_ref (h.ev x (by rw [hx]; simp)) (by rw [hx]; rfl)
      rw [hx] at hr
      simp only [RepH] at hr
      obtain ⟨⟨y, hy, _, hp⟩, _⟩ := hr
      obtain ⟨hp1, hp2⟩ := hp hd hρ
      rcases how.2 with ⟨rfl, hz⟩ | ⟨g, cap, cur, rfl, hg2, hh, hcap, _, hcsz, htake⟩
      · omega
      · have he : a.eval x = .pointer (some ⟨g, i' * sz + off, none⟩) := by
          have : a.eval x = y := by simpa using hy
          rw [this]; exact hp2 rfl g cap rfl
        obtain ⟨d1, d2, d3, rfl, f1, f2⟩ := repL_nth hl2 hcs hi
        obtain ⟨c1, c2, c3, rfl, e1, e2, e3, e4⟩ := CV.getAt_spec hg f2
        refine ⟨.c u, mkVal ti.d.isAgg c2, hK, ?_, repV_mkVal (by simpa only [RepH] using e3) e4 rfl, by simp [HV.men]⟩
        rw [he]
        simp only [Instr.loadAt, Instr.sureAddr, Sem.run_bind, Sem.run_pure, Result.andThen_ok]
        refine run_loadVar' hty _ c2 e2 (fun j u hj => ?_)
        have hlt : j < c2.length := (List.getElem?_eq_some_iff.1 hj).1
        rw [addr_add0, cell_of_row w g _ _ _ _ hh]
        have htot : i' * sz + off + j < l.length * sz := by
          have := congrArg List.length htake
          simp only [List.length_append, List.length_take, Array.length_toList] at this
          omega
        have h3 : cur[i' * sz + off + j]? = (cur.toList.take (l.length * sz))[i' * sz + off + j]? := by
          rw [List.getElem?_take, if_pos htot, Array.getElem?_toList]
        rw [h3, htake]
        simp only [List.append_assoc]
        rw [List.getElem?_append_right (by omega), List.getElem?_append_right (by omega), List.getElem?_append_left (by omega)]
        rw [← hj]; congr 1; omega
    · exact hl.elim
  · exact hl.elim
end
end Go.Hl
