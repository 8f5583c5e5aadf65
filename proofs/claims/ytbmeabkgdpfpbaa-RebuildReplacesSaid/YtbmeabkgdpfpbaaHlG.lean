/- HL, part G: structs, arrays and slices that are built; parts of values. By an AI agent. -/
import Derived.Test.YtbmeabkgdpfpbaaHlF
set_option linter.unusedSimpArgs false
set_option linter.unusedVariables false
namespace Go.Hl
open Go

theorem fold_set : ∀ (l : List Value) (k off : Nat) (cells : Array Value), off + k + l.length ≤ cells.size →
    ((l.zipIdx k).foldl (fun cs (p : Value × Nat) => cs.setIfInBounds (off + p.2) p.1) cells).toList = cells.toList.take (off + k) ++ l ++ cells.toList.drop (off + k + l.length)
  | [], k, off, cells, _ => by simp
  | v :: vs, k, off, cells, h => by
    simp only [List.length_cons] at h
    have ih := fold_set vs (k + 1) off (cells.setIfInBounds (off + k) v) (by simp; omega)
    simp only [List.zipIdx_cons, List.foldl_cons, ih, Array.toList_setIfInBounds]
    have hk : off + k < cells.toList.length := by simp; omega
    rw [show off + (k + 1) = (off + k) + 1 from by omega, List.take_add_one]
    simp only [List.take_set, List.drop_set, List.length_cons]
    rw [if_pos (by omega)]
    rw [List.set_eq_of_length_le (by simp; omega)]
    simp only [List.getElem?_set_self hk, Option.toList_some]
    rw [show off + k + 1 + vs.length = off + k + (vs.length + 1) from by omega]
    simp

theorem array_fold_set (v : Array Value) (off : Nat) (cells : Array Value) (h : off + v.size ≤ cells.size) :
    (v.zipIdx.foldl (fun cs (p : Value × Nat) => cs.setIfInBounds (off + p.2) p.1) cells).toList = cells.toList.take off ++ v.toList ++ cells.toList.drop (off + v.size) := by
  have := fold_set v.toList 0 off cells (by simpa using h)
  rw [← Array.foldl_toList, Array.toList_zipIdx]
  simpa using this

def sumN (l : List Nat) : Nat := l.foldr (· + ·) 0
theorem cellsL_sum : ∀ (l : List HV), HV.cellsL l = sumN (l.map HV.cells)
  | [] => rfl
  | v :: vs => by simp [HV.cellsL, sumN, cellsL_sum vs]
theorem repHL_at {w : World} {ρ : Env} {O : Nat → Prop} : ∀ {l : List HV} {cs : List Value} {i : Nat} {v : HV}, RepHL w ρ O l cs → l[i]? = some v →
    ∃ c1 c2 c3, cs = c1 ++ c2 ++ c3 ∧ c1.length = sumN ((l.map HV.cells).take i) ∧ c2.length = v.cells ∧ ∀ u c2', RepH w ρ O u c2' → RepHL w ρ O (l.set i u) (c1 ++ c2' ++ c3)
  | [], cs, i, v, h, hi => by simp at hi
  | x :: xs, cs, 0, v, h, hi => by
    simp only [RepHL] at h
    obtain ⟨c1, c2, rfl, h1, h2⟩ := h
    simp only [List.getElem?_cons_zero, Option.some.injEq] at hi
    subst hi
    exact ⟨[], c1, c2, by simp, by simp [sumN], repH_len h1, fun u c2' h' => by simp only [List.set_cons_zero, RepHL]; exact ⟨c2', c2, by simp, h', h2⟩⟩
  | x :: xs, cs, i + 1, v, h, hi => by
    simp only [RepHL] at h
    obtain ⟨c1, c2, rfl, h1, h2⟩ := h
    simp only [List.getElem?_cons_succ] at hi
    obtain ⟨d1, d2, d3, rfl, e1, e2, e3⟩ := repHL_at h2 hi
    refine ⟨c1 ++ d1, d2, d3, by simp, ?_, e2, fun u c2' h' => ?_⟩
    · rw [List.length_append, repH_len h1, e1]; simp [sumN]
    · simp only [List.set_cons_succ, RepHL]; exact ⟨c1, d1 ++ c2' ++ d3, by simp, h1, e3 u c2' h'⟩

/-- Parts laid into a list of parts. -/
def hfill (e : Operand → HV) : List (Nat × Operand) → List HV → Option (List HV)
  | [], hs => some hs
  | (i, x) :: ps, hs => match hs[i]? with
    | some old => if (e x).sto = true ∧ (e x).cells = old.cells then hfill e ps (hs.set i (e x)) else none
    | none => none

theorem stoL_set : ∀ {l : List HV} {i : Nat} {u : HV}, HV.stoL l = true → u.sto = true → HV.stoL (l.set i u) = true
  | [], _, _, _, _ => rfl
  | x :: xs, 0, u, h, hu => by simp only [List.set_cons_zero, HV.stoL, Bool.and_eq_true] at h ⊢; exact ⟨hu, h.2⟩
  | x :: xs, i + 1, u, h, hu => by simp only [List.set_cons_succ, HV.stoL, Bool.and_eq_true] at h ⊢; exact ⟨h.1, stoL_set h.2 hu⟩
theorem menL_set {M : Nat → Prop} : ∀ {l : List HV} {i : Nat} {u : HV}, HV.menL M l → u.men M → HV.menL M (l.set i u)
  | [], _, _, _, _ => by simp [HV.menL]
  | x :: xs, 0, u, h, hu => by simp only [List.set_cons_zero, HV.menL] at h ⊢; exact ⟨hu, h.2⟩
  | x :: xs, i + 1, u, h, hu => by simp only [List.set_cons_succ, HV.menL] at h ⊢; exact ⟨h.1, menL_set h.2 hu⟩

section
variable {P : Program} {c : Ctx} {M : Nat → Prop} {fr : Fr} {ob : Ob} {a : Act} {w : World} {ρ : Env}

theorem fill_sound (h : RepA' c M fr ob a w ρ) (place : Nat → Option (Nat × Nat)) : ∀ (ps : List (Nat × Operand)) (hs hs' : List HV) (cells : Array Value),
    (∀ i k, (hs.map HV.cells)[i]? = some k → place i = some (sumN ((hs.map HV.cells).take i), k)) → RepHL w ρ (Owned ρ c.X) hs cells.toList → HV.stoL hs = true → HV.menL M hs → hfill (ev fr) ps hs = some hs' →
    ∃ cells', Instr.fill place cells (ps.map fun p => (p.1, a.eval p.2)) = some cells' ∧ RepHL w ρ (Owned ρ c.X) hs' cells'.toList ∧ HV.stoL hs' = true ∧ HV.menL M hs'
  | [], hs, hs', cells, _, hr, h1, h2, hf => by simp only [hfill, Option.some.injEq] at hf; subst hf; exact ⟨cells, rfl, hr, h1, h2⟩
  | (i, x) :: ps, hs, hs', cells, hpl, hr, h1, h2, hf => by
    simp only [hfill] at hf
    split at hf
    · rename_i old ho
      split at hf
      · rename_i hc
        obtain ⟨c1, c2, c3, hcs, e1, e2, e3⟩ := repHL_at hr ho
        have hv := h.ev x (by intro e; rw [e] at hc; simp [HV.sto] at hc)
        have hlen : (a.eval x).cells.size = c2.length := by
          have := repH_len hv.1
          rw [hc.2, ← e2] at this
          simpa using this
        have hp : place i = some (c1.length, old.cells) := by
          rw [hpl i old.cells (by simp [ho]), e1]
        have hmap : (hs.set i (ev fr x)).map HV.cells = hs.map HV.cells := by
          rw [List.map_set, hc.2]
          apply List.ext_getElem?
          intro j
          rw [List.getElem?_set]
          by_cases hij : i = j
          · subst hij
            have hi : i < hs.length := (List.getElem?_eq_some_iff.1 ho).1
            have ho' : hs[i] = old := by simpa [hi] using ho
            simp [hi, ho']
          · simp [hij]
        have hsize : cells.size = c1.length + c2.length + c3.length := by
          have := congrArg List.length hcs
          simpa [Nat.add_assoc] using this
        obtain ⟨cells', f1, f2⟩ := fill_sound h place ps (hs.set i (ev fr x)) hs' ((a.eval x).cells.zipIdx.foldl (fun cs (p : Value × Nat) => cs.setIfInBounds (c1.length + p.2) p.1) cells)
          (by rw [hmap]; exact hpl) (by
            rw [array_fold_set _ _ _ (by omega), hcs, hlen]
            have := setAt_cells (l1 := c1) (l2 := c2) (l3 := c3) (x := (a.eval x).cells.toList) (by simpa using hlen)
            simp only [Array.length_toList, hlen] at this
            rw [this]
            exact e3 _ _ hv.1) (stoL_set h1 hc.1) (menL_set h2 (h.evm x)) hf
        refine ⟨cells', ?_, f2⟩
        simp only [List.map_cons, Instr.fill, hp]
        rw [if_neg (by simp only [ne_eq, Bool.or_eq_true, decide_eq_true_eq, not_or, Decidable.not_not]; exact ⟨by rw [hlen, e2], by omega⟩)]
        exact f1
      · cases hf
    · cases hf

def hbuild (ti : TyI) (parts : List (Nat × Operand)) (e : Operand → HV) (K : HV → Prop) : Prop :=
  match ti.z with
  | .agg zs => hlift (hfill e parts (zs.map .c)) fun hs => K (HV.norm (.agg hs))
  | _ => False

theorem layS_place : ∀ {fs : List (Nat × TypeId)} {zs : List CV} {k : Nat}, layS P fs zs k = true → fs.length = zs.length ∧ ∀ i o t, fs[i]? = some (o, t) → ∃ z info, zs[i]? = some z ∧ P.info? t = some info ∧ info.size = z.cells ∧ o = k + sumN ((zs.map CV.cells).take i)
  | [], [], _, _ => ⟨rfl, by simp⟩
  | [], _ :: _, _, h => by simp [layS] at h
  | _ :: _, [], _, h => by simp [layS] at h
  | (o, t) :: fs, z :: zs, k, h => by
    simp only [layS, Bool.and_eq_true, beq_iff_eq] at h
    obtain ⟨⟨⟨h1, h2⟩, h3⟩, h4⟩ := h
    obtain ⟨e1, e2⟩ := layS_place h4
    refine ⟨by simp [e1], fun i o' t' hi => ?_⟩
    cases i with
    | zero =>
      simp only [List.getElem?_cons_zero, Option.some.injEq, Prod.mk.injEq] at hi
      obtain ⟨rfl, rfl⟩ := hi
      cases hq : P.info? t with
      | none => rw [hq] at h2; cases h2
      | some info =>
        simp only [Program.cellsOf, hq, Option.map_some, Option.getD_some] at h3
        exact ⟨z, info, rfl, rfl, h3, by simp [sumN, h1]⟩
    | succ i =>
      simp only [List.getElem?_cons_succ] at hi
      obtain ⟨z', info, f1, f2, f3, f4⟩ := e2 i o' t' hi
      exact ⟨z', info, by simpa using f1, f2, f3, by rw [f4]; simp [sumN]; omega⟩

theorem run_places {α : Type} (g : Field → Sem α) (v : Field → α) (w : World) : ∀ (fs : List Field), (∀ f ∈ fs, (g f).run P w = .ok (v f) w) → (fs.mapM g).run P w = .ok (fs.map v) w
  | [], _ => by simp
  | f :: fs, h => by
    have ih := run_places g v w fs (fun x hx => h x (by simp [hx]))
    simp [List.mapM_cons, h f (by simp), ih]

theorem cellsHV_c (l : List CV) : (l.map HV.c).map HV.cells = l.map CV.cells := by
  rw [List.map_map]
  exact List.map_congr_left (fun v _ => by simp [HV.cells])

theorem build_sound (h : RepA' c M fr ob a w ρ) {t : TypeId} {ti : TyI} (ht : tyOf P t = some ti) {parts : Array (Nat × Operand)} {K : HV → Prop} (hl : hbuild ti parts.toList (ev fr) K) :
    ∃ u y, K u ∧ (Instr.build t (parts.map fun p => (p.1, a.eval p.2))).run P w = .ok y w ∧ RepV w ρ (Owned ρ c.X) u y ∧ u.men M := by
  obtain ⟨i, d, zv, hty⟩ := tyOf_ok ht
  unfold hbuild at hl
  split at hl
  · rename_i zs hz
    rw [hlift_iff] at hl
    obtain ⟨hs, hf, hK⟩ := hl
    have hrep : RepHL w ρ (Owned ρ c.X) (zs.map .c) zv.cells.toList := by
      rw [repHL_c]
      have := hty.rep w (Owned ρ c.X)
      rw [hz] at this
      simpa only [RepC] using this
    have hzero : (zeroValue t).run P w = .ok zv w := by simp [zeroValue, typeInfo, hty.info, hty.zero]
    have hag := hty.dagg
    rw [hz] at hag
    have hlay := hty.lay_
    rw [hz] at hlay
    have hd := hty.d_
    have hm : HV.menL M (zs.map .c) := HV.menL_c
    cases hd2 : ti.d with
    | struct fs =>
      rw [hd2] at hd hlay
      cases d <;> simp [tyd] at hd
      rename_i gs
      simp only [lay] at hlay
      obtain ⟨hlen, hpl⟩ := layS_place hlay
      have hplace : ∀ f ∈ gs.toList, ((do pure (f.offset, ← sizeOf f.type)) : Sem (Nat × Nat)).run P w = .ok (f.offset, P.cellsOf f.type) w := by
        intro f hf'
        obtain ⟨j, hj⟩ := List.getElem?_of_mem hf'
        obtain ⟨z, info, _, h2, _, _⟩ := hpl j f.offset f.type (by rw [← hd, List.getElem?_map, hj]; rfl)
        simp [run_sizeOf' h2, Program.cellsOf, h2]
      have hrun := run_places (P := P) (fun f => (do pure (f.offset, ← sizeOf f.type) : Sem (Nat × Nat))) (fun f => (f.offset, P.cellsOf f.type)) w gs.toList hplace
      obtain ⟨cells', f1, f2, f3, f4⟩ := fill_sound h ((gs.toList.map fun f => (f.offset, P.cellsOf f.type)).toArray[·]?) parts.toList (zs.map .c) hs zv.cells
        (fun j k hj => by
          rw [cellsHV_c] at hj ⊢
          simp only [List.getElem?_map, Option.map_eq_some_iff] at hj
          obtain ⟨z, hz', rfl⟩ := hj
          have hjl : j < gs.toList.length := by
            have h1 : j < zs.length := (List.getElem?_eq_some_iff.1 hz').1
            rw [← hlen, ← hd] at h1
            simpa using h1
          have hg : gs.toList[j]? = some gs.toList[j] := List.getElem?_eq_getElem hjl
          obtain ⟨z2, info, g1, g2, g3, g4⟩ := hpl j (gs.toList[j]).offset (gs.toList[j]).type (by rw [← hd, List.getElem?_map, hg]; rfl)
          rw [hz'] at g1
          cases g1
          simp only [List.getElem?_toArray, List.getElem?_map, hg, Option.map_some, Program.cellsOf, g2, Option.getD_some, g3, g4, Nat.zero_add]) hrep HV.stoL_c hm hf
      refine ⟨_, .agg cells', hK, ?_, ⟨HV.norm_rep (by simpa only [RepH, Value.cells] using f2), by rw [HV.norm_agg]; rfl⟩, HV.norm_men (by simpa only [HV.men] using f4)⟩
      unfold Instr.build
      simp only [Sem.run_bind, hzero, Result.andThen_ok, run_underlying (P := P) (by rw [hty.under]) w, Array.mapM_eq_mapM_toList, Sem.run_map, hrun, Array.toList_map]
      rw [show (parts.toList.map fun p => (p.1, a.eval p.2)) = (parts.toList.map fun p => (p.1, a.eval p.2)) from rfl, f1]
      rfl
    | array n e =>
      rw [hd2] at hd hlay
      cases d <;> simp [tyd] at hd
      rename_i n' e'
      obtain ⟨rfl, rfl⟩ := hd
      simp only [lay, Bool.and_eq_true, beq_iff_eq, List.all_eq_true] at hlay
      obtain ⟨hl1, hl2⟩ := hlay
      have hsum : ∀ (l : List CV) (j : Nat), (∀ z ∈ l, z.cells = P.cellsOf e') → j ≤ l.length → sumN ((l.map CV.cells).take j) = j * P.cellsOf e' := by
        intro l
        induction l with
        | nil => intro j _ hj; simp at hj; subst hj; simp [sumN]
        | cons z zs ih =>
          intro j hz hj
          cases j with
          | zero => simp [sumN]
          | succ j =>
            have := ih j (fun z hz' => hz z (by simp [hz'])) (by simpa using hj)
            simp only [List.map_cons, List.take_succ_cons, sumN, List.foldr_cons] at this ⊢
            rw [this, hz z (by simp), Nat.add_mul]; omega
      by_cases hinfo : (P.info? e').isSome = true
      · cases hq : P.info? e' with
        | none => rw [hq] at hinfo; cases hinfo
        | some info =>
          have hco : P.cellsOf e' = info.size := by simp [Program.cellsOf, hq]
          obtain ⟨cells', f1, f2, f3, f4⟩ := fill_sound h (fun j => some (j * info.size, info.size)) parts.toList (zs.map .c) hs zv.cells
            (fun j k hj => by
              rw [cellsHV_c] at hj ⊢
              simp only [List.getElem?_map, Option.map_eq_some_iff] at hj
              obtain ⟨z, hz', rfl⟩ := hj
              have h1 : j < zs.length := (List.getElem?_eq_some_iff.1 hz').1
              rw [hsum zs j hl2 (by omega), hco, hl2 z (List.mem_of_getElem? hz'), hco]) hrep HV.stoL_c hm hf
          refine ⟨_, .agg cells', hK, ?_, ⟨HV.norm_rep (by simpa only [RepH, Value.cells] using f2), by rw [HV.norm_agg]; rfl⟩, HV.norm_men (by simpa only [HV.men] using f4)⟩
          unfold Instr.build
          simp only [Sem.run_bind, hzero, Result.andThen_ok, run_underlying (P := P) (by rw [hty.under]) w, run_sizeOf' hq, Array.toList_map]
          rw [f1]
          rfl
      · -- no element type: then no cells, and the type has none
        exfalso
        have hco : P.cellsOf e' = 0 := by
          cases hq : P.info? e' with
          | none => simp [Program.cellsOf, hq]
          | some _ => rw [hq] at hinfo; exact absurd rfl hinfo
        have h1 := repHL_len hrep
        rw [cellsL_sum, cellsHV_c] at h1
        have h2 := hsum zs zs.length hl2 (Nat.le_refl _)
        rw [List.take_of_length_le (by simp)] at h2
        rw [h2, hco] at h1
        have h3 := hty.zsize
        have h4 := hty.pos
        simp at h1
        rw [h1] at h3
        simp at h3
        omega
    | _ => rw [hd2] at hag; simp [TyD.isAgg, CV.isAgg] at hag
  · exact hl.elim

/-- All parts of a new slice, in order. -/
theorem fill_all (sz : Nat) : ∀ (vs : List Value) (k : Nat) (cells : Array Value), cells.size = (k + vs.length) * sz → (∀ v ∈ vs, v.cells.size = sz) →
    ∃ cells', Instr.fill (fun i => some (i * sz, sz)) cells ((vs.zipIdx k).map fun p => (p.2, p.1)) = some cells' ∧ cells'.toList = cells.toList.take (k * sz) ++ (vs.map fun v => v.cells.toList).flatten
  | [], k, cells, hs, _ => ⟨cells, rfl, by simp at hs; rw [List.take_of_length_le (by simp [hs])]; simp⟩
  | v :: vs, k, cells, hs, hv => by
    have hv0 := hv v (by simp)
    have hle : k * sz + v.cells.size ≤ cells.size := by
      rw [hs, hv0, List.length_cons]
      have : (k + (vs.length + 1)) * sz = k * sz + (vs.length * sz + sz) := by rw [Nat.add_mul, Nat.add_mul]; omega
      omega
    have hl := array_fold_set v.cells (k * sz) cells hle
    have hsz : (v.cells.zipIdx.foldl (fun cs (p : Value × Nat) => cs.setIfInBounds (k * sz + p.2) p.1) cells).size = cells.size := by
      have := congrArg List.length hl
      simp only [Array.length_toList, List.length_append, List.length_take, List.length_drop] at this
      rw [this]; omega
    obtain ⟨cells', h1, h2⟩ := fill_all sz vs (k + 1) _ (by rw [hsz, hs]; congr 1; simp; omega) (fun u hu => hv u (by simp [hu]))
    refine ⟨cells', ?_, ?_⟩
    · simp only [List.zipIdx_cons, List.map_cons, Instr.fill]
      rw [if_neg (by simp only [ne_eq, Bool.or_eq_true, decide_eq_true_eq, not_or, Decidable.not_not]; exact ⟨hv0, by omega⟩)]
      exact h1
    · rw [h2, hl]
      have e1 : (k + 1) * sz = (cells.toList.take (k * sz) ++ v.cells.toList).length := by
        simp only [List.length_append, List.length_take, Array.length_toList]
        rw [Nat.add_mul]; omega
      rw [e1, List.take_left' rfl]
      simp

/-- Closed parts. -/
def hclosed (e : Operand → HV) : List (Nat × Operand) → Nat → Nat → Option (List CV)
  | [], _, _ => some []
  | (i, x) :: ps, k, sz => match (e x).toC with
    | some v => if i = k ∧ v.cells = sz then (hclosed e ps (k + 1) sz).map (v.denil :: ·) else none
    | _ => none

theorem hclosed_spec (h : RepA' c M fr ob a w ρ) {sz : Nat} : ∀ (ps : List (Nat × Operand)) (k : Nat) (l : List CV), hclosed (ev fr) ps k sz = some l →
    ∃ vs : List Value, (ps.map fun p => (p.1, a.eval p.2)) = (vs.zipIdx k).map (fun p => (p.2, p.1)) ∧ vs.length = l.length ∧ ps.length = l.length ∧ (∀ v ∈ vs, v.cells.size = sz) ∧ (∀ v ∈ l, v.cells = sz) ∧ RepL w (Owned ρ c.X) l (vs.map fun v => v.cells.toList).flatten
  | [], k, l, hl => by simp only [hclosed, Option.some.injEq] at hl; subst hl; exact ⟨[], by simp, rfl, rfl, by simp, by simp, by simp [RepL]⟩
  | (i, x) :: ps, k, l, hl => by
    simp only [hclosed] at hl
    split at hl
    · rename_i v hx
      split at hl
      · rename_i hc
        obtain ⟨rfl, hcs⟩ := hc
        rw [Option.map_eq_some_iff] at hl
        obtain ⟨l', hl, rfl⟩ := hl
        obtain ⟨vs, e1, e2, e3, e4, e5, e6⟩ := hclosed_spec h ps (i + 1) l' hl
        have hv := h.ev x (by intro e; rw [e] at hx; simp [HV.toC] at hx)
        have hv1 := HV.toC_spec hx hv.1
        have hcs' : v.denil.cells = sz := by rw [CV.denil_cells]; exact hcs
        refine ⟨a.eval x :: vs, by simp [e1], by simp [e2], by simp [e3], fun u hu => ?_, fun u hu => ?_, ?_⟩
        · rcases List.mem_cons.1 hu with rfl | hu
          · have := repC_len hv1; rw [hcs] at this; simpa using this
          · exact e4 u hu
        · rcases List.mem_cons.1 hu with rfl | hu
          · exact hcs'
          · exact e5 u hu
        · simp only [List.map_cons, List.flatten_cons, RepL]
          exact ⟨_, _, rfl, CV.denil_rep hv1, e6⟩
      · cases hl
    · cases hl

theorem buildSlice_sound {M' : Nat → Prop} (h : RepA' c M fr ob a w ρ) {nid : Nat} (hn : ¬ M nid) (hM : ∀ i, M i → M' i) (hM' : M' nid) {t e : TypeId} {ti te : TyI} (ht : tyOf P t = some ti) (hd0 : ti.d = .slice e)
    (hte : tyOf P e = some te) {parts : Array (Nat × Operand)} {len : Nat} {l : List CV} (hl : hclosed (ev fr) parts.toList 0 te.size = some l) (hlen : len = l.length) (hmax : len * te.size ≤ 2 ^ 24)
    (d : Option Nat) (hd : ∀ k, d = some k → k < c.n) :
    ∃ y w' ρ', (Instr.buildSlice t len (parts.map fun p => (p.1, a.eval p.2))).run P w = .ok y w' ∧ RepA' c M' (updo fr d (.own nid len)) (upd ob nid (some (.row e te.size l))) (a.put d y) w' ρ' := by
  obtain ⟨i, d', zv, hty⟩ := tyOf_ok ht
  obtain ⟨ie, de, zve, htye⟩ := tyOf_ok hte
  have hdd := hty.d_
  rw [hd0] at hdd
  have hu : P.underlying t = some (.slice e) := by
    rw [hty.under]; congr 1
    cases d' <;> simp [tyd] at hdd
    rw [hdd]
  obtain ⟨vs, e1, e2, e3, e4, e5, e6⟩ := hclosed_spec h _ _ _ hl
  have hpos := htye.pos
  have key : ∀ cells0 : Array Value, cells0.size = len * te.size → ∃ cells', Instr.fill (fun i => some (i * te.size, te.size)) cells0 (parts.map fun p => (p.1, a.eval p.2)).toList = some cells' ∧ cells'.toList = (vs.map fun v => v.cells.toList).flatten := by
    intro cells0 hc
    obtain ⟨cells', h1, h2⟩ := fill_all te.size vs 0 cells0 (by rw [hc, e2, hlen]; simp) e4
    exact ⟨cells', by rw [Array.toList_map, e1]; exact h1, by rw [h2]; simp⟩
  have hsz : (sizeOf e).run P w = .ok te.size w := by rw [run_sizeOf' htye.info, htye.size]
  have hzero : (zeroValue e).run P w = .ok zve w := by simp [zeroValue, typeInfo, htye.info, htye.zero]
  have hmk : ∃ cells', (Instr.buildSlice t len (parts.map fun p => (p.1, a.eval p.2))).run P w = .ok (.slice (some ⟨w.heap.size, 0, none⟩) len len) (w.alloc (.cells cells' e)) ∧ cells'.toList = (vs.map fun v => v.cells.toList).flatten := by
    by_cases h0 : len * te.size = 0
    · obtain ⟨cells', h1, h2⟩ := key ((Array.range (len * te.size)).map ((#[] : Array Value)[· % (#[] : Array Value).size]!)) (by simp)
      refine ⟨cells', ?_, h2⟩
      unfold Instr.buildSlice
      simp only [Sem.run_bind, run_underlying hu, Result.andThen_ok, hsz]
      rw [if_neg (by omega)]
      simp only [h0, if_true, Sem.run_bind, Sem.run_pure, Result.andThen_ok]
      rw [h0] at h1
      rw [h1]
      simp [newRow]
    · obtain ⟨cells', h1, h2⟩ := key ((Array.range (len * te.size)).map (zve.cells[· % zve.cells.size]!)) (by simp)
      refine ⟨cells', ?_, h2⟩
      unfold Instr.buildSlice
      simp only [Sem.run_bind, run_underlying hu, Result.andThen_ok, hsz]
      rw [if_neg (by omega)]
      simp only [if_neg h0, Sem.run_bind, hzero, Sem.run_pure, Result.andThen_ok]
      rw [h1]
      simp [newRow]
  obtain ⟨cells', hrun, hcells⟩ := hmk
  have hxl := repL_len e6
  refine ⟨_, _, _, hrun, h.newObj (w1 := w) (L := .hdr (.slice (some ⟨w.heap.size, 0, none⟩) len len)) hn hM hM' rfl rfl rfl rfl (fun b hb => by simpa [Loc.has, Value.ownBlock] using hb.symm) (fun hst => ?_) trivial (.inr ?_) (by simpa [HV.men] using hM') hd⟩
  · have hcl : cells'.toList.length = len * te.size := by
      rw [hcells]
      have : ∀ (vs : List Value), (∀ v ∈ vs, v.cells.size = te.size) → ((vs.map fun v => v.cells.toList).flatten).length = vs.length * te.size := by
        intro vs
        induction vs with
        | nil => simp
        | cons v vs ih =>
          intro hv
          simp only [List.map_cons, List.flatten_cons, List.length_append, List.length_cons, ih (fun u hu => hv u (by simp [hu])), Array.length_toList, hv v (by simp), Nat.add_mul]
          omega
      rw [this vs e4, e2, hlen]
    refine ⟨_, _, upd_same _ _ _, e6.stay hst, e5, ?_, .inr ⟨w.heap.size, len, cells', by rw [hlen], Nat.zero_le _, heap_alloc_new w _, by omega, ?_, by simpa using hcl, ?_⟩⟩
    · rw [← hcells, hcl, hlen]
    · have : len ≤ len * te.size := Nat.le_mul_of_pos_right _ hpos
      unfold maxLen; omega
    · rw [List.take_of_length_le (by rw [hcl, hlen]; exact Nat.le_refl _), hcells]
  · refine repV_mk ?_ rfl rfl
    simp only [RepH]
    refine ⟨_, rfl, by simp [Value.oneCell'], fun hd' hρ => ?_⟩
    rw [upd_same] at hρ
    cases hρ
    exact ⟨Nat.le_refl _, fun _ => rfl⟩
end
end Go.Hl
