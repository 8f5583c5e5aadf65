/- HL, part F: stores, new variables, structs and arrays that are built, slices that are built. By an AI agent. -/
import Derived.Test.YtbmeabkgdpfpbaaHlE
set_option linter.unusedSimpArgs false
set_option linter.unusedVariables false
namespace Go.Hl
open Go

mutual
def HV.toC : HV → Option CV
  | .c v => some v
  | .agg l => (HV.toCL l).map .agg
  | _ => none
def HV.toCL : List HV → Option (List CV)
  | [] => some []
  | v :: vs => match v.toC, HV.toCL vs with
    | some a, some b => some (a :: b)
    | _, _ => none
end
mutual
theorem HV.toC_spec {w : World} {ρ : Env} {O : Nat → Prop} : ∀ {v : HV} {u : CV} {cs : List Value}, v.toC = some u → RepH w ρ O v cs → RepC w O u cs
  | .c v, u, cs, h, hr => by simp only [HV.toC, Option.some.injEq] at h; subst h; simpa only [RepH] using hr
  | .agg l, u, cs, h, hr => by
    simp only [HV.toC, Option.map_eq_some_iff] at h
    obtain ⟨l', h, rfl⟩ := h
    simp only [RepH, RepC] at hr ⊢
    exact HV.toCL_spec h hr
  | .junk, u, cs, h, hr => by simp [HV.toC] at h
  | .own .., u, cs, h, hr => by simp [HV.toC] at h
  | .ptr .., u, cs, h, hr => by simp [HV.toC] at h
  | .eptr .., u, cs, h, hr => by simp [HV.toC] at h
  | .osl .., u, cs, h, hr => by simp [HV.toC] at h
  | .mapr .., u, cs, h, hr => by simp [HV.toC] at h
  | .mrow .., u, cs, h, hr => by simp [HV.toC] at h
  | .clo .., u, cs, h, hr => by simp [HV.toC] at h
  | .tup .., u, cs, h, hr => by simp [HV.toC] at h
theorem HV.toCL_spec {w : World} {ρ : Env} {O : Nat → Prop} : ∀ {l : List HV} {l' : List CV} {cs : List Value}, HV.toCL l = some l' → RepHL w ρ O l cs → RepL w O l' cs
  | [], l', cs, h, hr => by simp only [HV.toCL, Option.some.injEq] at h; subst h; simpa only [RepHL, RepL] using hr
  | v :: vs, l', cs, h, hr => by
    simp only [HV.toCL] at h
    split at h
    · rename_i a b h1 h2
      cases h
      simp only [RepHL, RepL] at hr ⊢
      obtain ⟨c1, c2, e, h3, h4⟩ := hr
      exact ⟨c1, c2, e, HV.toC_spec h1 h3, HV.toCL_spec h2 h4⟩
    · cases h
end
theorem HV.toC_agg {v : HV} {u : CV} (h : v.toC = some u) : u.isAgg = v.isAgg := by
  cases v with
  | c v => simp only [HV.toC, Option.some.injEq] at h; subst h; rfl
  | agg l => simp only [HV.toC, Option.map_eq_some_iff] at h; obtain ⟨l', _, rfl⟩ := h; rfl
  | _ => simp [HV.toC] at h
mutual
theorem HV.toC_cells : ∀ {v : HV} {u : CV}, v.toC = some u → u.cells = v.cells
  | .c v, u, h => by simp only [HV.toC, Option.some.injEq] at h; subst h; simp [HV.cells]
  | .agg l, u, h => by
    simp only [HV.toC, Option.map_eq_some_iff] at h
    obtain ⟨l', h, rfl⟩ := h
    simp only [CV.cells, HV.cells]; exact HV.toCL_cells h
  | .junk, u, h => by simp [HV.toC] at h
  | .own .., u, h => by simp [HV.toC] at h
  | .ptr .., u, h => by simp [HV.toC] at h
  | .eptr .., u, h => by simp [HV.toC] at h
  | .osl .., u, h => by simp [HV.toC] at h
  | .mapr .., u, h => by simp [HV.toC] at h
  | .mrow .., u, h => by simp [HV.toC] at h
  | .clo .., u, h => by simp [HV.toC] at h
  | .tup .., u, h => by simp [HV.toC] at h
theorem HV.toCL_cells : ∀ {l : List HV} {l' : List CV}, HV.toCL l = some l' → CV.cellsL l' = HV.cellsL l
  | [], l', h => by simp only [HV.toCL, Option.some.injEq] at h; subst h; rfl
  | v :: vs, l', h => by
    simp only [HV.toCL] at h
    split at h
    · rename_i a b h1 h2
      cases h
      simp only [CV.cellsL, HV.cellsL, HV.toC_cells h1, HV.toCL_cells h2]
    · cases h
end
/-- A value with no reference is a closed one. -/
def HV.norm (v : HV) : HV := match v.toC with | some u => .c u | none => v
theorem HV.norm_rep {w : World} {ρ : Env} {O : Nat → Prop} {v : HV} {cs : List Value} (h : RepH w ρ O v cs) : RepH w ρ O v.norm cs := by
  unfold HV.norm
  split
  · rename_i u hu; simp only [RepH]; exact HV.toC_spec hu h
  · exact h
theorem HV.norm_men {M : Nat → Prop} {v : HV} (h : v.men M) : v.norm.men M := by
  unfold HV.norm
  split
  · simp [HV.men]
  · exact h
theorem HV.norm_agg (v : HV) : v.norm.isAgg = v.isAgg := by
  unfold HV.norm
  split
  · rename_i u hu; rw [HV.isAgg, HV.toC_agg hu]
  · rfl
theorem HV.norm_sto {v : HV} (h : v.sto = true) : v.norm.sto = true := by
  unfold HV.norm
  split
  · rfl
  · exact h

theorem repL_set {w : World} {O : Nat → Prop} {sz : Nat} {u : CV} : ∀ {l : List CV} {cs : List Value} {i : Nat}, RepL w O l cs → (∀ v ∈ l, v.cells = sz) → i < l.length →
    ∃ c1 c2 c3, cs = c1 ++ c2 ++ c3 ∧ c1.length = i * sz ∧ RepC w O (nth l i) c2 ∧ ∀ c2', RepC w O u c2' → RepL w O (l.set i u) (c1 ++ c2' ++ c3)
  | [], cs, i, _, _, hi => by simp at hi
  | v :: vs, cs, 0, h, _, _ => by
    simp only [RepL] at h
    obtain ⟨c1, c2, rfl, h1, h2⟩ := h
    exact ⟨[], c1, c2, by simp, by simp, by simpa [nth] using h1, fun c2' h' => by simp only [List.set_cons_zero, RepL]; exact ⟨c2', c2, by simp, h', h2⟩⟩
  | v :: vs, cs, i + 1, h, hc, hi => by
    simp only [RepL] at h
    obtain ⟨c1, c2, rfl, h1, h2⟩ := h
    obtain ⟨d1, d2, d3, rfl, e1, e2, e3⟩ := repL_set (i := i) h2 (fun v hv => hc v (by simp [hv])) (by simpa using hi)
    refine ⟨c1 ++ d1, d2, d3, by simp, ?_, by simpa [nth] using e2, fun c2' h' => ?_⟩
    · rw [List.length_append, repC_len h1, hc v (by simp), e1, Nat.add_mul]; omega
    · simp only [List.set_cons_succ, RepL]; exact ⟨c1, d1 ++ c2' ++ d3, by simp, h1, e3 c2' h'⟩

def hstore (ti : TyI) (x v : HV) (ob : Ob) (K : HV → Ob → Prop) : Prop :=
  match x with
  | .ptr id off => match ob id with
    | some (.box T u) => (u.sto = true ∧ v.sto = true ∧ v.cells = ti.size) ∧ hlift (HV.setAt off ti.size v u) fun u' => K .junk (upd ob id (some (.box T u'.norm)))
    | _ => False
  | .eptr id n i sz off => match ob id with
    | some (.row T sz' l) => (n = l.length ∧ sz = sz' ∧ i < l.length ∧ v.sto = true ∧ v.cells = ti.size) ∧ hlift (HV.setAt off ti.size v (.c (nth l i))) fun u' => hlift u'.toC fun cu => K .junk (upd ob id (some (.row T sz' (l.set i cu))))
    | _ => False
  | _ => False

section
variable {P : Program} {c : Ctx} {M : Nat → Prop} {fr : Fr} {ob : Ob} {a : Act} {w : World} {ρ : Env}

theorem run_storeVar' {t : TypeId} {i : TypeInfo} (hi : P.info? t = some i) (y : Value) (hy : y.cells.size = i.size) (b off : Nat) (T : TypeId) (cur : Array Value) (hb : w.heap[b]? = some (.cells cur T (0, 0)))
    (hfit : off + i.size ≤ cur.size) (h1 : ∀ u ∈ y.cells.toList, u.oneCell' = true) :
    (Instr.storeAt t (.pointer (some ⟨b, off, none⟩)) y).run P w = .ok () (w.setRow b (cur.toList.take off ++ y.cells.toList ++ cur.toList.drop (off + y.cells.toList.length)).toArray) := by
  have := run_storeCells_at P b off T y.cells.toList 0 cur w hb (by simp; omega) h1
  simp only [Nat.add_zero] at this
  simp [Instr.storeAt, Instr.sureAddr, storeVar, run_sizeOf' hi, hy, this]

theorem setAt_cells {l1 l2 l3 x : List Value} (h : x.length = l2.length) : (l1 ++ l2 ++ l3).take l1.length ++ x ++ (l1 ++ l2 ++ l3).drop (l1.length + x.length) = l1 ++ x ++ l3 := by
  rw [h]; simp

theorem store_sound (h : RepA' c M fr ob a w ρ) {t : TypeId} {ti : TyI} (ht : tyOf P t = some ti) {x y : Operand} {K : HV → Ob → Prop} (hl : hstore ti (ev fr x) (ev fr y) ob K) :
    ∃ ob' w', K .junk ob' ∧ (Instr.storeAt t (a.eval x) (a.eval y)).run P w = .ok () w' ∧ ∀ d z, (∀ k, d = some k → k < c.n) → RepA' c M (updo fr d .junk) ob' (a.put d z) w' ρ := by
  obtain ⟨i, d, zv, hty⟩ := tyOf_ok ht
  have hmx := h.evm x
  have hmy := h.evm y
  unfold hstore at hl
  split at hl
  · rename_i id off hx
    split at hl
    · rename_i T u ho
      obtain ⟨⟨hs, hvs, hvc⟩, hl⟩ := hl
      rw [hlift_iff] at hl
      obtain ⟨u', hset, hK⟩ := hl
      obtain ⟨b, hρ, he⟩ := ptr_live h hx (by rw [ho]; rfl)
      obtain ⟨b', cs, hρ', hb, hu⟩ := h.box ho
      rw [hρ] at hρ'; cases hρ'
      have hvr := h.ev y (by intro e; rw [e] at hvs; simp [HV.sto] at hvs)
      obtain ⟨c1, c2, c3, rfl, e1, e2, e3, e4, e5⟩ := HV.setAt_spec hvs hset hs hu
      have hvl : (a.eval y).cells.toList.length = c2.length := by rw [repH_len hvr.1, hvc, e2]
      have hrun := run_storeVar' (P := P) (w := w) hty.info (a.eval y) (by rw [hty.size, ← hvc, ← repH_len hvr.1]; simp) b off T _ hb (by simp [hty.size]; omega) (repH_one hvs hvr.1)
      refine ⟨_, _, hK, by rw [he]; exact hrun, fun d z hd => ?_⟩
      have hcells : (((c1 ++ c2 ++ c3).toArray.toList.take off ++ (a.eval y).cells.toList ++ (c1 ++ c2 ++ c3).toArray.toList.drop (off + (a.eval y).cells.toList.length))) = c1 ++ (a.eval y).cells.toList ++ c3 := by
        rw [← e1]; exact setAt_cells hvl
      rw [hcells]
      have hmu : u'.men M := e5 M hmy (h.mo id _ ho).2
      refine h.setObj hρ rfl (h.mo id _ ho).1 (fun b' hb' => setRow_other w b b' _ hb') (setRow_size _ _ _) rfl rfl rfl (fun hst => ?_) (HV.norm_men hmu) (fun _ => .inl rfl) (by simp [HV.men]) hd
      exact ⟨b, _, hρ, setRow_heap w b _ _ T (0, 0) hb, HV.norm_rep (RepH.stay hst (Moves.refl M ρ) hmu (e3 _ hvr.1))⟩
    · exact hl.elim
  · rename_i id n i' sz off hx
    split at hl
    · rename_i T sz' l ho
      obtain ⟨⟨hn, hsz, hi, hvs, hvc⟩, hl⟩ := hl
      subst hn hsz
      rw [hlift_iff] at hl
      obtain ⟨u', hset, hl⟩ := hl
      rw [hlift_iff] at hl
      obtain ⟨cu, hcu, hK⟩ := hl
      obtain ⟨g, cap, hρ, he⟩ := eptr_live h hx (by rw [ho]; exact ⟨rfl, fun e => by rw [e] at hi; simp at hi⟩)
      obtain ⟨hd', xs, hρ', hl2, hcs, how⟩ := h.rowO ho
      rw [hρ] at hρ'; cases hρ'
      have hvr := h.ev y (by intro e; rw [e] at hvs; simp [HV.sto] at hvs)
      obtain ⟨d1, d2, d3, rfl, f1, f2, f3⟩ := repL_set (u := cu) hl2 hcs hi
      obtain ⟨c1, c2, c3, rfl, e1, e2, e3, e4, e5⟩ := HV.setAt_spec (ρ := ρ) hvs hset rfl (by simpa only [RepH] using f2)
      have hvl : (a.eval y).cells.toList.length = c2.length := by rw [repH_len hvr.1, hvc, e2]
      rcases how.2 with ⟨e, _⟩ | ⟨g', cap', cur, e, hg0, hh, hcap, hmax, hcsz, htake⟩
      · cases e
      · cases e
        have hcur : cur.toList = (d1 ++ c1) ++ c2 ++ (c3 ++ d3 ++ cur.toList.drop (l.length * sz)) := by
          refine (List.take_append_drop (l.length * sz) cur.toList).symm.trans ?_
          rw [htake]; simp
        have hclen : cur.size = cur.toList.length := by simp
        have hoff : i' * sz + off = (d1 ++ c1).length := by simp [f1, e1]
        have hrun := run_storeVar' (P := P) (w := w) hty.info (a.eval y) (by rw [hty.size, ← hvc, ← repH_len hvr.1]; simp) g (i' * sz + off) T cur hh
          (by rw [hclen, hcur, hoff]; simp only [List.length_append]; rw [hty.size, ← e2]; omega) (repH_one hvs hvr.1)
        refine ⟨_, _, hK, by rw [he]; exact hrun, fun d z hd => ?_⟩
        have hnew : cur.toList.take (i' * sz + off) ++ (a.eval y).cells.toList ++ cur.toList.drop (i' * sz + off + (a.eval y).cells.toList.length) = (d1 ++ c1) ++ (a.eval y).cells.toList ++ (c3 ++ d3 ++ cur.toList.drop (l.length * sz)) := by
          rw [hoff]
          conv => lhs; rw [hcur]
          exact setAt_cells hvl
        rw [hnew]
        have hcells : (∀ v ∈ l.set i' cu, v.cells = sz) := by
          intro v hv
          rcases List.mem_or_eq_of_mem_set hv with hv | rfl
          · exact hcs v hv
          · have h1 := repC_len (HV.toC_spec hcu (e3 _ hvr.1))
            have h2 := repC_len f2
            rw [hcs _ (nth_mem hi)] at h2
            simp only [List.length_append] at h1 h2
            omega
        have hxs : RepL w (Owned ρ c.X) (l.set i' cu) (d1 ++ (c1 ++ (a.eval y).cells.toList ++ c3) ++ d3) := f3 _ (HV.toC_spec hcu (e3 _ hvr.1))
        refine h.setObj (b0 := g) hρ (by simp [Loc.has, Value.ownBlock]) (h.mo id _ ho).1 (fun b' hb' => setRow_other w g b' _ hb') (setRow_size _ _ _) rfl rfl rfl (fun hst => ?_) trivial (fun _ => .inl rfl) (by simp [HV.men]) hd
        refine ⟨_, _, hρ, hxs.stay hst, hcells, ?_, .inr ⟨g, cap, _, by rw [List.length_set], Nat.zero_le _, setRow_heap w g _ _ T (0, 0) hh, by simpa using hcap, hmax, ?_, ?_⟩⟩
        · have := how.1
          simp only [List.length_append, List.length_set] at this ⊢
          omega
        · rw [← hcsz, hclen]
          conv => rhs; rw [hcur]
          simp only [List.size_toArray, List.length_append]
          omega
        · have := how.1
          rw [List.length_set]
          simp only [List.length_append] at this
          have e : (d1 ++ c1 ++ (a.eval y).cells.toList ++ (c3 ++ d3 ++ cur.toList.drop (l.length * sz))) = (d1 ++ (c1 ++ (a.eval y).cells.toList ++ c3) ++ d3) ++ cur.toList.drop (l.length * sz) := by simp
          rw [e]
          refine List.take_left' ?_
          simp only [List.length_append]
          omega
    · exact hl.elim
  · exact hl.elim

/-- A NEW VARIABLE. -/
theorem new_sound {M' : Nat → Prop} (h : RepA' c M fr ob a w ρ) {nid : Nat} (hn : ¬ M nid) (hM : ∀ i, M i → M' i) (hM' : M' nid) (t : TypeId) {v : HV} {y : Value} (hv : RepV w ρ (Owned ρ c.X) v y) (hm : v.men M)
    (d : Option Nat) (hd : ∀ k, d = some k → k < c.n) :
    RepA' c M' (updo fr d (.ptr nid 0)) (upd ob nid (some (.box t v))) (a.put d (.pointer (some ⟨w.heap.size, 0, none⟩))) (w.alloc (.cells y.cells t)) (upd ρ nid (some (.blk w.heap.size))) := by
  refine h.newObj (w1 := w) hn hM hM' rfl rfl rfl rfl (fun _ hb => hb) (fun hst => ?_) (HV.men_mono hM hm) (.inr (repV_ptr' (upd_same _ _ _))) (by simpa [HV.men] using hM') hd
  refine ⟨w.heap.size, y.cells.toList, upd_same _ _ _, ?_, RepH.stay hst (Moves.upd_new hn) hm hv.1⟩
  rw [Array.toArray_toList]; exact heap_alloc_new w _

theorem alloc_sound {M' : Nat → Prop} (h : RepA' c M fr ob a w ρ) {nid : Nat} (hn : ¬ M nid) (hM : ∀ i, M i → M' i) (hM' : M' nid) {t : TypeId} {ti : TyI} (ht : tyOf P t = some ti)
    (d : Option Nat) (hd : ∀ k, d = some k → k < c.n) :
    ∃ y w' ρ', (Instr.alloc t true (.tuple #[])).run P w = .ok y w' ∧ RepA' c M' (updo fr d (.ptr nid 0)) (upd ob nid (some (.box t (.c ti.z)))) (a.put d y) w' ρ' := by
  obtain ⟨i, d', zv, hty⟩ := tyOf_ok ht
  refine ⟨_, _, _, ?_, new_sound h hn hM hM' t (v := .c ti.z) (y := zv) ⟨by simp only [RepH]; exact hty.rep w _, by rw [HV.isAgg, hty.agg]⟩ (by simp [HV.men]) d hd⟩
  simp [Instr.alloc, zeroValue, typeInfo, hty.info, hty.zero, newVar, newRow]

theorem box_sound {M' : Nat → Prop} (h : RepA' c M fr ob a w ρ) {nid : Nat} (hn : ¬ M nid) (hM : ∀ i, M i → M' i) (hM' : M' nid) {t : TypeId} {x : Operand} (hx : ev fr x ≠ .junk)
    (d : Option Nat) (hd : ∀ k, d = some k → k < c.n) :
    ∃ y w' ρ', (Instr.box t (a.eval x)).run P w = .ok y w' ∧ RepA' c M' (updo fr d (.ptr nid 0)) (upd ob nid (some (.box t (ev fr x)))) (a.put d y) w' ρ' :=
  ⟨_, _, _, by simp [Instr.box, newVar, newRow], new_sound h hn hM hM' t (h.ev x hx) (h.evm x) d hd⟩
end
end Go.Hl
