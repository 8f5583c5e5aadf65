/- HL, part H: parts of values, equality, numbers, strings. By an AI agent. -/
import Derived.Test.YtbmeabkgdpfpbaaHlG
set_option linter.unusedSimpArgs false
set_option linter.unusedVariables false
namespace Go.Hl
open Go

section
variable {P : Program} {w : World}

theorem run_part' {t : TypeId} {ti : TyI} {i : TypeInfo} {d : TypeDesc} {zv : Value} (ht : TyOk P t ti i d zv) (c1 c2 c3 : List Value) (h2 : c2.length = ti.size) :
    (part t (c1 ++ c2 ++ c3).toArray c1.length).run P w = .ok (mkVal ti.d.isAgg c2) w := by
  have ha : (Go.isAgg t).run P w = .ok ti.d.isAgg w := by rw [run_isAgg' ht.under, ht.d_]
  simp only [part, Sem.run_bind, ha, Result.andThen_ok]
  cases hag : ti.d.isAgg with
  | true =>
    simp only [if_true, Sem.run_bind, run_sizeOf' ht.info, Result.andThen_ok, Sem.run_pure, mkVal]
    rw [ht.size, ← h2]
    congr 2
    simp [List.extract_eq_take_drop]
  | false =>
    have hz : ti.z.isAgg = false := by rw [← ht.dagg, hag]
    have h1 : ti.size = 1 := by
      have := ht.zsize
      have hzv : Value.isAgg' zv = false := by rw [ht.agg, hz]
      rw [cells_single hzv] at this
      simpa using this.symm
    match c2, h2 with
    | [u], _ => simp [mkVal]
    | [], h2 => simp at h2; omega
    | _ :: _ :: _, h2 => simp at h2; omega
end

/-! ## Equality of plain values -/
mutual
def CV.eqv : CV → CV → Bool
  | .bool a, .bool b => a == b
  | .int _ a, .int _ b => a == b
  | .str a, .str b => a == b
  | .agg l, .agg l' => CV.eqvL l l'
  | _, _ => false
def CV.eqvL : List CV → List CV → Bool
  | [], [] => true
  | a :: as, b :: bs => a.eqv b && CV.eqvL as bs
  | _, _ => false
end

def cmpOk (P : Program) : Nat → TypeId → Bool
  | 0, _ => false
  | n + 1, t =>
    match P.underlying t with
    | some .bool | some (.int _) | some .string => true
    | some (.array _ e) => cmpOk P n e
    | some (.struct fs) => (fs.toList.all fun f => f.name != "_" && cmpOk P n f.type) && !P.stoodInHeld t
    | _ => false
def aggEq (P : Program) (t : TypeId) : Bool := cmpOk P 8 t && !P.eqGuardType P.depth t

mutual
def CV.ofTy (P : Program) : Nat → TypeId → CV → Bool
  | 0, _, _ => false
  | n + 1, t, v =>
    match tyOf P t with
    | none => false
    | some ti => match ti.d, v with
      | .bool, .bool _ => true
      | .int q, .int q' _ => q' == q
      | .string, .str _ => true
      | .array m e, .agg l => l.length == m && l.all (fun v => v.cells == P.cellsOf e) && CV.ofTyA P n e l
      | .struct fs, .agg l => CV.ofTyF P n fs l
      | _, _ => false
def CV.ofTyA (P : Program) : Nat → TypeId → List CV → Bool
  | _, _, [] => true
  | n, e, v :: vs => CV.ofTy P n e v && CV.ofTyA P n e vs
def CV.ofTyF (P : Program) : Nat → List (Nat × TypeId) → List CV → Bool
  | _, [], [] => true
  | n, f :: fs, v :: vs => CV.ofTy P n f.2 v && v.cells == P.cellsOf f.2 && CV.ofTyF P n fs vs
  | _, _, _ => false
end

section
variable {P : Program} {w : World} {O : Nat → Prop}

/-- What is asked of the element types. -/
def EqC (P : Program) (d n : Nat) (t : TypeId) : Prop :=
  ∀ (w : World) (O O' : Nat → Prop) (x y : CV) (xs ys : List Value), CV.ofTy P n t x = true → CV.ofTy P n t y = true → RepC w O x xs → RepC w O' y ys →
    (Op.equalIn (d + n) t (mkVal x.isAgg xs) (mkVal y.isAgg ys)).run P w = .ok (x.eqv y) w ∧ x.isAgg = y.isAgg

theorem ofTy_agg {n : Nat} {t : TypeId} {v : CV} {ti : TyI} {i : TypeInfo} {d : TypeDesc} {zv : Value} (ht : tyOf P t = some ti) (_ : TyOk P t ti i d zv) (h : CV.ofTy P n t v = true) : v.isAgg = ti.d.isAgg := by
  cases n with
  | zero => simp [CV.ofTy] at h
  | succ n =>
    unfold CV.ofTy at h
    rw [ht] at h
    simp only at h
    split at h <;> first | (rename_i h1; rw [h1]; rfl) | (rename_i h1 _; rw [h1]; rfl) | cases h | skip
    all_goals (first | (rename_i h1 h2; rw [h1]; rfl) | rfl | simp_all [TyD.isAgg, CV.isAgg])

theorem run_items (d n : Nat) {e : TypeId} (hE : EqC P d n e) {te : TyI} {ie : TypeInfo} {de : TypeDesc} {zve : Value} (hte : tyOf P e = some te) (htye : TyOk P e te ie de zve)
    (w : World) (O O' : Nat → Prop) : ∀ (l l' : List CV) (k : Nat) (px sx py sy : List Value), CV.ofTyA P n e l = true → CV.ofTyA P n e l' = true → (∀ v ∈ l, v.cells = te.size) → (∀ v ∈ l', v.cells = te.size) → l.length = l'.length →
      px.length = k * te.size → py.length = k * te.size → RepL w O l sx → RepL w O' l' sy →
      (Op.eqItems (d + n) e te.size (px ++ sx).toArray (py ++ sy).toArray (List.range' k l.length)).run P w = .ok (CV.eqvL l l') w
  | [], [], k, px, sx, py, sy, _, _, _, _, _, _, _, _, _ => by simp [Op.eqItems, CV.eqvL]
  | v :: vs, u :: us, k, px, sx, py, sy, h1, h2, c1, c2, hl, e1, e2, r1, r2 => by
    simp only [CV.ofTyA, Bool.and_eq_true] at h1 h2
    simp only [RepL] at r1 r2
    obtain ⟨a1, a2, rfl, r1, r1'⟩ := r1
    obtain ⟨b1, b2, rfl, r2, r2'⟩ := r2
    have la : a1.length = te.size := by rw [repC_len r1]; exact c1 v (by simp)
    have lb : b1.length = te.size := by rw [repC_len r2]; exact c2 u (by simp)
    have ga := ofTy_agg hte htye h1.1
    have gb := ofTy_agg hte htye h2.1
    obtain ⟨hr, _⟩ := hE w O O' v u a1 b1 h1.1 h2.1 r1 r2
    have pa := run_part' (w := w) htye px a1 a2 la
    have pb := run_part' (w := w) htye py b1 b2 lb
    rw [List.append_assoc] at pa pb
    rw [e1] at pa
    rw [e2] at pb
    have ih := run_items d n hE hte htye w O O' vs us (k + 1) (px ++ a1) a2 (py ++ b1) b2 h1.2 h2.2 (fun x hx => c1 x (by simp [hx])) (fun x hx => c2 x (by simp [hx])) (by simpa using hl)
      (by rw [List.length_append, e1, la, Nat.add_mul]; omega) (by rw [List.length_append, e2, lb, Nat.add_mul]; omega) r1' r2'
    simp only [List.append_assoc] at ih
    rw [ga, gb] at hr
    simp only [List.length_cons, List.range'_succ, Op.eqItems, Sem.run_bind, pa, pb, hr, Result.andThen_ok, CV.eqvL]
    cases v.eqv u with
    | true => simpa using ih
    | false => simp
  | [], _ :: _, _, _, _, _, _, _, _, _, _, hl, _, _, _, _ => by simp at hl
  | _ :: _, [], _, _, _, _, _, _, _, _, _, hl, _, _, _, _ => by simp at hl

theorem run_fields (d n : Nat) (w : World) (O O' : Nat → Prop) : ∀ (gs : List Field) (l l' : List CV) (px sx py sy : List Value) (zs : List CV), (∀ f ∈ gs, f.name ≠ "_" ∧ EqC P d n f.type ∧ (tyOf P f.type).isSome = true) →
      CV.ofTyF P n (gs.map fun f => (f.offset, f.type)) l = true → CV.ofTyF P n (gs.map fun f => (f.offset, f.type)) l' = true →
      layS P (gs.map fun f => (f.offset, f.type)) zs px.length = true → px.length = py.length → RepL w O l sx → RepL w O' l' sy →
      (Op.eqFields (d + n) (px ++ sx).toArray (py ++ sy).toArray gs).run P w = .ok (CV.eqvL l l') w
  | [], [], [], px, sx, py, sy, zs, _, _, _, _, _, _, _ => by simp [Op.eqFields, CV.eqvL]
  | f :: gs, v :: vs, u :: us, px, sx, py, sy, zs, hE, h1, h2, hlay, hp, r1, r2 => by
    simp only [List.map_cons, CV.ofTyF, Bool.and_eq_true, beq_iff_eq] at h1 h2
    cases zs with
    | nil => simp [layS] at hlay
    | cons z zs =>
      simp only [List.map_cons, layS, Bool.and_eq_true, beq_iff_eq] at hlay
      obtain ⟨⟨⟨o1, o2⟩, o3⟩, o4⟩ := hlay
      obtain ⟨hname, hEf, hsome⟩ := hE f (by simp)
      obtain ⟨te, hte⟩ := Option.isSome_iff_exists.1 hsome
      obtain ⟨ie, de, zve, htye⟩ := tyOf_ok hte
      have hco : P.cellsOf f.type = te.size := by simp [Program.cellsOf, htye.info, htye.size]
      simp only [RepL] at r1 r2
      obtain ⟨a1, a2, rfl, r1, r1'⟩ := r1
      obtain ⟨b1, b2, rfl, r2, r2'⟩ := r2
      have la : a1.length = te.size := by rw [repC_len r1, h1.1.2, hco]
      have lb : b1.length = te.size := by rw [repC_len r2, h2.1.2, hco]
      have ga := ofTy_agg hte htye h1.1.1
      have gb := ofTy_agg hte htye h2.1.1
      obtain ⟨hr, _⟩ := hEf w O O' v u a1 b1 h1.1.1 h2.1.1 r1 r2
      have pa := run_part' (w := w) htye px a1 a2 la
      have pb := run_part' (w := w) htye py b1 b2 lb
      rw [List.append_assoc, ← o1] at pa
      rw [List.append_assoc, ← hp, ← o1] at pb
      have ih := run_fields d n w O O' gs vs us (px ++ a1) a2 (py ++ b1) b2 zs (fun x hx => hE x (by simp [hx])) h1.2 h2.2 (by rw [List.length_append, la, ← hco, o3]; exact o4) (by simp [hp, la, lb]) r1' r2'
      simp only [List.append_assoc] at ih
      rw [ga, gb] at hr
      simp only [Op.eqFields, hname, ne_eq, not_false_eq_true, if_true, Sem.run_bind, pa, pb, hr, Result.andThen_ok, CV.eqvL]
      cases v.eqv u with
      | true => simpa using ih
      | false => simp
  | [], _ :: _, _, _, _, _, _, _, _, h1, _, _, _, _, _ => by simp [CV.ofTyF] at h1
  | [], [], _ :: _, _, _, _, _, _, _, _, h2, _, _, _, _ => by simp [CV.ofTyF] at h2
  | _ :: _, [], _, _, _, _, _, _, _, h1, _, _, _, _, _ => by simp [CV.ofTyF] at h1
  | _ :: _, _ :: _, [], _, _, _, _, _, _, _, h2, _, _, _, _ => by simp [CV.ofTyF] at h2

theorem str_beq (a b : List UInt8) : ((⟨a.toArray⟩ : ByteArray).toList == (⟨b.toArray⟩ : ByteArray).toList) = (a == b) := by rw [ByteArray.toList_mk, ByteArray.toList_mk]

theorem ofTyF_some {n : Nat} : ∀ {fs : List (Nat × TypeId)} {l : List CV}, CV.ofTyF P n fs l = true → ∀ f ∈ fs, (tyOf P f.2).isSome = true
  | [], _, _, f, hf => by simp at hf
  | g :: fs, [], h, f, hf => by simp [CV.ofTyF] at h
  | g :: fs, v :: vs, h, f, hf => by
    simp only [CV.ofTyF, Bool.and_eq_true] at h
    rcases List.mem_cons.1 hf with rfl | hf
    · cases n with
      | zero => have := h.1.1; simp [CV.ofTy] at this
      | succ n =>
        have := h.1.1
        unfold CV.ofTy at this
        split at this
        · cases this
        · rename_i h1; rw [h1]; rfl
    · exact ofTyF_some h.2 f hf

theorem eqC_all (d : Nat) : ∀ (n : Nat) (t : TypeId), cmpOk P n t = true → EqC P d n t
  | 0, _, h => by simp [cmpOk] at h
  | n + 1, t, hk => by
    intro w O O' x y xs ys hx hy rx ry
    unfold CV.ofTy at hx hy
    cases ht : tyOf P t with
    | none => rw [ht] at hx; cases hx
    | some ti =>
      rw [ht] at hx hy
      simp only at hx hy
      obtain ⟨i, de, zv, hty⟩ := tyOf_ok ht
      have hdd := hty.d_
      have hu := hty.under
      have hlay := hty.lay_
      split at hx
      · rename_i b h1
        rw [h1] at hy hdd
        cases y <;> simp at hy
        rename_i b'
        simp only [RepC] at rx ry
        subst rx; subst ry
        have hu' : P.underlying t = some .bool := by rw [hu]; congr 1; cases de <;> simp [tyd] at hdd; rfl
        exact ⟨by simp [mkVal, CV.isAgg, CV.eqv]; exact run_equalIn_bool w (d + n) t b b' hu', rfl⟩
      · rename_i q q' k h1
        rw [h1] at hy hdd
        cases y <;> simp at hy
        rename_i q2 k2
        simp only [RepC] at rx ry
        simp only [beq_iff_eq] at hx
        subst rx; subst ry; subst hx; subst hy
        have hu' : P.underlying t = some (.int q2) := by rw [hu]; congr 1; cases de <;> simp [tyd] at hdd; rw [hdd]
        exact ⟨by simp [mkVal, CV.isAgg, CV.eqv, Op.equalIn, run_underlying hu'], rfl⟩
      · rename_i s h1
        rw [h1] at hy hdd
        cases y <;> simp at hy
        rename_i s'
        simp only [RepC] at rx ry
        subst rx; subst ry
        have hu' : P.underlying t = some .string := by rw [hu]; congr 1; cases de <;> simp [tyd] at hdd; rfl
        have := run_equalIn_string (P := P) w (d + n) t ⟨s.toArray⟩ ⟨s'.toArray⟩ hu'
        rw [str_beq] at this
        exact ⟨by rw [← Nat.add_assoc]; simpa [mkVal, CV.isAgg, CV.eqv] using this, rfl⟩
      · rename_i m e l h1
        rw [h1] at hy hdd hlay
        cases y <;> simp at hy
        rename_i l'
        simp only [Bool.and_eq_true, beq_iff_eq, List.all_eq_true] at hx
        have hu' : P.underlying t = some (.array m e) := by rw [hu]; congr 1; cases de <;> simp [tyd] at hdd; rw [hdd.1, hdd.2]
        simp only [cmpOk, hu'] at hk
        simp only [RepC] at rx ry
        by_cases hm : m = 0
        · subst hm
          have hl0 : l = [] := List.eq_nil_of_length_eq_zero hx.1.1
          have hl0' : l' = [] := List.eq_nil_of_length_eq_zero hy.1.1
          subst hl0; subst hl0'
          exfalso
          have hz := hty.zsize
          cases hzz : ti.z with
          | agg zs =>
            rw [hzz] at hlay
            simp only [lay, Bool.and_eq_true, beq_iff_eq] at hlay
            have : zs = [] := List.eq_nil_of_length_eq_zero hlay.1
            subst this
            have hr := hty.rep w O
            rw [hzz] at hr
            simp only [RepC, RepL] at hr
            have hp := hty.pos
            have : zv.cells.size = 0 := by simpa using congrArg List.length hr
            omega
          | _ => rw [hzz] at hlay; simp [lay] at hlay
        · have hne : l ≠ [] := fun e => by rw [e] at hx; simp at hx; omega
          have hsome : (tyOf P e).isSome = true := by
            cases l with
            | nil => exact absurd rfl hne
            | cons v vs =>
              have := hx.2
              simp only [CV.ofTyA, Bool.and_eq_true] at this
              cases n with
              | zero => have := this.1; simp [CV.ofTy] at this
              | succ n =>
                have := this.1
                unfold CV.ofTy at this
                split at this
                · cases this
                · rename_i h1; rw [h1]; rfl
          obtain ⟨te, hte⟩ := Option.isSome_iff_exists.1 hsome
          obtain ⟨ie, de', zve, htye⟩ := tyOf_ok hte
          have hco : P.cellsOf e = te.size := by simp [Program.cellsOf, htye.info, htye.size]
          have := run_items d n (eqC_all d n e hk) hte htye w O O' l l' 0 [] xs [] ys hx.2 hy.2 (fun v hv => by rw [hx.1.2 v hv, hco]) (fun v hv => by rw [hy.1.2 v hv, hco]) (by rw [hx.1.1, hy.1.1]) (by simp) (by simp) rx ry
          refine ⟨?_, rfl⟩
          rw [← Nat.add_assoc]
          simp only [mkVal, CV.isAgg, if_true, CV.eqv]
          rw [run_equalIn_array w (d + n) xs.toArray ys.toArray hu' htye.info, hco, List.range_eq_range', ← hx.1.1]
          simpa using this
      · rename_i fs l h1
        rw [h1] at hy hdd hlay
        cases y <;> simp at hy
        rename_i l'
        have hgs : ∃ gs, P.underlying t = some (.struct gs) ∧ fs = gs.toList.map fun f => (f.offset, f.type) := by
          cases de <;> simp [tyd] at hdd
          exact ⟨_, hu, hdd.symm⟩
        obtain ⟨gs, hu', rfl⟩ := hgs
        simp only [cmpOk, hu', Bool.and_eq_true, List.all_eq_true, bne_iff_ne, Bool.not_eq_true'] at hk
        simp only [RepC] at rx ry
        have hfo : P.fieldsOf t = gs := by simp [Program.fieldsOf, hu']
        cases hzz : ti.z with
        | agg zs =>
          rw [hzz] at hlay
          simp only [lay] at hlay
          have := run_fields d n w O O' gs.toList l l' [] xs [] ys zs (fun f hf => ⟨(hk.1 f hf).1, eqC_all d n f.type (hk.1 f hf).2, ofTyF_some hx (f.offset, f.type) (by exact List.mem_map.2 ⟨f, hf, rfl⟩)⟩) hx hy (by simpa using hlay) rfl rx ry
          refine ⟨?_, rfl⟩
          rw [← Nat.add_assoc]
          simp only [mkVal, CV.isAgg, if_true, CV.eqv]
          rw [run_equalIn_struct w (d + n) t xs.toArray ys.toArray (by rw [hfo]; exact hu') hk.2, hfo]
          simpa using this
        | _ => rw [hzz] at hlay; simp [lay] at hlay
      · cases hx
end
end Go.Hl
