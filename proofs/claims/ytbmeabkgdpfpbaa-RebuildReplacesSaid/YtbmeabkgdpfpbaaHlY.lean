/- HL, part Y: contracts of functions that are handed a function value over a box, a row of one's own, a row of a map. By an AI agent. -/
import Derived.Test.YtbmeabkgdpfpbaaHlW
set_option linter.unusedSimpArgs false
set_option linter.unusedVariables false
namespace Go.Hl
open Go

def gone (ob : Ob) (id : Nat) : Ob := fun i => if i = id then none else ob i
theorem gone_at (ob : Ob) (id i : Nat) : gone ob id i = if i = id then none else ob i := rfl
mutual
def CV.flatv : CV → Bool
  | .bool _ => true
  | .int _ _ => true
  | .str _ => true
  | .agg l => CV.flatvL l
  | _ => false
def CV.flatvL : List CV → Bool
  | [] => true
  | v :: l => v.flatv && CV.flatvL l
end

theorem obAfter_same {ob lob : Ob} {σ : List Nat} {nid : Nat} (hn : σ.Nodup) (h1 : ∀ j, j < σ.length → ∃ o, lob j = some o ∧ ob (σ.getD j 0) = some (o.ren (sub σ nid))) (h2 : ∀ j, σ.length ≤ j → lob j = none) (h3 : ∀ i, nid ≤ i → i < nid + 4 → ob i = none) :
    obAfter ob σ nid lob = ob := by
  funext i
  unfold obAfter
  split
  · rename_i j hj
    obtain ⟨hjl, hje, _⟩ := List.findIdx?_eq_some_iff_getElem.1 hj
    obtain ⟨o, e1, e2⟩ := h1 j hjl
    have : σ.getD j 0 = i := by rw [List.getD_eq_getElem?_getD, List.getElem?_eq_getElem hjl]; simpa using hje
    rw [e1, ← this, e2]; rfl
  · split
    · rename_i h; rw [h2 _ (by omega), h3 i h.1 h.2]; rfl
    · rfl
theorem obAfter_gone {ob lob : Ob} {σ : List Nat} {nid id : Nat} (hn : σ.Nodup) (h0 : σ[0]? = some id) (hl0 : lob 0 = none) (h1 : ∀ j, 0 < j → j < σ.length → ∃ o, lob j = some o ∧ ob (σ.getD j 0) = some (o.ren (sub σ nid))) (h2 : ∀ j, σ.length ≤ j → lob j = none) (h3 : ∀ i, nid ≤ i → i < nid + 4 → ob i = none) :
    obAfter ob σ nid lob = gone ob id := by
  funext i
  unfold obAfter gone
  split
  · rename_i j hj
    obtain ⟨hjl, hje, _⟩ := List.findIdx?_eq_some_iff_getElem.1 hj
    have this : σ[j] = i := by simpa using hje
    by_cases e : j = 0
    · subst e
      rw [List.getElem?_eq_getElem hjl] at h0
      have e2 : i = id := by rw [← this]; exact Option.some.inj h0
      rw [hl0, if_pos e2]; rfl
    · obtain ⟨o, e1, e2⟩ := h1 j (by omega) hjl
      have hne : i ≠ id := by
        intro e3
        have h0l : 0 < σ.length := by omega
        rw [List.getElem?_eq_getElem h0l] at h0
        have := (List.pairwise_iff_getElem.1 hn) 0 j h0l hjl (by omega)
        exact this ((Option.some.inj h0).trans (e3.symm.trans (by rw [← ‹σ[j] = i›])))
      have e4 : σ.getD j 0 = i := by rw [List.getD_eq_getElem?_getD, List.getElem?_eq_getElem hjl]; simpa using this
      rw [e1, if_neg hne, ← e4, e2]; rfl
  · rename_i hno
    have hne : i ≠ id := by
      rintro rfl
      rw [List.findIdx?_eq_none_iff] at hno
      exact absurd (hno i (List.mem_of_getElem? h0)) (by simp)
    rw [if_neg hne]
    split
    · rename_i h; rw [h2 _ (by omega), h3 i h.1 h.2]; rfl
    · rfl

def Free4 (ob : Ob) (nid : Nat) : Prop := ob nid = none ∧ ob (nid + 1) = none ∧ ob (nid + 2) = none ∧ ob (nid + 3) = none
theorem Free4.all {ob : Ob} {nid : Nat} (h : Free4 ob nid) : ∀ i, nid ≤ i → i < nid + 4 → ob i = none := fun i h1 h2 => by
  have : i = nid ∨ i = nid + 1 ∨ i = nid + 2 ∨ i = nid + 3 := by omega
  rcases this with rfl | rfl | rfl | rfl
  · exact h.1
  · exact h.2.1
  · exact h.2.2.1
  · exact h.2.2.2

/-! ## The contracts -/
/-- What hands back a closed value and leaves the box as it was. -/
def keeps (T : TypeId) (v : CV) (R : CV → Prop) : HV → Ob → Prop := fun r ob' => ∃ u v', r = .c u ∧ ob' = fob [(0, .box T (.c v'))] ∧ (v' = v ∧ u.flatv = true ∧ R u)
/-- A function literal that has captured one box. -/
def HClo (P : Program) (f : FuncId) (T : TypeId) (v : CV) (args : List CV) (R : CV → Prop) : Prop := HFn P f (args.map HV.c ++ [HV.ptr 0 0]) 1 (fob [(0, .box T (.c v))]) (keeps T v R)
/-- A function over a closed slice and such a function value. -/
def HIdx (P : Program) (f : FuncId) (g : FuncId) (T : TypeId) (v : CV) (l : List CV) (R : CV → Prop) : Prop := HFn P f [.c (.slc l), .clo g [.ptr 0 0]] 1 (fob [(0, .box T (.c v))]) (keeps T v R)
/-- A function that uses up a row of one's own, and is handed such a function value. -/
def HDel (P : Program) (f : FuncId) (g : FuncId) (T : TypeId) (v : CV) (e : TypeId) (sz : Nat) (l : List CV) (R : CV → Prop) : Prop :=
  HFn P f [.own 0 l.length, .clo g [.ptr 1 0]] 2 (fob [(0, .row e sz l), (1, .box T (.c v))]) (fun r ob' => ∃ u, r = .c u ∧ ob' = fob [(1, .box T (.c v))] ∧ R u)
/-- A function that uses up a row of one's own. -/
def HTake (P : Program) (f : FuncId) (e : TypeId) (sz : Nat) (l : List CV) (R : CV → Prop) : Prop := HFn P f [.own 0 l.length] 1 (fob [(0, .row e sz l)]) (fun r ob' => ∃ u, r = .c u ∧ ob' = none0 ∧ R u)

theorem locOk_clo (T : TypeId) (v : CV) (args : List CV) : LocOk 1 (args.map HV.c ++ [HV.ptr 0 0]) (fob [(0, .box T (.c v))]) := by
  have h := locOk_box T v []
  exact ⟨h.all, h.none, by rw [HV.menL_append]; exact ⟨HV.menL_c, by simp [HV.menL, HV.men]⟩⟩
theorem locOk_idx (g : FuncId) (T : TypeId) (v : CV) (l : List CV) : LocOk 1 [.c (.slc l), .clo g [.ptr 0 0]] (fob [(0, .box T (.c v))]) := by
  have h := locOk_box T v []
  exact ⟨h.all, h.none, by simp [HV.menL, HV.men]⟩
theorem locOk_del (g : FuncId) (T : TypeId) (v : CV) (e : TypeId) (sz n : Nat) (l : List CV) : LocOk 2 [.own 0 n, .clo g [.ptr 1 0]] (fob [(0, .row e sz l), (1, .box T (.c v))]) := by
  refine ⟨fun j h => ?_, fun id o h => ?_, by simp [HV.menL, HV.men]⟩
  · have : j = 0 ∨ j = 1 := by omega
    rcases this with rfl | rfl
    · exact ⟨_, rfl⟩
    · exact ⟨_, rfl⟩
  · simp only [fob_at, fob_nil] at h
    split at h
    · cases h; rename_i e; subst e; exact ⟨by omega, trivial⟩
    · split at h
      · cases h; rename_i e; subst e; exact ⟨by omega, by simp [HO.men, HV.men]⟩
      · cases h
theorem locOk_take (e : TypeId) (sz n : Nat) (l : List CV) : LocOk 1 [.own 0 n] (fob [(0, .row e sz l)]) := by
  refine ⟨fun j h => ?_, fun id o h => ?_, by simp [HV.menL, HV.men]⟩
  · have : j = 0 := by omega
    subst this; exact ⟨_, rfl⟩
  · simp only [fob_at, fob_nil] at h
    split at h
    · cases h; rename_i e; subst e; exact ⟨by omega, trivial⟩
    · cases h

/-! ## Returns -/
theorem hret_keeps {ob : Ob} {r : HV} {T : TypeId} {R : CV → Prop} {w : HV} (cl : List Nat) (u v : CV) (h : (r.close ob cl).norm = .c u) (hb : ob 0 = some (.box T w)) (hw : (w.close ob cl).norm = .c v) (h0 : 0 ∉ cl) (hu : u.flatv = true) (hR : R u) : HRet 1 r ob (keeps T v R) :=
  hret_box cl u v h hb hw h0 ⟨rfl, hu, hR⟩
theorem hret_del {ob : Ob} {r : HV} {T : TypeId} {R : CV → Prop} {w : HV} (cl : List Nat) (u v : CV) (h : (r.close ob cl).norm = .c u) (hb : ob 1 = some (.box T w)) (hw : (w.close ob cl).norm = .c v) (h0 : 1 ∉ cl) (hR : R u) :
    HRet 2 r ob (fun r ob' => ∃ u, r = .c u ∧ ob' = fob [(1, .box T (.c v))] ∧ R u) := by
  refine ⟨cl, id, .c u, fob [(1, .box T (.c v))], ⟨u, rfl, rfl, hR⟩, by rw [h]; rfl, fun _ _ => rfl, fun _ _ _ _ h => h, by simp [HV.men], fun j o ho => ?_⟩
  simp only [fob_at, fob_nil] at ho
  split at ho
  · rename_i e; subst e
    cases ho
    refine ⟨by omega, by simp [HO.men, HV.men], h0, .box T w, hb, ?_⟩
    simp only [hw]; rfl
  · cases ho
theorem hret_take {ob : Ob} {r : HV} {R : CV → Prop} (cl : List Nat) (u : CV) (h : (r.close ob cl).norm = .c u) (hR : R u) : HRet 1 r ob (fun r ob' => ∃ u, r = .c u ∧ ob' = none0 ∧ R u) :=
  ⟨cl, id, .c u, none0, ⟨u, rfl, rfl, hR⟩, by rw [h]; rfl, fun _ _ => rfl, fun _ _ _ _ h => h, by simp [HV.men], fun j o h => by simp [none0] at h⟩

/-! ## Calls -/
section
variable {P : Program} {av : List Nat} {f g : FuncId} {ob : Ob} {nid id id2 n : Nat} {K : HV → Ob → Prop} {T e : TypeId} {sz : Nat} {v : CV} {l : List CV} {R : CV → Prop}

theorem call_clo {args : List CV} (h : HClo P f T v args R) (hid : ob id = some (.box T (.c v))) (hav : id ∉ av) (hfree : Free4 ob nid) (hK : ∀ u, R u → K (.c u) ob) : HCall P av f (args.map HV.c ++ [HV.ptr id 0]) ob nid K := by
  have hsub : sub [id] nid 0 = id := rfl
  refine ⟨[id], (args.map HV.c ++ [HV.ptr 0 0] : List HV), fob [(0, .box T (.c v))], keeps T v R, h, locOk_clo T v args, ⟨by simp, by simpa using hav⟩, ?_, fun j o hj => ?_, fun r lob' hR _ => ?_⟩
  · have : ∀ l1 l2 : List HV, HV.renL (sub [id] nid) (l1 ++ l2) = HV.renL (sub [id] nid) l1 ++ HV.renL (sub [id] nid) l2 := by
      intro l1 l2; induction l1 with
      | nil => rfl
      | cons x l ih => simp only [List.cons_append, HV.renL, ih]
    rw [this, HV.renL_c]; simp only [HV.renL, HV.ren, hsub]
  · simp only [fob_at, fob_nil] at hj
    split at hj
    · rename_i e; subst e; cases hj; simpa [HO.ren, HV.ren] using hid
    · cases hj
  · obtain ⟨u, v', rfl, rfl, rfl, _, hR⟩ := hR
    rw [obAfter_same (by simp) (fun j hj => ?_) (fun j hj => ?_) hfree.all]
    · exact hK u hR
    · have : j = 0 := by simp at hj; omega
      subst this; exact ⟨_, rfl, by simpa [HO.ren, HV.ren] using hid⟩
    · simp only [List.length_cons, List.length_nil] at hj
      rw [fob_at, if_neg (by omega)]; rfl

theorem call_idx (h : HIdx P f g T v l R) (hid : ob id = some (.box T (.c v))) (hav : id ∉ av) (hfree : Free4 ob nid) (hK : ∀ u, R u → K (.c u) ob) : HCall P av f [.c (.slc l), .clo g [.ptr id 0]] ob nid K := by
  have hsub : sub [id] nid 0 = id := rfl
  refine ⟨[id], _, _, _, h, locOk_idx g T v l, ⟨by simp, by simpa using hav⟩, by simp only [HV.renL, HV.ren, hsub], fun j o hj => ?_, fun r lob' hR _ => ?_⟩
  · simp only [fob_at, fob_nil] at hj
    split at hj
    · rename_i e; subst e; cases hj; simpa [HO.ren, HV.ren] using hid
    · cases hj
  · obtain ⟨u, v', rfl, rfl, rfl, _, hR⟩ := hR
    rw [obAfter_same (by simp) (fun j hj => ?_) (fun j hj => ?_) hfree.all]
    · exact hK u hR
    · have : j = 0 := by simp at hj; omega
      subst this; exact ⟨_, rfl, by simpa [HO.ren, HV.ren] using hid⟩
    · simp only [List.length_cons, List.length_nil] at hj
      rw [fob_at, if_neg (by omega)]; rfl

theorem call_del (h : HDel P f g T v e sz l R) (hid : ob id = some (.row e sz l)) (hid2 : ob id2 = some (.box T (.c v))) (hn : n = l.length) (hav : id ∉ av ∧ id2 ∉ av) (hfree : Free4 ob nid) (hK : ∀ u, R u → K (.c u) (gone ob id)) :
    HCall P av f [.own id n, .clo g [.ptr id2 0]] ob nid K := by
  have hne : id ≠ id2 := by rintro rfl; rw [hid] at hid2; cases hid2
  have h0 : sub [id, id2] nid 0 = id := rfl
  have h1 : sub [id, id2] nid 1 = id2 := rfl
  subst hn
  refine ⟨[id, id2], _, _, _, h, locOk_del g T v e sz _ l, ⟨by simp [hne], by simpa using hav⟩, by simp only [HV.renL, HV.ren, h0, h1], fun j o hj => ?_, fun r lob' hR _ => ?_⟩
  · simp only [fob_at, fob_nil] at hj
    split at hj
    · rename_i e; subst e; cases hj; simpa [HO.ren] using hid
    · split at hj
      · rename_i e; subst e; cases hj; simpa [HO.ren, HV.ren] using hid2
      · cases hj
  · obtain ⟨u, rfl, rfl, hR⟩ := hR
    rw [obAfter_gone (id := id) (by simp [hne]) rfl rfl (fun j hj0 hj => ?_) (fun j hj => ?_) hfree.all]
    · exact hK u hR
    · have : j = 1 := by simp at hj; omega
      subst this; exact ⟨_, rfl, by simpa [HO.ren, HV.ren] using hid2⟩
    · simp only [List.length_cons, List.length_nil] at hj
      rw [fob_at, if_neg (by omega)]; rfl

theorem call_take (h : HTake P f e sz l R) (hid : ob id = some (.row e sz l)) (hn : n = l.length) (hav : id ∉ av) (hfree : Free4 ob nid) (hK : ∀ u, R u → K (.c u) (gone ob id)) :
    HCall P av f [.own id n] ob nid K := by
  have h0 : sub [id] nid 0 = id := rfl
  subst hn
  refine ⟨[id], _, _, _, h, locOk_take e sz _ l, ⟨by simp, by simpa using hav⟩, by simp only [HV.renL, HV.ren, h0], fun j o hj => ?_, fun r lob' hR _ => ?_⟩
  · simp only [fob_at, fob_nil] at hj
    split at hj
    · rename_i e; subst e; cases hj; simpa [HO.ren] using hid
    · cases hj
  · obtain ⟨u, rfl, rfl, hR⟩ := hR
    rw [obAfter_gone (lob := none0) (id := id) (by simp) rfl rfl (fun j hj0 hj => ?_) (fun j hj => rfl) hfree.all]
    · exact hK u hR
    · simp at hj; omega
end

/-! ## A row of one's own, lent for a call as a closed slice -/
mutual
theorem flatv_rep {w w' : World} {O O' : Nat → Prop} : ∀ {u : CV} {cs : List Value}, u.flatv = true → RepC w O u cs → RepC w' O' u cs
  | .bool _, cs, _, h => by simpa only [RepC] using h
  | .int _ _, cs, _, h => by simpa only [RepC] using h
  | .str _, cs, _, h => by simpa only [RepC] using h
  | .agg l, cs, hu, h => by simp only [RepC, CV.flatv] at h hu ⊢; exact flatvL_rep hu h
  | .nils, cs, hu, _ => by simp [CV.flatv] at hu
  | .slc _, cs, hu, _ => by simp [CV.flatv] at hu
  | .rp _, cs, hu, _ => by simp [CV.flatv] at hu
  | .fn _, cs, hu, _ => by simp [CV.flatv] at hu
  | .nilp, cs, hu, _ => by simp [CV.flatv] at hu
  | .nilf, cs, hu, _ => by simp [CV.flatv] at hu
  | .nili, cs, hu, _ => by simp [CV.flatv] at hu
  | .nilm, cs, hu, _ => by simp [CV.flatv] at hu
  | .ifc _ _, cs, hu, _ => by simp [CV.flatv] at hu
theorem flatvL_rep {w w' : World} {O O' : Nat → Prop} : ∀ {l : List CV} {cs : List Value}, CV.flatvL l = true → RepL w O l cs → RepL w' O' l cs
  | [], cs, _, h => by simpa only [RepL] using h
  | v :: l, cs, hu, h => by
    simp only [RepL, CV.flatvL, Bool.and_eq_true] at h hu ⊢
    obtain ⟨c1, c2, h1, h2, h3⟩ := h
    exact ⟨c1, c2, h1, flatv_rep hu.1 h2, flatvL_rep hu.2 h3⟩
end

theorem hfn_borrow {P : Program} {f g : FuncId} {T e : TypeId} {sz : Nat} {v : CV} {l : List CV} {R : CV → Prop} (hv : v.flatv = true) (h : HIdx P f g T v l R) :
    HFn P f [.own 1 l.length, .clo g [.ptr 0 0]] 2 (fob [(0, .box T (.c v)), (1, .row e sz l)]) (fun r ob' => ∃ u, r = .c u ∧ ob' = fob [(0, .box T (.c v)), (1, .row e sz l)] ∧ R u) := by
  refine ⟨h.1, fun w ρ X xs hS hA hX => ?_⟩
  let ρc : Env := fun i => if i = 1 then none else ρ i
  have hρc : ∀ i L, ρc i = some L → ρ i = some L ∧ i ≠ 1 := fun i L hL => by
    simp only [ρc] at hL; split at hL
    · cases hL
    · exact ⟨hL, by assumption⟩
  have hownc : ∀ b, Own ρc b → Own ρ b := fun b ⟨i, L, h1, h2⟩ => ⟨i, L, (hρc i L h1).1, h2⟩
  have hst : Stay w (Owned ρ X) w (Owned ρc X) := Stay.same (fun b _ hb => hb.imp (fun x => x) (hownc b))
  have hmv : ∀ M, Moves M ρ ρc := fun M i L _ hL => ⟨L, (hρc i L hL).1, .inl rfl⟩
  obtain ⟨hd, ys, hρ1, hl, hcs, how⟩ := hS.objs 1 (.row e sz l) rfl
  have hSc : RepS w ρc X (fob [(0, .box T (.c v))]) := by
    refine ⟨fun i o ho => ?_, fun i hi => ?_, fun i j L L' b h1 h2 => hS.apart i j L L' b (hρc _ _ h1).1 (hρc _ _ h2).1, fun i L b h1 => hS.xb i L b (hρc _ _ h1).1⟩
    · simp only [fob_at, fob_nil] at ho
      split at ho
      · rename_i e; subst e
        cases ho
        exact RepO.stay (M := fun _ => True) hst (hmv _) (by simp [HO.men, HV.men]) rfl (fun _ _ _ _ => rfl) (hS.objs 0 _ rfl)
      · cases ho
    · simp only [ρc]
      split
      · rfl
      · rename_i h1
        refine hS.none i ?_
        simp only [fob_at, fob_nil] at hi ⊢
        split at hi
        · cases hi
        · simp [*]
  have hA2 : RepHV w ρc (Owned ρc X) [.c (.slc l), .clo g [.ptr 0 0]] xs := by
    rw [repHV_cons] at hA ⊢
    obtain ⟨y, zs, rfl, hy, hz⟩ := hA
    refine ⟨y, zs, rfl, ?_, RepHV.stay (M := fun _ => True) hst (hmv _) (by simp [HV.menL, HV.men]) hz⟩
    obtain ⟨hy1, hy2⟩ := hy
    have hag : Value.isAgg' y = false := by rw [← hy2]; rfl
    rw [cells_single hag] at hy1
    simp only [RepH, List.cons.injEq, and_true] at hy1
    obtain ⟨x, rfl, hx1, hx2⟩ := hy1
    obtain ⟨q1, q2⟩ := hx2 hd hρ1
    have hrc : RepC w (Owned ρc X) (.slc l) [y] := by
      simp only [RepC]
      rcases how.2 with ⟨rfl, hz⟩ | ⟨g', cap, cur, rfl, hg0, hg, hcap, _⟩
      · have := q2 (by simp [hlen, hz])
        exact ⟨none, 0, ys, sz, by rw [this, hz], hl.stay hst, hcs, by omega, fun _ => rfl, fun ad had => (by cases had)⟩
      · have := q2 (by simp [hlen])
        refine ⟨some ⟨g', 0, none⟩, cap, ys, sz, by rw [this], hl.stay hst, hcs, hcap, fun hh => (by cases hh), fun ad had => ?_⟩
        cases had
        refine ⟨how.cells (g := g') rfl, fun _ => ?_⟩
        rintro (hx | ⟨i, L, h4, h5⟩)
        · exact hS.xb 1 _ g' hρ1 rfl hx
        · obtain ⟨h6, h7⟩ := hρc i L h4
          exact h7 (hS.apart i 1 L _ g' h6 hρ1 h5 rfl)
    exact ⟨by simp only [RepH]; rw [cells_single hag]; exact hrc, hag.symm⟩
  refine (h.2 w ρc X xs hSc hA2 hX).mono ?_
  rintro ex w' ⟨r, ob', ρ', x, rfl, ⟨u, v', rfl, rfl, rfl, hu, hR⟩, hg⟩
  let ρn : Env := fun i => if i = 1 then ρ 1 else ρ' i
  have hρ'1 : ρ' 1 = none := hg.s.none 1 rfl
  have hnb : ∀ b, (Loc.hdr hd).has b → ¬ Own ρc b := fun b hb ⟨i, L, h1, h2⟩ => by
    obtain ⟨h6, h7⟩ := hρc i L h1
    exact h7 (hS.apart i 1 L _ b h6 hρ1 h2 hb)
  have hblk : ∀ b, (Loc.hdr hd).has b → w'.heap[b]? = w.heap[b]? := fun b hb => hg.stay.block b (Owned.lt hS hρ1 hb) (hnb b hb)
  have hnb' : ∀ b, (Loc.hdr hd).has b → ¬ Own ρ' b := fun b hb ho => (hg.stay.own b ho).elim (hnb b hb) (fun h => absurd (Owned.lt hS hρ1 hb) (Nat.not_lt.2 h))
  have hownn : ∀ b, Own ρn b ↔ (Own ρ' b ∨ (Loc.hdr hd).has b) := fun b => by
    constructor
    · rintro ⟨i, L, h1, h2⟩
      simp only [ρn] at h1
      split at h1
      · rw [hρ1] at h1; cases h1; exact .inr h2
      · exact .inl ⟨i, L, h1, h2⟩
    · rintro (⟨i, L, h1, h2⟩ | h2)
      · refine ⟨i, L, ?_, h2⟩
        simp only [ρn]
        split
        · rename_i e; subst e; rw [hρ'1] at h1; cases h1
        · exact h1
      · exact ⟨1, _, by simp only [ρn, if_pos]; exact hρ1, h2⟩
  have hs2 : Stay2 w (Own ρ) w' (Own ρn) := by
    refine ⟨fun b hb hO => hg.stay.block b hb (fun h1 => hO (hownc b h1)), fun b hb => ?_, hg.stay.size, hg.stay.os, hg.stay.tape, hg.stay.output⟩
    rcases (hownn b).1 hb with hb | hb
    · exact (hg.stay.own b hb).imp (hownc b) (fun x => x)
    · exact .inl ⟨1, _, hρ1, hb⟩
  have hstn : Stay w (Owned ρ X) w' (Owned ρn X) := hs2.stay X
  have hmvn : Moves (· < 2) ρ ρn := fun i L hi hL => by
    simp only [ρn] at hL
    split at hL
    · rename_i e; subst e; exact ⟨L, hL, .inl rfl⟩
    · rename_i e
      have : i = 0 := by omega
      subst this
      obtain ⟨L0, h1, h2⟩ := hg.moves 0 L (by omega) hL
      exact ⟨L0, (hρc 0 L0 h1).1, h2⟩
  have hst' : Stay w' (Owned ρ' X) w' (Owned ρ' X) := ⟨fun b _ hO => ⟨rfl, hO⟩⟩
  refine ⟨_, _, ρn, x, rfl, ⟨u, rfl, rfl, hR⟩, ⟨by simpa only [RepH] using flatv_rep hu (by simpa only [RepH] using hg.v.1), hg.v.2⟩, ⟨fun i o ho => ?_, fun i hi => ?_, fun i j L L' b h1 h2 h3 h4 => ?_, fun i L b h1 h2 hx => ?_⟩, by simp [HV.men], fun i o ho => ?_, hs2, hmvn⟩
  · simp only [fob_at, fob_nil] at ho
    split at ho
    · rename_i e; subst e
      cases ho
      obtain ⟨b', cs', f1, f2, f3⟩ := hg.s.objs 0 _ rfl
      refine ⟨b', cs', by simp only [ρn]; exact f1, f2, ?_⟩
      simp only [RepH] at f3 ⊢
      exact flatv_rep hv f3
    · split at ho
      · rename_i e; subst e
        cases ho
        exact RepO.stay (M := (· < 2)) hstn hmvn trivial (by simp only [ρn, if_pos]) (fun L b h1 h2 => by rw [hρ1] at h1; cases h1; exact hblk b h2) (hS.objs 1 _ rfl)
      · cases ho
  · simp only [fob_at, fob_nil] at hi
    split at hi
    · cases hi
    · split at hi
      · cases hi
      · simp only [ρn]
        rw [if_neg (by assumption)]
        refine hg.s.none i ?_
        simp [fob_at, fob_nil, *]
  · have norm : ∀ i L, ρn i = some L → (i = 1 ∧ L = .hdr hd) ∨ (i ≠ 1 ∧ ρ' i = some L) := fun i L hL => by
      simp only [ρn] at hL
      split at hL
      · rename_i e; subst e; rw [hρ1] at hL; cases hL; exact .inl ⟨rfl, rfl⟩
      · exact .inr ⟨by assumption, hL⟩
    rcases norm i L h1 with ⟨rfl, rfl⟩ | ⟨n1, e1⟩ <;> rcases norm j L' h2 with ⟨rfl, rfl⟩ | ⟨n2, e2⟩
    · rfl
    · exact absurd ⟨j, L', e2, h4⟩ (hnb' b h3)
    · exact absurd ⟨i, L, e1, h3⟩ (hnb' b h4)
    · exact hg.s.apart i j L L' b e1 e2 h3 h4
  · simp only [ρn] at h1
    split at h1
    · rename_i e; subst e; exact hS.xb 1 L b h1 h2 hx
    · exact hg.s.xb i L b h1 h2 hx
  · simp only [fob_at, fob_nil] at ho
    split at ho
    · rename_i e; subst e; cases ho; exact ⟨by omega, by simp [HO.men, HV.men]⟩
    · split at ho
      · rename_i e; subst e; cases ho; exact ⟨by omega, trivial⟩
      · cases ho

theorem obAfter_upd {ob : Ob} {nid id : Nat} {o : HO} (hfree : Free4 ob nid) : obAfter ob [id] nid (fob [(0, o)]) = upd ob id (some (o.ren (sub [id] nid))) := by
  funext i
  by_cases e : i = id
  · subst e
    simp only [obAfter, upd_same, List.findIdx?_cons, beq_self_eq_true, if_true, fob_at, Option.map_some]
  · have e' : (id == i) = false := by simp; exact fun h => e h.symm
    simp only [obAfter, List.findIdx?_cons, e', List.findIdx?_nil, Option.map_none, upd_ne _ _ e]
    simp only [Bool.false_eq_true, if_false]
    split
    · rename_i hr
      have h1 : [id].length + (i - nid) ≠ 0 := by simp
      rw [fob_at, if_neg h1, fob_nil]
      exact (hfree.all i hr.1 hr.2).symm
    · rfl

theorem call_borrow {P : Program} {av : List Nat} {f g : FuncId} {ob : Ob} {nid id id2 n : Nat} {K : HV → Ob → Prop} {T e : TypeId} {sz : Nat} {v : CV} {l : List CV} {R : CV → Prop} (h : HIdx P f g T v l R) (hv : v.flatv = true) (hid : ob id = some (.row e sz l)) (hid2 : ob id2 = some (.box T (.c v)))
    (hn : n = l.length) (hav : id ∉ av ∧ id2 ∉ av) (hfree : Free4 ob nid) (hK : ∀ u, R u → K (.c u) ob) : HCall P av f [.own id n, .clo g [.ptr id2 0]] ob nid K := by
  have hne : id ≠ id2 := by rintro rfl; rw [hid] at hid2; cases hid2
  have h0 : sub [id2, id] nid 0 = id2 := rfl
  have h1 : sub [id2, id] nid 1 = id := rfl
  subst hn
  have hloc : LocOk 2 [HV.own 1 l.length, .clo g [.ptr 0 0]] (fob [(0, .box T (.c v)), (1, .row e sz l)]) := by
    refine ⟨fun j h => ?_, fun id o h => ?_, by simp [HV.menL, HV.men]⟩
    · have : j = 0 ∨ j = 1 := by omega
      rcases this with rfl | rfl
      · exact ⟨_, rfl⟩
      · exact ⟨_, rfl⟩
    · simp only [fob_at, fob_nil] at h
      split at h
      · rename_i e; subst e; cases h; exact ⟨by omega, by simp [HO.men, HV.men]⟩
      · split at h
        · rename_i e; subst e; cases h; exact ⟨by omega, trivial⟩
        · cases h
  refine ⟨[id2, id], _, _, _, hfn_borrow (e := e) (sz := sz) hv h, hloc, ⟨by simp [Ne.symm hne], by simpa using hav.symm⟩, by simp only [HV.renL, HV.ren, h0, h1], fun j o hj => ?_, fun r lob' hR _ => ?_⟩
  · simp only [fob_at, fob_nil] at hj
    split at hj
    · rename_i e; subst e; cases hj; simpa [HO.ren, HV.ren] using hid2
    · split at hj
      · rename_i e; subst e; cases hj; simpa [HO.ren] using hid
      · cases hj
  · obtain ⟨u, rfl, rfl, hR⟩ := hR
    rw [obAfter_same (by simp [Ne.symm hne]) (fun j hj => ?_) (fun j hj => ?_) hfree.all]
    · exact hK u hR
    · have : j = 0 ∨ j = 1 := by simp at hj; omega
      rcases this with rfl | rfl
      · exact ⟨_, rfl, by simpa [HO.ren, HV.ren] using hid2⟩
      · exact ⟨_, rfl, by simpa [HO.ren] using hid⟩
    · simp only [List.length_cons, List.length_nil] at hj
      rw [fob_at, if_neg (by omega), fob_at, if_neg (by omega)]; rfl

/-! ## A row of a map, used up by a call -/
theorem hfn_mrow {P : Program} {f : FuncId} {e : TypeId} {sz : Nat} {l : List CV} {R : CV → Prop} (h : HTake P f e sz l R) {D : MD} {k : List UInt8} (hk : mget D k = some (.row l)) :
    HFn P f [.mrow 0 k l.length] 1 (fob [(0, .mp e sz D)]) (fun r ob' => ∃ u, r = .c u ∧ ob' = fob [(0, .mp e sz (mput D k .lent))] ∧ R u) := by
  refine ⟨h.1, fun w ρ X xs hS hA hX => ?_⟩
  obtain ⟨b, hf, hρ0, hM⟩ := hS.objs 0 (.mp e sz D) rfl
  have hρi : ∀ i, i ≠ 0 → ρ i = none := fun i hi => hS.none i (by rw [fob_at, if_neg hi, fob_nil])
  obtain ⟨hd, hhd, hlen, hone⟩ := rowM hM (k := k) (by rw [hk]; simp)
  obtain ⟨hnb, ys, hl, hcs, how⟩ := hM.row k hd hhd
  rw [hk] at hlen hl hcs how
  simp only [rowOf] at hlen hl hcs how
  let ρc : Env := fun i => if i = 0 then some (.hdr hd) else none
  let X' : Nat → Prop := fun g => X g ∨ g = b ∨ ∃ k' h', k' ≠ k ∧ hf k' = some h' ∧ h'.ownBlock = some g
  have hown0 : ∀ g, Own ρc g ↔ hd.ownBlock = some g := fun g => by
    constructor
    · rintro ⟨i, L, h1, h2⟩
      simp only [ρc] at h1
      split at h1
      · cases h1; exact h2
      · cases h1
    · exact fun h1 => ⟨0, _, rfl, h1⟩
  have hownρ : ∀ g, Own ρ g ↔ (Loc.mp b hf).has g := fun g => by
    constructor
    · rintro ⟨i, L, h1, h2⟩
      by_cases hi : i = 0
      · subst hi; rw [hρ0] at h1; cases h1; exact h2
      · rw [hρi i hi] at h1; cases h1
    · exact fun h1 => ⟨0, _, hρ0, h1⟩
  have howned : ∀ g, Owned ρc X' g → Owned ρ X g := by
    rintro g ((hx | rfl | ⟨k', h', _, h2, h3⟩) | hg)
    · exact .inl hx
    · exact .inr ((hownρ g).2 (.inl rfl))
    · exact .inr ((hownρ g).2 (.inr ⟨k', h', h2, h3⟩))
    · exact .inr ((hownρ g).2 (.inr ⟨k, hd, hhd, (hown0 g).1 hg⟩))
  have hst : Stay w (Owned ρ X) w (Owned ρc X') := Stay.same (fun g _ hg => howned g hg)
  have hSc : RepS w ρc X' (fob [(0, .row e sz l)]) := by
    refine ⟨fun i o ho => ?_, fun i hi => ?_, fun i j L L' g h1 h2 _ _ => ?_, fun i L g h1 h2 => ?_⟩
    · simp only [fob_at, fob_nil] at ho
      split at ho
      · rename_i e0; subst e0; cases ho
        exact ⟨hd, ys, rfl, hl.stay hst, hcs, how⟩
      · cases ho
    · simp only [ρc]
      split
      · rename_i e0; subst e0; simp [fob_at] at hi
      · rfl
    · have hi : i = 0 := by simp only [ρc] at h1; split at h1; assumption; cases h1
      have hj : j = 0 := by simp only [ρc] at h2; split at h2; assumption; cases h2
      rw [hi, hj]
    · simp only [ρc] at h1
      split at h1
      · cases h1
        rintro (hx | rfl | ⟨k', h', h3, h4, h5⟩)
        · exact hS.xb 0 _ g hρ0 (.inr ⟨k, hd, hhd, h2⟩) hx
        · exact hnb h2
        · exact h3 (hM.apart k' k h' hd g h4 hhd h5 h2)
      · cases h1
  have hA2 : RepHV w ρc (Owned ρc X') [.own 0 l.length] xs := by
    rw [repHV_cons] at hA ⊢
    obtain ⟨y, zs, rfl, hy, hz⟩ := hA
    refine ⟨y, zs, rfl, ?_, by simpa only [RepHV] using hz⟩
    obtain ⟨hy1, hy2⟩ := hy
    have hag : Value.isAgg' y = false := by rw [← hy2]; rfl
    rw [cells_single hag] at hy1
    simp only [RepH, List.cons.injEq, and_true] at hy1
    obtain ⟨x, rfl, hx1, hx2⟩ := hy1
    obtain ⟨q1, q2⟩ := hx2 b hf hd hρ0 hhd
    refine repV_mk ?_ rfl hag
    simp only [RepH]
    refine ⟨y, rfl, hx1, fun h' hh => ?_⟩
    simp only [ρc, if_true, Option.some.injEq, Loc.hdr.injEq] at hh
    subst hh
    exact ⟨q1, q2⟩
  have hX2 : ∀ g, X' g → g < w.heap.size := by
    rintro g (hx | rfl | ⟨k', h', _, h2, h3⟩)
    · exact hX g hx
    · exact hM.lt g (.inl rfl)
    · exact hM.lt g (.inr ⟨k', h', h2, h3⟩)
  refine (h.2 w ρc X' xs hSc hA2 hX2).mono ?_
  rintro ex w' ⟨r, ob', ρ', x, rfl, ⟨u, rfl, rfl, hR⟩, hg⟩
  have hρ' : ∀ i, ρ' i = none := fun i => hg.s.none i rfl
  let hf' : List UInt8 → Option Value := fun k' => if k' = k then none else hf k'
  let ρn : Env := fun i => if i = 0 then some (.mp b hf') else none
  have hf'o : ∀ k' h', hf' k' = some h' → k' ≠ k ∧ hf k' = some h' := fun k' h' hh => by
    simp only [hf'] at hh
    split at hh
    · cases hh
    · exact ⟨by assumption, hh⟩
  have hownn : ∀ g, Own ρn g → (Loc.mp b hf').has g := by
    rintro g ⟨i, L, h1, h2⟩
    simp only [ρn] at h1
    split at h1
    · cases h1; exact h2
    · cases h1
  have hownX : ∀ g, (Loc.mp b hf').has g → X' g ∧ Own ρ g := by
    rintro g (rfl | ⟨k', h', h2, h3⟩)
    · exact ⟨.inr (.inl rfl), (hownρ g).2 (.inl rfl)⟩
    · obtain ⟨h4, h5⟩ := hf'o k' h' h2
      exact ⟨.inr (.inr ⟨k', h', h4, h5, h3⟩), (hownρ g).2 (.inr ⟨k', h', h5, h3⟩)⟩
  have hs2 : Stay2 w (Own ρ) w' (Own ρn) := by
    refine ⟨fun g hg' hO => hg.stay.block g hg' (fun h1 => hO ((hownρ g).2 (.inr ⟨k, hd, hhd, (hown0 g).1 h1⟩))), fun g hg' => .inl (hownX g (hownn g hg')).2, hg.stay.size, hg.stay.os, hg.stay.tape, hg.stay.output⟩
  have hstn : Stay w (Owned ρ X) w' (Owned ρn X) := hs2.stay X
  have hst' : Stay w' (Owned ρ' X') w' (Owned ρn X) := Stay.same (fun g _ hg' => hg'.elim (fun hx => .inl (.inl hx)) (fun hx => .inl (hownX g (hownn g hx)).1))
  have hbnot : ¬ Own ρc b := fun hb => hnb ((hown0 b).1 hb)
  have hMn : RepM w' (Owned ρn X) e sz (mput D k .lent) b hf' := by
    obtain ⟨es, clock, hb, hs0, h4, h5⟩ := hM.blk
    refine ⟨⟨es, clock, by rw [hg.stay.block b (hM.lt b (.inl rfl)) hbnot]; exact hb, hs0, fun z hz => ?_, fun k' m' hg' ht => ?_⟩, fun k' h' hk' => ?_, fun k' => ?_, fun k' h' hk' hn' => ?_, fun k1 k2 v1 v2 g e1 e2 => hM.apart k1 k2 v1 v2 g (hf'o _ _ e1).2 (hf'o _ _ e2).2⟩
    · obtain ⟨k', m', e1, e2, e3, e4⟩ := h4 z hz
      by_cases hkk : k' = k
      · subst hkk; exact ⟨k', .lent, mget_put_same _ _ _, e2, e3, trivial⟩
      · refine ⟨k', m', by rw [mget_put_other _ _ hkk]; exact e1, e2, e3, ?_⟩
        have : hf' k' = hf k' := if_neg hkk
        rw [this]; exact e4.stay hstn
    · by_cases hkk : k' = k
      · subst hkk; exact h5 k' _ hk rfl
      · rw [mget_put_other _ _ hkk] at hg'; exact h5 k' m' hg' ht
    · obtain ⟨h6, h7⟩ := hf'o _ _ hk'
      rw [mget_put_other _ _ h6]
      obtain ⟨q1, zs, q2, q3, q4⟩ := hM.row k' h' h7
      refine ⟨q1, zs, q2.stay hstn, q3, ownsRow_stay q4 (fun g hg' => hg.stay.block g (q4.lt g hg').2 (fun ho => h6 (hM.apart k' k h' hd g h7 hhd hg' ((hown0 g).1 ho))))⟩
    · by_cases hkk : k' = k
      · subst hkk; rw [mget_put_same]; simp [hf']
      · have : hf' k' = hf k' := if_neg hkk
        rw [this, mget_put_other _ _ hkk]; exact hM.lent k'
    · obtain ⟨h6, h7⟩ := hf'o _ _ hk'
      rw [mget_put_other _ _ h6] at hn'
      exact hM.nil k' h' h7 hn'
  refine ⟨_, _, ρn, x, rfl, ⟨u, rfl, rfl, hR⟩, ⟨by have := hg.v.1; simp only [RepH] at this ⊢; exact this.stay hst', hg.v.2⟩, ⟨fun i o ho => ?_, fun i hi => ?_, fun i j L L' g h1 h2 _ _ => ?_, fun i L g h1 h2 hx => ?_⟩, by simp [HV.men], fun i o ho => ?_, hs2, fun i L hi hL => ?_⟩
  · simp only [fob_at, fob_nil] at ho
    split at ho
    · rename_i e0; subst e0; cases ho; exact ⟨b, hf', rfl, hMn⟩
    · cases ho
  · simp only [ρn]
    split
    · rename_i e0; subst e0; simp [fob_at] at hi
    · rfl
  · have hi : i = 0 := by simp only [ρn] at h1; split at h1; assumption; cases h1
    have hj : j = 0 := by simp only [ρn] at h2; split at h2; assumption; cases h2
    rw [hi, hj]
  · simp only [ρn] at h1
    split at h1
    · cases h1
      have := (hownX g h2).2
      obtain ⟨i', L', e1, e2⟩ := this
      exact hS.xb i' L' g e1 e2 hx
    · cases h1
  · simp only [fob_at, fob_nil] at ho
    split at ho
    · rename_i e0; subst e0; cases ho; exact ⟨by omega, trivial⟩
    · cases ho
  · have : i = 0 := by omega
    subst this
    simp only [ρn, if_true, Option.some.injEq] at hL
    subst hL
    exact ⟨_, hρ0, .inr (.inr ⟨_, _, _, rfl, rfl, fun k' h' hk' => ⟨h', (hf'o k' h' hk').2, .inl rfl⟩⟩)⟩

theorem call_mrow {P : Program} {av : List Nat} {f : FuncId} {ob : Ob} {nid id n : Nat} {K : HV → Ob → Prop} {e : TypeId} {sz : Nat} {l : List CV} {R : CV → Prop} {D : MD} {k : List UInt8} (h : HTake P f e sz l R) (hid : ob id = some (.mp e sz D)) (hk : mget D k = some (.row l)) (hn : n = l.length)
    (hav : id ∉ av) (hfree : Free4 ob nid) (hK : ∀ u, R u → K (.c u) (upd ob id (some (.mp e sz (mput D k .lent))))) : HCall P av f [.mrow id k n] ob nid K := by
  have h0 : sub [id] nid 0 = id := rfl
  subst hn
  have hloc : LocOk 1 [HV.mrow 0 k l.length] (fob [(0, .mp e sz D)]) := by
    refine ⟨fun j h => ?_, fun id o h => ?_, by simp [HV.menL, HV.men]⟩
    · have : j = 0 := by omega
      subst this; exact ⟨_, rfl⟩
    · simp only [fob_at, fob_nil] at h
      split at h
      · rename_i e; subst e; cases h; exact ⟨by omega, trivial⟩
      · cases h
  refine ⟨[id], _, _, _, hfn_mrow h hk, hloc, ⟨by simp, by simpa using hav⟩, by simp only [HV.renL, HV.ren, h0], fun j o hj => ?_, fun r lob' hR _ => ?_⟩
  · simp only [fob_at, fob_nil] at hj
    split at hj
    · rename_i e; subst e; cases hj; simpa [HO.ren] using hid
    · cases hj
  · obtain ⟨u, rfl, rfl, hR⟩ := hR
    rw [obAfter_upd hfree]
    exact hK u hR
end Go.Hl
