/- HL: rows that a function makes and hands back as the caller's own; rows that are lent. By an AI agent. -/
import Derived.Test.YtenbfeemmpjdhaaGreatHlS
import Derived.WalkKit
import Derived.ProofKit
import Derived.OpenShut
import Derived.ReadAgain
import Derived.ChangeBears
import Derived.Test.YtenbfeemmpjdhaaGreatHxSb
import Derived.Test.YtenbfeemmpjdhaaGreatRows
set_option linter.unusedSimpArgs false
set_option linter.unusedVariables false
set_option linter.defProp false
namespace Go.Hl
open Go

inductive HasTy (P : Program) : TypeId → CV → Prop where
  | bool {t : TypeId} (hu : P.underlying t = some .bool) (b : Bool) : HasTy P t (.bool b)
  | int {t : TypeId} {k : IntKind} (hu : P.underlying t = some (.int k)) {n : Int} (hw : (Lit.int k n).wf = true) : HasTy P t (.int k n)
  | str {t : TypeId} (hu : P.underlying t = some .string) {s : List UInt8} (hs : s.length ≤ maxLen) : HasTy P t (.str s)
  | slc {t e : TypeId} (hu : P.underlying t = some (.slice e)) {l : List CV} (hl : ∀ x ∈ l, HasTy P e x) (hn : l.length ≤ maxLen) : HasTy P t (.slc l)
  | arr {t e : TypeId} {m : Nat} (hu : P.underlying t = some (.array m e)) {l : List CV} (hl : ∀ x ∈ l, HasTy P e x) (hn : l.length = m) : HasTy P t (.agg l)
  | struct {t : TypeId} {fs : Array Field} (hu : P.underlying t = some (.struct fs)) {l : List CV} (hn : l.length = fs.size) (hl : ∀ (i : Nat) (f : Field) (x : CV), fs.toList[i]? = some f → l[i]? = some x → HasTy P f.type x) : HasTy P t (.agg l)

theorem HasTy.of_int {P : Program} {t : TypeId} {k : IntKind} {c : CV} (hu : P.underlying t = some (.int k)) (h : HasTy P t c) : ∃ n, c = .int k n ∧ (Lit.int k n).wf = true := by
  cases h with
  | int h2 hw => rw [hu] at h2; cases h2; exact ⟨_, rfl, hw⟩
  | bool h2 | str h2 | slc h2 | arr h2 | struct h2 => rw [hu] at h2; cases h2
theorem HasTy.of_slc {P : Program} {t e : TypeId} {c : CV} (hu : P.underlying t = some (.slice e)) (h : HasTy P t c) : ∃ l, c = .slc l ∧ (∀ x ∈ l, HasTy P e x) ∧ l.length ≤ maxLen := by
  cases h with
  | slc h2 hl hn => rw [hu] at h2; cases h2; exact ⟨_, rfl, hl, hn⟩
  | int h2 | bool h2 | str h2 | arr h2 | struct h2 => rw [hu] at h2; cases h2
def plainT (P : Program) : Nat → TypeId → Bool
  | 0, _ => false
  | n + 1, t => match P.underlying t with
    | some .bool | some (.int _) | some .string => true
    | some (.slice e) => plainT P n e
    | some (.array _ e) => plainT P n e
    | some (.struct fs) => fs.toList.all fun f => plainT P n f.type
    | _ => false

theorem build_list {α : Type} {w : World} {O : Nat → Prop} {g : α → List Value} {R : α → CV → Prop} : ∀ (l : List α), (∀ a ∈ l, ∃ c, RepC w O c (g a) ∧ R a c) →
    ∃ cl : List CV, RepL w O cl (l.flatMap g) ∧ cl.length = l.length ∧ ∀ (i : Nat) a c, l[i]? = some a → cl[i]? = some c → R a c
  | [], _ => ⟨[], by simp [RepL], rfl, by simp⟩
  | a :: l, h => by
    obtain ⟨c, h1, h2⟩ := h a (by simp)
    obtain ⟨cl, h3, h4, h5⟩ := build_list l (fun x hx => h x (by simp [hx]))
    refine ⟨c :: cl, by simp only [List.flatMap_cons, RepL]; exact ⟨_, _, rfl, h1, h3⟩, by simp [h4], fun i x y hx hy => ?_⟩
    cases i with
    | zero => simp at hx hy; rw [← hx, ← hy]; exact h2
    | succ i => simp at hx hy; exact h5 i x y hx hy

theorem flat_parts {cw : Field → Nat} {cs : List Value} : ∀ (fs : List Field) (k : Nat), (∀ (j : Nat) f, fs[j]? = some f → f.offset = k + ((fs.take j).map cw).sum) →
    fs.flatMap (fun f => (cs.drop f.offset).take (cw f)) = (cs.drop k).take ((fs.map cw).sum)
  | [], k, _ => by simp
  | f :: fs, k, h => by
    have h0 := h 0 f rfl
    simp only [List.take_zero, List.map_nil, List.sum_nil, Nat.add_zero] at h0
    have ih := flat_parts (cw := cw) (cs := cs) fs (k + cw f) (fun j g hg => by
      have := h (j + 1) g (by simpa using hg)
      simp only [List.take_succ_cons, List.map_cons, List.sum_cons] at this
      omega)
    simp only [List.flatMap_cons, List.map_cons, List.sum_cons, ih, h0]
    rw [← List.drop_drop, ← List.take_add]

theorem flat_range {cs : List Value} (c : Nat) : ∀ (m : Nat), (List.range m).flatMap (fun i => (cs.drop (i * c)).take c) = cs.take (m * c)
  | 0 => by simp
  | m + 1 => by
    rw [List.range_succ, List.flatMap_append, flat_range c m]
    simp only [List.flatMap_cons, List.flatMap_nil, List.append_nil]
    rw [← List.take_add, Nat.succ_mul]

theorem flat_cells {w : World} {a : Addr} {c : Nat} {g : Nat → List Value} : ∀ (m : Nat), (∀ i, i < m → (g i).length = c ∧ ∀ r, r < c → w.cell? ((a.add (i * c)).add r) = (g i)[r]?) →
    ((List.range m).flatMap g).length = m * c ∧ ∀ j u, ((List.range m).flatMap g)[j]? = some u → w.cell? (a.add j) = some u
  | 0, _ => by simp
  | m + 1, h => by
    obtain ⟨h1, h2⟩ := flat_cells m (fun i hi => h i (by omega))
    obtain ⟨h3, h4⟩ := h m (by omega)
    rw [List.range_succ, List.flatMap_append]
    simp only [List.flatMap_cons, List.flatMap_nil, List.append_nil]
    refine ⟨by rw [List.length_append, h1, h3, Nat.succ_mul], fun j u hj => ?_⟩
    by_cases hlt : j < m * c
    · rw [List.getElem?_append_left (by omega)] at hj
      exact h2 j u hj
    · rw [List.getElem?_append_right (by omega), h1] at hj
      have hr : j - m * c < c := by
        have := (List.getElem?_eq_some_iff.1 hj).1
        omega
      have := h4 (j - m * c) hr
      rw [Addr.add_add, hj, show m * c + (j - m * c) = j from by omega] at this
      exact this

section
variable {H : Type} {enc : TypeId × Value → H} {P : Program} {T : TypeId → Prop} {w : World} {base : Nat} {sp : Nat → Bool} {held : Bool}

theorem trod_rep (K : Kids P T) : ∀ (m : Nat) (t : TypeId), plainT P m t = true → T t → ∀ (n : Nat) (cs : List Value) (x : DataW H × List MemPlace), DataW.trod enc P w base sp held n t cs = some x →
    ∃ c, RepC w (fun _ => False) c cs ∧ HasTy P t c ∧ cs.length = cs.length
  | 0, t, hp, _, _, _, _, _ => by simp [plainT] at hp
  | m + 1, t, hp, hT, 0, cs, x, h => by simp [DataW.trod] at h
  | m + 1, t, hp, hT, n + 1, cs, x, h => by
    unfold plainT at hp
    split at hp
    · rename_i hu
      unfold DataW.trod at h
      rw [hu] at h
      split at h
      case h_1 => rename_i b h1; exact ⟨.bool b, by simp [RepC], .bool hu b, rfl⟩
      all_goals simp_all
    · rename_i k hu
      unfold DataW.trod at h
      rw [hu] at h
      split at h
      case h_2 =>
        rename_i k' k2 n2 h1
        cases h1
        split at h
        · rename_i hc
          obtain ⟨rfl, hw⟩ := hc
          exact ⟨.int _ n2, by simp [RepC], .int hu hw, rfl⟩
        · cases h
      all_goals simp_all
    · rename_i hu
      unfold DataW.trod at h
      rw [hu] at h
      split at h
      case h_4 =>
        rename_i s h1
        split at h
        · rename_i hc
          refine ⟨.str s.data.toList, by simp [RepC], .str hu ?_, rfl⟩
          have : s.data.toList.length = s.size := by rw [Array.length_toList]; rfl
          omega
        · cases h
      all_goals simp_all
    · rename_i e hu
      unfold DataW.trod at h
      rw [hu] at h
      split at h
      case h_7 =>
        rename_i el h1
        exact ⟨.slc [], by simp only [RepC]; exact ⟨none, 0, [], 0, rfl, by simp [RepL], by simp, by simp, fun _ => rfl, fun ad had => (by cases had)⟩, .slc hu (by simp) (by simp), rfl⟩
      case h_8 =>
        rename_i e' a len cap h1
        cases h1
        simp only at h
        split at h
        · rename_i hc
          obtain ⟨hb, hlc, hcm⟩ := hc
          rw [Option.bind_eq_some_iff] at h
          obtain ⟨elems, he, _⟩ := h
          have hel : ∀ i, i < len → ∃ cl, w.cells? base (a.add (i * P.cellsOf e)) (P.cellsOf e) = some cl ∧ ∃ y, DataW.trod enc P w base sp held n e cl = some y := fun i hi => by
            have := mapM_some_get he i i (by simp [hi])
            have hlen := mapM_some_length he
            simp only [List.length_range] at hlen
            rw [List.getElem?_eq_getElem (by omega)] at this
            rw [Option.bind_eq_some_iff] at this
            obtain ⟨cl, h3, h4⟩ := this
            exact ⟨cl, h3, _, h4⟩
          let g : Nat → List Value := fun i => (w.cells? base (a.add (i * P.cellsOf e)) (P.cellsOf e)).getD []
          have hg : ∀ i, i < len → (g i).length = P.cellsOf e ∧ ∀ r, r < P.cellsOf e → w.cell? ((a.add (i * P.cellsOf e)).add r) = (g i)[r]? := fun i hi => by
            obtain ⟨cl, h3, _⟩ := hel i hi
            obtain ⟨_, h4, h5⟩ := World.cells?_some h3
            have : g i = cl := by simp [g, h3]
            rw [this]; exact ⟨h4, h5⟩
          obtain ⟨cl, hr, hlen, hty⟩ := build_list (w := w) (O := fun _ => False) (g := g) (R := fun i c => HasTy P e c ∧ c.cells = P.cellsOf e) (List.range len) (fun i hi => by
            have hi' := List.mem_range.1 hi
            obtain ⟨cl, h3, y, h4⟩ := hel i hi'
            have hgi : g i = cl := by simp [g, h3]
            obtain ⟨c, q1, q2, _⟩ := trod_rep K m e hp (K.slice hT hu) n cl y h4
            exact ⟨c, by rw [hgi]; exact q1, q2, by rw [← repC_len q1, (World.cells?_some h3).2.1]⟩)
          simp only [List.length_range] at hlen
          have hmem : ∀ x ∈ cl, HasTy P e x ∧ x.cells = P.cellsOf e := fun x hx => by
            obtain ⟨i, hi, rfl⟩ := List.getElem_of_mem hx
            exact hty i i _ (List.getElem?_range (by omega)) (by rw [List.getElem?_eq_getElem hi])
          refine ⟨.slc cl, ?_, .slc hu (fun x hx => (hmem x hx).1) (by omega), rfl⟩
          simp only [RepC]
          refine ⟨some a, cap, _, P.cellsOf e, by rw [hlen], hr, fun v hv => (hmem v hv).2, by omega, fun hh => (by cases hh), fun ad had => ?_⟩
          cases had
          exact ⟨(flat_cells len hg).2, fun _ h => h⟩
        · cases h
      all_goals simp_all
    · rename_i k e hu
      unfold DataW.trod at h
      rw [hu] at h
      split at h
      case h_10 =>
        rename_i cs0 _ _ k' e' h1
        cases h1
        split at h
        · rename_i hc
          rw [Option.map_eq_some_iff] at h
          obtain ⟨xs, hxs, _⟩ := h
          obtain ⟨hTe, hce⟩ := K.array hT hu
          obtain ⟨cl, hr, hlen, hty⟩ := build_list (w := w) (O := fun _ => False) (g := fun i => (cs0.drop (i * P.cellsOf e)).take (P.cellsOf e)) (R := fun i c => HasTy P e c) (List.range k) (fun i hi => by
            have hi' := List.mem_range.1 hi
            have := mapM_some_get hxs i i (by simp [hi'])
            have hlen := mapM_some_length hxs
            simp only [List.length_range] at hlen
            rw [List.getElem?_eq_getElem (by omega)] at this
            obtain ⟨c, q1, q2, _⟩ := trod_rep K m e hp hTe n _ _ this
            exact ⟨c, q1, q2⟩)
          simp only [List.length_range] at hlen
          rw [flat_range, ← hce, ← hc, List.take_length] at hr
          refine ⟨.agg cl, hr, .arr hu (fun x hx => ?_) hlen, rfl⟩
          obtain ⟨i, hi, rfl⟩ := List.getElem_of_mem hx
          exact hty i i _ (List.getElem?_range (by omega)) (by rw [List.getElem?_eq_getElem hi])
        · cases h
      all_goals simp_all
    · rename_i fs hu
      unfold DataW.trod at h
      rw [hu] at h
      split at h
      case h_9 =>
        rename_i cs0 _ _ fs' h1
        cases h1
        split at h
        · rename_i hc
          rw [Option.map_eq_some_iff] at h
          obtain ⟨xs, hxs, _⟩ := h
          obtain ⟨hTf, hsum, hoff⟩ := K.struct hT hu
          obtain ⟨cl, hr, hlen, hty⟩ := build_list (w := w) (O := fun _ => False) (g := fun f : Field => (cs0.drop f.offset).take (P.cellsOf f.type)) (R := fun f c => HasTy P f.type c) fs.toList (fun f hf => by
            obtain ⟨i, hi, rfl⟩ := List.getElem_of_mem hf
            have := mapM_some_get hxs i _ (List.getElem?_eq_getElem hi)
            have hlen := mapM_some_length hxs
            rw [List.getElem?_eq_getElem (by omega)] at this
            obtain ⟨c, q1, q2, _⟩ := trod_rep K m _ (List.all_eq_true.1 hp _ (List.getElem_mem hi)) (hTf _ (List.getElem_mem hi)) n _ _ this
            exact ⟨c, q1, q2⟩)
          rw [flat_parts (cw := fun f => P.cellsOf f.type) fs.toList 0 (fun j f hf => by rw [hoff j f hf]; omega), List.drop_zero, ← hsum, ← hc, List.take_length] at hr
          exact ⟨.agg cl, hr, .struct hu (by simpa using hlen) hty, rfl⟩
        · cases h
      all_goals simp_all
    · cases hp

theorem isAgg_of_okWide {t : TypeId} {v : Value} {c : CV} (hc : HasTy P t c) (h : Value.okWide P w .any base t v) : c.isAgg = Value.isAgg' v := by
  cases hc with
  | bool hu b => unfold Value.okWide at h; rw [hu] at h; simp only [Cell.okWide, hu] at h; cases v <;> simp_all [Cell.ok, CV.isAgg, Value.isAgg']
  | int hu hw => unfold Value.okWide at h; rw [hu] at h; simp only [Cell.okWide, hu] at h; cases v <;> simp_all [Cell.ok, CV.isAgg, Value.isAgg']
  | str hu hs => unfold Value.okWide at h; rw [hu] at h; simp only [Cell.okWide, hu] at h; cases v <;> simp_all [Cell.ok, CV.isAgg, Value.isAgg']
  | slc hu hl hn => unfold Value.okWide at h; rw [hu] at h; simp only [Cell.okWide, hu] at h; cases v <;> simp_all [Cell.ok, CV.isAgg, Value.isAgg']
  | arr hu hl hn => unfold Value.okWide at h; rw [hu] at h; obtain ⟨cs, rfl, _⟩ := h; rfl
  | struct hu hn hl => unfold Value.okWide at h; rw [hu] at h; obtain ⟨cs, rfl, _⟩ := h; rfl

theorem own_none (b : Nat) : ¬ Own (fun _ => none) b := by rintro ⟨_, _, h, _⟩; cases h

theorem trodAll_reps (K : Kids P T) {m : Nat} : ∀ {ts : List TypeId} {vs : List Value} {ds : List (DataW H)} {ps : List MemPlace}, DataW.TrodAll enc P w base sp held ts vs ds ps → (∀ t ∈ ts, plainT P m t = true ∧ T t) →
    (∀ (j : Nat) t v, ts[j]? = some t → vs[j]? = some v → Value.okWide P w .any 0 t v) →
    ∃ cs : List CV, RepHV w (fun _ => none) (Owned (fun _ => none) (fun _ => False)) (cs.map .c) vs ∧ cs.length = ts.length ∧ ds.length = ts.length ∧ ∀ (j : Nat) t c, ts[j]? = some t → cs[j]? = some c → HasTy P t c
  | [], vs, ds, ps, h, _, _ => by
    obtain ⟨rfl, rfl, rfl⟩ := ChangeShapes.trodAll_nil h
    exact ⟨[], by simp [RepHV], rfl, rfl, by simp⟩
  | t :: ts, vs, ds, ps, h, hp, ho => by
    obtain ⟨v, vs1, d, ds1, a, b, rfl, rfl, rfl, ⟨n, h1⟩, h2⟩ := ChangeShapes.trodAll_cons h
    obtain ⟨c, q1, q2, _⟩ := trod_rep (w := w) K m t (hp t (by simp)).1 (hp t (by simp)).2 n _ _ h1
    obtain ⟨cs, r1, r2, r3, r4⟩ := trodAll_reps K h2 (fun t ht => hp t (by simp [ht])) (fun j t v h3 h4 => ho (j + 1) t v (by simpa using h3) (by simpa using h4))
    have hst : Stay w (fun _ => False) w (Owned (fun _ => none) (fun _ => False)) := ⟨fun b _ _ => ⟨rfl, fun hb => hb.elim (fun x => x) (own_none b)⟩⟩
    refine ⟨c :: cs, ?_, by simp [r2], by simp [r3], fun j t' c' h3 h4 => ?_⟩
    · rw [List.map_cons, repHV_cons]
      exact ⟨v, vs1, rfl, ⟨by simp only [RepH]; exact q1.stay hst, isAgg_of_okWide q2 (ho 0 t v rfl rfl)⟩, r1⟩
    · cases j with
      | zero => simp at h3 h4; rw [← h3, ← h4]; exact q2
      | succ j => simp at h3 h4; exact r4 j t' c' h3 h4

theorem sameAt_lt {w w' : World} (h : ∀ b, b < w.heap.size → w'.heap[b]? = w.heap[b]?) {p : MemPlace} (hp : p.block < w.heap.size) : w.sameAt w' p := by
  cases p with
  | cell b off => exact World.cell?_of_block (h b hp)
  | map b => exact h b hp

theorem trodAll_carry {w' : World} : ∀ {ts : List TypeId} {vs : List Value} {ds : List (DataW H)} {ps : List MemPlace}, DataW.TrodAll enc P w base sp held ts vs ds ps → (∀ p ∈ ps, w.sameAt w' p) → DataW.TrodAll enc P w' base sp held ts vs ds ps
  | [], _, _, _, h, _ => by
    obtain ⟨rfl, rfl, rfl⟩ := ChangeShapes.trodAll_nil h
    exact ChangeShapes.trodAll_mk0
  | t :: ts, _, _, _, h, hs => by
    obtain ⟨v, vs1, d, ds1, a, b, rfl, rfl, rfl, ⟨n, h1⟩, h2⟩ := ChangeShapes.trodAll_cons h
    exact ⟨a, b, ⟨n, DataW.trod_carry n t _ _ h1 (fun p hp => hs p (List.mem_append_left _ hp))⟩, trodAll_carry h2 (fun p hp => hs p (List.mem_append_right _ hp)), rfl⟩

theorem keptBut_lt {w w' : World} (h1 : w'.os = w.os) (h2 : w'.output = w.output) (h : ∀ b, b < w.heap.size → w'.heap[b]? = w.heap[b]?) (may : MemPlace → Prop) : w.keptBut w' may := by
  refine ⟨h1, h2, fun i hi => ?_⟩
  rw [h i hi]
  cases w.heap[i]? with
  | none => rfl
  | some o => cases o <;> simp

theorem law_post {f : FuncId} {fn : Func} {s : ChangeSpec} {mm : Nat} {tb : TypeId} (hok : callOk P f = true) (K : Kids P T) (hz : ∀ t e, T t → P.underlying t = some (.slice e) → 0 < P.cellsOf e) (hvars : s.vars = []) (hres : fn.resultTypes = #[tb]) (htb : P.underlying tb = some .bool)
    (hspec : ∀ (H : Type) (ds : List (DataW H)), ds.length = fn.params.toList.length → (s.fn H ds).results = [.lit (.bool true)] ∧ (s.fn H ds).args = ds ∧ (s.fn H ds).vars = []) (hpl : ∀ t ∈ fn.params.toList, plainT P mm t = true ∧ T t)
    (hlaw : ∀ cs : List CV, cs.length = fn.params.toList.length → (∀ (j : Nat) t c, fn.params.toList[j]? = some t → cs[j]? = some c → HasTy P t c) → HPure P f cs (fun v => v = .bool true))
    {W : World} {args : Array Value} {ds gs : List (DataW H)} {before : List MemPlace} (hval : ∀ (j : Nat) t v, fn.params[j]? = some t → args[j]? = some v → Value.okWide P W .any 0 t v)
    (hW : DataW.Whole enc P fn.params.toList s.vars false W args.toList ds gs before) :
    Calls P f args W fun e W' => ∃ v, e = .returned v ∧ s.post enc P fn false true false false W args v W' := by
  have hW' := hW
  obtain ⟨p, q, hA, hV, rfl, hfz, hnd⟩ := hW
  rw [hvars] at hV
  obtain ⟨rfl, rfl⟩ := ChangeShapes.trodVars_none hV
  simp only [List.append_nil] at hW' hfz
  obtain ⟨cs, r1, r2, r3, r4⟩ := trodAll_reps (m := mm) K hA hpl (fun j t v h1 h2 => hval j t v (by simpa using h1) (by simpa using h2))
  obtain ⟨_, hrun⟩ := hlaw cs r2 r4
  have hS : RepS W (fun _ => none) (fun _ => False) none0 := ⟨fun _ _ h => (by simp [none0] at h), fun _ _ => rfl, fun _ _ _ _ _ h => (by simp at h), fun _ _ _ h => (by simp at h)⟩
  have hcall := hrun W (fun _ => none) (fun _ => False) args.toList hS r1 (fun _ h => h.elim)
  rw [Array.toArray_toList] at hcall
  refine (hcall.calls hok).mono ?_
  rintro e W' ⟨r, ob', ρ', x, rfl, ⟨v, rfl, rfl, rfl⟩, hg⟩
  obtain ⟨hr1, hr2⟩ := hg.v
  have hx : x = .bool true := by
    have hag : Value.isAgg' x = false := by rw [← hr2]; rfl
    rw [cells_single hag] at hr1
    simpa [RepH, RepC] using hr1
  subst hx
  have hheap : ∀ b, b < W.heap.size → W'.heap[b]? = W.heap[b]? := fun b hb => hg.stay.block b hb (own_none b)
  obtain ⟨s1, s2, s3⟩ := hspec H (ds ++ []) (by simpa using r3)
  have hlt : ∀ a ∈ p, a.block < W.heap.size := hA.lt
  have args' : ∀ sp : Nat → Bool, (∀ a ∈ p, sp a.block = true) → DataW.TrodAll enc P W' 0 sp true fn.params.toList args.toList ds p := fun sp hsp =>
    trodAll_carry (hA.respare K hz (fun t ht => (hpl t ht).2) hsp) (fun a ha => sameAt_lt hheap (hlt a ha))
  have hrl : Value.resultList fn.resultTypes.size (.bool true) = [.bool true] := by rw [hres]; rfl
  have hresT : ∀ (b : Nat) (sp : Nat → Bool) (hd : Bool), DataW.TrodAll enc P W' b sp hd fn.resultTypes.toList (Value.resultList fn.resultTypes.size (.bool true)) [.lit (.bool true)] [] := fun b sp hd => by
    rw [hrl, hres]
    exact trodAll_cons_mk (RowKit.shut_bool htb true) ChangeShapes.trodAll_mk0
  refine ⟨.bool true, rfl, ds, [], p, [], p, [], by simpa using hW', ?_, ?_, ?_, ?_, ?_⟩
  · rw [s1]; exact hresT _ _ _
  · rw [s2]; simpa using args' _ (fun a ha => by simpa using hlt a ha)
  · rw [s3, hvars]; rfl
  · exact keptBut_lt hg.stay.os hg.stay.output hheap _
  · intro h; cases h
end
end Go.Hl

namespace Go.Proofs.YtenbfeemmpjdhaaGreat
open Go Go.Hl Go.Pl

theorem list_choose {α : Type} {f : α → CV} {Q : α → Prop} : ∀ (l : List CV), (∀ x ∈ l, ∃ y, x = f y ∧ Q y) → ∃ m : List α, l = m.map f ∧ ∀ y ∈ m, Q y
 | [], _ => ⟨[], rfl, by simp⟩
 | x :: l, h => by
  obtain ⟨y, rfl, hy⟩ := h x (by simp)
  obtain ⟨m, rfl, hm⟩ := list_choose l (fun x hx => h x (by simp [hx]))
  exact ⟨y :: m, rfl, fun z hz => by rcases List.mem_cons.1 hz with rfl | hz; exact hy; exact hm z hz⟩
theorem of_ints {c : CV} (h : HasTy Tryz.prog 22 c) : ∃ L : List Int, c = .slc (L.map (.int .i64)) ∧ (∀ n ∈ L, (Lit.int .i64 n).wf = true) ∧ L.length ≤ maxLen := by
 obtain ⟨l, rfl, hl, hn⟩ := h.of_slc Tryz.underlying22
 obtain ⟨m, rfl, hm⟩ := list_choose (f := CV.int .i64) (Q := fun n => (Lit.int .i64 n).wf = true) l (fun x hx => (hl x hx).of_int Tryz.underlying3)
 exact ⟨m, rfl, hm, by simpa using hn⟩
theorem own : ownKnob Tryz.prog.godebug = none := by kernel_rfl
theorem kids : Kids Tryz.prog (· < Tryz.prog.types.size) := kids_rows (by kernel_rfl) (by kernel_rfl)
theorem slicesFull : ∀ t e, t < Tryz.prog.types.size → Tryz.prog.underlying t = some (.slice e) → 0 < Tryz.prog.cellsOf e := slices_full_of Tryz.prog (by kernel_rfl)
end Go.Proofs.YtenbfeemmpjdhaaGreat

namespace Go.Proofs.YtenbfeemmpjdhaaGreat
open Go Go.Hl Go.Pl
set_option maxRecDepth 10000
set_option linter.unusedSimpArgs false
set_option linter.unusedVariables false

theorem has_ok (l : List (List UInt8)) (w : List UInt8) (hl : l.length < 2 ^ 62) : HPure Tryz.prog 13 [.slc (l.map .str), .str w] (fun v => v = .bool (l.contains w)) := by
 refine hfn_walk Tryz.func13 rfl (by kernel_rfl) (locOk_nil _) (Nat.le_of_ble_eq_true rfl) ?_
 refine hw_seq fun K hK => hw_region (by kernel_rfl) ?_
 simp (maxSteps := 4000000) only [↓sP, sA, tyS, simprocAttr]
 repeat refine AI ?_
 refine hK _ _ _ ?_
 clear hK K
 refine hw_seq fun K hK => ?_
 refine hw_seq fun K hK => hw_region (by kernel_rfl) ?_
 simp (maxSteps := 4000000) only [↓sP, sA, tyS, simprocAttr]
 repeat refine AI ?_
 refine hK _ _ _ ?_
 clear hK K
 refine hw_block ?_
 refine hw_loop (α := {i : Nat // i ≤ l.length ∧ w ∉ l.take i}) (fun i => (fin [(0, .c (.slc (l.map .str))), (1, .c (.str w)), (5, .c (.int .i64 i.1))], fob [])) 0 (fun i => l.length - i.1) ⟨0, by omega, by simp⟩ (fits_fin (by omega) (by simp [FinOk, fin_at, finA_at, upd_at, HV.men, HV.menL, HV.norm, HV.toC, HV.toCL]) (by simp [FobOk, fob_at, upd_at, none0_at, gone, HO.men, HV.men, HV.menL, HV.norm, HV.toC, HV.toCL])) ?_
 rintro ⟨i, hi, hni⟩
 refine hw_seq fun K hK => ?_
 refine hw_seq fun K hK => hw_region (by kernel_rfl) ?_
 simp (maxSteps := 4000000) only [↓sP, sA, tyS, simprocAttr]
 repeat refine AI ?_
 refine hK _ _ _ ?_
 clear hK K
 refine hw_cond (b := decide ((i : Int) < l.length)) rfl (fun hb => ?_) (fun hb => ?_)
 ·
  have hlt : i < l.length := by simpa using hb
  refine hw_skip ?_
  simp (maxSteps := 4000000) only [↓sP, sA, tyS, simprocAttr]
  repeat refine AI ?_
  refine hK _ _ _ ?_
  clear hK K
  refine hw_seq fun K hK => hw_block ?_
  refine hw_seq fun K hK => hw_region (by kernel_rfl) ?_
  simp (maxSteps := 4000000) only [↓sP, sA, tyS, simprocAttr, Int.natCast_nonneg, Int.ofNat_lt, hlt, nth_map hlt]
  repeat refine AI ?_
  refine hK _ _ _ ?_
  clear hK K
  refine hw_cond (b := l[i] == w) rfl (fun hb => ?_) (fun hb => ?_)
  ·
   refine hw_seq fun K hK => hw_region (by kernel_rfl) ?_
   simp (maxSteps := 4000000) only [↓sP, sA, tyS, simprocAttr]
   repeat refine AI ?_
   refine hK _ _ _ ?_
   clear hK K
   refine hw_ret ?_
   simp (maxSteps := 4000000) only [hpost, Tryz.results13, hresL, hres1, tupOf, ↓sP, sA, tyS, simprocAttr]
   refine hret_pure [] (.bool true) rfl ?_
   have : l[i] ∈ l := List.getElem_mem _
   simp_all
  refine hw_skip ?_
  simp (maxSteps := 4000000) only [↓sP, sA, tyS, simprocAttr]
  repeat refine AI ?_
  refine hK _ _ _ ?_
  clear hK K
  refine hw_region (by kernel_rfl) ?_
  simp (maxSteps := 4000000) only [↓sP, sA, tyS, simprocAttr, IntWalk.i64_in _ (show -9223372036854775808 ≤ (i : Int) + 1 ∧ (i : Int) + 1 ≤ 9223372036854775807 by omega)]
  refine ⟨⟨i + 1, hlt, ?_⟩, fits_fin (by omega) (by simp [FinOk, fin_at, finA_at, upd_at, HV.men, HV.menL, HV.norm, HV.toC, HV.toCL]) (by simp [FobOk, fob_at, upd_at, none0_at, gone, HO.men, HV.men, HV.menL, HV.norm, HV.toC, HV.toCL]), ?_⟩
  ·
   rw [List.take_succ_eq_append_getElem hlt]
   intro hm
   rcases List.mem_append.1 hm with hm | hm
   ·
    exact hni hm
   simp_all
  show l.length - (i + 1) < l.length - i
  omega
 refine hw_exit ?_
 simp (maxSteps := 4000000) only [↓sP, sA, tyS, simprocAttr]
 clear hK K
 repeat refine AI ?_
 refine hK _ _ _ ?_
 clear hK K
 refine hw_seq fun K hK => hw_region (by kernel_rfl) ?_
 simp (maxSteps := 4000000) only [↓sP, sA, tyS, simprocAttr]
 repeat refine AI ?_
 refine hK _ _ _ ?_
 clear hK K
 refine hw_ret ?_
 simp (maxSteps := 4000000) only [hpost, Tryz.results13, hresL, hres1, tupOf, ↓sP, sA, tyS, simprocAttr]
 refine hret_pure [] (.bool false) rfl ?_
 have : i = l.length := by simp at hb; omega
 subst this
 simpa using hni

theorem ascending_ok (l : List Word) (hl : l.length < 2 ^ 62) : HPure Tryz.prog 103 [.slc (l.map .str)] (fun v => v = .bool (ascB l)) := by
 refine hfn_walk Tryz.func103 rfl (by kernel_rfl) (locOk_nil _) (Nat.le_of_ble_eq_true rfl) ?_
 refine hw_seq fun K hK => hw_region (by kernel_rfl) ?_
 simp (maxSteps := 4000000) only [↓sP, sA, tyS, simprocAttr]
 repeat refine AI ?_
 refine hK _ _ _ ?_
 clear hK K
 refine hw_seq fun K hK => ?_
 refine hw_seq fun K hK => hw_region (by kernel_rfl) ?_
 simp (maxSteps := 4000000) only [↓sP, sA, tyS, simprocAttr]
 repeat refine AI ?_
 refine hK _ _ _ ?_
 clear hK K
 refine hw_block ?_
 refine hw_loop (α := {i : Nat // 1 ≤ i ∧ (i ≤ l.length ∨ i = 1) ∧ ∀ j (h : j + 1 < i) (h' : j + 1 < l.length), slt l[j] l[j + 1] = true}) (fun i => (fin [(0, .c (.slc (l.map .str))), (3, .c (.int .i64 i.1))], fob [])) 0 (fun i => l.length - i.1) ⟨1, by omega, by simp, fun j h => by omega⟩ (fits_fin (by omega) (by simp [FinOk, fin_at, finA_at, upd_at, HV.men, HV.menL, HV.norm, HV.toC, HV.toCL]) (by simp [FobOk, fob_at, upd_at, none0_at, gone, HO.men, HV.men, HV.menL, HV.norm, HV.toC, HV.toCL])) ?_
 rintro ⟨i, h1, hi, hni⟩
 refine hw_seq fun K hK => ?_
 refine hw_seq fun K hK => hw_region (by kernel_rfl) ?_
 simp (maxSteps := 4000000) only [↓sP, sA, tyS, simprocAttr]
 repeat refine AI ?_
 refine hK _ _ _ ?_
 clear hK K
 refine hw_cond (b := decide ((i : Int) < l.length)) rfl (fun hb => ?_) (fun hb => ?_)
 ·
  have hlt : i < l.length := by simpa using hb
  have e1 : IntKind.i64.wrap ((i : Int) - 1) = ((i - 1 : Nat) : Int) := by rw [IntWalk.i64_in _ (by omega)]; omega
  have hlt1 : i - 1 < l.length := by omega
  refine hw_skip ?_
  simp (maxSteps := 4000000) only [↓sP, sA, tyS, simprocAttr]
  repeat refine AI ?_
  refine hK _ _ _ ?_
  clear hK K
  refine hw_seq fun K hK => hw_block ?_
  refine hw_seq fun K hK => hw_quiet mixed (by kernel_rfl) (by kernel_rfl) (by kernel_rfl) ?_
  simp (maxSteps := 4000000) only [↓sP, sA, tyS, simprocAttr, Int.natCast_nonneg, Int.ofNat_lt, hlt, e1, hlt1, nth_map hlt, nth_map hlt1]
  repeat refine AI ?_
  refine hK _ _ _ ?_
  clear hK K
  refine hw_cond (b := !slt l[i - 1] l[i]) rfl (fun hb => ?_) (fun hb => ?_)
  ·
   refine hw_seq fun K hK => hw_region (by kernel_rfl) ?_
   simp (maxSteps := 4000000) only [↓sP, sA, tyS, simprocAttr]
   repeat refine AI ?_
   refine hK _ _ _ ?_
   clear hK K
   refine hw_ret ?_
   simp (maxSteps := 4000000) only [hpost, Tryz.results103, hresL, hres1, tupOf, ↓sP, sA, tyS, simprocAttr]
   refine hret_pure [] (.bool false) rfl ?_
   congr 1
   refine (Bool.not_eq_true _ ▸ fun h => ?_ : ascB l = false).symm
   have := ascB_iff.1 h (i - 1) (by omega)
   simp only [show i - 1 + 1 = i by omega] at this
   simp [this] at hb
  refine hw_skip ?_
  simp (maxSteps := 4000000) only [↓sP, sA, tyS, simprocAttr]
  repeat refine AI ?_
  refine hK _ _ _ ?_
  clear hK K
  refine hw_region (by kernel_rfl) ?_
  simp (maxSteps := 4000000) only [↓sP, sA, tyS, simprocAttr, IntWalk.i64_in _ (show -9223372036854775808 ≤ (i : Int) + 1 ∧ (i : Int) + 1 ≤ 9223372036854775807 by omega)]
  refine ⟨⟨i + 1, by omega, by omega, fun j h h' => ?_⟩, fits_fin (by omega) (by simp [FinOk, fin_at, finA_at, upd_at, HV.men, HV.menL, HV.norm, HV.toC, HV.toCL]) (by simp [FobOk, fob_at, upd_at, none0_at, gone, HO.men, HV.men, HV.menL, HV.norm, HV.toC, HV.toCL]), ?_⟩
  ·
   by_cases e : j + 1 = i
   ·
    subst e
    simpa using hb
   exact hni j (by omega) h'
  show l.length - (i + 1) < l.length - i
  omega
 refine hw_exit ?_
 simp (maxSteps := 4000000) only [↓sP, sA, tyS, simprocAttr]
 clear hK K
 repeat refine AI ?_
 refine hK _ _ _ ?_
 clear hK K
 refine hw_seq fun K hK => hw_region (by kernel_rfl) ?_
 simp (maxSteps := 4000000) only [↓sP, sA, tyS, simprocAttr]
 repeat refine AI ?_
 refine hK _ _ _ ?_
 clear hK K
 refine hw_ret ?_
 simp (maxSteps := 4000000) only [hpost, Tryz.results103, hresL, hres1, tupOf, ↓sP, sA, tyS, simprocAttr]
 refine hret_pure [] (.bool true) rfl ?_
 have : l.length ≤ i := by simp at hb; omega
 exact congrArg _ (ascB_iff.2 fun j h => hni j (by omega) h).symm

theorem same_ok (l m : List Word) (hl : l.length < 2 ^ 62) : HPure Tryz.prog 14 [.slc (l.map .str), .slc (m.map .str)] (fun v => v = .bool (l == m)) := by
 refine hfn_walk Tryz.func14 rfl (by kernel_rfl) (locOk_nil _) (Nat.le_of_ble_eq_true rfl) ?_
 refine hw_seq fun K hK => hw_region (by kernel_rfl) ?_
 simp (maxSteps := 4000000) only [↓sP, sA, tyS, simprocAttr]
 repeat refine AI ?_
 refine hK _ _ _ ?_
 clear hK K
 refine hw_seq fun K hK => ?_
 refine hw_seq fun K hK => hw_region (by kernel_rfl) ?_
 simp (maxSteps := 4000000) only [↓sP, sA, tyS, simprocAttr]
 repeat refine AI ?_
 refine hK _ _ _ ?_
 clear hK K
 refine hw_cond (b := (l.length : Int) != m.length) rfl (fun hb => ?_) (fun hb => ?_)
 ·
  refine hw_seq fun K hK => hw_region (by kernel_rfl) ?_
  simp (maxSteps := 4000000) only [↓sP, sA, tyS, simprocAttr]
  repeat refine AI ?_
  refine hK _ _ _ ?_
  clear hK K
  refine hw_ret ?_
  simp (maxSteps := 4000000) only [hpost, Tryz.results14, hresL, hres1, tupOf, ↓sP, sA, tyS, simprocAttr]
  refine hret_pure [] (.bool false) rfl ?_
  congr 1
  have : ¬ l = m := by rintro rfl; simp at hb
  simp [this]
 have hlen : l.length = m.length := by simp at hb; omega
 refine hw_skip ?_
 simp (maxSteps := 4000000) only [↓sP, sA, tyS, simprocAttr]
 repeat refine AI ?_
 refine hK _ _ _ ?_
 clear hK K
 refine hw_seq fun K hK => ?_
 refine hw_seq fun K hK => hw_region (by kernel_rfl) ?_
 simp (maxSteps := 4000000) only [↓sP, sA, tyS, simprocAttr]
 repeat refine AI ?_
 refine hK _ _ _ ?_
 clear hK K
 refine hw_block ?_
 refine hw_loop (α := {i : Nat // i ≤ l.length ∧ l.take i = m.take i}) (fun i => (fin [(0, .c (.slc (l.map .str))), (1, .c (.slc (m.map .str))), (5, .c (.int .i64 i.1))], fob [])) 0 (fun i => l.length - i.1) ⟨0, by omega, by simp⟩ (fits_fin (by omega) (by simp [FinOk, fin_at, finA_at, upd_at, HV.men, HV.menL, HV.norm, HV.toC, HV.toCL]) (by simp [FobOk, fob_at, upd_at, none0_at, gone, HO.men, HV.men, HV.menL, HV.norm, HV.toC, HV.toCL])) ?_
 rintro ⟨i, hi, hni⟩
 refine hw_seq fun K hK => ?_
 refine hw_seq fun K hK => hw_region (by kernel_rfl) ?_
 simp (maxSteps := 4000000) only [↓sP, sA, tyS, simprocAttr]
 repeat refine AI ?_
 refine hK _ _ _ ?_
 clear hK K
 refine hw_cond (b := decide ((i : Int) < l.length)) rfl (fun hb => ?_) (fun hb => ?_)
 ·
  have hlt : i < l.length := by simpa using hb
  have hlt1 : i < m.length := by omega
  refine hw_skip ?_
  simp (maxSteps := 4000000) only [↓sP, sA, tyS, simprocAttr]
  repeat refine AI ?_
  refine hK _ _ _ ?_
  clear hK K
  refine hw_seq fun K hK => hw_block ?_
  refine hw_seq fun K hK => hw_quiet mixed (by kernel_rfl) (by kernel_rfl) (by kernel_rfl) ?_
  simp (maxSteps := 4000000) only [↓sP, sA, tyS, simprocAttr, Int.natCast_nonneg, Int.ofNat_lt, hlt, hlt1, nth_map hlt, nth_map hlt1]
  repeat refine AI ?_
  refine hK _ _ _ ?_
  clear hK K
  refine hw_cond (b := !(l[i] == m[i])) rfl (fun hb => ?_) (fun hb => ?_)
  ·
   refine hw_seq fun K hK => hw_region (by kernel_rfl) ?_
   simp (maxSteps := 4000000) only [↓sP, sA, tyS, simprocAttr]
   repeat refine AI ?_
   refine hK _ _ _ ?_
   clear hK K
   refine hw_ret ?_
   simp (maxSteps := 4000000) only [hpost, Tryz.results14, hresL, hres1, tupOf, ↓sP, sA, tyS, simprocAttr]
   refine hret_pure [] (.bool false) rfl ?_
   congr 1
   have : ¬ l = m := by rintro rfl; simp at hb
   simp [this]
  refine hw_skip ?_
  simp (maxSteps := 4000000) only [↓sP, sA, tyS, simprocAttr]
  repeat refine AI ?_
  refine hK _ _ _ ?_
  clear hK K
  refine hw_region (by kernel_rfl) ?_
  simp (maxSteps := 4000000) only [↓sP, sA, tyS, simprocAttr, IntWalk.i64_in _ (show -9223372036854775808 ≤ (i : Int) + 1 ∧ (i : Int) + 1 ≤ 9223372036854775807 by omega)]
  refine ⟨⟨i + 1, by omega, ?_⟩, fits_fin (by omega) (by simp [FinOk, fin_at, finA_at, upd_at, HV.men, HV.menL, HV.norm, HV.toC, HV.toCL]) (by simp [FobOk, fob_at, upd_at, none0_at, gone, HO.men, HV.men, HV.menL, HV.norm, HV.toC, HV.toCL]), ?_⟩
  ·
   rw [List.take_succ_eq_append_getElem hlt, List.take_succ_eq_append_getElem hlt1, hni]
   simp at hb
   rw [hb]
  show l.length - (i + 1) < l.length - i
  omega
 refine hw_exit ?_
 simp (maxSteps := 4000000) only [↓sP, sA, tyS, simprocAttr]
 clear hK K
 repeat refine AI ?_
 refine hK _ _ _ ?_
 clear hK K
 refine hw_seq fun K hK => hw_region (by kernel_rfl) ?_
 simp (maxSteps := 4000000) only [↓sP, sA, tyS, simprocAttr]
 repeat refine AI ?_
 refine hK _ _ _ ?_
 clear hK K
 refine hw_ret ?_
 simp (maxSteps := 4000000) only [hpost, Tryz.results14, hresL, hres1, tupOf, ↓sP, sA, tyS, simprocAttr]
 refine hret_pure [] (.bool true) rfl ?_
 have : l.length ≤ i := by simp at hb; omega
 rw [List.take_of_length_le this, List.take_of_length_le (by omega)] at hni
 simp [hni]
end Go.Proofs.YtenbfeemmpjdhaaGreat

namespace Go.Proofs.YtenbfeemmpjdhaaGreat
open Go Go.Hl Go.Pl
set_option maxRecDepth 10000
set_option linter.unusedSimpArgs false
set_option linter.unusedVariables false

theorem add_ok (l : List Word) (w : Word) (hl : l.length < 2 ^ 40) : HPure Tryz.prog 74 [.slc (l.map .str), .str w] (fun v => v = .slc ((addW l w).map .str)) := by
 refine hfn_walk Tryz.func74 rfl (by kernel_rfl) (locOk_nil _) (Nat.le_of_ble_eq_true rfl) ?_
 refine hw_seq fun K hK => hw_region (by kernel_rfl) ?_
 simp (maxSteps := 4000000) only [↓sP, sA, tyS, simprocAttr]
 repeat refine AI ?_
 refine hK _ _ _ ?_
 clear hK K
 refine hw_seq fun K hK => ?_
 refine hw_seq fun K hK => hw_region (by kernel_rfl) ?_
 simp (maxSteps := 4000000) only [↓sP, sA, tyS, simprocAttr]
 refine call_pure (has_ok l w (by omega)) ⟨rfl, rfl, rfl, rfl⟩ ?_
 rintro v rfl
 repeat refine AI ?_
 refine hK _ _ _ ?_
 clear hK K
 refine hw_cond (b := l.contains w) rfl (fun hb => ?_) (fun hb => ?_)
 ·
  refine hw_seq fun K hK => hw_region (by kernel_rfl) ?_
  simp (maxSteps := 4000000) only [↓sP, sA, tyS, simprocAttr]
  repeat refine AI ?_
  refine hK _ _ _ ?_
  clear hK K
  refine hw_ret ?_
  simp (maxSteps := 4000000) only [hpost, Tryz.results74, hresL, hres1, tupOf, ↓sP, sA, tyS, simprocAttr]
  refine hret_pure [] (.slc (l.map .str)) ?_ ?_
  ·
   simp [HV.close, CV.denil, denilL_str]; rfl
  simp only [addW, hb, if_true]
 refine hw_skip ?_
 simp (maxSteps := 4000000) only [↓sP, sA, tyS, simprocAttr]
 repeat refine AI ?_
 refine hK _ _ _ ?_
 clear hK K
 refine hw_seq fun K hK => hw_region (by kernel_rfl) ?_
 simp (maxSteps := 4000000) only [↓sP, sA, tyS, simprocAttr]
 repeat refine AI ?_
 refine hK _ _ _ ?_
 clear hK K
 refine hw_seq fun K hK => hw_region (by kernel_rfl) ?_
 simp (maxSteps := 4000000) only [↓sP, sA, tyS, simprocAttr]
 repeat refine AI ?_
 refine hK _ _ _ ?_
 clear hK K
 refine hw_seq fun K hK => ?_
 refine hw_block ?_
 refine hw_own 5 0 9 1 rfl rfl rfl rfl ?_
 refine hw_loop (α := {i : Nat // i ≤ l.length ∧ ∀ j (h : j < i) (h' : j < l.length), slt l[j] w = true}) (fun i => (fin [(0, .c (.slc (l.map .str))), (1, .c (.str w)), (5, .own 24 i.1), (6, .c (.int .i64 i.1))], fob [(24, .row 9 1 ((l.take i.1).map .str))])) 25 (fun i => l.length - i.1) ⟨0, by omega, fun j h => by omega⟩ (fits_fin (by omega) (by simp [FinOk, fin_at, finA_at, upd_at, HV.men, HV.menL, HV.norm, HV.toC, HV.toCL]) (by simp [FobOk, fob_at, upd_at, none0_at, gone, HO.men, HV.men, HV.menL, HV.norm, HV.toC, HV.toCL])) ?_
 rintro ⟨i, hi, hni⟩
 have hti : (l.take i).length = i := by simp; omega
 refine hw_seq fun K hK => ?_
 by_cases hlt : i < l.length
 ·
  refine hw_seq fun K hK => hw_region (by kernel_rfl) ?_
  simp only [sR, simprocAttr]
  iterate 5
   (refine hlex_step (g := none) rfl rfl fun K' hK' => ?_; simp only [sH, ↓sP, sA, tyS, simprocAttr, Int.natCast_nonneg, Int.ofNat_lt, hlt, nth_map hlt]; (repeat refine AI ?_); refine hK' _ _ ?_; clear hK' K')
  iterate 6
   (refine hlex_step (g := some (15, true)) rfl rfl fun K' hK' => ?_; simp only [sH, ↓sP, sA, tyS, simprocAttr, Int.natCast_nonneg, Int.ofNat_lt, hlt, nth_map hlt]; (repeat refine AI ?_); refine hK' _ _ ?_; clear hK' K')
  refine hlex_step (g := none) rfl rfl fun K' hK' => ?_
  simp (maxSteps := 4000000) only [sH, ↓sP, sA, tyS, simprocAttr, Int.natCast_nonneg, Int.ofNat_lt, hlt, nth_map hlt]
  repeat refine AI ?_
  refine hK' _ _ ?_
  clear hK' K'
  simp only [sE, ↓reduceIte, simprocAttr]
  repeat refine AI ?_
  refine hK _ _ _ ?_
  clear hK K
  refine hw_cond (b := slt l[i] w) rfl (fun hb => ?_) (fun hb => ?_)
  ·
   refine hw_skip ?_
   simp (maxSteps := 4000000) only [↓sP, sA, tyS, simprocAttr]
   repeat refine AI ?_
   refine hK _ _ _ ?_
   clear hK K
   refine hw_block ?_
   refine hw_seq fun K hK => hw_region (by kernel_rfl) ?_
   simp only [sR, simprocAttr]
   iterate 8
    (refine hlex_step (g := none) rfl rfl fun K' hK' => ?_; simp only [sH, ↓sP, sA, tyS, simprocAttr, Int.natCast_nonneg, Int.ofNat_lt, hlt, nth_map hlt, hti, List.length_append]; (repeat refine AI ?_); refine hK' _ _ ?_; clear hK' K')
   simp only [sE, ↓reduceIte, simprocAttr]
   repeat refine AI ?_
   refine hK _ _ _ ?_
   clear hK K
   refine hw_region (by kernel_rfl) ?_
   simp (maxSteps := 4000000) only [↓sP, sA, tyS, simprocAttr, IntWalk.i64_in _ (show -9223372036854775808 ≤ (i : Int) + 1 ∧ (i : Int) + 1 ≤ 9223372036854775807 by omega)]
   refine ⟨⟨i + 1, by omega, fun j h h' => ?_⟩, fits_fin (by omega) ?_ ?_, ?_⟩
   ·
    by_cases e : j = i
    ·
     subst e; exact hb
    exact hni j (by omega) h'
   ·
    simp [FinOk, upd_at, fin_at, HV.men]
   ·
    refine ⟨?_, by omega, trivial, trivial⟩
    simp only [List.take_succ_eq_append_getElem hlt, List.map_append]
    rfl
   show l.length - (i + 1) < l.length - i
   omega
  refine hw_exit ?_
  simp (maxSteps := 4000000) only [↓sP, sA, tyS, simprocAttr]
  clear hK K
  repeat refine AI ?_
  refine hK _ _ _ ?_
  clear hK K
  refine hw_seq fun K hK => hw_draw2 mixed [(0, [], []), (1, [], []), (2, [], []), (4, [2], []), (5, [2], []), (6, [2], []), (3, [], [4, 5, 6]), (7, [], []), (8, [], [])] [0, 0, 2, 7, 0, 0, 48, 127, 255] (by kernel_rfl) (by kernel_rfl) (by kernel_rfl) (by kernel_rfl) rfl (by kernel_rfl) ?_
  iterate 9
   (refine hwalk2_step (g := none) rfl rfl fun K' hK' => ?_; simp only [sH, ↓sP, sA, tyS, simprocAttr, hti, ← List.map_drop, ← List.map_take]; (repeat refine AI ?_); refine hK' _ _ ?_; clear hK' K')
  simp only [sE, ↓reduceIte, simprocAttr]
  repeat refine AI ?_
  refine hK _ _ _ ?_
  clear hK K
  refine hw_ret ?_
  simp (maxSteps := 4000000) only [hpost, Tryz.results74, hresL, hres1, tupOf, ↓sP, sA, tyS, simprocAttr]
  refine hret_pure [24] (.slc ((l.take i ++ w :: l.drop i).map .str)) ?_ ?_
  ·
   have : l.take (l.length - i) = l.take (l.length - i) := rfl
   simp [HV.close, upd_at, HV.norm, HV.toC, List.take_of_length_le]
  rw [addW_eq (by assumption) hi hni (fun _ => hb)]
 refine hw_seq fun K hK => hw_region (by kernel_rfl) ?_
 simp only [sR, simprocAttr]
 iterate 5
  (refine hlex_step (g := none) rfl rfl fun K' hK' => ?_; simp only [sH, ↓sP, sA, tyS, simprocAttr, Int.ofNat_lt, hlt]; (repeat refine AI ?_); refine hK' _ _ ?_; clear hK' K')
 iterate 6
  (refine hlex_step (g := some (15, true)) rfl rfl fun K' hK' => ?_; simp only [sH, ↓sP, sA, tyS, simprocAttr, Int.ofNat_lt, hlt]; (repeat refine AI ?_); refine hK' _ _ ?_; clear hK' K')
 refine hlex_step (g := none) rfl rfl fun K' hK' => ?_
 simp (maxSteps := 4000000) only [sH, ↓sP, sA, tyS, simprocAttr, Int.ofNat_lt, hlt]
 repeat refine AI ?_
 refine hK' _ _ ?_
 clear hK' K'
 simp only [sE, ↓reduceIte, simprocAttr]
 repeat refine AI ?_
 refine hK _ _ _ ?_
 clear hK K
 refine hw_cond (b := _) rfl (fun hb => ?_) (fun hb => ?_)
 ·
  cases hb
 refine hw_exit ?_
 simp (maxSteps := 4000000) only [↓sP, sA, tyS, simprocAttr]
 clear hK K
 repeat refine AI ?_
 refine hK _ _ _ ?_
 clear hK K
 refine hw_seq fun K hK => hw_draw2 mixed [(0, [], []), (1, [], []), (2, [], []), (4, [2], []), (5, [2], []), (6, [2], []), (3, [], [4, 5, 6]), (7, [], []), (8, [], [])] [0, 0, 2, 7, 0, 0, 48, 127, 255] (by kernel_rfl) (by kernel_rfl) (by kernel_rfl) (by kernel_rfl) rfl (by kernel_rfl) ?_
 iterate 9
  (refine hwalk2_step (g := none) rfl rfl fun K' hK' => ?_; simp only [sH, ↓sP, sA, tyS, simprocAttr, hti, ← List.map_drop, ← List.map_take]; (repeat refine AI ?_); refine hK' _ _ ?_; clear hK' K')
 simp only [sE, ↓reduceIte, simprocAttr]
 repeat refine AI ?_
 refine hK _ _ _ ?_
 clear hK K
 refine hw_ret ?_
 simp (maxSteps := 4000000) only [hpost, Tryz.results74, hresL, hres1, tupOf, ↓sP, sA, tyS, simprocAttr]
 refine hret_pure [24] (.slc ((l.take i ++ w :: l.drop i).map .str)) ?_ ?_
 ·
  simp [HV.close, upd_at, HV.norm, HV.toC, List.take_of_length_le]
 rw [addW_eq (by assumption) hi hni (fun h => absurd h hlt)]

end Go.Proofs.YtenbfeemmpjdhaaGreat

namespace Go.Pl
open Go Go.Hl

theorem foldW_spec : ∀ (l : List Word) (a : List Word), Asc a → Asc (l.foldl addW a) ∧ ∀ w, w ∈ l.foldl addW a ↔ w ∈ a ∨ w ∈ l
  | [], a, h => ⟨h, fun w => by simp⟩
  | x :: l, a, h => by
    obtain ⟨h1, h2⟩ := foldW_spec l (addW a x) (asc_addW h x)
    refine ⟨h1, fun w => ?_⟩
    rw [List.foldl_cons, h2, mem_addW, List.mem_cons]
    constructor
    · rintro ((h | h) | h)
      · exact .inl h
      · exact .inr (.inl h)
      · exact .inr (.inr h)
    · rintro (h | h | h)
      · exact .inl (.inl h)
      · exact .inl (.inr h)
      · exact .inr h
theorem setW_asc (l : List Word) : Asc (setW l) := (foldW_spec l [] List.Pairwise.nil).1
theorem mem_setW {l : List Word} {w : Word} : w ∈ setW l ↔ w ∈ l := by
  have := (foldW_spec l [] List.Pairwise.nil).2 w
  simpa [setW] using this
theorem asc_nodup {l : List Word} (h : Asc l) : l.Nodup := h.imp (fun {x y} h e => by subst e; exact List.lt_irrefl _ h)

def dedup : List Word → List Word
  | a :: b :: l => if a == b then dedup (b :: l) else a :: dedup (b :: l)
  | l => l
theorem mem_dedup : ∀ {l : List Word} {w : Word}, w ∈ dedup l ↔ w ∈ l
  | [], w => by simp [dedup]
  | [a], w => by simp [dedup]
  | a :: b :: l, w => by
    have ih := mem_dedup (l := b :: l) (w := w)
    simp only [dedup]
    split
    · rename_i h
      have : a = b := by simpa using h
      subst this
      rw [ih]; simp
    · rw [List.mem_cons, ih, List.mem_cons (b := a)]
theorem asc_dedup : ∀ {l : List Word}, l.Pairwise (· ≤ ·) → Asc (dedup l)
  | [], _ => List.Pairwise.nil
  | [a], _ => by simp [dedup, Asc]
  | a :: b :: l, h => by
    obtain ⟨h1, h2⟩ := List.pairwise_cons.1 h
    have ih := asc_dedup h2
    simp only [dedup]
    split
    · exact ih
    · rename_i hne
      refine List.pairwise_cons.2 ⟨fun w hw => ?_, ih⟩
      rw [mem_dedup] at hw
      have hab : a ≤ b := h1 b (by simp)
      have hne' : a ≠ b := by simpa using hne
      have hlt := lt_of_le_ne hab hne'
      rcases List.mem_cons.1 hw with rfl | hw
      · exact hlt
      · have hbw : b ≤ w := (List.pairwise_cons.1 h2).1 w hw
        rcases Classical.em (b = w) with rfl | hne2
        · exact hlt
        · exact List.lt_trans hlt (lt_of_le_ne hbw hne2)
theorem dedup_sort {l s : List Word} (hs : s.Pairwise (· ≤ ·)) (hp : ∀ w, w ∈ s ↔ w ∈ l) : dedup s = setW l :=
  asc_ext (asc_dedup hs) (setW_asc l) fun w => by rw [mem_dedup, mem_setW, hp]

theorem mem_ownB {l : List Ky} {role : Word} {p : Ky → Bool} {w : Word} : w ∈ ownB l role p ↔ ∃ k ∈ l, (k.rs.contains role = true ∧ p k = true) ∧ k.o = w := by
  simp only [ownB, mem_setW, ownF, List.mem_map, List.mem_filter, Bool.and_eq_true]
  constructor
  · rintro ⟨k, ⟨h1, h2⟩, h3⟩; exact ⟨k, h1, h2, h3⟩
  · rintro ⟨k, h1, h2, h3⟩; exact ⟨k, ⟨h1, h2⟩, h3⟩
section
variable {r : Rt} {role : Word} {a b : List Dig} {t : Int}
theorem mem_vouched {w : Word} : w ∈ vouched r role a t ↔ validR r = true ∧ ∃ k ∈ r.k, (k.rs.contains role = true ∧ a.contains (kid k) = true ∧ liveB r k t = true) ∧ k.o = w := by
  unfold vouched
  split
  · rename_i h
    simp only [mem_ownB, Bool.and_eq_true, h, true_and]
  · rename_i h
    simp [h]
theorem asc_vouched : Asc (vouched r role a t) := by
  unfold vouched
  split
  · exact setW_asc _
  · exact List.Pairwise.nil
end
end Go.Pl

namespace Go.Pl
open Go Go.Hl

def roles10 : List Word := [[97, 100, 118, 105, 115, 111, 114], [97, 110, 97, 108, 121, 115, 116], [97, 112, 112, 114, 111, 118, 101], [105, 110, 118, 101, 110, 116, 111, 114, 121], [108, 97, 121, 111, 117, 116],
  [112, 111, 108, 105, 99, 121], [114, 101, 98, 117, 105, 108, 100], [114, 101, 108, 101, 97, 115, 101], [114, 111, 111, 116], [115, 116, 101, 112]]
def wStep : Word := [115, 116, 101, 112]
def owners4 : List Word := [[97, 110, 110], [98, 111, 98], [99, 97, 116], [100, 97, 110]]
def mOwner (i : Nat) : Word := owners4.getD (i % 4) []
def mPub (i : Nat) : Pk := ⟨((i % 3 : Nat) : Int), ⟨[UInt8.ofNat (i + 1), 77] ++ List.replicate 14 0, by simp⟩⟩
def mid (i : Nat) : Dig := pid (mPub i)
def insK (l : List Ky) (k : Ky) : List Ky := (l.takeWhile fun x => dlt (kid x) (kid k)) ++ k :: l.dropWhile fun x => dlt (kid x) (kid k)
def mKey (i : Nat) : Ky := ⟨mPub i, mOwner i, roles10, 0, maxN⟩
def fullK : List Ky := (List.range 5).foldl (fun l i => insK l (mKey i)) []
def full : Rt := ⟨1, maxN, roles10.map fun w => ⟨w, 1⟩, fullK, []⟩
theorem full_valid : validR full = true := by decide +kernel
theorem full_need : needV full wStep = 1 := by decide +kernel
theorem full_enough : enough full wStep [mid 0] 5 = true := by decide +kernel
end Go.Pl

namespace Go.Pl
open Go Go.Hl

section
variable {α : Type} {p : α → Bool} {l : List α}
theorem find_hit {i : Nat} (hi : i < l.length) (h : p l[i] = true) (h0 : ∀ x ∈ l.take i, p x = false) : l.find? p = some l[i] := by
  have e : l = l.take i ++ l[i] :: l.drop (i + 1) := by rw [← List.drop_eq_getElem_cons hi, List.take_append_drop]
  have e2 : l.find? p = (l.take i ++ l[i] :: l.drop (i + 1)).find? p := congrArg _ e
  rw [e2, List.find?_append, List.find?_eq_none.2 (fun x hx => by rw [h0 x hx]; simp), List.find?_cons, h]
  rfl
theorem find_miss (h0 : ∀ x ∈ l, p x = false) : l.find? p = none := List.find?_eq_none.2 fun x hx => by rw [h0 x hx]; simp
theorem take_miss {i : Nat} (hi : i < l.length) (h : p l[i] = false) (h0 : ∀ x ∈ l.take i, p x = false) : ∀ x ∈ l.take (i + 1), p x = false := fun x hx => by
  rw [List.take_succ_eq_append_getElem hi, List.mem_append, List.mem_singleton] at hx
  rcases hx with hx | rfl
  · exact h0 x hx
  · exact h
end
theorem need_hit {l : List Qt} {w : Word} {i : Nat} (hi : i < l.length) (h : (l[i].r == w) = true) (h0 : ∀ x ∈ l.take i, (x.r == w) = false) : need l w = l[i].n := by
  unfold need; rw [find_hit (p := fun q : Qt => q.r == w) hi h h0]
theorem need_miss {l : List Qt} {w : Word} (h0 : ∀ x ∈ l, (x.r == w) = false) : need l w = 0 := by
  unfold need; rw [find_miss (p := fun q : Qt => q.r == w) h0]
def revZ (l : List Rv) (d : Dig) : Int := (revoked l d).getD 0
def revS (l : List Rv) (d : Dig) : Bool := (revoked l d).isSome
theorem rev_hit {l : List Rv} {d : Dig} {i : Nat} (hi : i < l.length) (h : (l[i].k == d) = true) (h0 : ∀ x ∈ l.take i, (x.k == d) = false) : revoked l d = some l[i].t := by
  unfold revoked; rw [find_hit (p := fun x : Rv => x.k == d) hi h h0]; rfl
theorem rev_miss {l : List Rv} {d : Dig} (h0 : ∀ x ∈ l, (x.k == d) = false) : revoked l d = none := by
  unfold revoked; rw [find_miss (p := fun x : Rv => x.k == d) h0]; rfl
theorem gone_rev (l : List Rv) (d : Dig) (t : Int) : goneB l d t = (revS l d && decide (revZ l d ≤ t)) := by
  unfold goneB revS revZ
  cases revoked l d <;> simp
theorem slt_take : ∀ {a b : List UInt8} {i : Nat} (ha : i < a.length) (hb : i < b.length), a.take i = b.take i → a[i] ≠ b[i] → slt a b = decide (a[i] < b[i])
  | x :: a, y :: b, 0, _, _, _, hne => by
    simp only [List.getElem_cons_zero] at hne ⊢
    have : (x == y) = false := by simpa using hne
    simp [slt, Op.bytesLess, this]
  | x :: a, y :: b, i + 1, ha, hb, h, hne => by
    simp only [List.take_succ_cons, List.cons.injEq, List.getElem_cons_succ] at h hne ⊢
    obtain ⟨rfl, h⟩ := h
    have := slt_take (by simpa using ha) (by simpa using hb) h hne
    rw [← this]
    simp [slt, Op.bytesLess]
theorem slt_self : ∀ a : List UInt8, slt a a = false
  | [] => rfl
  | x :: a => by simpa [slt, Op.bytesLess] using slt_self a
theorem dlt_at {a b : Dig} {i : Nat} (hi : i < 32) (h : a.1.take i = b.1.take i) (hne : a.1[i]'(by rw [a.2]; exact hi) ≠ b.1[i]'(by rw [b.2]; exact hi)) : dlt a b = decide (a.1[i]'(by rw [a.2]; exact hi) < b.1[i]'(by rw [b.2]; exact hi)) :=
  slt_take _ _ h hne
theorem dlt_same {a b : Dig} (h : a.1.take 32 = b.1.take 32) : dlt a b = false := by
  rw [List.take_of_length_le (by rw [a.2]; exact Nat.le_refl _), List.take_of_length_le (by rw [b.2]; exact Nat.le_refl _)] at h
  unfold dlt; rw [h]; exact slt_self _
theorem dg_get {d : Dig} {i : Nat} (h : i < 32) : CV.getAt i 1 false (dg d) = some (u8 (d.1[i]'(by rw [d.2]; exact h))) := us_get (l := d.1) (by rw [d.2]; exact h)
theorem u8_ne (a b : UInt8) : ((a.toNat : Int) != (b.toNat : Int)) = !(a == b) := by
  rw [Bool.eq_iff_iff]
  simp only [bne_iff_ne, ne_eq, Bool.not_eq_true', beq_eq_false_iff_ne]
  constructor
  · intro h e; exact h (by rw [e])
  · intro h e; exact h (UInt8.toNat_inj.1 (by omega))
theorem u8_lt (a b : UInt8) : decide ((a.toNat : Int) < (b.toNat : Int)) = decide (a < b) := by
  rw [Bool.eq_iff_iff]
  simp [UInt8.lt_iff_toNat_lt]
end Go.Pl

namespace Go.Hl
open Go

theorem hret_lend {ob : Ob} {r : HV} {e : TypeId} {sz : Nat} {l : List CV} {R : CV → Prop} (cl : List Nat) (u : CV) (h : (r.close ob cl).norm = .c u) (hb : ob 0 = some (.row e sz l)) (h0 : 0 ∉ cl) (hR : R u) :
    HRet 1 r ob (fun r ob' => ∃ u, r = .c u ∧ ob' = fob [(0, .row e sz l)] ∧ R u) := by
  refine ⟨cl, id, .c u, fob [(0, .row e sz l)], ⟨u, rfl, rfl, hR⟩, by rw [h]; rfl, fun _ _ => rfl, fun _ _ _ _ h => h, by simp [HV.men], fun j o ho => ?_⟩
  simp only [fob_at, fob_nil] at ho
  split at ho
  · rename_i e0; subst e0; cases ho
    exact ⟨by omega, trivial, h0, .row e sz l, hb, rfl⟩
  · cases ho

section
variable {P : Program} {av : List Nat} {f : FuncId} {ob : Ob} {nid id n : Nat} {K : HV → Ob → Prop} {T e : TypeId} {sz : Nat} {v : CV} {l : List CV}
end
def HPure2 (P : Program) (f : FuncId) (args : List CV) (R : CV → CV → Prop) : Prop :=
  HFn P f (args.map .c) 0 none0 (fun r ob' => ∃ u v, r = .tup [.c u, .c v] ∧ R u v ∧ ob' = none0)
theorem hret_pure2 {ob : Ob} {r : HV} {R : CV → CV → Prop} (cl : List Nat) (u v : CV) (h : (r.close ob cl).norm = .tup [.c u, .c v]) (hR : R u v) : HRet 0 r ob (fun r ob' => ∃ u v, r = .tup [.c u, .c v] ∧ R u v ∧ ob' = none0) :=
  ⟨cl, id, .tup [.c u, .c v], none0, ⟨u, v, rfl, hR, rfl⟩, by rw [h]; rfl, fun _ h => by omega, fun _ _ _ _ h => h, by simp [HV.men, HV.menL], fun j o h => by simp [none0] at h⟩
theorem call_pure2 {P : Program} {av : List Nat} {f : FuncId} {ob : Ob} {nid : Nat} {K : HV → Ob → Prop} {args : List CV} {R : CV → CV → Prop} (h : HPure2 P f args R) (hfree : Free4 ob nid) (hK : ∀ u v, R u v → K (.tup [.c u, .c v]) ob) :
    HCall P av f (args.map .c) ob nid K := by
  refine ⟨[], args.map .c, none0, _, h, locOk_nil args, ⟨List.nodup_nil, by simp⟩, (HV.renL_c _ _).symm, fun j o h => by simp [none0] at h, fun r lob' hR _ => ?_⟩
  obtain ⟨u, v, rfl, hv, rfl⟩ := hR
  rw [obAfter_nil hfree.all]
  exact hK u v hv
end Go.Hl
