/- Plain Lean: small rules for the walks of chapter 11. By an AI agent. -/
import Derived.Test.YtenbfeemmpjdhaaGreatDoorHlU
import Derived.WalkKit
import Derived.ProofKit
import Derived.OpenShut
import Derived.ReadAgain
import Derived.ChangeBears
import Derived.Test.YtenbfeemmpjdhaaGreatDoorPl18e
import Derived.Sort.Grow
import Derived.Sort.EncStr
import Derived.Lib.LaidTab
import Derived.Deep.Draws
import Derived.LaidSub
import Derived.Test.YtenbfeemmpjdhaaGreatDoorHySb
import Derived.Laws.Externs
import Derived.Lib.BytesEntry
set_option linter.unusedSimpArgs false
set_option linter.unusedVariables false
set_option linter.defProp false
namespace Go.Hl
open Go

inductive HasTy (P : Program) : TypeId → CV → Prop where
 | bool {t : TypeId} (hu : P.underlying t = some .bool) (b : Bool) : HasTy P t (.bool b)
 | int {t : TypeId} {k : IntKind} (hu : P.underlying t = some (.int k)) {n : Int} (hw : (Lit.int k n).wf = true) : HasTy P t (.int k n)
 | str {t : TypeId} (hu : P.underlying t = some .string) {s : List UInt8} (hs : s.length ≤ maxLen) : HasTy P t (.str s)
 | slc {t e : TypeId} (hu : P.underlying t = some (.slice e)) {l : List CV} (hl : ∀ x ∈ l, HasTy P e x) (hn : l.length ≤ maxLen) : HasTy P t (.slc l)
 | arr {t e : TypeId} {m : Nat} (hu : P.underlying t = some (.array m e)) {l : List CV} (hl : ∀ x ∈ l, HasTy P e x) (hn : l.length = m) : HasTy P t (.agg l)
 | struct {t : TypeId} {fs : Array Field} (hu : P.underlying t = some (.struct fs)) {l : List CV} (hn : l.length = fs.size) (hl : ∀ (i : Nat) (f : Field) (x : CV), fs.toList[i]? = some f → l[i]? = some x → HasTy P f.type x) : HasTy P t (.agg l)

theorem HasTy.of_int {P : Program} {t : TypeId} {k : IntKind} {c : CV} (hu : P.underlying t = some (.int k)) (h : HasTy P t c) : ∃ n, c = .int k n ∧ (Lit.int k n).wf = true := by
 cases h with
 | int h2 hw => rw [hu] at h2; cases h2; exact ⟨_, rfl, hw⟩
 | bool h2 | str h2 | slc h2 | arr h2 | struct h2 => rw [hu] at h2; cases h2
theorem HasTy.of_str {P : Program} {t : TypeId} {c : CV} (hu : P.underlying t = some .string) (h : HasTy P t c) : ∃ s, c = .str s ∧ s.length ≤ maxLen := by
 cases h with
 | str h2 hs => exact ⟨_, rfl, hs⟩
 | int h2 | bool h2 | slc h2 | arr h2 | struct h2 => rw [hu] at h2; cases h2
theorem HasTy.of_slc {P : Program} {t e : TypeId} {c : CV} (hu : P.underlying t = some (.slice e)) (h : HasTy P t c) : ∃ l, c = .slc l ∧ (∀ x ∈ l, HasTy P e x) ∧ l.length ≤ maxLen := by
 cases h with
 | slc h2 hl hn => rw [hu] at h2; cases h2; exact ⟨_, rfl, hl, hn⟩
 | int h2 | bool h2 | str h2 | arr h2 | struct h2 => rw [hu] at h2; cases h2
theorem HasTy.of_arr {P : Program} {t e : TypeId} {m : Nat} {c : CV} (hu : P.underlying t = some (.array m e)) (h : HasTy P t c) : ∃ l, c = .agg l ∧ (∀ x ∈ l, HasTy P e x) ∧ l.length = m := by
 cases h with
 | arr h2 hl hn => rw [hu] at h2; cases h2; exact ⟨_, rfl, hl, hn⟩
 | int h2 | bool h2 | str h2 | slc h2 | struct h2 => rw [hu] at h2; cases h2
theorem HasTy.of_struct {P : Program} {t : TypeId} {fs : Array Field} {c : CV} (hu : P.underlying t = some (.struct fs)) (h : HasTy P t c) :
  ∃ l, c = .agg l ∧ l.length = fs.size ∧ ∀ (i : Nat) (f : Field) (x : CV), fs.toList[i]? = some f → l[i]? = some x → HasTy P f.type x := by
 cases h with
 | struct h2 hn hl => rw [hu] at h2; cases h2; exact ⟨_, rfl, hn, hl⟩
 | int h2 | bool h2 | str h2 | slc h2 | arr h2 => rw [hu] at h2; cases h2

def mA (P : Program) : Nat → TypeId → Bool
 | 0, _ => false
 | n + 1, t => match P.underlying t with
  | some .bool | some (.int _) | some .string => true
  | some (.slice e) => mA P n e
  | some (.array _ e) => mA P n e
  | some (.struct fs) => fs.toList.all fun f => mA P n f.type
  | _ => false

theorem kV {α : Type} {w : World} {O : Nat → Prop} {g : α → List Value} {R : α → CV → Prop} : ∀ (l : List α), (∀ a ∈ l, ∃ c, RepC w O c (g a) ∧ R a c) →
  ∃ cl : List CV, RepL w O cl (l.flatMap g) ∧ cl.length = l.length ∧ ∀ (i : Nat) a c, l[i]? = some a → cl[i]? = some c → R a c
 | [], _ => ⟨[], by simp [RepL], rfl, by simp⟩
 | a :: l, h => by
  obtain ⟨c, h1, h2⟩ := h a (by simp)
  obtain ⟨cl, h3, h4, h5⟩ := kV l (fun x hx => h x (by simp [hx]))
  refine ⟨c :: cl, by simp only [List.flatMap_cons, RepL]; exact ⟨_, _, rfl, h1, h3⟩, by simp [h4], fun i x y hx hy => ?_⟩
  cases i with
  | zero => simp at hx hy; rw [← hx, ← hy]; exact h2
  | succ i => simp at hx hy; exact h5 i x y hx hy

theorem uK {cw : Field → Nat} {cs : List Value} : ∀ (fs : List Field) (k : Nat), (∀ (j : Nat) f, fs[j]? = some f → f.offset = k + ((fs.take j).map cw).sum) →
  fs.flatMap (fun f => (cs.drop f.offset).take (cw f)) = (cs.drop k).take ((fs.map cw).sum)
 | [], k, _ => by simp
 | f :: fs, k, h => by
  have h0 := h 0 f rfl
  simp only [List.take_zero, List.map_nil, List.sum_nil, Nat.add_zero] at h0
  have ih := uK (cw := cw) (cs := cs) fs (k + cw f) (fun j g hg => by
   have := h (j + 1) g (by simpa using hg)
   simp only [List.take_succ_cons, List.map_cons, List.sum_cons] at this
   omega)
  simp only [List.flatMap_cons, List.map_cons, List.sum_cons, ih, h0]
  rw [← List.drop_drop, ← List.take_add]

theorem uL {cs : List Value} (c : Nat) : ∀ (m : Nat), (List.range m).flatMap (fun i => (cs.drop (i * c)).take c) = cs.take (m * c)
 | 0 => by simp
 | m + 1 => by
  rw [List.range_succ, List.flatMap_append, uL c m]
  simp only [List.flatMap_cons, List.flatMap_nil, List.append_nil]
  rw [← List.take_add, Nat.succ_mul]

theorem uM {w : World} {a : Addr} {c : Nat} {g : Nat → List Value} : ∀ (m : Nat), (∀ i, i < m → (g i).length = c ∧ ∀ r, r < c → w.cell? ((a.add (i * c)).add r) = (g i)[r]?) →
  ((List.range m).flatMap g).length = m * c ∧ ∀ j u, ((List.range m).flatMap g)[j]? = some u → w.cell? (a.add j) = some u
 | 0, _ => by simp
 | m + 1, h => by
  obtain ⟨h1, h2⟩ := uM m (fun i hi => h i (by omega))
  obtain ⟨h3, h4⟩ := h m (by omega)
  rw [List.range_succ, List.flatMap_append]
  simp only [List.flatMap_cons, List.flatMap_nil, List.append_nil]
  refine ⟨by rw [List.length_append, h1, h3, Nat.succ_mul], fun j u hj => ?_⟩
  by_cases hlt : j < m * c
  ·
   rw [List.getElem?_append_left (by omega)] at hj
   exact h2 j u hj
  ·
   rw [List.getElem?_append_right (by omega), h1] at hj
   have hr : j - m * c < c := by
    have := (List.getElem?_eq_some_iff.1 hj).1
    omega
   have := h4 (j - m * c) hr
   rw [Addr.add_add, hj, show m * c + (j - m * c) = j from by omega] at this
   exact this

section
variable {H : Type} {enc : TypeId × Value → H} {P : Program} {T : TypeId → Prop} {w : World} {base : Nat} {sp : Nat → Bool} {held : Bool}

theorem pD (K : Kids P T) : ∀ (m : Nat) (t : TypeId), mA P m t = true → T t → ∀ (n : Nat) (cs : List Value) (x : DataW H × List MemPlace), DataW.trod enc P w base sp held n t cs = some x →
  ∃ c, RepC w (fun _ => False) c cs ∧ HasTy P t c ∧ cs.length = cs.length
 | 0, t, hp, _, _, _, _, _ => by simp [mA] at hp
 | m + 1, t, hp, hT, 0, cs, x, h => by simp [DataW.trod] at h
 | m + 1, t, hp, hT, n + 1, cs, x, h => by
  unfold mA at hp
  split at hp
  ·
   rename_i hu
   unfold DataW.trod at h
   rw [hu] at h
   split at h
   case h_1 => rename_i b h1; exact ⟨.bool b, by simp [RepC], .bool hu b, rfl⟩
   all_goals simp_all
  ·
   rename_i k hu
   unfold DataW.trod at h
   rw [hu] at h
   split at h
   case h_2 =>
    rename_i k' k2 n2 h1
    cases h1
    split at h
    ·
     rename_i hc
     obtain ⟨rfl, hw⟩ := hc
     exact ⟨.int _ n2, by simp [RepC], .int hu hw, rfl⟩
    ·
     cases h
   all_goals simp_all
  ·
   rename_i hu
   unfold DataW.trod at h
   rw [hu] at h
   split at h
   case h_4 =>
    rename_i s h1
    split at h
    ·
     rename_i hc
     refine ⟨.str s.data.toList, by simp [RepC], .str hu ?_, rfl⟩
     have : s.data.toList.length = s.size := by rw [Array.length_toList]; rfl
     omega
    ·
     cases h
   all_goals simp_all
  ·
   rename_i e hu
   unfold DataW.trod at h
   rw [hu] at h
   split at h
   case h_7 =>
    rename_i el h1
    exact ⟨.slc [], by simp only [RepC]; exact ⟨none, 0, [], 0, rfl, by simp [RepL], by simp, by simp, fun _ => rfl, fun ad had => (by cases had)⟩, .slc hu (by simp) (by simp), rfl⟩
   case h_8 =>
    rename_i e' a len cap h1
    cases h1
    simp only at h
    split at h
    ·
     rename_i hc
     obtain ⟨hb, hlc, hcm⟩ := hc
     rw [Option.bind_eq_some_iff] at h
     obtain ⟨elems, he, _⟩ := h
     have hel : ∀ i, i < len → ∃ cl, w.cells? base (a.add (i * P.cellsOf e)) (P.cellsOf e) = some cl ∧ ∃ y, DataW.trod enc P w base sp held n e cl = some y := fun i hi => by
      have := mapM_some_get he i i (by simp [hi])
      have hlen := mapM_some_length he
      simp only [List.length_range] at hlen
      rw [List.getElem?_eq_getElem (by omega)] at this
      rw [Option.bind_eq_some_iff] at this
      obtain ⟨cl, h3, h4⟩ := this
      exact ⟨cl, h3, _, h4⟩
     let g : Nat → List Value := fun i => (w.cells? base (a.add (i * P.cellsOf e)) (P.cellsOf e)).getD []
     have hg : ∀ i, i < len → (g i).length = P.cellsOf e ∧ ∀ r, r < P.cellsOf e → w.cell? ((a.add (i * P.cellsOf e)).add r) = (g i)[r]? := fun i hi => by
      obtain ⟨cl, h3, _⟩ := hel i hi
      obtain ⟨_, h4, h5⟩ := World.cells?_some h3
      have : g i = cl := by simp [g, h3]
      rw [this]; exact ⟨h4, h5⟩
     obtain ⟨cl, hr, hlen, hty⟩ := kV (w := w) (O := fun _ => False) (g := g) (R := fun i c => HasTy P e c ∧ c.cells = P.cellsOf e) (List.range len) (fun i hi => by
      have hi' := List.mem_range.1 hi
      obtain ⟨cl, h3, y, h4⟩ := hel i hi'
      have hgi : g i = cl := by simp [g, h3]
      obtain ⟨c, q1, q2, _⟩ := pD K m e hp (K.slice hT hu) n cl y h4
      exact ⟨c, by rw [hgi]; exact q1, q2, by rw [← aZ q1, (World.cells?_some h3).2.1]⟩)
     simp only [List.length_range] at hlen
     have hmem : ∀ x ∈ cl, HasTy P e x ∧ x.cells = P.cellsOf e := fun x hx => by
      obtain ⟨i, hi, rfl⟩ := List.getElem_of_mem hx
      exact hty i i _ (List.getElem?_range (by omega)) (by rw [List.getElem?_eq_getElem hi])
     refine ⟨.slc cl, ?_, .slc hu (fun x hx => (hmem x hx).1) (by omega), rfl⟩
     simp only [RepC]
     refine ⟨some a, cap, _, P.cellsOf e, by rw [hlen], hr, fun v hv => (hmem v hv).2, by omega, fun hh => (by cases hh), fun ad had => ?_⟩
     cases had
     exact ⟨(uM len hg).2, fun _ h => h⟩
    ·
     cases h
   all_goals simp_all
  ·
   rename_i k e hu
   unfold DataW.trod at h
   rw [hu] at h
   split at h
   case h_10 =>
    rename_i cs0 _ _ k' e' h1
    cases h1
    split at h
    ·
     rename_i hc
     rw [Option.map_eq_some_iff] at h
     obtain ⟨xs, hxs, _⟩ := h
     obtain ⟨hTe, hce⟩ := K.array hT hu
     obtain ⟨cl, hr, hlen, hty⟩ := kV (w := w) (O := fun _ => False) (g := fun i => (cs0.drop (i * P.cellsOf e)).take (P.cellsOf e)) (R := fun i c => HasTy P e c) (List.range k) (fun i hi => by
      have hi' := List.mem_range.1 hi
      have := mapM_some_get hxs i i (by simp [hi'])
      have hlen := mapM_some_length hxs
      simp only [List.length_range] at hlen
      rw [List.getElem?_eq_getElem (by omega)] at this
      obtain ⟨c, q1, q2, _⟩ := pD K m e hp hTe n _ _ this
      exact ⟨c, q1, q2⟩)
     simp only [List.length_range] at hlen
     rw [uL, ← hce, ← hc, List.take_length] at hr
     refine ⟨.agg cl, hr, .arr hu (fun x hx => ?_) hlen, rfl⟩
     obtain ⟨i, hi, rfl⟩ := List.getElem_of_mem hx
     exact hty i i _ (List.getElem?_range (by omega)) (by rw [List.getElem?_eq_getElem hi])
    ·
     cases h
   all_goals simp_all
  ·
   rename_i fs hu
   unfold DataW.trod at h
   rw [hu] at h
   split at h
   case h_9 =>
    rename_i cs0 _ _ fs' h1
    cases h1
    split at h
    ·
     rename_i hc
     rw [Option.map_eq_some_iff] at h
     obtain ⟨xs, hxs, _⟩ := h
     obtain ⟨hTf, hsum, hoff⟩ := K.struct hT hu
     obtain ⟨cl, hr, hlen, hty⟩ := kV (w := w) (O := fun _ => False) (g := fun f : Field => (cs0.drop f.offset).take (P.cellsOf f.type)) (R := fun f c => HasTy P f.type c) fs.toList (fun f hf => by
      obtain ⟨i, hi, rfl⟩ := List.getElem_of_mem hf
      have := mapM_some_get hxs i _ (List.getElem?_eq_getElem hi)
      have hlen := mapM_some_length hxs
      rw [List.getElem?_eq_getElem (by omega)] at this
      obtain ⟨c, q1, q2, _⟩ := pD K m _ (List.all_eq_true.1 hp _ (List.getElem_mem hi)) (hTf _ (List.getElem_mem hi)) n _ _ this
      exact ⟨c, q1, q2⟩)
     rw [uK (cw := fun f => P.cellsOf f.type) fs.toList 0 (fun j f hf => by rw [hoff j f hf]; omega), List.drop_zero, ← hsum, ← hc, List.take_length] at hr
     exact ⟨.agg cl, hr, .struct hu (by simpa using hlen) hty, rfl⟩
    ·
     cases h
   all_goals simp_all
  ·
   cases hp

theorem sO {t : TypeId} {v : Value} {c : CV} (hc : HasTy P t c) (h : Value.okWide P w .any base t v) : c.isAgg = Value.isAgg' v := by
 cases hc with
 | bool hu b => unfold Value.okWide at h; rw [hu] at h; simp only [Cell.okWide, hu] at h; cases v <;> simp_all [Cell.ok, CV.isAgg, Value.isAgg']
 | int hu hw => unfold Value.okWide at h; rw [hu] at h; simp only [Cell.okWide, hu] at h; cases v <;> simp_all [Cell.ok, CV.isAgg, Value.isAgg']
 | str hu hs => unfold Value.okWide at h; rw [hu] at h; simp only [Cell.okWide, hu] at h; cases v <;> simp_all [Cell.ok, CV.isAgg, Value.isAgg']
 | slc hu hl hn => unfold Value.okWide at h; rw [hu] at h; simp only [Cell.okWide, hu] at h; cases v <;> simp_all [Cell.ok, CV.isAgg, Value.isAgg']
 | arr hu hl hn => unfold Value.okWide at h; rw [hu] at h; obtain ⟨cs, rfl, _⟩ := h; rfl
 | struct hu hn hl => unfold Value.okWide at h; rw [hu] at h; obtain ⟨cs, rfl, _⟩ := h; rfl

theorem aG9 (b : Nat) : ¬ Own (fun _ => none) b := by rintro ⟨_, _, h, _⟩; cases h

theorem pE (K : Kids P T) {m : Nat} : ∀ {ts : List TypeId} {vs : List Value} {ds : List (DataW H)} {ps : List MemPlace}, DataW.TrodAll enc P w base sp held ts vs ds ps → (∀ t ∈ ts, mA P m t = true ∧ T t) →
  (∀ (j : Nat) t v, ts[j]? = some t → vs[j]? = some v → Value.okWide P w .any 0 t v) →
  ∃ cs : List CV, RepHV w (fun _ => none) (Owned (fun _ => none) (fun _ => False)) (cs.map .c) vs ∧ cs.length = ts.length ∧ ds.length = ts.length ∧ ∀ (j : Nat) t c, ts[j]? = some t → cs[j]? = some c → HasTy P t c
 | [], vs, ds, ps, h, _, _ => by
  obtain ⟨rfl, rfl, rfl⟩ := ChangeShapes.trodAll_nil h
  exact ⟨[], by simp [RepHV], rfl, rfl, by simp⟩
 | t :: ts, vs, ds, ps, h, hp, ho => by
  obtain ⟨v, vs1, d, ds1, a, b, rfl, rfl, rfl, ⟨n, h1⟩, h2⟩ := ChangeShapes.trodAll_cons h
  obtain ⟨c, q1, q2, _⟩ := pD (w := w) K m t (hp t (by simp)).1 (hp t (by simp)).2 n _ _ h1
  obtain ⟨cs, r1, r2, r3, r4⟩ := pE K h2 (fun t ht => hp t (by simp [ht])) (fun j t v h3 h4 => ho (j + 1) t v (by simpa using h3) (by simpa using h4))
  have hst : Stay w (fun _ => False) w (Owned (fun _ => none) (fun _ => False)) := ⟨fun b _ _ => ⟨rfl, fun hb => hb.elim (fun x => x) (aG9 b)⟩⟩
  refine ⟨c :: cs, ?_, by simp [r2], by simp [r3], fun j t' c' h3 h4 => ?_⟩
  ·
   rw [List.map_cons, aX]
   exact ⟨v, vs1, rfl, ⟨by simp only [RepH]; exact q1.stay hst, sO q2 (ho 0 t v rfl rfl)⟩, r1⟩
  ·
   cases j with
   | zero => simp at h3 h4; rw [← h3, ← h4]; exact q2
   | succ j => simp at h3 h4; exact r4 j t' c' h3 h4

theorem aX7 {w w' : World} (h : ∀ b, b < w.heap.size → w'.heap[b]? = w.heap[b]?) {p : MemPlace} (hp : p.block < w.heap.size) : w.sameAt w' p := by
 cases p with
 | cell b off => exact World.cell?_of_block (h b hp)
 | map b => exact h b hp

theorem nQ {w' : World} : ∀ {ts : List TypeId} {vs : List Value} {ds : List (DataW H)} {ps : List MemPlace}, DataW.TrodAll enc P w base sp held ts vs ds ps → (∀ p ∈ ps, w.sameAt w' p) → DataW.TrodAll enc P w' base sp held ts vs ds ps
 | [], _, _, _, h, _ => by
  obtain ⟨rfl, rfl, rfl⟩ := ChangeShapes.trodAll_nil h
  exact ChangeShapes.trodAll_mk0
 | t :: ts, _, _, _, h, hs => by
  obtain ⟨v, vs1, d, ds1, a, b, rfl, rfl, rfl, ⟨n, h1⟩, h2⟩ := ChangeShapes.trodAll_cons h
  exact ⟨a, b, ⟨n, DataW.trod_carry n t _ _ h1 (fun p hp => hs p (List.mem_append_left _ hp))⟩, nQ h2 (fun p hp => hs p (List.mem_append_right _ hp)), rfl⟩

theorem aN7 {w w' : World} (h1 : w'.os = w.os) (h2 : w'.output = w.output) (h : ∀ b, b < w.heap.size → w'.heap[b]? = w.heap[b]?) (may : MemPlace → Prop) : w.keptBut w' may := by
 refine ⟨h1, h2, fun i hi => ?_⟩
 rw [h i hi]
 cases w.heap[i]? with
 | none => rfl
 | some o => cases o <;> simp

end
end Go.Hl

namespace Go.Hl
open Go

section
variable {P : Program} {av : List Nat} {f : FuncId} {ob : Ob} {nid id n : Nat} {K : HV → Ob → Prop} {T e : TypeId} {sz : Nat} {v : CV} {l : List CV}
end
def dF (P : Program) (f : FuncId) (args : List CV) (R : CV → CV → Prop) : Prop :=
 HFn P f (args.map .c) 0 bP (fun r ob' => ∃ u v, r = .tup [.c u, .c v] ∧ R u v ∧ ob' = bP)
theorem aM {ob : Ob} {r : HV} {R : CV → CV → Prop} (cl : List Nat) (u v : CV) (h : (r.close ob cl).norm = .tup [.c u, .c v]) (hR : R u v) : oS 0 r ob (fun r ob' => ∃ u v, r = .tup [.c u, .c v] ∧ R u v ∧ ob' = bP) :=
 ⟨cl, id, .tup [.c u, .c v], bP, ⟨u, v, rfl, hR, rfl⟩, by rw [h]; rfl, fun _ h => by omega, fun _ _ _ _ h => h, by simp [HV.men, HV.menL], fun j o h => by simp [bP] at h⟩
theorem uN {P : Program} {av : List Nat} {f : FuncId} {ob : Ob} {nid : Nat} {K : HV → Ob → Prop} {args : List CV} {R : CV → CV → Prop} (h : dF P f args R) (hfree : Free4 ob nid) (hK : ∀ u v, R u v → K (.tup [.c u, .c v]) ob) :
  HCall P av f (args.map .c) ob nid K := by
 refine ⟨[], args.map .c, bP, _, h, cS args, ⟨List.nodup_nil, by simp⟩, (HV.renL_c _ _).symm, fun j o h => by simp [bP] at h, fun r lob' hR _ => ?_⟩
 obtain ⟨u, v, rfl, hv, rfl⟩ := hR
 rw [iR hfree.all]
 exact hK u v hv
end Go.Hl

namespace Go.Hl
open Go Go.RowKit Go.Sort Go.Proofs

def bG0 (P : Program) (f : FuncId) (e : TypeId) (ss : List (List UInt8)) : Prop :=
 HFn P f [.own 0 ss.length] 1 (fob [(0, .row e 1 (ss.map .str))]) (fun r ob' => r = .tup [] ∧ ob' = fob [(0, .row e 1 ((ss.mergeSort leW).map .str))])

theorem iW {w : World} {O : Nat → Prop} : ∀ {ss : List (List UInt8)} {xs : List Value}, RepL w O (ss.map CV.str) xs → xs = ss.map cK
 | [], xs, h => by simpa [RepL] using h
 | s :: ss, xs, h => by
  simp only [List.map_cons, RepL, RepC] at h
  obtain ⟨c1, c2, rfl, rfl, h2⟩ := h
  rw [iW h2]
  rfl
theorem wN (S : List (List UInt8)) (cur : Array Value) (h : S.length ≤ cur.size) : (putCells encStr 0 S.toArray cur).toList.take S.length = S.map cK := by
 apply List.ext_getElem?
 intro i
 by_cases hi : i < S.length
 ·
  rw [List.getElem?_take, if_pos hi, List.getElem?_map]
  have hc : i < cur.size := by omega
  simp only [putCells, Array.getElem?_toList, Array.getElem?_mapIdx, Array.getElem?_eq_getElem hc, Option.map_some, List.getElem?_eq_getElem hi]
  rw [if_pos ⟨by omega, by simpa using hi⟩]
  simp [hi]
  rfl
 ·
  rw [List.getElem?_take, if_neg hi, List.getElem?_eq_none (by simpa using hi)]

theorem bG1 {P : Program} {f : FuncId} {e : TypeId} {ss : List (List UInt8)} (hok : dM P f = true)
  (hc : ∀ (blk cap : Nat) (w : World), Holds encStr w blk 0 ss.toArray → blk < w.heap.size → Calls P f #[.slice (some ⟨blk, 0, none⟩) ss.length cap] w fun x w' => x = .returned (.tuple #[]) ∧ ∃ n os, w' = grow (putRow encStr (Sort.ahead w n) blk 0 (ss.mergeSort leW).toArray) os)
  (hc0 : ∀ (cap : Nat) (w : World), Calls P f #[.slice none 0 cap] w fun x w' => x = .returned (.tuple #[]) ∧ w' = w) : bG0 P f e ss := by
 refine ⟨oP hok, fun w ρ X xs hS hA hX => Does.of hok ?_⟩
 obtain ⟨h, ys, hρ, hL, hcs, how⟩ := hS.objs 0 (.row e 1 (ss.map .str)) rfl
 have hys := iW hL
 subst hys
 have hlen : hlen h = ss.length := by have := fR how; simpa using this
 have hargs : xs = [h] := by
  rw [aX] at hA
  obtain ⟨y, zs, rfl, hy, hz⟩ := hA
  simp only [RepHV] at hz
  subst hz
  obtain ⟨hy1, hy2⟩ := hy
  have hag : Value.isAgg' y = false := by rw [← hy2]; rfl
  rw [cells_single hag] at hy1
  simp only [RepH, List.cons.injEq, and_true] at hy1
  obtain ⟨x, rfl, _, hx⟩ := hy1
  rw [(hx h hρ).2 hlen]
 subst hargs
 have hrt : ∀ w' : World, RepV w' ρ (Owned ρ X) (.tup []) (.tuple #[]) := fun w' => by
  refine ⟨?_, rfl⟩
  simp only [RepH]
  exact ⟨[], rfl, by simp [RepHV]⟩
 rcases how.2 with ⟨rfl, hz⟩ | ⟨g, cap, cur, rfl, hg0, hg, hcap, hmax, hcsz, htake⟩
 ·
  have : ss = [] := List.eq_nil_of_length_eq_zero (by simpa using hz)
  subst this
  refine (hc0 0 w).mono ?_
  rintro ex w' ⟨rfl, rfl⟩
  refine ⟨.tup [], _, ρ, .tuple #[], rfl, ⟨rfl, rfl⟩, ⟨hrt _, by simpa using hS, by simp [HV.men, HV.menL], fun i o ho => ?_, Stay2.refl _ _, Moves.refl _ _⟩⟩
  simp only [fob_at, fob_nil] at ho
  split at ho
  ·
   rename_i e0; subst e0; cases ho; exact ⟨by omega, trivial⟩
  ·
   cases ho
 ·
  simp only [List.length_map, Nat.mul_one] at hcap hcsz htake
  have hgs : g < w.heap.size := (Array.getElem?_eq_some_iff.1 hg).1
  have hH : Holds encStr w g 0 ss.toArray := fun j hj => by
   have hj' : j < ss.length := by simpa using hj
   refine ⟨?_, by simp [World.frozen?, hg]⟩
   have e1 : cur.toList[j]? = some (cK ss[j]) := by
    have : (cur.toList.take ss.length)[j]? = (ss.map cK)[j]? := by rw [htake]
    rw [List.getElem?_take, if_pos hj', List.getElem?_map, List.getElem?_eq_getElem hj'] at this
    simpa using this
   rw [Array.getElem?_toList] at e1
   simp only [World.cell?, hg, Nat.zero_add, e1]
   simp [hj']
   rfl
  simp only [List.length_map]
  refine (hc g cap w hH hgs).mono ?_
  rintro ex w' ⟨rfl, n, os, rfl⟩
  obtain ⟨S, hSd⟩ : ∃ S, S = ss.mergeSort leW := ⟨_, rfl⟩
  rw [← hSd]
  have hSl : S.length = ss.length := by rw [hSd]; exact (List.mergeSort_perm ss _).length_eq
  have hother : ∀ b, b < w.heap.size → b ≠ g → (grow (putRow encStr (Sort.ahead w n) g 0 S.toArray) os).heap[b]? = w.heap[b]? := fun b hb hne => by
   simp only [grow, putRow, mapBlock, Sort.ahead]
   rw [Array.getElem?_append_left (by simpa using hb), Array.getElem?_modify, if_neg (fun h => hne h.symm)]
  have hthis : (grow (putRow encStr (Sort.ahead w n) g 0 S.toArray) os).heap[g]? = some (.cells (putCells encStr 0 S.toArray cur) e (0, 0)) := by
   simp only [grow, putRow, mapBlock, Sort.ahead]
   rw [Array.getElem?_append_left (by simpa using hgs), Array.getElem?_modify, if_pos rfl, hg]
   rfl
  have hs2 : Stay2 w (Own ρ) (grow (putRow encStr (Sort.ahead w n) g 0 S.toArray) os) (Own ρ) := ⟨fun b hb hno => hother b hb (fun e' => hno ⟨0, _, hρ, by rw [e']; rfl⟩), fun _ h => .inl h, by simp [grow, putRow, mapBlock, Sort.ahead], rfl, rfl, rfl⟩
  refine ⟨.tup [], _, ρ, .tuple #[], rfl, ⟨rfl, rfl⟩, ⟨hrt _, ⟨fun i o ho => ?_, fun i hi => hS.none i ?_, hS.apart, hS.xb⟩, by simp [HV.men, HV.menL], fun i o ho => ?_, hs2, Moves.refl _ _⟩⟩
  ·
   simp only [fob_at, fob_nil] at ho
   split at ho
   ·
    rename_i e0; subst e0; cases ho
    refine ⟨_, S.map cK, hρ, qO S, fun v hv => ?_, by simp, .inr ⟨g, cap, putCells encStr 0 S.toArray cur, by simp [hSl], Nat.zero_le _, hthis, by simp [hSl]; exact hcap, hmax, ?_, ?_⟩⟩
    ·
     obtain ⟨s, _, rfl⟩ := List.mem_map.1 hv; rfl
    ·
     rw [← hcsz]; simp [putCells]
    ·
     simp only [List.length_map, Nat.mul_one]
     exact wN S cur (by omega)
   ·
    cases ho
  ·
   simp only [fob_at, fob_nil] at hi ⊢
   split at hi
   ·
    cases hi
   ·
    rename_i hne; rw [if_neg hne]
  ·
   simp only [fob_at, fob_nil] at ho
   split at ho
   ·
    rename_i e0; subst e0; cases ho; exact ⟨by omega, trivial⟩
   ·
    cases ho

theorem aX8 {P : Program} {av : List Nat} {f : FuncId} {ob : Ob} {nid id n : Nat} {K : HV → Ob → Prop} {e : TypeId} {ss : List (List UInt8)} (h : bG0 P f e ss) (hid : ob id = some (.row e 1 (ss.map .str))) (hn : n = ss.length) (hav : id ∉ av)
  (hfree : Free4 ob nid) (hK : K (.tup []) (upd ob id (some (.row e 1 ((ss.mergeSort leW).map .str))))) : HCall P av f [.own id n] ob nid K := by
 have h0 : sub [id] nid 0 = id := rfl
 subst hn
 refine ⟨[id], _, _, _, h, by simpa using kS e 1 ss.length (ss.map .str), ⟨by simp, by simpa using hav⟩, by simp only [HV.renL, HV.ren, h0], fun j o hj => ?_, fun r lob' hR _ => ?_⟩
 ·
  simp only [fob_at, fob_nil] at hj
  split at hj
  ·
   rename_i e0; subst e0; cases hj; simpa [HO.ren] using hid
  ·
   cases hj
 ·
  obtain ⟨rfl, rfl⟩ := hR
  have e : bD ob [id] nid (fob [(0, .row e 1 ((ss.mergeSort leW).map .str))]) = upd ob id (some (.row e 1 ((ss.mergeSort leW).map .str))) := by
   funext i
   by_cases e : i = id
   ·
    subst e
    simp only [bD, aR, List.findIdx?_cons, beq_self_eq_true, if_true, fob_at, Option.map_some]
    rfl
   ·
    have e' : (id == i) = false := by simp; exact fun h => e h.symm
    simp only [bD, List.findIdx?_cons, e', List.findIdx?_nil, Option.map_none, aV _ _ e]
    simp only [Bool.false_eq_true, if_false]
    split
    ·
     rename_i hr
     have h1 : [id].length + (i - nid) ≠ 0 := by simp
     rw [fob_at, if_neg h1, fob_nil]
     have : i = nid ∨ i = nid + 1 ∨ i = nid + 2 ∨ i = nid + 3 := by omega
     rcases this with rfl | rfl | rfl | rfl
     ·
      exact hfree.1.symm
     ·
      exact hfree.2.1.symm
     ·
      exact hfree.2.2.1.symm
     ·
      exact hfree.2.2.2.symm
    ·
     rfl
  rw [e]
  exact hK
end Go.Hl

namespace Go.Hl
open Go Go.RowKit

theorem aH0 {P : Program} {f : FuncId} {e : TypeId} {l : List (List UInt8)} (hok : dM P f = true) (hbig : l.length * 16 ≤ 140737488355328)
  (hc : ∀ (b off c : Nat) (w : World), (∀ j, j < l.length → w.cell? ⟨b, off + j, none⟩ = some (cK (l.getD j []))) → Calls P f #[.slice (some ⟨b, off, none⟩) l.length c] w fun x w' => ∃ v', x = .returned v' ∧ w'.ownsRow w.heap.size e 1 v' l.length (l.map cK) ∧ v' ≠ .slice none 0 0 ∧ Below w.heap.size w w')
  (hc0 : ∀ (c : Nat) (w : World), Calls P f #[.slice none 0 c] w fun x w' => x = .returned (.slice none 0 0) ∧ w' = w)
  (hcz : ∀ (a : Addr) (c : Nat) (w : World), Calls P f #[.slice (some a) 0 c] w fun x w' => ∃ v', x = .returned v' ∧ w'.ownsRow w.heap.size e 1 v' 0 [] ∧ v' ≠ .slice none 0 0 ∧ Below w.heap.size w w') :
  aW P f [.slc (l.map .str)] (fun v => v = .slc (l.map .str)) := by
 refine ⟨oP hok, fun w ρ X xs hS hA hX => Does.of hok ?_⟩
 have done : ∀ (w' : World) (v : Value), w'.ownsRow w.heap.size e 1 v l.length (l.map cK) → Below w.heap.size w w' → ∃ r ob' ρ' x, Ending.returned v = .returned x ∧ (∃ u, r = HV.c u ∧ u = .slc (l.map .str) ∧ ob' = bP) ∧ Gave w ρ X 0 r ob' w' ρ' x := by
  intro w' v hrow hb
  have hs2 : Stay2 w (Own ρ) w' (Own ρ) := ⟨fun g hg _ => hb.block g hg, fun _ h => .inl h, hb.size, hb.os, hb.tape, hb.output⟩
  have hst := hs2.stay X
  refine ⟨_, _, ρ, v, rfl, ⟨_, rfl, rfl, rfl⟩, ⟨?_, ⟨fun i o ho => by simp [bP] at ho, hS.none, hS.apart, hS.xb⟩, by simp [HV.men], fun i o ho => by simp [bP] at ho, hs2, Moves.refl _ _⟩⟩
  have hag : Value.isAgg' v = false := by rcases hrow.2 with ⟨rfl, _⟩ | ⟨g, cap, cur, rfl, _⟩ <;> rfl
  refine bR ?_ rfl hag
  simp only [RepC]
  rcases hrow.2 with ⟨rfl, hz⟩ | ⟨g, cap, cur, rfl, hg0, hg, hcap, _⟩
  ·
   have : l = [] := List.eq_nil_of_length_eq_zero hz
   exact ⟨none, 0, [], 1, by simp [this], by simp [this, RepL], by simp [this], by simp [this], fun _ => rfl, fun ad had => (by cases had)⟩
  ·
   refine ⟨some ⟨g, 0, none⟩, cap, l.map cK, 1, by simp, qO _, fun u hu => ?_, by simp; omega, fun hh => (by cases hh), fun ad had => ?_⟩
   ·
    obtain ⟨k, _, rfl⟩ := List.mem_map.1 hu; rfl
   ·
    cases had
    refine ⟨hrow.cells (g := g) rfl, fun _ => ?_⟩
    rintro (hx | ⟨i, L, h1, h2⟩)
    ·
     have : g < w.heap.size := hX g hx
     omega
    ·
     have : g < w.heap.size := Owned.lt hS h1 h2
     omega
 simp only [List.map_cons, List.map_nil, aX, RepHV] at hA
 obtain ⟨x, zs, rfl, hx, rfl⟩ := hA
 have h1 := RepV.single hx rfl
 simp only [RepC, List.cons.injEq, and_true] at h1
 obtain ⟨a, cap, ys, sz, rfl, h2, _, h4, h5, h6⟩ := h1
 have hys := iW h2
 subst hys
 simp only [List.length_map]
 cases a with
 | none =>
  have hz := h5 rfl
  have hl0 : l = [] := by
   refine List.eq_nil_of_length_eq_zero ?_
   simp only [List.length_map] at h4; omega
  subst hl0
  refine (hc0 cap w).mono ?_
  rintro ex w' ⟨rfl, rfl⟩
  exact done w' _ ⟨rfl, .inl ⟨rfl, rfl⟩⟩ (Below.refl _ _)
 | some ad =>
  have hr := (h6 ad rfl).1
  by_cases hl0 : l = []
  ·
   subst hl0
   refine (hcz ad cap w).mono ?_
   rintro ex w' ⟨v', rfl, hrow, _, hb⟩
   exact done w' v' hrow hb
  ·
   have hpos : 0 < l.length := List.length_pos_iff.2 hl0
   have hspot : ad.spot = none := by
    have := hr 0 (cK l[0]) (by simp [hpos])
    simp only [World.cell?] at this
    split at this
    ·
     split at this
     ·
      cases this
     ·
      rename_i hh; simpa [Addr.add] using hh
    ·
     cases this
   obtain ⟨b, off, spot⟩ := ad
   simp only at hspot
   subst hspot
   refine (hc b off cap w fun j hj => ?_).mono ?_
   ·
    have := hr j (cK l[j]) (by simp [hj])
    have e : (⟨b, off, none⟩ : Addr).add j = ⟨b, off + j, none⟩ := by
     by_cases h0 : j = 0
     ·
      subst h0; rfl
     ·
      simp [Addr.add, h0]
    rw [e] at this
    rw [this]
    simp [hj]
   ·
    rintro ex w' ⟨v', rfl, hrow, _, hb⟩
    exact done w' v' hrow hb
end Go.Hl

namespace Go.Hl
open Go Go.RowKit Go.Sort

abbrev lI := List (Nat × List Value)
def dW (T : lI) : Ob := fob [(0, .tab T)]
def fZ (P : Program) (f : FuncId) (T : lI) (args : List CV) (R : CV → Prop) : Prop :=
 HFn P f (args.map .c) 1 (dW T) (fun r ob' => ∃ v, r = .c v ∧ ob' = dW T ∧ R v)
def aT4 (P : Program) (f : FuncId) (T : lI) (args : List CV) (R : CV → CV → Prop) : Prop :=
 HFn P f (args.map .c) 1 (dW T) (fun r ob' => ∃ u v, r = .tup [.c u, .c v] ∧ ob' = dW T ∧ R u v)

theorem eY (T : lI) (j : Nat) : dW T j = if j = 0 then some (.tab T) else none := by
 simp only [dW, fob_at, fob_nil]
theorem cZ (T : lI) (args : List CV) : LocOk 1 (args.map .c) (dW T) := by
 refine ⟨fun j h => ?_, fun id o h => ?_, HV.menL_c⟩
 ·
  have : j = 0 := by omega
  subst this
  exact ⟨_, rfl⟩
 ·
  rw [eY] at h
  split at h
  ·
   subst_vars
   cases h
   exact ⟨by omega, by simp [HO.men]⟩
  ·
   cases h
theorem bG2 {ob : Ob} {T : lI} {cl : List Nat} (hb : ob 0 = some (.tab T)) (h0 : 0 ∉ cl) (j : Nat) (o : HO) (ho : dW T j = some o) :
  j < 1 + 4 ∧ o.men (· < 1 + 4) ∧ id j ∉ cl ∧ ∃ o0, ob (id j) = some o0 ∧ (match o0 with | .box t v => HO.box t (v.close ob cl).norm | .row e sz l => .row e sz l | .mp e sz D => .mp e sz D | .dead => .dead | .tab T => .tab T) = o.ren id := by
 rw [eY] at ho
 split at ho
 ·
  subst_vars
  cases ho
  exact ⟨by omega, by simp [HO.men], h0, _, hb, rfl⟩
 ·
  cases ho
theorem eA {ob : Ob} {r : HV} {T : lI} {R : CV → Prop} (cl : List Nat) (v : CV) (h : (r.close ob cl).norm = .c v) (hb : ob 0 = some (.tab T)) (h0 : 0 ∉ cl) (hR : R v) :
  oS 1 r ob (fun r ob' => ∃ v, r = .c v ∧ ob' = dW T ∧ R v) :=
 ⟨cl, id, .c v, dW T, ⟨v, rfl, rfl, hR⟩, by rw [h]; rfl, fun _ _ => rfl, fun _ _ _ _ h => h, by simp [HV.men], bG2 hb h0⟩
theorem rZ {ob : Ob} {r : HV} {T : lI} {R : CV → CV → Prop} (cl : List Nat) (u v : CV) (h : (r.close ob cl).norm = .tup [.c u, .c v]) (hb : ob 0 = some (.tab T)) (h0 : 0 ∉ cl) (hR : R u v) :
  oS 1 r ob (fun r ob' => ∃ u v, r = .tup [.c u, .c v] ∧ ob' = dW T ∧ R u v) :=
 ⟨cl, id, .tup [.c u, .c v], dW T, ⟨u, v, rfl, rfl, hR⟩, by rw [h]; simp only [HV.ren, HV.renL], fun _ _ => rfl, fun _ _ _ _ h => h, by simp [HV.men, HV.menL], bG2 hb h0⟩
theorem sB {ob : Ob} {nid id : Nat} {T : lI} (hid : ob id = some (.tab T)) (hfree : ob nid = none ∧ ob (nid + 1) = none ∧ ob (nid + 2) = none ∧ ob (nid + 3) = none) : bD ob [id] nid (dW T) = ob := by
 funext i
 by_cases e : i = id
 ·
  subst e
  simp only [bD, List.findIdx?_cons, beq_self_eq_true, if_true, eY, Option.map_some, hid]
  rfl
 ·
  have e' : (id == i) = false := by simp; exact fun h => e h.symm
  simp only [bD, List.findIdx?_cons, e', List.findIdx?_nil, Option.map_none]
  simp only [Bool.false_eq_true, if_false]
  split
  ·
   rename_i hr
   have h1 : [id].length + (i - nid) ≠ 0 := by simp
   rw [eY, if_neg h1]
   have : i = nid ∨ i = nid + 1 ∨ i = nid + 2 ∨ i = nid + 3 := by omega
   rcases this with rfl | rfl | rfl | rfl
   ·
    exact hfree.1.symm
   ·
    exact hfree.2.1.symm
   ·
    exact hfree.2.2.1.symm
   ·
    exact hfree.2.2.2.symm
  ·
   rfl
theorem qQ {ob : Ob} {nid id : Nat} {T : lI} (hid : ob id = some (.tab T)) : ∀ j o, dW T j = some o → ob ([id].getD j 0) = some (o.ren (sub [id] nid)) := by
 intro j o hj
 rw [eY] at hj
 split at hj
 ·
  subst_vars
  cases hj
  simpa [HO.ren] using hid
 ·
  cases hj
theorem eO {P : Program} {av : List Nat} {f : FuncId} {ob : Ob} {nid : Nat} {K : HV → Ob → Prop} {T : lI} {args : List CV} {R : CV → Prop} (id : Nat) (h : fZ P f T args R) (hid : ob id = some (.tab T)) (hav : id ∉ av)
  (hfree : ob nid = none ∧ ob (nid + 1) = none ∧ ob (nid + 2) = none ∧ ob (nid + 3) = none) (hK : ∀ v, R v → K (.c v) ob) : HCall P av f (args.map .c) ob nid K := by
 refine ⟨[id], args.map .c, _, _, h, cZ T args, ⟨by simp, by simpa using hav⟩, (HV.renL_c _ _).symm, qQ hid, fun r lob' hR _ => ?_⟩
 obtain ⟨v, rfl, rfl, hR⟩ := hR
 rw [sB hid hfree]
 exact hK v hR
theorem aH1 {P : Program} {av : List Nat} {f : FuncId} {ob : Ob} {nid : Nat} {K : HV → Ob → Prop} {T : lI} {args : List CV} {R : CV → CV → Prop} (id : Nat) (h : aT4 P f T args R) (hid : ob id = some (.tab T)) (hav : id ∉ av)
  (hfree : ob nid = none ∧ ob (nid + 1) = none ∧ ob (nid + 2) = none ∧ ob (nid + 3) = none) (hK : ∀ u v, R u v → K (.tup [.c u, .c v]) ob) : HCall P av f (args.map .c) ob nid K := by
 refine ⟨[id], args.map .c, _, _, h, cZ T args, ⟨by simp, by simpa using hav⟩, (HV.renL_c _ _).symm, qQ hid, fun r lob' hR _ => ?_⟩
 obtain ⟨u, v, rfl, rfl, hR⟩ := hR
 rw [sB hid hfree]
 exact hK u v hR

def bW0 (P : Program) (f : FuncId) (T : lI) (args : List CV) (e : TypeId) (sz : Nat) (R : List CV → Prop) : Prop :=
 HFn P f (args.map .c) 1 (dW T) (fun r ob' => ∃ l, r = .own 1 l.length ∧ ob' = fob [(0, .tab T), (1, .row e sz l)] ∧ R l)
theorem aX9 {ob : Ob} {T : lI} {e : TypeId} {sz : Nat} {l : List CV} {R : List CV → Prop} {id n : Nat} (hb : ob 0 = some (.tab T)) (hr : ob id = some (.row e sz l)) (hn : n = l.length) (hid : id ≠ 0) (hR : R l) :
  oS 1 (.own id n) ob (fun r ob' => ∃ l, r = .own 1 l.length ∧ ob' = fob [(0, .tab T), (1, .row e sz l)] ∧ R l) := by
 let τ : Nat → Nat := fun j => if j = 0 then 0 else if j = 1 then id else id + j
 subst hn
 refine ⟨[], τ, .own 1 l.length, fob [(0, .tab T), (1, .row e sz l)], ⟨l, rfl, rfl, hR⟩, ?_, fun j hj => ?_, fun i j _ _ h => ?_, by simp [HV.men], fun j o ho => ?_⟩
 ·
  simp only [HV.close, List.contains_nil, Bool.false_eq_true, if_false, HV.norm, HV.toC, HV.ren]
  rfl
 ·
  have : j = 0 := by omega
  subst this; rfl
 ·
  simp only [τ] at h
  split at h <;> split at h <;> (try split at h) <;> (try split at h) <;> omega
 ·
  simp only [fob_at, fob_nil] at ho
  split at ho
  ·
   rename_i e0; subst e0; cases ho
   exact ⟨by omega, by simp [HO.men], by simp, .tab T, hb, rfl⟩
  ·
   split at ho
   ·
    rename_i e0; subst e0; cases ho
    exact ⟨by omega, trivial, by simp, .row e sz l, hr, rfl⟩
   ·
    cases ho
theorem aY0 {P : Program} {av : List Nat} {f : FuncId} {ob : Ob} {nid : Nat} {K : HV → Ob → Prop} {T : lI} {args : List CV} {e : TypeId} {sz : Nat} {R : List CV → Prop} (id : Nat) (h : bW0 P f T args e sz R) (hid : ob id = some (.tab T)) (hav : id ∉ av)
  (hfree : ob nid = none ∧ ob (nid + 1) = none ∧ ob (nid + 2) = none ∧ ob (nid + 3) = none) (hK : ∀ l, R l → K (.own nid l.length) (upd ob nid (some (.row e sz l)))) : HCall P av f (args.map .c) ob nid K := by
 refine ⟨[id], args.map .c, _, _, h, cZ T args, ⟨by simp, by simpa using hav⟩, (HV.renL_c _ _).symm, qQ hid, fun r lob' hR _ => ?_⟩
 obtain ⟨l, rfl, rfl, hR⟩ := hR
 have h1 : sub [id] nid 1 = nid := by simp [sub]
 have e2 : bD ob [id] nid (fob [(0, .tab T), (1, .row e sz l)]) = upd ob nid (some (.row e sz l)) := by
  funext i
  by_cases e0 : i = id
  ·
   subst e0
   have hne : i ≠ nid := by rintro rfl; rw [hfree.1] at hid; cases hid
   rw [aV _ _ hne, hid]
   simp only [bD, List.findIdx?_cons, beq_self_eq_true, if_true, fob_at, Option.map_some, HO.ren]
  ·
   have e' : (id == i) = false := by simp; exact fun h => e0 h.symm
   simp only [bD, List.findIdx?_cons, e', List.findIdx?_nil, Option.map_none]
   simp only [Bool.false_eq_true, if_false]
   split
   ·
    rename_i hr
    by_cases hin : i = nid
    ·
     subst hin
     rw [aR]
     simp [fob_at, HO.ren]
    ·
     have h2 : [id].length + (i - nid) ≠ 0 := by simp
     have h3 : [id].length + (i - nid) ≠ 1 := by simp; omega
     rw [fob_at, if_neg h2, fob_at, if_neg h3, fob_nil, aV _ _ hin]
     have : i = nid + 1 ∨ i = nid + 2 ∨ i = nid + 3 := by omega
     rcases this with rfl | rfl | rfl
     ·
      exact hfree.2.1.symm
     ·
      exact hfree.2.2.1.symm
     ·
      exact hfree.2.2.2.symm
   ·
    rename_i hr
    have hin : i ≠ nid := by omega
    rw [aV _ _ hin]
 rw [e2]
 have := hK l hR
 simpa only [HV.ren, h1] using this

theorem aN8 {P : Program} {f : FuncId} {T : lI} {g : Nat} {name : String} {k : IntKind} {zs : List Int} (hok : dM P f = true) (hg : P.globalNamed name = some g) (hT : (g, zs.map fun z => Value.int k z) ∈ T) {a b : Int} {s : List UInt8}
  (hc : ∀ w : World, Lib.TabIs P w name k zs → Calls P f #[.int .i64 a, .int .i64 b] w fun e w' => e = .returned (.string ⟨s.toArray⟩) ∧ ∃ n os, w' = grow (w.drewN n) os) :
  fZ P f T [.int .i64 a, .int .i64 b] (fun v => v = .str s) := by
 refine ⟨oP hok, fun w ρ X xs hS hA hX => Does.of hok ?_⟩
 have h0 := hS.objs 0 _ (rfl : dW T 0 = some (.tab T))
 have htab : Lib.TabIs P w name k zs := by
  obtain ⟨-, h1⟩ := h0
  obtain ⟨⟨t, fz, h2⟩, -⟩ := h1 _ hT
  simp only [Lib.TabIs, World.var?, hg, Option.bind_some, h2]
 simp only [List.map_cons, List.map_nil, aX, RepHV] at hA
 obtain ⟨x, zs', rfl, hx, y, zs'', rfl, hy, rfl⟩ := hA
 have h1 := RepV.single hx rfl
 have h2 := RepV.single hy rfl
 simp only [RepC, List.cons.injEq, and_true] at h1 h2
 subst h1 h2
 refine (hc w htab).mono ?_
 rintro ex w' ⟨rfl, n, os, rfl⟩
 have hs2 : Stay2 w (Own ρ) (grow (w.drewN n) os) (Own ρ) := ⟨fun c hc' _ => by simp only [grow, World.drewN]; rw [Array.getElem?_append_left hc'], fun _ h => .inl h, by simp [grow, World.drewN], rfl, rfl, rfl⟩
 have hst := hs2.stay X
 refine ⟨_, _, ρ, _, rfl, ⟨_, rfl, rfl, rfl⟩, ⟨?_, ⟨fun i o ho => ?_, hS.none, hS.apart, hS.xb⟩, by simp [HV.men], fun i o ho => ?_, hs2, Moves.refl _ _⟩⟩
 ·
  refine bR ?_ rfl rfl
  simp [RepC]
 ·
  rw [eY] at ho
  split at ho
  ·
   subst_vars
   cases ho
   exact ⟨h0.1, jG hst h0.2⟩
  ·
   cases ho
 ·
  rw [eY] at ho
  split at ho
  ·
   subst_vars
   cases ho
   exact ⟨by omega, by simp [HO.men]⟩
  ·
   cases ho
end Go.Hl

namespace Go.Hl
open Go Go.RowKit

section
variable {P : Program} {T : TypeId → Prop} {H : Type} {enc : TypeId × Value → H}

theorem aY1 {f : FuncId} {fn : Func} {s : ChangeSpec} {mm : Nat} {tb : TypeId} {tabs : lI} (hok : dM P f = true) (K : Kids P T) (hz : ∀ t e, T t → P.underlying t = some (.slice e) → 0 < P.cellsOf e) (hvars : s.vars = []) (hres : fn.resultTypes = #[tb]) (htb : P.underlying tb = some .bool)
  (hspec : ∀ (H : Type) (ds : List (DataW H)), ds.length = fn.params.toList.length → (s.fn H ds).results = [.lit (.bool true)] ∧ (s.fn H ds).args = ds ∧ (s.fn H ds).vars = []) (hpl : ∀ t ∈ fn.params.toList, mA P mm t = true ∧ T t)
  (hlaw : ∀ cs : List CV, cs.length = fn.params.toList.length → (∀ (j : Nat) t c, fn.params.toList[j]? = some t → cs[j]? = some c → HasTy P t c) → fZ P f tabs cs (fun v => v = .bool true))
  {W : World} (htab : ∀ x ∈ tabs, ∃ t fz, W.heap[x.1]? = some (.cells x.2.toArray t fz)) {args : Array Value} {ds gs : List (DataW H)} {before : List MemPlace} (hval : ∀ (j : Nat) t v, fn.params[j]? = some t → args[j]? = some v → Value.okWide P W .any 0 t v)
  (hW : DataW.Whole enc P fn.params.toList s.vars false W args.toList ds gs before) :
  Calls P f args W fun e W' => ∃ v, e = .returned v ∧ s.post enc P fn false true false false W args v W' := by
 have hW' := hW
 obtain ⟨p, q, hA, hV, rfl, hfz, hnd⟩ := hW
 rw [hvars] at hV
 obtain ⟨rfl, rfl⟩ := ChangeShapes.trodVars_none hV
 simp only [List.append_nil] at hW' hfz
 obtain ⟨cs, r1, r2, r3, r4⟩ := pE (m := mm) K hA hpl (fun j t v h1 h2 => hval j t v (by simpa using h1) (by simpa using h2))
 obtain ⟨_, hrun⟩ := hlaw cs r2 r4
 have hS : RepS W (fun _ => none) (fun _ => False) (dW tabs) := by
  refine ⟨fun i o h => ?_, fun _ _ => rfl, fun _ _ _ _ _ h => (by simp at h), fun _ _ _ h => (by simp at h)⟩
  rw [eY] at h
  split at h
  ·
   cases h
   refine ⟨rfl, fun x hx => ⟨htab x hx, ?_⟩⟩
   rintro (h1 | ⟨i, L, h1, _⟩)
   ·
    exact h1
   ·
    cases h1
  ·
   cases h
 have hcall := hrun W (fun _ => none) (fun _ => False) args.toList hS r1 (fun _ h => h.elim)
 rw [Array.toArray_toList] at hcall
 refine (hcall.calls hok).mono ?_
 rintro e W' ⟨r, ob', ρ', x, rfl, ⟨v, rfl, rfl, rfl⟩, hg⟩
 obtain ⟨hr1, hr2⟩ := hg.v
 have hx : x = .bool true := by
  have hag : Value.isAgg' x = false := by rw [← hr2]; rfl
  rw [cells_single hag] at hr1
  simpa [RepH, RepC] using hr1
 subst hx
 have hheap : ∀ b, b < W.heap.size → W'.heap[b]? = W.heap[b]? := fun b hb => hg.stay.block b hb (aG9 b)
 obtain ⟨s1, s2, s3⟩ := hspec H (ds ++ []) (by simpa using r3)
 have hlt : ∀ a ∈ p, a.block < W.heap.size := hA.lt
 have args' : ∀ sp : Nat → Bool, (∀ a ∈ p, sp a.block = true) → DataW.TrodAll enc P W' 0 sp true fn.params.toList args.toList ds p := fun sp hsp =>
  nQ (hA.respare K hz (fun t ht => (hpl t ht).2) hsp) (fun a ha => aX7 hheap (hlt a ha))
 have hrl : Value.resultList fn.resultTypes.size (.bool true) = [.bool true] := by rw [hres]; rfl
 have hresT : ∀ (b : Nat) (sp : Nat → Bool) (hd : Bool), DataW.TrodAll enc P W' b sp hd fn.resultTypes.toList (Value.resultList fn.resultTypes.size (.bool true)) [.lit (.bool true)] [] := fun b sp hd => by
  rw [hrl, hres]
  exact trodAll_cons_mk (RowKit.shut_bool htb true) ChangeShapes.trodAll_mk0
 refine ⟨.bool true, rfl, ds, [], p, [], p, [], by simpa using hW', ?_, ?_, ?_, ?_, ?_⟩
 ·
  rw [s1]; exact hresT _ _ _
 ·
  rw [s2]; simpa using args' _ (fun a ha => by simpa using hlt a ha)
 ·
  rw [s3, hvars]; rfl
 ·
  exact aN7 hg.stay.os hg.stay.output hheap _
 ·
  intro h; cases h
end
theorem wO {P : Program} {W : World} {name : String} {k : IntKind} {zs : List Int} {g : Nat} (hg : P.globalNamed name = some g) (h : Lib.TabIs P W name k zs) : ∃ t fz, W.heap[g]? = some (.cells (zs.map fun z => Value.int k z).toArray t fz) := by
 unfold Lib.TabIs World.var? at h
 rw [hg] at h
 simp only [Option.bind_some] at h
 split at h
 ·
  rename_i cs t fz he
  cases h
  exact ⟨t, fz, he⟩
 ·
  cases h
end Go.Hl

namespace Go.Pl
open Go Go.Hl

theorem nZ : ∀ (l : List aK) (a : List aK), Asc a → Asc (l.foldl oW a) ∧ ∀ w, w ∈ l.foldl oW a ↔ w ∈ a ∨ w ∈ l
 | [], a, h => ⟨h, fun w => by simp⟩
 | x :: l, a, h => by
  obtain ⟨h1, h2⟩ := nZ l (oW a x) (bF8 h x)
  refine ⟨h1, fun w => ?_⟩
  rw [List.foldl_cons, h2, bF7, List.mem_cons]
  constructor
  ·
   rintro ((h | h) | h)
   ·
    exact .inl h
   ·
    exact .inr (.inl h)
   ·
    exact .inr (.inr h)
  ·
   rintro (h | h | h)
   ·
    exact .inl (.inl h)
   ·
    exact .inl (.inr h)
   ·
    exact .inr h
theorem aH2 (l : List aK) : Asc (lZ l) := (nZ l [] List.Pairwise.nil).1
theorem aH3 {l : List aK} {w : aK} : w ∈ lZ l ↔ w ∈ l := by
 have := (nZ l [] List.Pairwise.nil).2 w
 simpa [lZ] using this
theorem aY2 {l : List aK} (h : Asc l) : l.Nodup := h.imp (fun {x y} h e => by subst e; exact List.lt_irrefl _ h)

def bV : List aK → List aK
 | a :: b :: l => if a == b then bV (b :: l) else a :: bV (b :: l)
 | l => l
theorem qR : ∀ {l : List aK} {w : aK}, w ∈ bV l ↔ w ∈ l
 | [], w => by simp [bV]
 | [a], w => by simp [bV]
 | a :: b :: l, w => by
  have ih := qR (l := b :: l) (w := w)
  simp only [bV]
  split
  ·
   rename_i h
   have : a = b := by simpa using h
   subst this
   rw [ih]; simp
  ·
   rw [List.mem_cons, ih, List.mem_cons (b := a)]
theorem xS : ∀ {l : List aK}, l.Pairwise (· ≤ ·) → Asc (bV l)
 | [], _ => List.Pairwise.nil
 | [a], _ => by simp [bV, Asc]
 | a :: b :: l, h => by
  obtain ⟨h1, h2⟩ := List.pairwise_cons.1 h
  have ih := xS h2
  simp only [bV]
  split
  ·
   exact ih
  ·
   rename_i hne
   refine List.pairwise_cons.2 ⟨fun w hw => ?_, ih⟩
   rw [qR] at hw
   have hab : a ≤ b := h1 b (by simp)
   have hne' : a ≠ b := by simpa using hne
   have hlt := lY hab hne'
   rcases List.mem_cons.1 hw with rfl | hw
   ·
    exact hlt
   ·
    have hbw : b ≤ w := (List.pairwise_cons.1 h2).1 w hw
    rcases Classical.em (b = w) with rfl | hne2
    ·
     exact hlt
    ·
     exact List.lt_trans hlt (lY hbw hne2)
theorem aN9 {l s : List aK} (hs : s.Pairwise (· ≤ ·)) (hp : ∀ w, w ∈ s ↔ w ∈ l) : bV s = lZ l :=
 bP3 (xS hs) (aH2 l) fun w => by rw [qR, aH3, hp]

section
variable {r : Rt} {role : aK} {a b : List Dig} {t : Int}
end
end Go.Pl

namespace Go.Pl
open Go Go.Hl

def roles10 : List aK := [[97, 100, 118, 105, 115, 111, 114], [97, 110, 97, 108, 121, 115, 116], [97, 112, 112, 114, 111, 118, 101], [105, 110, 118, 101, 110, 116, 111, 114, 121], [108, 97, 121, 111, 117, 116],
 [112, 111, 108, 105, 99, 121], [114, 101, 98, 117, 105, 108, 100], [114, 101, 108, 101, 97, 115, 101], [114, 111, 111, 116], [115, 116, 101, 112]]
def uO : aK := [115, 116, 101, 112]
def owners4 : List aK := [[97, 110, 110], [98, 111, 98], [99, 97, 116], [100, 97, 110]]
def kW (i : Nat) : aK := owners4.getD (i % 4) []
def aH4 (i : Nat) : Pk := ⟨((i % 3 : Nat) : Int), ⟨[UInt8.ofNat (i + 1), 77] ++ List.replicate 14 0, by simp⟩⟩
def mid (i : Nat) : Dig := pid (aH4 i)
def uP (l : List Ky) (k : Ky) : List Ky := (l.takeWhile fun x => dlt (kid x) (kid k)) ++ k :: l.dropWhile fun x => dlt (kid x) (kid k)
def bP4 (i : Nat) : Ky := ⟨aH4 i, kW i, roles10, 0, eD⟩
def cD6 : List Ky := (List.range 5).foldl (fun l i => uP l (bP4 i)) []
def full : Rt := ⟨1, eD, roles10.map fun w => ⟨w, 1⟩, cD6, []⟩
theorem uQ : bQ full = true := by decide +kernel
theorem xT : xR full uO = 1 := by decide +kernel
theorem aH5 : uJ full uO [mid 0] 5 = true := by decide +kernel
end Go.Pl

namespace Go.Pl
open Go Go.Hl

section
variable {α : Type} {p : α → Bool} {l : List α}
theorem aH6 {i : Nat} (hi : i < l.length) (h : p l[i] = true) (h0 : ∀ x ∈ l.take i, p x = false) : l.find? p = some l[i] := by
 have e : l = l.take i ++ l[i] :: l.drop (i + 1) := by rw [← List.drop_eq_getElem_cons hi, List.take_append_drop]
 have e2 : l.find? p = (l.take i ++ l[i] :: l.drop (i + 1)).find? p := congrArg _ e
 rw [e2, List.find?_append, List.find?_eq_none.2 (fun x hx => by rw [h0 x hx]; simp), List.find?_cons, h]
 rfl
theorem xU (h0 : ∀ x ∈ l, p x = false) : l.find? p = none := List.find?_eq_none.2 fun x hx => by rw [h0 x hx]; simp
theorem gV {i : Nat} (hi : i < l.length) (h : p l[i] = false) (h0 : ∀ x ∈ l.take i, p x = false) : ∀ x ∈ l.take (i + 1), p x = false := fun x hx => by
 rw [List.take_succ_eq_append_getElem hi, List.mem_append, List.mem_singleton] at hx
 rcases hx with hx | rfl
 ·
  exact h0 x hx
 ·
  exact h
end
theorem aH7 {l : List Qt} {w : aK} {i : Nat} (hi : i < l.length) (h : (l[i].r == w) = true) (h0 : ∀ x ∈ l.take i, (x.r == w) = false) : pC l w = l[i].n := by
 unfold pC; rw [aH6 (p := fun q : Qt => q.r == w) hi h h0]
theorem xV {l : List Qt} {w : aK} (h0 : ∀ x ∈ l, (x.r == w) = false) : pC l w = 0 := by
 unfold pC; rw [xU (p := fun q : Qt => q.r == w) h0]
def qS (l : List Rv) (d : Dig) : Int := (gF l d).getD 0
def sQ (l : List Rv) (d : Dig) : Bool := (gF l d).isSome
theorem aB8 {l : List Rv} {d : Dig} {i : Nat} (hi : i < l.length) (h : (l[i].k == d) = true) (h0 : ∀ x ∈ l.take i, (x.k == d) = false) : gF l d = some l[i].t := by
 unfold gF; rw [aH6 (p := fun x : Rv => x.k == d) hi h h0]; rfl
theorem bG3 {l : List Rv} {d : Dig} (h0 : ∀ x ∈ l, (x.k == d) = false) : gF l d = none := by
 unfold gF; rw [xU (p := fun x : Rv => x.k == d) h0]; rfl
theorem bG4 (l : List Rv) (d : Dig) (t : Int) : bF9 l d t = (sQ l d && decide (qS l d ≤ t)) := by
 unfold bF9 sQ qS
 cases gF l d <;> simp
theorem aH8 : ∀ {a b : List UInt8} {i : Nat} (ha : i < a.length) (hb : i < b.length), a.take i = b.take i → a[i] ≠ b[i] → slt a b = decide (a[i] < b[i])
 | x :: a, y :: b, 0, _, _, _, hne => by
  simp only [List.getElem_cons_zero] at hne ⊢
  have : (x == y) = false := by simpa using hne
  simp [slt, Op.bytesLess, this]
 | x :: a, y :: b, i + 1, ha, hb, h, hne => by
  simp only [List.take_succ_cons, List.cons.injEq, List.getElem_cons_succ] at h hne ⊢
  obtain ⟨rfl, h⟩ := h
  have := aH8 (by simpa using ha) (by simpa using hb) h hne
  rw [← this]
  simp [slt, Op.bytesLess]
theorem aH9 : ∀ a : List UInt8, slt a a = false
 | [] => rfl
 | x :: a => by simpa [slt, Op.bytesLess] using aH9 a
theorem bY9 {a b : Dig} {i : Nat} (hi : i < 32) (h : a.1.take i = b.1.take i) (hne : a.1[i]'(by rw [a.2]; exact hi) ≠ b.1[i]'(by rw [b.2]; exact hi)) : dlt a b = decide (a.1[i]'(by rw [a.2]; exact hi) < b.1[i]'(by rw [b.2]; exact hi)) :=
 aH8 _ _ h hne
theorem bG5 {a b : Dig} (h : a.1.take 32 = b.1.take 32) : dlt a b = false := by
 rw [List.take_of_length_le (by rw [a.2]; exact Nat.le_refl _), List.take_of_length_le (by rw [b.2]; exact Nat.le_refl _)] at h
 unfold dlt; rw [h]; exact aH9 _
theorem bG6 {d : Dig} {i : Nat} (h : i < 32) : CV.getAt i 1 false (dg d) = some (u8 (d.1[i]'(by rw [d.2]; exact h))) := bY6 (l := d.1) (by rw [d.2]; exact h)
theorem bW1 (a b : UInt8) : ((a.toNat : Int) != (b.toNat : Int)) = !(a == b) := by
 rw [Bool.eq_iff_iff]
 simp only [bne_iff_ne, ne_eq, Bool.not_eq_true', beq_eq_false_iff_ne]
 constructor
 ·
  intro h e; exact h (by rw [e])
 ·
  intro h e; exact h (UInt8.toNat_inj.1 (by omega))
theorem cD7 (a b : UInt8) : decide ((a.toNat : Int) < (b.toNat : Int)) = decide (a < b) := by
 rw [Bool.eq_iff_iff]
 simp [UInt8.lt_iff_toNat_lt]
end Go.Pl

namespace Go.Pl
open Go Go.Hl

def alZ (c : UInt8) : Bool := (decide (97 ≤ (c.toNat : Int)) && decide ((c.toNat : Int) ≤ 122)) || (decide (48 ≤ (c.toNat : Int)) && decide ((c.toNat : Int) ≤ 57))
def puZ (c : UInt8) : Bool := ((c.toNat : Int) == 46) || (((c.toNat : Int) == 95) || ((c.toNat : Int) == 45))
def okc (i : Nat) (c : UInt8) : Bool := alZ c || (decide (0 < (i : Int)) && puZ c)
theorem cD8 (c : UInt8) : al c = alZ c := by
 have h1 : decide ((97 : UInt8) ≤ c) = decide (97 ≤ (c.toNat : Int)) := by rw [Bool.eq_iff_iff]; simp only [decide_eq_true_eq, UInt8.le_iff_toNat_le]; show 97 ≤ c.toNat ↔ _; omega
 have h2 : decide (c ≤ (122 : UInt8)) = decide ((c.toNat : Int) ≤ 122) := by rw [Bool.eq_iff_iff]; simp only [decide_eq_true_eq, UInt8.le_iff_toNat_le]; show c.toNat ≤ 122 ↔ _; omega
 have h3 : decide ((48 : UInt8) ≤ c) = decide (48 ≤ (c.toNat : Int)) := by rw [Bool.eq_iff_iff]; simp only [decide_eq_true_eq, UInt8.le_iff_toNat_le]; show 48 ≤ c.toNat ↔ _; omega
 have h4 : decide (c ≤ (57 : UInt8)) = decide ((c.toNat : Int) ≤ 57) := by rw [Bool.eq_iff_iff]; simp only [decide_eq_true_eq, UInt8.le_iff_toNat_le]; show c.toNat ≤ 57 ↔ _; omega
 unfold al alZ
 rw [h1, h2, h3, h4]
theorem bZ0 (c d : UInt8) : (c == d) = ((c.toNat : Int) == (d.toNat : Int)) := by
 rw [Bool.eq_iff_iff]
 simp only [beq_iff_eq]
 constructor
 ·
  rintro rfl; rfl
 ·
  intro h; exact UInt8.toNat_inj.1 (by omega)
theorem cF8 (c : UInt8) : nc c = (alZ c || puZ c) := by
 unfold nc puZ
 rw [cD8, bZ0, bZ0, bZ0]
 rfl
theorem jO {s : aK} : dV s = true ↔ (1 ≤ s.length ∧ s.length ≤ 64) ∧ ∀ i (h : i < s.length), okc i s[i] = true := by
 cases s with
 | nil => simp [dV]
 | cons c r =>
  simp only [dV, Bool.and_eq_true, decide_eq_true_eq, List.all_eq_true, cD8, cF8]
  constructor
  ·
   rintro ⟨h1, h2, h3⟩
   refine ⟨⟨by simp, h1⟩, fun i hi => ?_⟩
   cases i with
   | zero => simp [okc, h2]
   | succ i =>
    have := h3 _ (List.getElem_mem (by simpa using hi : i < r.length))
    simp only [List.getElem_cons_succ]
    unfold okc
    have h0 : decide (0 < ((i + 1 : Nat) : Int)) = true := by simp only [decide_eq_true_eq]; omega
    rw [h0, Bool.true_and]; exact this
  ·
   rintro ⟨⟨_, h1⟩, h3⟩
   refine ⟨h1, ?_, fun x hx => ?_⟩
   ·
    have := h3 0 (by simp)
    simpa [okc] using this
   ·
    obtain ⟨i, hi, rfl⟩ := List.mem_iff_getElem.1 hx
    have := h3 (i + 1) (by simpa using hi)
    simp only [List.getElem_cons_succ] at this
    unfold okc at this
    have h0 : decide (0 < ((i + 1 : Nat) : Int)) = true := by simp only [decide_eq_true_eq]; omega
    rw [h0, Bool.true_and] at this; exact this
theorem xW {s : aK} (h : ¬ (1 ≤ s.length ∧ s.length ≤ 64)) : dV s = false := by
 cases hn : dV s
 ·
  rfl
 ·
  exact absurd (jO.1 hn).1 h
theorem xX {s : aK} {i : Nat} (hi : i < s.length) (h : okc i s[i] = false) : dV s = false := by
 cases hn : dV s
 ·
  rfl
 ·
  rw [(jO.1 hn).2 i hi] at h; cases h
theorem aY3 {s : aK} {i : Nat} (hi : i < s.length) (h : okc i s[i] = true) (h0 : ∀ j (_ : j < i) (h : j < s.length), okc j s[j] = true) : ∀ j (_ : j < i + 1) (h : j < s.length), okc j s[j] = true := fun j hj h' => by
 rcases Nat.lt_or_ge j i with h1 | h1
 ·
  exact h0 j h1 h'
 ·
  have : j = i := by omega
  subst this; exact h
def eS (s : aK) : Bool := (s == []) || (decide (64 < (s.length : Int)) || (((gb s 0).toNat : Int) == 46 || (((gb s 0).toNat : Int) == 95 || ((gb s 0).toNat : Int) == 45)))
theorem aO0 {s : aK} (h : eS s = true) : dV s = false := by
 cases s with
 | nil => rfl
 | cons c r =>
  cases hn : dV (c :: r)
  ·
   rfl
  ·
   obtain ⟨⟨h1, h2⟩, h3⟩ := jO.1 hn
   have h4 := h3 0 (by simp)
   simp only [eS, gb, List.getD_cons_zero, Bool.or_eq_true, decide_eq_true_eq, beq_iff_eq] at h
   simp [okc, alZ] at h4
   simp only [List.length_cons] at h1 h2 h
   rcases h with h | h | h | h | h
   ·
    cases h
   ·
    omega
   all_goals omega
theorem aY4 {s : aK} (h : eS s = false) (hall : ∀ j (h : j < s.length), (alZ s[j] || puZ s[j]) = true) : dV s = true := by
 cases s with
 | nil => simp [eS] at h
 | cons c r =>
  simp only [eS, gb, List.getD_cons_zero, Bool.or_eq_false_iff, decide_eq_false_iff_not] at h
  obtain ⟨_, h1, h2, h3, h4⟩ := h
  refine jO.2 ⟨⟨by simp, by simp only [List.length_cons] at h1 ⊢; omega⟩, fun i hi => ?_⟩
  have := hall i hi
  cases i with
  | zero =>
   simp only [List.getElem_cons_zero] at this ⊢
   have hp : puZ c = false := by simp [puZ, h2, h3, h4]
   rw [hp, Bool.or_false] at this
   simp [okc, this]
  | succ i =>
   have h0 : decide (0 < ((i + 1 : Nat) : Int)) = true := by simp only [decide_eq_true_eq]; omega
   unfold okc; rw [h0, Bool.true_and]; exact this
theorem aO1 {s : aK} {j : Nat} (hj : j < s.length) (h : (alZ s[j] || puZ s[j]) = false) : dV s = false :=
 xX hj (by
  have h' : alZ s[j] = false ∧ puZ s[j] = false := by simpa using h
  unfold okc; rw [h'.1, h'.2]; simp)
end Go.Pl

namespace Go.Pl
open Go Go.Hl

section
variable {α β : Type}
def iX (r : α → α → Bool) : List α → Bool
 | a :: b :: l => r a b && iX r (b :: l)
 | _ => true
theorem jP (r : β → β → Bool) (f : α → β) : ∀ l : List α, iX r (l.map f) = iX (fun a b => r (f a) (f b)) l
 | [] => rfl
 | [_] => rfl
 | a :: b :: l => by
  have := jP r f (b :: l)
  simp only [List.map_cons, iX] at this ⊢
  rw [this]
theorem pF : ∀ l : List aK, oV l = iX slt l
 | [] => rfl
 | [_] => rfl
 | a :: b :: l => by simp only [oV, iX, pF (b :: l)]
theorem pG : ∀ l : List Dig, aX6 l = iX dlt l
 | [] => rfl
 | [_] => rfl
 | a :: b :: l => by simp only [aX6, iX, pG (b :: l)]
theorem uR {r : α → α → Bool} : ∀ {l : List α}, iX r l = true ↔ ∀ i (h : i + 1 < l.length), r l[i] l[i + 1] = true
 | [] => by simp [iX]
 | [a] => by simp [iX]
 | a :: b :: l => by
  have ih := uR (r := r) (l := b :: l)
  simp only [iX, Bool.and_eq_true, ih]
  constructor
  ·
   rintro ⟨h1, h2⟩ i hi
   cases i with
   | zero => exact h1
   | succ i => exact h2 i (by simpa using hi)
  ·
   intro h
   exact ⟨h 0 (by simp), fun i hi => h (i + 1) (by simpa using hi)⟩
def GoodTo (p : α → Bool) (r : α → α → Bool) (l : List α) (i : Nat) : Prop := (∀ j (h : j < l.length), j < i → p l[j] = true) ∧ ∀ j (h : j + 1 < l.length), j + 1 < i → r l[j] l[j + 1] = true
variable {p : α → Bool} {r : α → α → Bool} {l : List α}
theorem GoodTo.zero : GoodTo p r l 0 := ⟨fun j _ h => by omega, fun j _ h => by omega⟩
theorem GoodTo.one (hi : 0 < l.length) (h : p l[0] = true) : GoodTo p r l 1 := by
 refine ⟨fun j h' hj => ?_, fun j _ h => by omega⟩
 have : j = 0 := by omega
 subst this; exact h
theorem GoodTo.succ {i : Nat} (hi : i + 1 < l.length) (h : p l[i + 1] = true) (hr : r l[i] l[i + 1] = true) (h0 : GoodTo p r l (i + 1)) : GoodTo p r l (i + 1 + 1) := by
 refine ⟨fun j h' hj => ?_, fun j h' hj => ?_⟩
 ·
  rcases Nat.lt_or_ge j (i + 1) with h1 | h1
  ·
   exact h0.1 j h' h1
  ·
   have : j = i + 1 := by omega
   subst this; exact h
 ·
  rcases Nat.lt_or_ge (j + 1) (i + 1) with h1 | h1
  ·
   exact h0.2 j h' h1
  ·
   have : j = i := by omega
   subst this; exact hr
theorem GoodTo.all (h : GoodTo p r l l.length) : (l.all p && iX r l) = true := by
 rw [Bool.and_eq_true, List.all_eq_true, uR]
 refine ⟨fun x hx => ?_, fun i hi => h.2 i hi hi⟩
 obtain ⟨i, hi, rfl⟩ := List.mem_iff_getElem.1 hx
 exact h.1 i hi hi
theorem cV {i : Nat} (hi : i < l.length) (h : p l[i] = false) : (l.all p && iX r l) = false := by
 cases hn : l.all p && iX r l
 ·
  rfl
 ·
  rw [Bool.and_eq_true, List.all_eq_true] at hn
  rw [hn.1 _ (List.getElem_mem hi)] at h; cases h
theorem kX {i : Nat} (hi : i + 1 < l.length) (h : r l[i] l[i + 1] = false) : (l.all p && iX r l) = false := by
 cases hn : l.all p && iX r l
 ·
  rfl
 ·
  rw [Bool.and_eq_true, uR] at hn
  rw [hn.2 i hi] at h; cases h
end
theorem mX (l : List aK) : kT l = (l.all dV && iX slt l) := by unfold kT; rw [pF]
theorem dC (l : List Qt) : eJ l = ((l.all kU && iX (fun a b => slt a.r b.r) l) && decide (l.length ≤ 12)) := by unfold eJ; rw [pF, jP, Bool.and_assoc]
theorem dK (l : List Ky) : lG l = ((l.all uH && iX (fun a b => dlt (kid a) (kid b)) l) && decide (l.length ≤ 32)) := by unfold lG; rw [pG, jP, Bool.and_assoc]
theorem iH (l : List Rv) : gO l = ((l.all (fun x => inN x.t) && iX (fun a b => dlt a.k b.k) l) && decide (l.length ≤ 64)) := by unfold gO; rw [pG, jP, Bool.and_assoc]
theorem pH {α : Type} [BEq α] [LawfulBEq α] (l : List α) (a : α) : decide (0 ≤ aB4 (fun x => a == x) l) = l.contains a := by
 rw [Bool.eq_iff_iff, decide_eq_true_eq, bP2, List.contains_iff_mem, List.any_eq_true]
 constructor
 ·
  rintro ⟨x, hx, h⟩; rw [eq_of_beq h]; exact hx
 ·
  intro h; exact ⟨a, h, by simp⟩
theorem pI (n : Int) : IntKind.u8.wrap n = ((UInt8.ofNat (n.emod 256).toNat).toNat : Int) := by
 have h1 := Int.emod_nonneg n (show (256 : Int) ≠ 0 by omega)
 have h2 := Int.emod_lt_of_pos n (show (0 : Int) < 256 by omega)
 rw [IntKind.wrap_u8, UInt8.toNat_ofNat']
 have : n.emod 256 = n % 256 := rfl
 rw [this]
 omega
end Go.Pl

namespace Go.Hl
open Go Go.Pl

theorem mY {P : Program} {f : FuncId} {fn : Func} {e : Array Value → Sem Value} {args : List CV} {R : CV → Prop} (hf : P.funcs[f]? = some fn) (hname : (fn.name == "runtime.NumGoroutine") = false)
  (hb : fn.body.isNone = true) (hn : Extern.findNext fn = none) (he : Extern.find fn = some e)
  (h : ∀ (w : World) (ρ : Env) (O : Nat → Prop) (xs : List Value), RepHV w ρ O (args.map .c) xs → ∃ v x, R v ∧ RepV w ρ O (.c v) x ∧ (e xs.toArray).run P w = .ok x w) : aW P f args R := by
 refine ⟨by unfold aW5; rw [hf]; simp only [hname]; rfl, fun w ρ X xs hS hA hX => .inr ⟨by unfold dM; rw [hf]; simp only [Option.isNone_iff_eq_none] at hb; simp [hb], ?_⟩⟩
 obtain ⟨v, x, hR, hv, hrun⟩ := h w ρ _ xs hA
 refine ⟨x, by rw [run_callFunc_extern hf hname hb hn he, hrun]; rfl, .c v, bP, ρ, x, rfl, ⟨v, rfl, hR, rfl⟩, ⟨hv, hS, by simp [HV.men], fun id o h => by simp [bP] at h, Stay2.refl _ _, Moves.refl _ _⟩⟩

theorem aT5 {w : World} {O : Nat → Prop} : ∀ {l : List UInt8} {xs : List Value}, RepL w O (l.map u8) xs → xs = l.map fun b => .int .u8 (b.toNat : Int)
 | [], xs, h => by simpa [RepL] using h
 | b :: l, xs, h => by
  simp only [List.map_cons, RepL, u8, RepC] at h
  obtain ⟨c1, c2, rfl, rfl, h2⟩ := h
  rw [aT5 h2]
  rfl
theorem qT {P : Program} {w : World} {ρ : Env} {O : Nat → Prop} {l : List UInt8} {x : Value} (h : RepV w ρ O (.c (.slc (l.map u8))) x) : (Extern.Bytes.bytesOf x).run P w = .ok ⟨l.toArray⟩ w := by
 have h1 := h.single rfl
 simp only [RepC, List.cons.injEq, and_true] at h1
 obtain ⟨a, cap, xs, sz, rfl, h2, _, h4, h5, h6⟩ := h1
 have hx := aT5 h2
 cases a with
 | none =>
  have := h5 rfl
  have hl : l = [] := by
   have : l.length = 0 := by simp only [List.length_map] at h4; omega
   exact List.eq_nil_of_length_eq_zero this
  subst hl
  simp only [Extern.Bytes.bytesOf, Sem.run_pure]
  rfl
 | some ad =>
  have hr := (h6 ad rfl).1
  have := Go.Lib.run_loadBytesX (P := P) w (l.map fun b => (b.toNat : Int)) ad .empty (fun j y hj => hr j _ (by
   rw [hx]
   rw [List.getElem?_map] at hj ⊢
   cases hb : l[j]? with
   | none => rw [hb] at hj; cases hj
   | some b => rw [hb] at hj; cases hj; rfl))
  simp only [List.length_map] at this
  simp only [Extern.Bytes.bytesOf, List.length_map, this]
  congr 2
  simp only [Go.Lib.bytesOf, List.map_map]
  have e : l.map ((fun n : Int => n.toNat.toUInt8) ∘ fun b : UInt8 => (b.toNat : Int)) = l := by
   conv => rhs; rw [← List.map_id l]
   exact List.map_congr_left fun b _ => by simp
  rw [e]
  simp

def oA (a b : List UInt8) : Int := if slt a b then -1 else if a == b then 0 else 1
def bG7 (a b : List UInt8) : Int :=
 match (List.range (min a.length b.length)).find? fun i => a.getD i 0 != b.getD i 0 with
 | some i => if a.getD i 0 < b.getD i 0 then -1 else 1
 | none => if a.length < b.length then -1 else if a.length > b.length then 1 else 0
theorem uS {p : Nat → Bool} (n : Nat) : (List.range (n + 1)).find? p = if p 0 then some 0 else ((List.range n).find? fun i => p (i + 1)).map (· + 1) := by
 rw [List.range_succ_eq_map, List.find?_cons, List.find?_map]
 split <;> simp_all [Function.comp]
 rfl
theorem aT6 : ∀ a b : List UInt8, bG7 a b = oA a b
 | [], [] => rfl
 | [], b :: l => by simp [bG7, oA, slt, Op.bytesLess]
 | a :: l, [] => by simp [bG7, oA, slt, Op.bytesLess]
 | a :: l, b :: m => by
  have ih := aT6 l m
  have hmin : min (a :: l).length (b :: m).length = min l.length m.length + 1 := by simp only [List.length_cons]; omega
  unfold bG7 at ih ⊢
  rw [hmin, uS]
  by_cases hab : a = b
  ·
   subst hab
   simp only [List.getD_cons_zero, bne_self_eq_false, Bool.false_eq_true, if_false, List.getD_cons_succ]
   have e1 : oA (a :: l) (a :: m) = oA l m := by
    have h1 : slt (a :: l) (a :: m) = slt l m := by simp [slt, Op.bytesLess]
    unfold oA
    rw [h1]
    simp
   rw [e1, ← ih]
   cases (List.range (min l.length m.length)).find? fun i => l.getD i 0 != m.getD i 0 with
   | some i => simp
   | none => simp
  ·
   have h1 : (a != b) = true := by simpa using hab
   simp only [List.getD_cons_zero, h1, if_true]
   unfold oA
   have h2 : (a == b) = false := by simpa using hab
   by_cases h3 : a < b
   ·
    simp [slt, Op.bytesLess, h3]
   ·
    simp [slt, Op.bytesLess, h3, h2, hab]
theorem bP5 {P : Program} {w : World} {ρ : Env} {O : Nat → Prop} {a b : List UInt8} {x y : Value} (ha : RepV w ρ O (.c (.slc (a.map u8))) x) (hb : RepV w ρ O (.c (.slc (b.map u8))) y) :
  (Extern.BytealgCompare.compare #[x, y]).run P w = .ok (.int .i64 (oA a b)) w := by
 change (Sem.run P (do pure (goInt (Extern.BytealgCompare.cmp (← Extern.Bytes.bytesOf x) (← Extern.Bytes.bytesOf y)))) w) = _
 simp only [Sem.run_bind, qT ha, qT hb, Result.andThen_ok, Sem.run_pure, goInt]
 rw [← aT6]
 congr 2
 have h1 : ∀ l : List UInt8, (⟨l.toArray⟩ : ByteArray).size = l.length := fun l => by simp [ByteArray.size]
 have h2 : ∀ (l : List UInt8) (i : Nat), (⟨l.toArray⟩ : ByteArray)[i]! = l.getD i 0 := fun l i => by
  exact Go.Lib.get!_eq l i
 unfold Extern.BytealgCompare.cmp bG7
 simp only [h1, h2]
 generalize List.find? _ _ = o
 cases o <;> rfl
theorem aO2 {P : Program} {f : FuncId} {fn : Func} (hf : P.funcs[f]? = some fn) (hname : (fn.name == "runtime.NumGoroutine") = false) (hb : fn.body.isNone = true) (hn : Extern.findNext fn = none)
  (he : Extern.find fn = some Extern.BytealgCompare.compare) (a b : List UInt8) : aW P f [.slc (a.map u8), .slc (b.map u8)] (fun v => v = .int .i64 (oA a b)) :=
 mY hf hname hb hn he fun w ρ O xs h => by
  simp only [List.map_cons, List.map_nil, aX, RepHV] at h
  obtain ⟨x, l1, rfl, hx, y, l2, rfl, hy, rfl⟩ := h
  exact ⟨_, _, rfl, dB _ _ _ _ _, bP5 hx hy⟩
end Go.Hl

namespace Go.Pl
open Go Go.Hl

theorem bZ1 (a b : List UInt8) : decide (0 ≤ oA a b) = !slt a b := by
 unfold oA
 cases slt a b
 ·
  simp; split <;> omega
 ·
  rfl
theorem bG8 (t : Int) : inN t = (decide (0 ≤ t) && decide (t ≤ eD)) := rfl
theorem nlt (a b : Int) : decide (a ≤ b) = !decide (b < a) := by
 rw [Bool.eq_iff_iff]; simp
theorem nle (a b : Int) : decide (a < b) = !decide (b ≤ a) := by
 rw [Bool.eq_iff_iff]; simp
theorem cY (q : Qt) : kU q = (dV q.r && (!decide (q.n < 1) && !decide (32 < q.n))) := by
 unfold kU; rw [nlt, nlt]
theorem dR (k : Ky) : uH k = ((decide (0 ≤ k.p.h) && decide (k.p.h ≤ 6)) && (dV k.o && (!decide ((k.rs.length : Int) < 1) && (!decide (12 < (k.rs.length : Int)) && (kT k.rs &&
  ((decide (0 ≤ k.fr) && decide (k.fr ≤ eD)) && ((decide (0 ≤ k.un) && decide (k.un ≤ eD)) && !decide (k.un ≤ k.fr)))))))) := by
 unfold uH
 rw [← nlt, ← nlt, ← nle, bG8, bG8]
 have h1 : decide (1 ≤ k.rs.length) = decide ((1 : Int) ≤ k.rs.length) := by rw [Bool.eq_iff_iff]; simp only [decide_eq_true_eq]; omega
 have h2 : decide (k.rs.length ≤ 12) = decide ((k.rs.length : Int) ≤ 12) := by rw [Bool.eq_iff_iff]; simp only [decide_eq_true_eq]; omega
 rw [h1, h2, Bool.and_assoc (decide ((1 : Int) ≤ k.rs.length))]
theorem fT (k : Ky) : uH k = ((decide (0 ≤ k.p.h) && decide (k.p.h ≤ 6)) && (dV k.o && (decide (1 ≤ (k.rs.length : Int)) && (decide ((k.rs.length : Int) ≤ 12) && (kT k.rs &&
  (decide (0 ≤ k.fr) && (decide (k.fr < k.un) && decide (k.un ≤ eD)))))))) := by
 rw [dR]
 rw [← nlt, ← nlt, ← nle]
 congr 5
 rw [Bool.eq_iff_iff]
 simp only [Bool.and_eq_true, decide_eq_true_eq]
 have : (0 : Int) < eD := by decide
 omega
end Go.Pl

namespace Go.Pl
open Go Go.Hl

theorem denilL_u8 (l : List UInt8) : CV.denilL (l.map u8) = l.map u8 := cB (f := u8) (fun _ => rfl) l
theorem mZ (d : Dig) : (d.1.map u8).take 32 = d.1.map u8 := List.take_of_length_le (by rw [List.length_map, d.2]; exact Nat.le_refl _)
theorem kY {s : aK} (h : (s == []) = false) : (0 : Int) < (s.length : Int) := by
 cases s with
 | nil => cases h
 | cons x s => rw [List.length_cons]; omega
theorem sX (a b : Dig) : decide (0 ≤ oA a.1 b.1) = !dlt a b := bZ1 _ _
def kSz (k : Ky) : Prop := k.o.length < 2 ^ 63 ∧ k.rs.length < 2 ^ 40 ∧ ∀ w ∈ k.rs, w.length < 2 ^ 63
def rSz (r : Rt) : Prop := (r.q.length < 2 ^ 40 ∧ ∀ q ∈ r.q, q.r.length < 2 ^ 63) ∧ (r.k.length < 2 ^ 40 ∧ ∀ k ∈ r.k, kSz k) ∧ r.x.length < 2 ^ 40
end Go.Pl
