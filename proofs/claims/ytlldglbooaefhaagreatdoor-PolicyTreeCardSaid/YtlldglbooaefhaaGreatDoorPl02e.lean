/- Encoded words and documents (2.1, 2.2), in plain Lean. By an AI agent. -/
import Derived.Test.YtlldglbooaefhaaGreatDoorPlSha
import Derived.Sort.KeysCollected
import Derived.Test.YtlldglbooaefhaaGreatDoorChecked
import Derived.Test.YtlldglbooaefhaaGreatDoorHlK
set_option linter.unusedSimpArgs false
set_option linter.unusedVariables false
set_option linter.defProp false
namespace Go.Hl
open Go

def gd (ops : Array Oper) (o : Oper) : Option (Option (Nat × Bool)) :=
 match o.guard with
 | none => some none
 | some (j, want) => match (ops[j]?).bind (·.dst) with
  | some d => some (some (d, want))
  | none => none
def hgd (g : Option (Nat × Bool)) (fr : Fr) : Option Bool :=
 match g with
 | none => some true
 | some (d, want) => match fr d with
  | .c (.bool b) => some (b == want)
  | .tup _ => some false
  | _ => none
def hop1 (P : Program) (nid : Nat) (av : List Nat) (g : Option (Nat × Bool)) (o : Op) (d : Option Nat) (K : Fr → Ob → Prop) (fr : Fr) (ob : Ob) : Prop :=
 match hgd g fr with
 | some true => hstep P av nid o (ev fr) ob fun v ob' => K (updo fr d v) ob'
 | some false => K (updo fr d (.tup [])) ob
 | none => False
section
variable {P : Program} {ops : Array Oper} {nx i : Nat} {o : Oper} {g : Option (Nat × Bool)} {Q : Fr → Ob → Prop} {fr : Fr} {ob : Ob}

theorem eE (hg : gd ops o = some g) : hguard ops o fr = hgd g fr := by grind [gd, hguard, hgd, bind]

theorem nW {av : List Nat} {K : Fr → Ob → Prop} (ho : ops[i]? = some o) (hg : gd ops o = some g) (h : hop1 P (nx + 4 * i) av g o.op o.dst K fr ob) : hopI P ops nx av i K fr ob := by grind [hop1, hopI, eE]

theorem aU {l : List Nat} (ho : ops[i]? = some o) (hg : gd ops o = some g) (h : ∀ K : Fr → Ob → Prop, (∀ fr ob, hlex P ops nx Q l fr ob → K fr ob) → hop1 P (nx + 4 * i) [] g o.op o.dst K fr ob) : hlex P ops nx Q (i :: l) fr ob := by grind [hlex, nW]

theorem cU {cr rd : List Nat} {l : mQ} {C : jC} (ho : ops[i]? = some o) (hg : gd ops o = some g)
  (h : ∀ K : Fr → Ob → Prop, (∀ fr' ob', hwalk2 P ops nx Q l (if isEff o.op = true then C else (i, if hgd g fr = some true then touch o.op (ev fr) else []) :: C) fr' ob' → K fr' ob') →
   hop1 P (nx + 4 * i) (cr.flatMap (ids4 nx) ++ rd.flatMap (getF C)) g o.op o.dst K fr ob) : hwalk2 P ops nx Q ((i, cr, rd) :: l) C fr ob := by grind [hwalk2, nW, eE]

theorem dJ {id n sz : Nat} {el : TypeId} {l : List CV} {ob : Ob} {K : HV → Ob → Prop} (hn : n = l.length) (h : K (.c (.slc l)) (upd ob id (some .dead))) : aM8 id ob K (.own id n) (upd ob id (some (.row el sz l))) :=
 ⟨n, el, sz, l, rfl, rfl, hn, h⟩
def gZ (P : Program) (nid : Nat) (av : List Nat) (g : Option (Nat × Bool)) (o : Op) (d : Option Nat) (id : Nat) (K : Fr → Ob → Prop) (fr : Fr) (ob : Ob) : Prop :=
 match hgd g fr with
 | some true => (hcallOf o = none ∧ kX nid o (ev fr) = some id) ∧ (∀ i ∈ touch o (ev fr), i ∉ av ∧ (ob i).isSome = true) ∧ hop P nid o (ev fr) ob (aM8 id ob fun v ob' => K (updo fr d v) ob')
 | some false => K (updo fr d (.tup [])) ob
 | none => False
theorem sX {av : List Nat} {K : Fr → Ob → Prop} {id : Nat} (ho : ops[i]? = some o) (hg : gd ops o = some g) (h : gZ P (nx + 4 * i) av g o.op o.dst id K fr ob) : cX P ops nx av i K fr ob := by
 unfold gZ at h
 unfold cX
 rw [ho]
 simp only [eE hg]
 cases hb : hgd g fr with
 | none => grind
 | some b =>
  rw [hb] at h
  cases b with
  | false => exact h
  | true =>
   obtain ⟨⟨h1, h2⟩, h3, h4⟩ := h
   simp only
   unfold dQ
   rw [h1]
   exact ⟨h3, .inr (.inl ⟨id, h2, h4⟩)⟩
def hop1H (P : Program) (nid : Nat) (av : List Nat) (g : Option (Nat × Bool)) (o : Op) (d : Option Nat) (K : Fr → Ob → Prop) (fr : Fr) (ob : Ob) : Prop :=
 match hgd g fr with
 | some true => hcallOf o = none ∧ (∀ i ∈ touch o (ev fr), i ∉ av ∧ (ob i).isSome = true) ∧ hopH P nid o (ev fr) ob fun v ob' => K (updo fr d v) ob'
 | some false => K (updo fr d (.tup [])) ob
 | none => False
theorem sY {av : List Nat} {K : Fr → Ob → Prop} (ho : ops[i]? = some o) (hg : gd ops o = some g) (h : hop1H P (nx + 4 * i) av g o.op o.dst K fr ob) : cX P ops nx av i K fr ob := by
 unfold hop1H at h
 unfold cX
 rw [ho]
 simp only [eE hg]
 cases hb : hgd g fr with
 | none => grind
 | some b =>
  rw [hb] at h
  cases b with
  | false => exact h
  | true =>
   obtain ⟨h1, h3, h4⟩ := h
   simp only
   unfold dQ
   rw [h1]
   exact ⟨h3, .inr (.inr h4)⟩
def hop1N (P : Program) (nid : Nat) (av : List Nat) (g : Option (Nat × Bool)) (o : Op) (d : Option Nat) (K : Fr → Ob → Prop) (fr : Fr) (ob : Ob) : Prop :=
 match hgd g fr with
 | some true => match hcallOf o with
  | some (f, xs) => (∀ x ∈ xs, ev fr x ≠ .junk) ∧ match ev fr f with
   | .c (.fn g) => HCall P av g (xs.map fun x => ev fr x) ob nid fun v ob' => K (updo fr d v) ob'
   | _ => False
  | none => False
 | some false => K (updo fr d (.tup [])) ob
 | none => False
theorem aG1 {av : List Nat} {K : Fr → Ob → Prop} (ho : ops[i]? = some o) (hg : gd ops o = some g) (h : hop1N P (nx + 4 * i) av g o.op o.dst K fr ob) : cX P ops nx av i K fr ob := by
 unfold hop1N at h
 unfold cX
 rw [ho]
 simp only [eE hg]
 cases hb : hgd g fr with
 | none => grind
 | some b =>
  rw [hb] at h
  cases b with
  | false => exact h
  | true =>
   simp only at h ⊢
   unfold dQ
   cases hc : hcallOf o.op with
   | none => grind
   | some p =>
    rw [hc] at h
    simp only at h ⊢
    obtain ⟨h1, h2⟩ := h
    refine ⟨h1, true, ?_⟩
    split at h2
    ·
     rename_i g hg; rw [hg]; exact h2.L
    grind
def hop1L (P : Program) (nid : Nat) (av : List Nat) (g : Option (Nat × Bool)) (o : Op) (d : Option Nat) (K : Fr → Ob → Prop) (fr : Fr) (ob : Ob) : Prop :=
 match hgd g fr with
 | some true => match hcallOf o with
  | some (f, xs) => (∀ x ∈ xs, ev fr x ≠ .junk) ∧ match ev fr f with
   | .c (.fn g) => HCallL P av g (xs.map fun x => (ev fr x).den) ob nid fun v ob' => K (updo fr d v) ob'
   | _ => False
  | none => False
 | some false => K (updo fr d (.tup [])) ob
 | none => False
theorem aG2 {av : List Nat} {K : Fr → Ob → Prop} (ho : ops[i]? = some o) (hg : gd ops o = some g) (h : hop1L P (nx + 4 * i) av g o.op o.dst K fr ob) : cX P ops nx av i K fr ob := by
 unfold hop1L at h
 unfold cX
 rw [ho]
 simp only [eE hg]
 cases hb : hgd g fr with
 | none => grind
 | some b =>
  rw [hb] at h
  cases b with
  | false => exact h
  | true =>
   simp only at h ⊢
   unfold dQ
   cases hc : hcallOf o.op with
   | none => grind
   | some p =>
    rw [hc] at h
    simp only at h ⊢
    obtain ⟨h1, h2⟩ := h
    refine ⟨h1, false, ?_⟩
    split at h2
    ·
     rename_i g hg; rw [hg]; exact h2
    grind
theorem oO {cr rd : List Nat} {l : mQ} {C : jC} (ho : ops[i]? = some o) (hg : gd ops o = some g)
  (h : ∀ K : Fr → Ob → Prop, (∀ fr' ob', hwalk2G P ops nx Q l (if isEff o.op = true then C else (i, if hgd g fr = some true then touch o.op (ev fr) else []) :: C) fr' ob' → K fr' ob') →
   hop1L P (nx + 4 * i) (cr.flatMap (ids4 nx) ++ rd.flatMap (getF C)) g o.op o.dst K fr ob) : hwalk2G P ops nx Q ((i, cr, rd) :: l) C fr ob := by grind [hwalk2G, aG2, eE]
theorem aG3 {l : List Nat} (ho : ops[i]? = some o) (hg : gd ops o = some g) (h : ∀ K : Fr → Ob → Prop, (∀ fr ob, hlexG P ops nx Q l fr ob → K fr ob) → hop1N P (nx + 4 * i) [] g o.op o.dst K fr ob) : hlexG P ops nx Q (i :: l) fr ob := by grind [hlexG, aG1]
theorem bX {l : List Nat} (ho : ops[i]? = some o) (hg : gd ops o = some g) (h : ∀ K : Fr → Ob → Prop, (∀ fr ob, hlexG P ops nx Q l fr ob → K fr ob) → hop1H P (nx + 4 * i) [] g o.op o.dst K fr ob) : hlexG P ops nx Q (i :: l) fr ob := by grind [hlexG, sY]
theorem eF {cr rd : List Nat} {l : mQ} {C : jC} (ho : ops[i]? = some o) (hg : gd ops o = some g)
  (h : ∀ K : Fr → Ob → Prop, (∀ fr' ob', hwalk2G P ops nx Q l (if isEff o.op = true then C else (i, if hgd g fr = some true then touch o.op (ev fr) else []) :: C) fr' ob' → K fr' ob') →
   hop1H P (nx + 4 * i) (cr.flatMap (ids4 nx) ++ rd.flatMap (getF C)) g o.op o.dst K fr ob) : hwalk2G P ops nx Q ((i, cr, rd) :: l) C fr ob := by grind [hwalk2G, sY, eE]
theorem bJ {l : List Nat} (ho : ops[i]? = some o) (hg : gd ops o = some g) (h : ∀ K : Fr → Ob → Prop, (∀ fr ob, hlexG P ops nx Q l fr ob → K fr ob) → hop1 P (nx + 4 * i) [] g o.op o.dst K fr ob) : hlexG P ops nx Q (i :: l) fr ob := by
 simp only [hlexG]
 exact uU (fun _ _ h => h) (nW ho hg (h _ fun _ _ h => h))
theorem cV {l : List Nat} (id : Nat) (ho : ops[i]? = some o) (hg : gd ops o = some g) (h : ∀ K : Fr → Ob → Prop, (∀ fr ob, hlexG P ops nx Q l fr ob → K fr ob) → gZ P (nx + 4 * i) [] g o.op o.dst id K fr ob) : hlexG P ops nx Q (i :: l) fr ob := by
 simp only [hlexG]
 exact sX ho hg (h _ fun _ _ h => h)
theorem iT {cr rd : List Nat} {l : mQ} {C : jC} (ho : ops[i]? = some o) (hg : gd ops o = some g)
  (h : ∀ K : Fr → Ob → Prop, (∀ fr' ob', hwalk2G P ops nx Q l (if isEff o.op = true then C else (i, if hgd g fr = some true then touch o.op (ev fr) else []) :: C) fr' ob' → K fr' ob') →
   hop1 P (nx + 4 * i) (cr.flatMap (ids4 nx) ++ rd.flatMap (getF C)) g o.op o.dst K fr ob) : hwalk2G P ops nx Q ((i, cr, rd) :: l) C fr ob := by
 simp only [hwalk2G]
 refine uU (fun _ _ h => h) (nW ho hg (h _ fun fr' ob' h => ?_))
 grind [eE]
theorem oP {cr rd : List Nat} {l : mQ} {C : jC} (id : Nat) (ho : ops[i]? = some o) (hg : gd ops o = some g)
  (h : ∀ K : Fr → Ob → Prop, (∀ fr' ob', hwalk2G P ops nx Q l (if isEff o.op = true then C else (i, if hgd g fr = some true then touch o.op (ev fr) else []) :: C) fr' ob' → K fr' ob') →
   gZ P (nx + 4 * i) (cr.flatMap (ids4 nx) ++ rd.flatMap (getF C)) g o.op o.dst id K fr ob) : hwalk2G P ops nx Q ((i, cr, rd) :: l) C fr ob := by
 simp only [hwalk2G]
 refine sX ho hg (h _ fun fr' ob' h => ?_)
 grind [eE]
end
end Go.Hl

namespace Go.Hl
open Go

mutual
def CV.flatv : CV → Bool
 | .bool _ => true
 | .int _ _ => true
 | .str _ => true
 | .agg l => CV.flatvL l
 | _ => false
def CV.flatvL : List CV → Bool
 | [] => true
 | v :: l => v.flatv && CV.flatvL l
end

theorem aA5 {ob lob : Ob} {σ : List Nat} {nid : Nat} (hn : σ.Nodup) (h1 : ∀ j, j < σ.length → ∃ o, lob j = some o ∧ ob (σ.getD j 0) = some (o.ren (sub σ nid))) (h2 : ∀ j, σ.length ≤ j → lob j = none) (h3 : ∀ i, nid ≤ i → i < nid + 4 → ob i = none) :
  bR ob σ nid lob = ob := by
 funext i
 unfold bR
 split
 ·
  rename_i j hj
  obtain ⟨hjl, hje, _⟩ := List.findIdx?_eq_some_iff_getElem.1 hj
  obtain ⟨o, e1, e2⟩ := h1 j hjl
  have : σ.getD j 0 = i := by rw [List.getD_eq_getElem?_getD, List.getElem?_eq_getElem hjl]; simpa using hje
  rw [e1, ← this, e2]; rfl
 ·
  split
  ·
   rename_i h; rw [h2 _ (by omega), h3 i h.1 h.2]; rfl
  ·
   rfl
def Free4 (ob : Ob) (nid : Nat) : Prop := ob nid = none ∧ ob (nid + 1) = none ∧ ob (nid + 2) = none ∧ ob (nid + 3) = none
theorem Free4.all {ob : Ob} {nid : Nat} (h : Free4 ob nid) : ∀ i, nid ≤ i → i < nid + 4 → ob i = none := fun i h1 h2 => by
 have : i = nid ∨ i = nid + 1 ∨ i = nid + 2 ∨ i = nid + 3 := by omega
 rcases this with rfl | rfl | rfl | rfl
 ·
  exact h.1
 ·
  exact h.2.1
 ·
  exact h.2.2.1
 ·
  exact h.2.2.2

def bE7 (T : TypeId) (v : CV) (R : CV → Prop) : HV → Ob → Prop := fun r ob' => ∃ u v', r = .c u ∧ ob' = fob [(0, .box T (.c v'))] ∧ (v' = v ∧ u.flatv = true ∧ R u)
def cC7 (P : Program) (f : FuncId) (T : TypeId) (v : CV) (args : List CV) (R : CV → Prop) : Prop := HFn P f (args.map HV.c ++ [HV.ptr 0 0]) 1 (fob [(0, .box T (.c v))]) (bE7 T v R)
theorem yE (T : TypeId) (v : CV) (args : List CV) : LocOk 1 (args.map HV.c ++ [HV.ptr 0 0]) (fob [(0, .box T (.c v))]) := by
 have h := cY T v []
 exact ⟨h.all, h.none, by rw [HV.menL_append]; exact ⟨HV.menL_c, by simp [HV.menL, HV.men]⟩⟩
theorem aN8 {ob : Ob} {r : HV} {T : TypeId} {R : CV → Prop} {w : HV} (cl : List Nat) (u v : CV) (h : (r.close ob cl).norm = .c u) (hb : ob 0 = some (.box T w)) (hw : (w.close ob cl).norm = .c v) (h0 : 0 ∉ cl) (hu : u.flatv = true) (hR : R u) : oJ 1 r ob (bE7 T v R) :=
 fG cl u v h hb hw h0 ⟨rfl, hu, hR⟩
section
variable {P : Program} {av : List Nat} {f g : FuncId} {ob : Ob} {nid id id2 n : Nat} {K : HV → Ob → Prop} {T e : TypeId} {sz : Nat} {v : CV} {l : List CV} {R : CV → Prop}

theorem bE8 {args : List CV} (h : cC7 P f T v args R) (hid : ob id = some (.box T (.c v))) (hav : id ∉ av) (hfree : Free4 ob nid) (hK : ∀ u, R u → K (.c u) ob) : HCall P av f (args.map HV.c ++ [HV.ptr id 0]) ob nid K := by
 have hsub : sub [id] nid 0 = id := rfl
 refine ⟨[id], (args.map HV.c ++ [HV.ptr 0 0] : List HV), fob [(0, .box T (.c v))], bE7 T v R, h, yE T v args, ⟨by simp, by simpa using hav⟩, ?_, fun j o hj => ?_, fun r lob' hR _ => ?_⟩
 ·
  have : ∀ l1 l2 : List HV, HV.renL (sub [id] nid) (l1 ++ l2) = HV.renL (sub [id] nid) l1 ++ HV.renL (sub [id] nid) l2 := by
   intro l1 l2; induction l1 with
   | nil => rfl
   | cons x l ih => simp only [List.cons_append, HV.renL, ih]
  rw [this, HV.renL_c]; simp only [HV.renL, HV.ren, hsub]
 ·
  simp only [fob_at, fob_nil] at hj
  split at hj
  ·
   rename_i e; subst e; cases hj; simpa [HO.ren, HV.ren] using hid
  ·
   cases hj
 ·
  obtain ⟨u, v', rfl, rfl, rfl, _, hR⟩ := hR
  rw [aA5 (by simp) (fun j hj => ?_) (fun j hj => ?_) hfree.all]
  ·
   exact hK u hR
  ·
   have : j = 0 := by simp at hj; omega
   subst this; exact ⟨_, rfl, by simpa [HO.ren, HV.ren] using hid⟩
  ·
   simp only [List.length_cons, List.length_nil] at hj
   rw [fob_at, if_neg (by omega)]; rfl

end



theorem aG4 {ob : Ob} {nid id : Nat} {o : HO} (hfree : Free4 ob nid) : bR ob [id] nid (fob [(0, o)]) = upd ob id (some (o.ren (sub [id] nid))) := by
 funext i
 by_cases e : i = id
 ·
  subst e
  simp only [bR, aO, List.findIdx?_cons, beq_self_eq_true, if_true, fob_at, Option.map_some]
 ·
  have e' : (id == i) = false := by simp; exact fun h => e h.symm
  simp only [bR, List.findIdx?_cons, e', List.findIdx?_nil, Option.map_none, aV _ _ e]
  simp only [Bool.false_eq_true, if_false]
  split
  ·
   rename_i hr
   have h1 : [id].length + (i - nid) ≠ 0 := by simp
   rw [fob_at, if_neg h1, fob_nil]
   exact (hfree.all i hr.1 hr.2).symm
  ·
   rfl

end Go.Hl

namespace Go.Pl
open Go Go.Hl

theorem Rp.setAll (p : Rp) (x : HV) : CV.setAt 0 97 x p.cv = some x := by
 have := Rp.cells p
 simp only [Rp.cv, CV.cells] at this
 simp only [Rp.cv, CV.setAt, this, and_self, if_true]

end Go.Pl

namespace Go.Hl
open Go Go.RowKit

structure MOk (D : MD) : Prop where
 nd : (D.map (·.1)).Nodup
 th : ∀ p ∈ D, p.2.there = true

section
variable {P : Program} {av : List Nat} {f fi : FuncId} {ob : Ob} {nid id id2 : Nat} {K : HV → Ob → Prop} {T e : TypeId} {sz : Nat} {D : MD}
end

end Go.Hl

namespace Go.Pl
open Go Go.Hl

end Go.Pl

namespace Go.Pl
open Go Go.Hl

section
variable {s r o : Dig} {t : Int} {l : List Rb}
end
end Go.Pl

namespace Go.Pl
open Go Go.Hl

section
variable {s r o : Dig} {t : Int} {l l' : List Rb}
end
section
variable {s r o d : Dig} {t : Int} {m : List Rb} {w : aE}
end
end Go.Pl

namespace Go.Pl
open Go Go.Hl

abbrev xC := {l : List UInt8 // l.length = 16}
def hf (h : xC) : CV := .agg (h.1.map u8)
theorem aR (h : xC) : (hf h).cells = 16 := by rw [← h.2]; exact us_cells h.1
theorem gG (h : xC) : (hf h).denil = hf h := by simp only [hf, CV.denil]; rw [bV (f := u8) (fun _ => rfl)]
theorem bE9 (h : xC) : CV.getAt 0 16 true (hf h) = some (hf h) := by
 have := aR h
 simp only [hf, CV.cells] at this
 simp only [hf, CV.getAt, this, and_self, if_true]
theorem bF0 (h : xC) (x : HV) : CV.setAt 0 16 x (hf h) = some x := by
 have := aR h
 simp only [hf, CV.cells] at this
 simp only [hf, CV.setAt, this, and_self, if_true]
theorem denilL_dg (l : List Dig) : CV.denilL (l.map dg) = l.map dg := bV dg_denil l
theorem mR {l : List UInt8} : (∀ v ∈ l.map u8, v.cells = 1) ↔ True := by simp [u8, CV.cells]

structure Pk where
 h : Int
 r : xC
def Pk.cv (x : Pk) : CV := .agg [.int .i64 x.h, hf x.r]
theorem Pk.cells (x : Pk) : x.cv.cells = 17 := by simp [Pk.cv, CV.cells, CV.cellsL, dg_cells, aR]
theorem Pk.denil (x : Pk) : x.cv.denil = x.cv := by simp only [Pk.cv, CV.denil, CV.denilL, dg_denil, gG, denilL_str, denilL_dg]
theorem Pk.isAgg (x : Pk) : x.cv.isAgg = true := rfl
theorem Pk.getAll (x : Pk) : CV.getAt 0 17 true x.cv = some x.cv := by
 have := Pk.cells x
 simp only [Pk.cv, CV.cells] at this
 simp only [Pk.cv, CV.getAt, this, and_self, if_true]
theorem Pk.setAll (x : Pk) (y : HV) : CV.setAt 0 17 y x.cv = some y := by
 have := Pk.cells x
 simp only [Pk.cv, CV.cells] at this
 simp only [Pk.cv, CV.setAt, this, and_self, if_true]
theorem Pk.fold (h : Int) (r : xC) : CV.agg [.int .i64 h, hf r] = Pk.cv ⟨h, r⟩ := rfl
theorem Pk.get_r (x : Pk) : CV.getAt 1 16 true x.cv = some (hf x.r) := by simp [Pk.cv, CV.getAt, CV.getAtL, CV.cells, CV.cellsL, dg_cells, aR, bE9]
theorem Pk.set_r (x : Pk) (y : HV) : CV.setAt 1 16 y x.cv = some (.agg [.c (.int .i64 x.h), y]) := by simp [Pk.cv, CV.setAt, CV.setAtL, CV.cells, CV.cellsL, dg_cells, aR, bF0]

structure Ky where
 p : Pk
 o : aE
 rs : List aE
 fr : Int
 un : Int
def Ky.cv (x : Ky) : CV := .agg [x.p.cv, .str x.o, .slc (x.rs.map .str), .int .i64 x.fr, .int .i64 x.un]
theorem Ky.cells (x : Ky) : x.cv.cells = 21 := by simp [Ky.cv, CV.cells, CV.cellsL, dg_cells, aR, Pk.cells]
theorem Ky.denil (x : Ky) : x.cv.denil = x.cv := by simp only [Ky.cv, CV.denil, CV.denilL, dg_denil, gG, denilL_str, denilL_dg, Pk.denil]
theorem aX3 (l : List Ky) : CV.denilL (l.map Ky.cv) = l.map Ky.cv := bV Ky.denil l
theorem Ky.isAgg (x : Ky) : x.cv.isAgg = true := rfl
theorem Ky.getAll (x : Ky) : CV.getAt 0 21 true x.cv = some x.cv := by
 have := Ky.cells x
 simp only [Ky.cv, CV.cells] at this
 simp only [Ky.cv, CV.getAt, this, and_self, if_true]
theorem Ky.setAll (x : Ky) (y : HV) : CV.setAt 0 21 y x.cv = some y := by
 have := Ky.cells x
 simp only [Ky.cv, CV.cells] at this
 simp only [Ky.cv, CV.setAt, this, and_self, if_true]
theorem Ky.fold (p : Pk) (o : aE) (rs : List aE) (fr : Int) (un : Int) : CV.agg [p.cv, .str o, .slc (rs.map .str), .int .i64 fr, .int .i64 un] = Ky.cv ⟨p, o, rs, fr, un⟩ := rfl
structure Qt where
 r : aE
 n : Int
def Qt.cv (x : Qt) : CV := .agg [.str x.r, .int .i64 x.n]
theorem Qt.cells (x : Qt) : x.cv.cells = 2 := by simp [Qt.cv, CV.cells, CV.cellsL, dg_cells, aR]
theorem Qt.denil (x : Qt) : x.cv.denil = x.cv := by simp only [Qt.cv, CV.denil, CV.denilL, dg_denil, gG, denilL_str, denilL_dg]
theorem aX4 (l : List Qt) : CV.denilL (l.map Qt.cv) = l.map Qt.cv := bV Qt.denil l
theorem Qt.isAgg (x : Qt) : x.cv.isAgg = true := rfl
theorem Qt.getAll (x : Qt) : CV.getAt 0 2 true x.cv = some x.cv := by
 have := Qt.cells x
 simp only [Qt.cv, CV.cells] at this
 simp only [Qt.cv, CV.getAt, this, and_self, if_true]
theorem Qt.setAll (x : Qt) (y : HV) : CV.setAt 0 2 y x.cv = some y := by
 have := Qt.cells x
 simp only [Qt.cv, CV.cells] at this
 simp only [Qt.cv, CV.setAt, this, and_self, if_true]
theorem Qt.fold (r : aE) (n : Int) : CV.agg [.str r, .int .i64 n] = Qt.cv ⟨r, n⟩ := rfl
theorem Qt.get_r (x : Qt) : CV.getAt 0 1 false x.cv = some (.str x.r) := by simp [Qt.cv, CV.getAt, CV.getAtL, CV.cells, CV.cellsL, dg_cells, aR]
theorem Qt.set_r (x : Qt) (y : HV) : CV.setAt 0 1 y x.cv = some (.agg [y, .c (.int .i64 x.n)]) := by simp [Qt.cv, CV.setAt, CV.setAtL, CV.cells, CV.cellsL, dg_cells, aR]
theorem Qt.get_n (x : Qt) : CV.getAt 1 1 false x.cv = some (.int .i64 x.n) := by simp [Qt.cv, CV.getAt, CV.getAtL, CV.cells, CV.cellsL, dg_cells, aR]
theorem Qt.set_n (x : Qt) (y : HV) : CV.setAt 1 1 y x.cv = some (.agg [.c (.str x.r), y]) := by simp [Qt.cv, CV.setAt, CV.setAtL, CV.cells, CV.cellsL, dg_cells, aR]

structure Rv where
 k : Dig
 t : Int
def Rv.cv (x : Rv) : CV := .agg [dg x.k, .int .i64 x.t]
theorem Rv.cells (x : Rv) : x.cv.cells = 33 := by simp [Rv.cv, CV.cells, CV.cellsL, dg_cells, aR]
theorem Rv.denil (x : Rv) : x.cv.denil = x.cv := by simp only [Rv.cv, CV.denil, CV.denilL, dg_denil, gG, denilL_str, denilL_dg]
theorem aX5 (l : List Rv) : CV.denilL (l.map Rv.cv) = l.map Rv.cv := bV Rv.denil l
theorem Rv.isAgg (x : Rv) : x.cv.isAgg = true := rfl
theorem Rv.getAll (x : Rv) : CV.getAt 0 33 true x.cv = some x.cv := by
 have := Rv.cells x
 simp only [Rv.cv, CV.cells] at this
 simp only [Rv.cv, CV.getAt, this, and_self, if_true]
theorem Rv.setAll (x : Rv) (y : HV) : CV.setAt 0 33 y x.cv = some y := by
 have := Rv.cells x
 simp only [Rv.cv, CV.cells] at this
 simp only [Rv.cv, CV.setAt, this, and_self, if_true]
theorem Rv.fold (k : Dig) (t : Int) : CV.agg [dg k, .int .i64 t] = Rv.cv ⟨k, t⟩ := rfl
theorem Rv.get_k (x : Rv) : CV.getAt 0 32 true x.cv = some (dg x.k) := by simp [Rv.cv, CV.getAt, CV.getAtL, CV.cells, CV.cellsL, dg_cells, aR, dg_getAt]
theorem Rv.set_k (x : Rv) (y : HV) : CV.setAt 0 32 y x.cv = some (.agg [y, .c (.int .i64 x.t)]) := by simp [Rv.cv, CV.setAt, CV.setAtL, CV.cells, CV.cellsL, dg_cells, aR, dg_setAt]
theorem Rv.get_t (x : Rv) : CV.getAt 32 1 false x.cv = some (.int .i64 x.t) := by simp [Rv.cv, CV.getAt, CV.getAtL, CV.cells, CV.cellsL, dg_cells, aR]
theorem Rv.set_t (x : Rv) (y : HV) : CV.setAt 32 1 y x.cv = some (.agg [.c (dg x.k), y]) := by simp [Rv.cv, CV.setAt, CV.setAtL, CV.cells, CV.cellsL, dg_cells, aR]

structure Rt where
 v : Int
 e : Int
 q : List Qt
 k : List Ky
 x : List Rv
def Rt.cv (x : Rt) : CV := .agg [.int .i64 x.v, .int .i64 x.e, .slc (x.q.map Qt.cv), .slc (x.k.map Ky.cv), .slc (x.x.map Rv.cv)]
theorem Rt.cells (x : Rt) : x.cv.cells = 5 := by simp [Rt.cv, CV.cells, CV.cellsL, dg_cells, aR]
theorem Rt.denil (x : Rt) : x.cv.denil = x.cv := by simp only [Rt.cv, CV.denil, CV.denilL, dg_denil, gG, denilL_str, denilL_dg, aX4, aX3, aX5]
theorem Rt.isAgg (x : Rt) : x.cv.isAgg = true := rfl
theorem Rt.getAll (x : Rt) : CV.getAt 0 5 true x.cv = some x.cv := by
 have := Rt.cells x
 simp only [Rt.cv, CV.cells] at this
 simp only [Rt.cv, CV.getAt, this, and_self, if_true]
theorem Rt.setAll (x : Rt) (y : HV) : CV.setAt 0 5 y x.cv = some y := by
 have := Rt.cells x
 simp only [Rt.cv, CV.cells] at this
 simp only [Rt.cv, CV.setAt, this, and_self, if_true]
theorem Rt.fold (v : Int) (e : Int) (q : List Qt) (k : List Ky) (x : List Rv) : CV.agg [.int .i64 v, .int .i64 e, .slc (q.map Qt.cv), .slc (k.map Ky.cv), .slc (x.map Rv.cv)] = Rt.cv ⟨v, e, q, k, x⟩ := rfl
theorem Rt.get_v (x : Rt) : CV.getAt 0 1 false x.cv = some (.int .i64 x.v) := by simp [Rt.cv, CV.getAt, CV.getAtL, CV.cells, CV.cellsL, dg_cells, aR]
theorem Rt.set_v (x : Rt) (y : HV) : CV.setAt 0 1 y x.cv = some (.agg [y, .c (.int .i64 x.e), .c (.slc (x.q.map Qt.cv)), .c (.slc (x.k.map Ky.cv)), .c (.slc (x.x.map Rv.cv))]) := by simp [Rt.cv, CV.setAt, CV.setAtL, CV.cells, CV.cellsL, dg_cells, aR]
theorem Rt.get_q (x : Rt) : CV.getAt 2 1 false x.cv = some (.slc (x.q.map Qt.cv)) := by simp [Rt.cv, CV.getAt, CV.getAtL, CV.cells, CV.cellsL, dg_cells, aR]
theorem Rt.set_q (x : Rt) (y : HV) : CV.setAt 2 1 y x.cv = some (.agg [.c (.int .i64 x.v), .c (.int .i64 x.e), y, .c (.slc (x.k.map Ky.cv)), .c (.slc (x.x.map Rv.cv))]) := by simp [Rt.cv, CV.setAt, CV.setAtL, CV.cells, CV.cellsL, dg_cells, aR]
theorem Rt.get_k (x : Rt) : CV.getAt 3 1 false x.cv = some (.slc (x.k.map Ky.cv)) := by simp [Rt.cv, CV.getAt, CV.getAtL, CV.cells, CV.cellsL, dg_cells, aR]
theorem Rt.set_k (x : Rt) (y : HV) : CV.setAt 3 1 y x.cv = some (.agg [.c (.int .i64 x.v), .c (.int .i64 x.e), .c (.slc (x.q.map Qt.cv)), y, .c (.slc (x.x.map Rv.cv))]) := by simp [Rt.cv, CV.setAt, CV.setAtL, CV.cells, CV.cellsL, dg_cells, aR]
def vA : Int := 1099511627776
def al (c : UInt8) : Bool := (decide (97 ≤ c) && decide (c ≤ 122)) || (decide (48 ≤ c) && decide (c ≤ 57))
def nc (c : UInt8) : Bool := al c || (c == 46 || (c == 95 || c == 45))
def dN : aE → Bool
 | [] => false
 | c :: r => decide ((c :: r).length ≤ 64) && (al c && r.all nc)
def inN (t : Int) : Bool := decide (0 ≤ t) && decide (t ≤ vA)
end Go.Pl

namespace Go.Proofs
namespace YtlldglbooaefhaaGreatDoor
open Go Go.Hl Go.Pl

theorem ty1 : aM Tryz.prog 1 = some ⟨1, 8, .func, .nilf⟩ := by kernel_rfl
theorem ty2 : aM Tryz.prog 2 = some ⟨1, 8, .int .i64, .int .i64 0⟩ := by kernel_rfl
theorem ty3 : aM Tryz.prog 3 = some ⟨1, 8, .int .i64, .int .i64 0⟩ := by kernel_rfl
theorem ty4 : aM Tryz.prog 4 = some ⟨1, 1, .bool, .bool false⟩ := by kernel_rfl
theorem ty5 : aM Tryz.prog 5 = some ⟨1, 1, .int .u8, .int .u8 0⟩ := by kernel_rfl
theorem ty6 : aM Tryz.prog 6 = some ⟨1, 1, .int .u8, .int .u8 0⟩ := by kernel_rfl
theorem ty7 : aM Tryz.prog 7 = some ⟨4, 24, .struct [(0, 2), (1, 3), (2, 4), (3, 6)], .agg [.int .i64 0, .int .i64 0, .bool false, .int .u8 0]⟩ := by kernel_rfl
theorem ty8 : aM Tryz.prog 8 = some ⟨4, 24, .struct [(0, 2), (1, 3), (2, 4), (3, 6)], .agg [.int .i64 0, .int .i64 0, .bool false, .int .u8 0]⟩ := by kernel_rfl
theorem ty9 : aM Tryz.prog 9 = some ⟨1, 16, .string, .str []⟩ := by kernel_rfl
theorem ty10 : aM Tryz.prog 10 = some ⟨1, 16, .string, .str []⟩ := by kernel_rfl
theorem ty11 : aM Tryz.prog 11 = some ⟨1, 16, .string, .str []⟩ := by kernel_rfl
theorem ty12 : aM Tryz.prog 12 = some ⟨1, 8, .int .u64, .int .u64 0⟩ := by kernel_rfl
theorem ty13 : aM Tryz.prog 13 = some ⟨2, 24, .struct [(0, 9), (1, 12)], .agg [.str [], .int .u64 0]⟩ := by kernel_rfl
theorem ty14 : aM Tryz.prog 14 = some ⟨2, 24, .struct [(0, 9), (1, 12)], .agg [.str [], .int .u64 0]⟩ := by kernel_rfl
theorem ty15 : aM Tryz.prog 15 = some ⟨1, 8, .pointer 188, .nilp⟩ := by kernel_rfl
theorem ty16 : aM Tryz.prog 16 = some ⟨1, 8, .pointer 191, .nilp⟩ := by kernel_rfl
theorem ty17 : aM Tryz.prog 17 = some ⟨1, 8, .pointer 200, .nilp⟩ := by kernel_rfl
theorem ty18 : aM Tryz.prog 18 = some ⟨1, 8, .struct [(0, 17)], .agg [.nilp]⟩ := by kernel_rfl
theorem ty19 : aM Tryz.prog 19 = some ⟨1, 8, .struct [(0, 17)], .agg [.nilp]⟩ := by kernel_rfl
theorem ty20 : aM Tryz.prog 20 = some ⟨1, 16, .iface true, .nili⟩ := by kernel_rfl
theorem ty21 : aM Tryz.prog 21 = some ⟨1, 4, .int .i32, .int .i32 0⟩ := by kernel_rfl
theorem ty22 : aM Tryz.prog 22 = some ⟨1, 24, .slice 40, .nils⟩ := by kernel_rfl
theorem ty23 : aM Tryz.prog 23 = some ⟨1, 24, .slice 3, .nils⟩ := by kernel_rfl
theorem ty24 : aM Tryz.prog 24 = some ⟨1, 24, .slice 4, .nils⟩ := by kernel_rfl
theorem ty25 : aM Tryz.prog 25 = some ⟨1, 8, .func, .nilf⟩ := by kernel_rfl
theorem ty26 : aM Tryz.prog 26 = some ⟨1, 8, .func, .nilf⟩ := by kernel_rfl
theorem ty27 : aM Tryz.prog 27 = some ⟨1, 8, .func, .nilf⟩ := by kernel_rfl
theorem ty28 : aM Tryz.prog 28 = some ⟨1, 8, .func, .nilf⟩ := by kernel_rfl
theorem ty29 : aM Tryz.prog 29 = some ⟨1, 8, .func, .nilf⟩ := by kernel_rfl
theorem ty30 : aM Tryz.prog 30 = some ⟨1, 8, .func, .nilf⟩ := by kernel_rfl
theorem ty31 : aM Tryz.prog 31 = some ⟨1, 8, .func, .nilf⟩ := by kernel_rfl
theorem ty32 : aM Tryz.prog 32 = some ⟨1, 8, .func, .nilf⟩ := by kernel_rfl
theorem ty33 : aM Tryz.prog 33 = some ⟨1, 8, .func, .nilf⟩ := by kernel_rfl
theorem ty34 : aM Tryz.prog 34 = some ⟨1, 8, .pointer 83, .nilp⟩ := by kernel_rfl
theorem ty35 : aM Tryz.prog 35 = some ⟨1, 8, .func, .nilf⟩ := by kernel_rfl
theorem ty36 : aM Tryz.prog 36 = some ⟨1, 8, .func, .nilf⟩ := by kernel_rfl
theorem ty37 : aM Tryz.prog 37 = some ⟨4, 40, .struct [(0, 3), (1, 2), (2, 2), (3, 9)], .agg [.int .i64 0, .int .i64 0, .int .i64 0, .str []]⟩ := by kernel_rfl
theorem ty38 : aM Tryz.prog 38 = some ⟨4, 40, .struct [(0, 3), (1, 2), (2, 2), (3, 9)], .agg [.int .i64 0, .int .i64 0, .int .i64 0, .str []]⟩ := by kernel_rfl
theorem ty39 : aM Tryz.prog 39 = some ⟨7, 64, .struct [(0, 3), (1, 3), (2, 3), (3, 38)], .agg [.int .i64 0, .int .i64 0, .int .i64 0, .agg [.int .i64 0, .int .i64 0, .int .i64 0, .str []]]⟩ := by kernel_rfl
theorem ty40 : aM Tryz.prog 40 = some ⟨7, 64, .struct [(0, 3), (1, 3), (2, 3), (3, 38)], .agg [.int .i64 0, .int .i64 0, .int .i64 0, .agg [.int .i64 0, .int .i64 0, .int .i64 0, .str []]]⟩ := by kernel_rfl
theorem ty41 : aM Tryz.prog 41 = some ⟨1, 8, .int .u64, .int .u64 0⟩ := by kernel_rfl
theorem ty42 : aM Tryz.prog 42 = some ⟨1, 8, .func, .nilf⟩ := by kernel_rfl
theorem ty43 : aM Tryz.prog 43 = some ⟨1, 24, .slice 54, .nils⟩ := by kernel_rfl
theorem ty44 : aM Tryz.prog 44 = some ⟨3, 48, .struct [(0, 9), (1, 2), (2, 43)], .agg [.str [], .int .i64 0, .nils]⟩ := by kernel_rfl
theorem ty45 : aM Tryz.prog 45 = some ⟨3, 48, .struct [(0, 9), (1, 2), (2, 43)], .agg [.str [], .int .i64 0, .nils]⟩ := by kernel_rfl
theorem ty46 : aM Tryz.prog 46 = some ⟨1, 8, .func, .nilf⟩ := by kernel_rfl
theorem ty47 : aM Tryz.prog 47 = some ⟨1, 24, .slice 5, .nils⟩ := by kernel_rfl
theorem ty48 : aM Tryz.prog 48 = some ⟨1, 8, .int .i64, .int .i64 0⟩ := by kernel_rfl
theorem ty50 : aM Tryz.prog 50 = some ⟨1, 8, .func, .nilf⟩ := by kernel_rfl
theorem ty51 : aM Tryz.prog 51 = some ⟨1, 8, .func, .nilf⟩ := by kernel_rfl
theorem ty52 : aM Tryz.prog 52 = some ⟨1, 8, .pointer 54, .nilp⟩ := by kernel_rfl
theorem ty53 : aM Tryz.prog 53 = some ⟨5, 80, .struct [(0, 9), (1, 9), (2, 9), (3, 2), (4, 22)], .agg [.str [], .str [], .str [], .int .i64 0, .nils]⟩ := by kernel_rfl
theorem ty54 : aM Tryz.prog 54 = some ⟨5, 80, .struct [(0, 9), (1, 9), (2, 9), (3, 2), (4, 22)], .agg [.str [], .str [], .str [], .int .i64 0, .nils]⟩ := by kernel_rfl
theorem ty55 : aM Tryz.prog 55 = some ⟨1, 8, .func, .nilf⟩ := by kernel_rfl
theorem ty57 : aM Tryz.prog 57 = some ⟨1, 8, .func, .nilf⟩ := by kernel_rfl
theorem ty58 : aM Tryz.prog 58 = some ⟨1, 8, .func, .nilf⟩ := by kernel_rfl
theorem ty59 : aM Tryz.prog 59 = some ⟨1, 8, .func, .nilf⟩ := by kernel_rfl
theorem ty60 : aM Tryz.prog 60 = some ⟨1, 24, .slice 9, .nils⟩ := by kernel_rfl
theorem ty61 : aM Tryz.prog 61 = some ⟨1, 8, .func, .nilf⟩ := by kernel_rfl
theorem ty62 : aM Tryz.prog 62 = some ⟨1, 24, .slice 60, .nils⟩ := by kernel_rfl
theorem ty63 : aM Tryz.prog 63 = some ⟨1, 8, .func, .nilf⟩ := by kernel_rfl
theorem ty64 : aM Tryz.prog 64 = some ⟨1, 8, .func, .nilf⟩ := by kernel_rfl
theorem ty65 : aM Tryz.prog 65 = some ⟨1, 8, .func, .nilf⟩ := by kernel_rfl
theorem ty67 : aM Tryz.prog 67 = some ⟨1, 8, .func, .nilf⟩ := by kernel_rfl
theorem ty68 : aM Tryz.prog 68 = some ⟨1, 8, .func, .nilf⟩ := by kernel_rfl
theorem ty69 : aM Tryz.prog 69 = some ⟨1, 8, .func, .nilf⟩ := by kernel_rfl
theorem ty70 : aM Tryz.prog 70 = some ⟨1, 8, .func, .nilf⟩ := by kernel_rfl
theorem ty71 : aM Tryz.prog 71 = some ⟨1, 8, .func, .nilf⟩ := by kernel_rfl
theorem ty72 : aM Tryz.prog 72 = some ⟨1, 8, .func, .nilf⟩ := by kernel_rfl
theorem ty73 : aM Tryz.prog 73 = some ⟨1, 8, .func, .nilf⟩ := by kernel_rfl
theorem ty74 : aM Tryz.prog 74 = some ⟨1, 8, .func, .nilf⟩ := by kernel_rfl
theorem ty75 : aM Tryz.prog 75 = some ⟨1, 8, .func, .nilf⟩ := by kernel_rfl
theorem ty76 : aM Tryz.prog 76 = some ⟨1, 8, .func, .nilf⟩ := by kernel_rfl
theorem ty77 : aM Tryz.prog 77 = some ⟨1, 8, .func, .nilf⟩ := by kernel_rfl
theorem ty78 : aM Tryz.prog 78 = some ⟨1, 8, .func, .nilf⟩ := by kernel_rfl
theorem ty79 : aM Tryz.prog 79 = some ⟨1, 8, .func, .nilf⟩ := by kernel_rfl
theorem ty80 : aM Tryz.prog 80 = some ⟨1, 8, .func, .nilf⟩ := by kernel_rfl
theorem ty81 : aM Tryz.prog 81 = some ⟨1, 8, .func, .nilf⟩ := by kernel_rfl
theorem ty82 : aM Tryz.prog 82 = some ⟨2, 32, .struct [(0, 23), (1, 3)], .agg [.nils, .int .i64 0]⟩ := by kernel_rfl
theorem ty83 : aM Tryz.prog 83 = some ⟨2, 32, .struct [(0, 23), (1, 3)], .agg [.nils, .int .i64 0]⟩ := by kernel_rfl
theorem ty84 : aM Tryz.prog 84 = some ⟨1, 8, .func, .nilf⟩ := by kernel_rfl
theorem ty86 : aM Tryz.prog 86 = some ⟨1, 8, .func, .nilf⟩ := by kernel_rfl
theorem ty87 : aM Tryz.prog 87 = some ⟨1, 8, .func, .nilf⟩ := by kernel_rfl
theorem ty88 : aM Tryz.prog 88 = some ⟨1, 8, .func, .nilf⟩ := by kernel_rfl
theorem ty89 : aM Tryz.prog 89 = some ⟨1, 8, .func, .nilf⟩ := by kernel_rfl
theorem ty90 : aM Tryz.prog 90 = some ⟨1, 8, .map 9 4, .nilm⟩ := by kernel_rfl
theorem ty91 : aM Tryz.prog 91 = some ⟨1, 8, .func, .nilf⟩ := by kernel_rfl
theorem ty92 : aM Tryz.prog 92 = some ⟨1, 8, .pointer 94, .nilp⟩ := by kernel_rfl
theorem ty93 : aM Tryz.prog 93 = some ⟨2, 32, .struct [(0, 62), (1, 3)], .agg [.nils, .int .i64 0]⟩ := by kernel_rfl
theorem ty94 : aM Tryz.prog 94 = some ⟨2, 32, .struct [(0, 62), (1, 3)], .agg [.nils, .int .i64 0]⟩ := by kernel_rfl
theorem ty96 : aM Tryz.prog 96 = some ⟨1, 8, .func, .nilf⟩ := by kernel_rfl
theorem ty97 : aM Tryz.prog 97 = some ⟨1, 8, .func, .nilf⟩ := by kernel_rfl
theorem ty98 : aM Tryz.prog 98 = some ⟨1, 8, .pointer 100, .nilp⟩ := by kernel_rfl
theorem ty99 : aM Tryz.prog 99 = some ⟨5, 80, .struct [(0, 45), (3, 23), (4, 4)], .agg [.agg [.str [], .int .i64 0, .nils], .nils, .bool false]⟩ := by kernel_rfl
theorem ty100 : aM Tryz.prog 100 = some ⟨5, 80, .struct [(0, 45), (3, 23), (4, 4)], .agg [.agg [.str [], .int .i64 0, .nils], .nils, .bool false]⟩ := by kernel_rfl
theorem ty101 : aM Tryz.prog 101 = some ⟨1, 8, .func, .nilf⟩ := by kernel_rfl
theorem ty102 : aM Tryz.prog 102 = some ⟨1, 8, .func, .nilf⟩ := by kernel_rfl
theorem ty103 : aM Tryz.prog 103 = some ⟨1, 8, .func, .nilf⟩ := by kernel_rfl
theorem ty104 : aM Tryz.prog 104 = some ⟨1, 8, .func, .nilf⟩ := by kernel_rfl
theorem ty106 : aM Tryz.prog 106 = some ⟨1, 8, .func, .nilf⟩ := by kernel_rfl
theorem ty107 : aM Tryz.prog 107 = some ⟨1, 8, .func, .nilf⟩ := by kernel_rfl
theorem ty108 : aM Tryz.prog 108 = some ⟨1, 8, .func, .nilf⟩ := by kernel_rfl
theorem ty109 : aM Tryz.prog 109 = some ⟨1, 8, .func, .nilf⟩ := by kernel_rfl
theorem ty110 : aM Tryz.prog 110 = some ⟨1, 8, .func, .nilf⟩ := by kernel_rfl
theorem ty111 : aM Tryz.prog 111 = some ⟨1, 8, .func, .nilf⟩ := by kernel_rfl
theorem ty112 : aM Tryz.prog 112 = some ⟨1, 8, .func, .nilf⟩ := by kernel_rfl
theorem ty113 : aM Tryz.prog 113 = some ⟨1, 8, .func, .nilf⟩ := by kernel_rfl
theorem ty114 : aM Tryz.prog 114 = some ⟨1, 8, .func, .nilf⟩ := by kernel_rfl
theorem ty115 : aM Tryz.prog 115 = some ⟨1, 8, .func, .nilf⟩ := by kernel_rfl
theorem ty116 : aM Tryz.prog 116 = some ⟨1, 8, .int .u64, .int .u64 0⟩ := by kernel_rfl
theorem ty117 : aM Tryz.prog 117 = some ⟨1, 24, .slice 140, .nils⟩ := by kernel_rfl
theorem ty119 : aM Tryz.prog 119 = some ⟨1, 8, .func, .nilf⟩ := by kernel_rfl
theorem ty120 : aM Tryz.prog 120 = some ⟨1, 24, .slice 143, .nils⟩ := by kernel_rfl
theorem ty122 : aM Tryz.prog 122 = some ⟨1, 8, .func, .nilf⟩ := by kernel_rfl
theorem ty124 : aM Tryz.prog 124 = some ⟨1, 8, .func, .nilf⟩ := by kernel_rfl
theorem ty125 : aM Tryz.prog 125 = some ⟨1, 8, .func, .nilf⟩ := by kernel_rfl
theorem ty126 : aM Tryz.prog 126 = some ⟨1, 8, .func, .nilf⟩ := by kernel_rfl
theorem ty127 : aM Tryz.prog 127 = some ⟨1, 8, .func, .nilf⟩ := by kernel_rfl
theorem ty128 : aM Tryz.prog 128 = some ⟨1, 8, .func, .nilf⟩ := by kernel_rfl
theorem ty130 : aM Tryz.prog 130 = some ⟨1, 8, .func, .nilf⟩ := by kernel_rfl
theorem ty132 : aM Tryz.prog 132 = some ⟨1, 8, .func, .nilf⟩ := by kernel_rfl
theorem ty133 : aM Tryz.prog 133 = some ⟨1, 8, .func, .nilf⟩ := by kernel_rfl
theorem ty135 : aM Tryz.prog 135 = some ⟨1, 8, .func, .nilf⟩ := by kernel_rfl
theorem ty136 : aM Tryz.prog 136 = some ⟨1, 8, .func, .nilf⟩ := by kernel_rfl
theorem ty137 : aM Tryz.prog 137 = some ⟨1, 8, .func, .nilf⟩ := by kernel_rfl
theorem ty138 : aM Tryz.prog 138 = some ⟨1, 8, .func, .nilf⟩ := by kernel_rfl
theorem ty139 : aM Tryz.prog 139 = some ⟨2, 16, .struct [(0, 3), (1, 5)], .agg [.int .i64 0, .int .u8 0]⟩ := by kernel_rfl
theorem ty140 : aM Tryz.prog 140 = some ⟨2, 16, .struct [(0, 3), (1, 5)], .agg [.int .i64 0, .int .u8 0]⟩ := by kernel_rfl
theorem ty141 : aM Tryz.prog 141 = some ⟨1, 8, .func, .nilf⟩ := by kernel_rfl
theorem ty142 : aM Tryz.prog 142 = some ⟨2, 16, .struct [(0, 3), (1, 5)], .agg [.int .i64 0, .int .u8 0]⟩ := by kernel_rfl
theorem ty143 : aM Tryz.prog 143 = some ⟨2, 16, .struct [(0, 3), (1, 5)], .agg [.int .i64 0, .int .u8 0]⟩ := by kernel_rfl
theorem ty144 : aM Tryz.prog 144 = some ⟨1, 8, .func, .nilf⟩ := by kernel_rfl
theorem ty145 : aM Tryz.prog 145 = some ⟨1, 8, .func, .nilf⟩ := by kernel_rfl
theorem ty146 : aM Tryz.prog 146 = some ⟨1, 8, .func, .nilf⟩ := by kernel_rfl
theorem ty147 : aM Tryz.prog 147 = some ⟨1, 8, .func, .nilf⟩ := by kernel_rfl
theorem ty149 : aM Tryz.prog 149 = some ⟨1, 8, .func, .nilf⟩ := by kernel_rfl
theorem ty150 : aM Tryz.prog 150 = some ⟨1, 8, .func, .nilf⟩ := by kernel_rfl
theorem ty151 : aM Tryz.prog 151 = some ⟨1, 8, .func, .nilf⟩ := by kernel_rfl
theorem ty153 : aM Tryz.prog 153 = some ⟨1, 8, .func, .nilf⟩ := by kernel_rfl
theorem ty154 : aM Tryz.prog 154 = some ⟨1, 8, .func, .nilf⟩ := by kernel_rfl
theorem ty155 : aM Tryz.prog 155 = some ⟨24, 24, .array 24 5, .agg [.int .u8 0, .int .u8 0, .int .u8 0, .int .u8 0, .int .u8 0, .int .u8 0, .int .u8 0, .int .u8 0, .int .u8 0, .int .u8 0, .int .u8 0, .int .u8 0, .int .u8 0, .int .u8 0, .int .u8 0, .int .u8 0, .int .u8 0, .int .u8 0, .int .u8 0, .int .u8 0, .int .u8 0, .int .u8 0, .int .u8 0, .int .u8 0]⟩ := by kernel_rfl
theorem ty156 : aM Tryz.prog 156 = some ⟨1, 8, .func, .nilf⟩ := by kernel_rfl
theorem ty157 : aM Tryz.prog 157 = some ⟨1, 8, .func, .nilf⟩ := by kernel_rfl
theorem ty159 : aM Tryz.prog 159 = some ⟨1, 8, .func, .nilf⟩ := by kernel_rfl
theorem ty160 : aM Tryz.prog 160 = some ⟨1, 8, .func, .nilf⟩ := by kernel_rfl
theorem ty162 : aM Tryz.prog 162 = some ⟨1, 8, .func, .nilf⟩ := by kernel_rfl
theorem ty164 : aM Tryz.prog 164 = some ⟨1, 8, .func, .nilf⟩ := by kernel_rfl
theorem ty165 : aM Tryz.prog 165 = some ⟨1, 8, .func, .nilf⟩ := by kernel_rfl
theorem ty166 : aM Tryz.prog 166 = some ⟨1, 8, .func, .nilf⟩ := by kernel_rfl
theorem ty167 : aM Tryz.prog 167 = some ⟨1, 8, .func, .nilf⟩ := by kernel_rfl
theorem ty168 : aM Tryz.prog 168 = some ⟨1, 8, .func, .nilf⟩ := by kernel_rfl
theorem ty169 : aM Tryz.prog 169 = some ⟨20, 160, .array 20 116, .agg [.int .u64 0, .int .u64 0, .int .u64 0, .int .u64 0, .int .u64 0, .int .u64 0, .int .u64 0, .int .u64 0, .int .u64 0, .int .u64 0, .int .u64 0, .int .u64 0, .int .u64 0, .int .u64 0, .int .u64 0, .int .u64 0, .int .u64 0, .int .u64 0, .int .u64 0, .int .u64 0]⟩ := by kernel_rfl
theorem ty170 : aM Tryz.prog 170 = some ⟨1, 4, .int .u32, .int .u32 0⟩ := by kernel_rfl
theorem ty171 : aM Tryz.prog 171 = some ⟨65, 65, .array 65 5, .agg [.int .u8 0, .int .u8 0, .int .u8 0, .int .u8 0, .int .u8 0, .int .u8 0, .int .u8 0, .int .u8 0, .int .u8 0, .int .u8 0, .int .u8 0, .int .u8 0, .int .u8 0, .int .u8 0, .int .u8 0, .int .u8 0, .int .u8 0, .int .u8 0, .int .u8 0, .int .u8 0, .int .u8 0, .int .u8 0, .int .u8 0, .int .u8 0, .int .u8 0, .int .u8 0, .int .u8 0, .int .u8 0, .int .u8 0, .int .u8 0, .int .u8 0, .int .u8 0, .int .u8 0, .int .u8 0, .int .u8 0, .int .u8 0, .int .u8 0, .int .u8 0, .int .u8 0, .int .u8 0, .int .u8 0, .int .u8 0, .int .u8 0, .int .u8 0, .int .u8 0, .int .u8 0, .int .u8 0, .int .u8 0, .int .u8 0, .int .u8 0, .int .u8 0, .int .u8 0, .int .u8 0, .int .u8 0, .int .u8 0, .int .u8 0, .int .u8 0, .int .u8 0, .int .u8 0, .int .u8 0, .int .u8 0, .int .u8 0, .int .u8 0, .int .u8 0, .int .u8 0]⟩ := by kernel_rfl
theorem ty172 : aM Tryz.prog 172 = some ⟨1, 8, .func, .nilf⟩ := by kernel_rfl
theorem ty173 : aM Tryz.prog 173 = some ⟨1, 8, .func, .nilf⟩ := by kernel_rfl
theorem ty175 : aM Tryz.prog 175 = some ⟨1, 8, .func, .nilf⟩ := by kernel_rfl
theorem ty176 : aM Tryz.prog 176 = some ⟨1, 8, .pointer 2, .nilp⟩ := by kernel_rfl
theorem ty177 : aM Tryz.prog 177 = some ⟨1, 24, .slice 176, .nils⟩ := by kernel_rfl
theorem ty178 : aM Tryz.prog 178 = some ⟨1, 8, .func, .nilf⟩ := by kernel_rfl
theorem ty180 : aM Tryz.prog 180 = some ⟨2, 2, .struct [(0, 5), (1, 5)], .agg [.int .u8 0, .int .u8 0]⟩ := by kernel_rfl
theorem ty181 : aM Tryz.prog 181 = some ⟨2, 2, .struct [(0, 5), (1, 5)], .agg [.int .u8 0, .int .u8 0]⟩ := by kernel_rfl
theorem ty182 : aM Tryz.prog 182 = some ⟨32, 32, .array 16 181, .agg [.agg [.int .u8 0, .int .u8 0], .agg [.int .u8 0, .int .u8 0], .agg [.int .u8 0, .int .u8 0], .agg [.int .u8 0, .int .u8 0], .agg [.int .u8 0, .int .u8 0], .agg [.int .u8 0, .int .u8 0], .agg [.int .u8 0, .int .u8 0], .agg [.int .u8 0, .int .u8 0], .agg [.int .u8 0, .int .u8 0], .agg [.int .u8 0, .int .u8 0], .agg [.int .u8 0, .int .u8 0], .agg [.int .u8 0, .int .u8 0], .agg [.int .u8 0, .int .u8 0], .agg [.int .u8 0, .int .u8 0], .agg [.int .u8 0, .int .u8 0], .agg [.int .u8 0, .int .u8 0]]⟩ := by kernel_rfl
theorem ty183 : aM Tryz.prog 183 = some ⟨1, 8, .func, .nilf⟩ := by kernel_rfl
theorem ty184 : aM Tryz.prog 184 = some ⟨32, 32, .array 32 5, zd⟩ := by kernel_rfl
theorem ty185 : aM Tryz.prog 185 = some ⟨64, 64, .array 64 5, us (uz 64)⟩ := by kernel_rfl
theorem ty186 : aM Tryz.prog 186 = some ⟨1, 8, .func, .nilf⟩ := by kernel_rfl
theorem ty187 : aM Tryz.prog 187 = some ⟨4, 40, .struct [(0, 17), (1, 17), (2, 17), (3, 9)], .agg [.nilp, .nilp, .nilp, .str []]⟩ := by kernel_rfl
theorem ty188 : aM Tryz.prog 188 = some ⟨4, 40, .struct [(0, 17), (1, 17), (2, 17), (3, 9)], .agg [.nilp, .nilp, .nilp, .str []]⟩ := by kernel_rfl
theorem ty192 : aM Tryz.prog 192 = some ⟨1, 8, .func, .nilf⟩ := by kernel_rfl
theorem ty193 : aM Tryz.prog 193 = some ⟨1, 1, .int .u8, .int .u8 0⟩ := by kernel_rfl
theorem ty194 : aM Tryz.prog 194 = some ⟨1, 1, .int .u8, .int .u8 0⟩ := by kernel_rfl
theorem ty195 : aM Tryz.prog 195 = some ⟨1, 8, .func, .nilf⟩ := by kernel_rfl
theorem ty196 : aM Tryz.prog 196 = some ⟨1, 8, .pointer 5, .nilp⟩ := by kernel_rfl
theorem ty197 : aM Tryz.prog 197 = some ⟨1, 4, .int .i32, .int .i32 0⟩ := by kernel_rfl
theorem ty198 : aM Tryz.prog 198 = some ⟨1, 4, .int .i32, .int .i32 0⟩ := by kernel_rfl
theorem ty199 : aM Tryz.prog 199 = some ⟨11, 48, .struct [(0, 12), (1, 12), (2, 170), (3, 193), (4, 5), (5, 5), (6, 194), (7, 195), (8, 196), (9, 197), (10, 198)], .agg [.int .u64 0, .int .u64 0, .int .u32 0, .int .u8 0, .int .u8 0, .int .u8 0, .int .u8 0, .nilf, .nilp, .int .i32 0, .int .i32 0]⟩ := by kernel_rfl
theorem ty200 : aM Tryz.prog 200 = some ⟨11, 48, .struct [(0, 12), (1, 12), (2, 170), (3, 193), (4, 5), (5, 5), (6, 194), (7, 195), (8, 196), (9, 197), (10, 198)], .agg [.int .u64 0, .int .u64 0, .int .u32 0, .int .u8 0, .int .u8 0, .int .u8 0, .int .u8 0, .nilf, .nilp, .int .i32 0, .int .i32 0]⟩ := by kernel_rfl
theorem eqdg184 (x y : Dig) (K : CV → Prop) : jP Tryz.prog .eql 184 (.c (dg x)) (.c (dg y)) K = K (.bool (x == y)) := (aS8 (by kernel_rfl) ty184 ty5 (by kernel_rfl) x y K).1
theorem nedg184 (x y : Dig) (K : CV → Prop) : jP Tryz.prog .neq 184 (.c (dg x)) (.c (dg y)) K = K (.bool (!(x == y))) := (aS8 (by kernel_rfl) ty184 ty5 (by kernel_rfl) x y K).2
theorem mixed : Tryz.prog.follows .mixedOrders = true := by kernel_rfl
end YtlldglbooaefhaaGreatDoor
end Go.Proofs

namespace Go.Pl
open Go Go.Hl

structure Rq where
 k : Int
 n : Int
 m : Int
 t : aE
def Rq.cv (x : Rq) : CV := .agg [.int .i64 x.k, .int .i64 x.n, .int .i64 x.m, .str x.t]
theorem Rq.cells (x : Rq) : x.cv.cells = 4 := by simp [Rq.cv, CV.cells, CV.cellsL, dg_cells, aR]
theorem Rq.denil (x : Rq) : x.cv.denil = x.cv := by simp only [Rq.cv, CV.denil, CV.denilL, dg_denil, gG, denilL_str, denilL_dg]
theorem denilL_Rq (l : List Rq) : CV.denilL (l.map Rq.cv) = l.map Rq.cv := bV Rq.denil l
theorem Rq.isAgg (x : Rq) : x.cv.isAgg = true := rfl
theorem Rq.getAll (x : Rq) : CV.getAt 0 4 true x.cv = some x.cv := by
 have := Rq.cells x
 simp_all [Rq.cv, CV.cells, CV.getAt, and_self, if_true]
theorem Rq.setAll (x : Rq) (y : HV) : CV.setAt 0 4 y x.cv = some y := by
 have := Rq.cells x
 simp_all [Rq.cv, CV.cells, CV.setAt, and_self, if_true]
theorem Rq.fold (k : Int) (n : Int) (m : Int) (t : aE) : CV.agg [.int .i64 k, .int .i64 n, .int .i64 m, .str t] = Rq.cv ⟨k, n, m, t⟩ := rfl
theorem Rq.get_k (x : Rq) : CV.getAt 0 1 false x.cv = some (.int .i64 x.k) := by simp [Rq.cv, CV.getAt, CV.getAtL, CV.cells, CV.cellsL, dg_cells, aR]
theorem Rq.set_k (x : Rq) (y : HV) : CV.setAt 0 1 y x.cv = some (.agg [y, .c (.int .i64 x.n), .c (.int .i64 x.m), .c (.str x.t)]) := by simp [Rq.cv, CV.setAt, CV.setAtL, CV.cells, CV.cellsL, dg_cells, aR]
theorem Rq.get_n (x : Rq) : CV.getAt 1 1 false x.cv = some (.int .i64 x.n) := by simp [Rq.cv, CV.getAt, CV.getAtL, CV.cells, CV.cellsL, dg_cells, aR]
theorem Rq.set_n (x : Rq) (y : HV) : CV.setAt 1 1 y x.cv = some (.agg [.c (.int .i64 x.k), y, .c (.int .i64 x.m), .c (.str x.t)]) := by simp [Rq.cv, CV.setAt, CV.setAtL, CV.cells, CV.cellsL, dg_cells, aR]
theorem Rq.get_m (x : Rq) : CV.getAt 2 1 false x.cv = some (.int .i64 x.m) := by simp [Rq.cv, CV.getAt, CV.getAtL, CV.cells, CV.cellsL, dg_cells, aR]
theorem Rq.set_m (x : Rq) (y : HV) : CV.setAt 2 1 y x.cv = some (.agg [.c (.int .i64 x.k), .c (.int .i64 x.n), y, .c (.str x.t)]) := by simp [Rq.cv, CV.setAt, CV.setAtL, CV.cells, CV.cellsL, dg_cells, aR]
theorem Rq.get_t (x : Rq) : CV.getAt 3 1 false x.cv = some (.str x.t) := by simp [Rq.cv, CV.getAt, CV.getAtL, CV.cells, CV.cellsL, dg_cells, aR]
theorem Rq.set_t (x : Rq) (y : HV) : CV.setAt 3 1 y x.cv = some (.agg [.c (.int .i64 x.k), .c (.int .i64 x.n), .c (.int .i64 x.m), y]) := by simp [Rq.cv, CV.setAt, CV.setAtL, CV.cells, CV.cellsL, dg_cells, aR]

structure Nd where
 k : Int
 n : Int
 c : Int
 q : Rq
def Nd.cv (x : Nd) : CV := .agg [.int .i64 x.k, .int .i64 x.n, .int .i64 x.c, x.q.cv]
theorem Nd.cells (x : Nd) : x.cv.cells = 7 := by simp [Nd.cv, CV.cells, CV.cellsL, dg_cells, aR, Rq.cells]
theorem Nd.denil (x : Nd) : x.cv.denil = x.cv := by simp only [Nd.cv, CV.denil, CV.denilL, dg_denil, gG, denilL_str, denilL_dg, Rq.denil]
theorem denilL_Nd (l : List Nd) : CV.denilL (l.map Nd.cv) = l.map Nd.cv := bV Nd.denil l
theorem Nd.isAgg (x : Nd) : x.cv.isAgg = true := rfl
theorem Nd.getAll (x : Nd) : CV.getAt 0 7 true x.cv = some x.cv := by
 have := Nd.cells x
 simp_all [Nd.cv, CV.cells, CV.getAt, and_self, if_true]
theorem Nd.setAll (x : Nd) (y : HV) : CV.setAt 0 7 y x.cv = some y := by
 have := Nd.cells x
 simp_all [Nd.cv, CV.cells, CV.setAt, and_self, if_true]
theorem Nd.fold (k : Int) (n : Int) (c : Int) (q : Rq) : CV.agg [.int .i64 k, .int .i64 n, .int .i64 c, q.cv] = Nd.cv ⟨k, n, c, q⟩ := rfl
theorem Nd.get_k (x : Nd) : CV.getAt 0 1 false x.cv = some (.int .i64 x.k) := by simp [Nd.cv, CV.getAt, CV.getAtL, CV.cells, CV.cellsL, dg_cells, aR, Rq.cells]
theorem Nd.set_k (x : Nd) (y : HV) : CV.setAt 0 1 y x.cv = some (.agg [y, .c (.int .i64 x.n), .c (.int .i64 x.c), .c (x.q.cv)]) := by simp [Nd.cv, CV.setAt, CV.setAtL, CV.cells, CV.cellsL, dg_cells, aR, Rq.cells]
theorem Nd.get_n (x : Nd) : CV.getAt 1 1 false x.cv = some (.int .i64 x.n) := by simp [Nd.cv, CV.getAt, CV.getAtL, CV.cells, CV.cellsL, dg_cells, aR, Rq.cells]
theorem Nd.set_n (x : Nd) (y : HV) : CV.setAt 1 1 y x.cv = some (.agg [.c (.int .i64 x.k), y, .c (.int .i64 x.c), .c (x.q.cv)]) := by simp [Nd.cv, CV.setAt, CV.setAtL, CV.cells, CV.cellsL, dg_cells, aR, Rq.cells]
theorem Nd.get_c (x : Nd) : CV.getAt 2 1 false x.cv = some (.int .i64 x.c) := by simp [Nd.cv, CV.getAt, CV.getAtL, CV.cells, CV.cellsL, dg_cells, aR, Rq.cells]
theorem Nd.set_c (x : Nd) (y : HV) : CV.setAt 2 1 y x.cv = some (.agg [.c (.int .i64 x.k), .c (.int .i64 x.n), y, .c (x.q.cv)]) := by simp [Nd.cv, CV.setAt, CV.setAtL, CV.cells, CV.cellsL, dg_cells, aR, Rq.cells]
theorem Nd.get_q (x : Nd) : CV.getAt 3 4 true x.cv = some (x.q.cv) := by simp [Nd.cv, CV.getAt, CV.getAtL, CV.cells, CV.cellsL, dg_cells, aR, Rq.cells, Rq.getAll]
theorem Nd.set_q (x : Nd) (y : HV) : CV.setAt 3 4 y x.cv = some (.agg [.c (.int .i64 x.k), .c (.int .i64 x.n), .c (.int .i64 x.c), y]) := by simp [Nd.cv, CV.setAt, CV.setAtL, CV.cells, CV.cellsL, dg_cells, aR, Rq.cells, Rq.setAll]

structure Pr where
 a : aE
 b : aE
 c : aE
 g : Int
 t : List Nd
def Pr.cv (x : Pr) : CV := .agg [.str x.a, .str x.b, .str x.c, .int .i64 x.g, .slc (x.t.map Nd.cv)]
theorem Pr.cells (x : Pr) : x.cv.cells = 5 := by simp [Pr.cv, CV.cells, CV.cellsL, dg_cells, aR]
theorem Pr.denil (x : Pr) : x.cv.denil = x.cv := by simp only [Pr.cv, CV.denil, CV.denilL, dg_denil, gG, denilL_str, denilL_dg, denilL_Nd]
theorem denilL_Pr (l : List Pr) : CV.denilL (l.map Pr.cv) = l.map Pr.cv := bV Pr.denil l
theorem Pr.isAgg (x : Pr) : x.cv.isAgg = true := rfl
theorem Pr.getAll (x : Pr) : CV.getAt 0 5 true x.cv = some x.cv := by
 have := Pr.cells x
 simp_all [Pr.cv, CV.cells, CV.getAt, and_self, if_true]
theorem Pr.setAll (x : Pr) (y : HV) : CV.setAt 0 5 y x.cv = some y := by
 have := Pr.cells x
 simp_all [Pr.cv, CV.cells, CV.setAt, and_self, if_true]
theorem Pr.fold (a : aE) (b : aE) (c : aE) (g : Int) (t : List Nd) : CV.agg [.str a, .str b, .str c, .int .i64 g, .slc (t.map Nd.cv)] = Pr.cv ⟨a, b, c, g, t⟩ := rfl
theorem Pr.get_a (x : Pr) : CV.getAt 0 1 false x.cv = some (.str x.a) := by simp [Pr.cv, CV.getAt, CV.getAtL, CV.cells, CV.cellsL, dg_cells, aR]
theorem Pr.set_a (x : Pr) (y : HV) : CV.setAt 0 1 y x.cv = some (.agg [y, .c (.str x.b), .c (.str x.c), .c (.int .i64 x.g), .c (.slc (x.t.map Nd.cv))]) := by simp [Pr.cv, CV.setAt, CV.setAtL, CV.cells, CV.cellsL, dg_cells, aR]
theorem Pr.get_b (x : Pr) : CV.getAt 1 1 false x.cv = some (.str x.b) := by simp [Pr.cv, CV.getAt, CV.getAtL, CV.cells, CV.cellsL, dg_cells, aR]
theorem Pr.set_b (x : Pr) (y : HV) : CV.setAt 1 1 y x.cv = some (.agg [.c (.str x.a), y, .c (.str x.c), .c (.int .i64 x.g), .c (.slc (x.t.map Nd.cv))]) := by simp [Pr.cv, CV.setAt, CV.setAtL, CV.cells, CV.cellsL, dg_cells, aR]
theorem Pr.get_c (x : Pr) : CV.getAt 2 1 false x.cv = some (.str x.c) := by simp [Pr.cv, CV.getAt, CV.getAtL, CV.cells, CV.cellsL, dg_cells, aR]
theorem Pr.set_c (x : Pr) (y : HV) : CV.setAt 2 1 y x.cv = some (.agg [.c (.str x.a), .c (.str x.b), y, .c (.int .i64 x.g), .c (.slc (x.t.map Nd.cv))]) := by simp [Pr.cv, CV.setAt, CV.setAtL, CV.cells, CV.cellsL, dg_cells, aR]
theorem Pr.get_g (x : Pr) : CV.getAt 3 1 false x.cv = some (.int .i64 x.g) := by simp [Pr.cv, CV.getAt, CV.getAtL, CV.cells, CV.cellsL, dg_cells, aR]
theorem Pr.set_g (x : Pr) (y : HV) : CV.setAt 3 1 y x.cv = some (.agg [.c (.str x.a), .c (.str x.b), .c (.str x.c), y, .c (.slc (x.t.map Nd.cv))]) := by simp [Pr.cv, CV.setAt, CV.setAtL, CV.cells, CV.cellsL, dg_cells, aR]
theorem Pr.get_t (x : Pr) : CV.getAt 4 1 false x.cv = some (.slc (x.t.map Nd.cv)) := by simp [Pr.cv, CV.getAt, CV.getAtL, CV.cells, CV.cellsL, dg_cells, aR]
theorem Pr.set_t (x : Pr) (y : HV) : CV.setAt 4 1 y x.cv = some (.agg [.c (.str x.a), .c (.str x.b), .c (.str x.c), .c (.int .i64 x.g), y]) := by simp [Pr.cv, CV.setAt, CV.setAtL, CV.cells, CV.cellsL, dg_cells, aR]

structure Po where
 n : aE
 v : Int
 r : List Pr
def Po.cv (x : Po) : CV := .agg [.str x.n, .int .i64 x.v, .slc (x.r.map Pr.cv)]
theorem Po.cells (x : Po) : x.cv.cells = 3 := by simp [Po.cv, CV.cells, CV.cellsL, dg_cells, aR]
theorem Po.denil (x : Po) : x.cv.denil = x.cv := by simp only [Po.cv, CV.denil, CV.denilL, dg_denil, gG, denilL_str, denilL_dg, denilL_Pr]
theorem denilL_Po (l : List Po) : CV.denilL (l.map Po.cv) = l.map Po.cv := bV Po.denil l
theorem Po.isAgg (x : Po) : x.cv.isAgg = true := rfl
theorem Po.getAll (x : Po) : CV.getAt 0 3 true x.cv = some x.cv := by
 have := Po.cells x
 simp_all [Po.cv, CV.cells, CV.getAt, and_self, if_true]
theorem Po.setAll (x : Po) (y : HV) : CV.setAt 0 3 y x.cv = some y := by
 have := Po.cells x
 simp_all [Po.cv, CV.cells, CV.setAt, and_self, if_true]
theorem Po.fold (n : aE) (v : Int) (r : List Pr) : CV.agg [.str n, .int .i64 v, .slc (r.map Pr.cv)] = Po.cv ⟨n, v, r⟩ := rfl
theorem Po.get_n (x : Po) : CV.getAt 0 1 false x.cv = some (.str x.n) := by simp [Po.cv, CV.getAt, CV.getAtL, CV.cells, CV.cellsL, dg_cells, aR]
theorem Po.set_n (x : Po) (y : HV) : CV.setAt 0 1 y x.cv = some (.agg [y, .c (.int .i64 x.v), .c (.slc (x.r.map Pr.cv))]) := by simp [Po.cv, CV.setAt, CV.setAtL, CV.cells, CV.cellsL, dg_cells, aR]
theorem Po.get_v (x : Po) : CV.getAt 1 1 false x.cv = some (.int .i64 x.v) := by simp [Po.cv, CV.getAt, CV.getAtL, CV.cells, CV.cellsL, dg_cells, aR]
theorem Po.set_v (x : Po) (y : HV) : CV.setAt 1 1 y x.cv = some (.agg [.c (.str x.n), y, .c (.slc (x.r.map Pr.cv))]) := by simp [Po.cv, CV.setAt, CV.setAtL, CV.cells, CV.cellsL, dg_cells, aR]
theorem Po.get_r (x : Po) : CV.getAt 2 1 false x.cv = some (.slc (x.r.map Pr.cv)) := by simp [Po.cv, CV.getAt, CV.getAtL, CV.cells, CV.cellsL, dg_cells, aR]
theorem Po.set_r (x : Po) (y : HV) : CV.setAt 2 1 y x.cv = some (.agg [.c (.str x.n), .c (.int .i64 x.v), y]) := by simp [Po.cv, CV.setAt, CV.setAtL, CV.cells, CV.cellsL, dg_cells, aR]


def fR (a b : Rq) : Bool := a.k == b.k && (a.n == b.n && (a.m == b.m && a.t == b.t))
theorem aG5 (a b : Rq) : fR a b = true ↔ a = b := by
 obtain ⟨a1, a2, a3, a4⟩ := a
 obtain ⟨b1, b2, b3, b4⟩ := b
 simp only [fR, Bool.and_eq_true, beq_iff_eq, Rq.mk.injEq]
def rq0 : Rq := ⟨0, 0, 0, []⟩
def nd0 : Nd := ⟨0, 0, 0, rq0⟩
def inB (n lo hi : Int) : Bool := decide (lo ≤ n) && decide (n ≤ hi)
def dB (q : Rq) : Bool :=
 if q.k = 1 ∨ q.k = 3 ∨ q.k = 5 then inB q.n 1 32 && (q.m == 0 && q.t == [])
 else if q.k = 4 then inB q.n 1 32 && (inB q.m 0 32 && q.t == [])
 else if q.k = 2 then dN q.t && (q.n == 0 && q.m == 0)
 else if q.k = 6 then inB q.n 1 10 && (q.m == 0 && q.t == [])
 else if q.k = 7 then inB q.n 0 vA && (q.m == 0 && q.t == [])
 else if q.k = 8 then q.n == 0 && (q.m == 0 && q.t == [])
 else false
def bT (n : Nd) : Bool :=
 if n.k = 1 then n.c == 0 && (n.n == 0 && dB n.q)
 else if n.k = 2 ∨ n.k = 3 then inB n.c 1 60 && (fR n.q rq0 && n.n == 0)
 else if n.k = 4 then inB n.c 1 60 && (fR n.q rq0 && inB n.n 1 n.c)
 else false
theorem cI {n : Nd} (h : bT n = true) : 0 ≤ n.c ∧ n.c ≤ 60 ∧ (n.k = 1 → n.c = 0) ∧ (n.k ≠ 1 → 1 ≤ n.c) := by
 unfold bT inB at h
 split at h
 ·
  grind
 grind

def pV : List Nd → Int → Int → Option (Int × Int)
 | [], m, v => some (m, v)
 | n :: l, m, v => if m = 0 then none else if bT n then pV l (m + (n.c - 1)) (if n.k = 1 then v + 1 else v) else none
def cP (l : List Nd) : Bool := decide (1 ≤ l.length) && (decide (l.length ≤ 60) && (match pV l 1 0 with | some (m, v) => m == 0 && decide (v ≤ 16) | none => false))
def lv : List Nd → Nat
 | [] => 0
 | n :: l => (if n.k = 1 then 1 else 0) + lv l
theorem rM (a b : List Nd) : lv (a ++ b) = lv a + lv b := by
 induction a with
 | nil => simp [lv]
 | cons n a ih => grind [lv]
theorem bF1 (l : List Nd) : lv l ≤ l.length := by
 induction l with
 | nil => simp [lv]
 | cons n l ih => grind [lv, List.length_cons]
def skip : Nat → List Nd → Option (List Nd)
 | 0, l => some l
 | _ + 1, [] => none
 | m + 1, n :: l => skip (m + n.c.toNat) l
theorem cE (l : List Nd) : skip 0 l = some l := by cases l <;> rfl
theorem dZ : ∀ (l : List Nd) (a b : Nat), skip (a + b) l = (skip a l).bind (skip b)
 | l, 0, b => by rw [Nat.zero_add, cE]; rfl
 | [], a + 1, b => by rw [show a + 1 + b = a + b + 1 from by omega]; rfl
 | n :: l, a + 1, b => by
  rw [show a + 1 + b = a + b + 1 from by omega]
  show skip (a + b + n.c.toNat) l = (skip (a + n.c.toNat) l).bind (skip b)
  rw [show a + b + n.c.toNat = a + n.c.toNat + b from by omega]
  exact dZ l (a + n.c.toNat) b
theorem gO : ∀ (l : List Nd) (m : Nat) (r : List Nd), skip m l = some r → ∃ j, j ≤ l.length ∧ r = l.drop j ∧ (0 < m → 0 < j) ∧ m ≤ j + 0 * l.length + m
 | l, 0, r, h => by rw [cE] at h; cases h; exact ⟨0, by omega, by simp, by omega, by omega⟩
 | [], m + 1, r, h => by cases h
 | n :: l, m + 1, r, h => by
  obtain ⟨j, h1, h2, _, _⟩ := gO l (m + n.c.toNat) r h
  exact ⟨j + 1, by grind, by grind, by omega, by omega⟩
theorem yF : ∀ (l : List Nd) (m : Nat) (v v' : Int), pV l m v = some (0, v') → skip m l = some [] ∧ v' = v + lv l ∧ ∀ n ∈ l, bT n = true
 | [], m, v, v', h => by
  simp only [pV, Option.some.injEq, Prod.mk.injEq] at h
  obtain ⟨h1, rfl⟩ := h
  have : m = 0 := by omega
  subst this
  exact ⟨rfl, by simp [lv], by simp⟩
 | n :: l, m, v, v', h => by
  simp only [pV] at h
  split at h
  ·
   cases h
  ·
   rename_i h1
   split at h
   ·
    rename_i h2
    obtain ⟨c1, c2, c3, c4⟩ := cI h2
    obtain ⟨k, rfl⟩ : ∃ k, m = k + 1 := ⟨m - 1, by omega⟩
    have e : ((k + 1 : Nat) : Int) + (n.c - 1) = ((k + n.c.toNat : Nat) : Int) := by omega
    rw [e] at h
    obtain ⟨g1, g2, g3⟩ := yF l _ _ _ h
    refine ⟨g1, ?_, fun x hx => ?_⟩
    ·
     grind [lv]
    grind
   grind
structure IsTree (l : List Nd) : Prop where
 ne : 1 ≤ l.length
 len : l.length ≤ 60
 skip : skip 1 l = some []
 node : ∀ n ∈ l, bT n = true
 lv : lv l ≤ 16
theorem fH {l : List Nd} (h : cP l = true) : IsTree l := by
 unfold cP at h
 simp only [Bool.and_eq_true, decide_eq_true_eq] at h
 obtain ⟨h1, h2, h3⟩ := h
 split at h3
 ·
  rename_i m v hs
  simp only [Bool.and_eq_true, beq_iff_eq, decide_eq_true_eq] at h3
  obtain ⟨rfl, h4⟩ := h3
  obtain ⟨g1, g2, g3⟩ := yF l 1 0 v hs
  exact ⟨h1, h2, g1, g3, by omega⟩
 grind
theorem rN : ∀ (l : List Nd) (m : Nat), skip m l = some [] → (∀ n ∈ l, bT n = true) → ∀ i, i < l.length → ∃ k, skip (k + 1) (l.drop i) = some []
 | [], m, h, _, i, hi => by grind
 | n :: l, 0, h, _, i, hi => by grind [cE]
 | n :: l, m + 1, h, hn, 0, hi => ⟨m, h⟩
 | n :: l, m + 1, h, hn, i + 1, hi => by
  have h' : skip (m + n.c.toNat) l = some [] := h
  exact rN l _ h' (fun x hx => hn x (List.mem_cons_of_mem _ hx)) i (by grind)
theorem bF2 {l : List Nd} (h : IsTree l) {i : Nat} (hi : i < l.length) : ∃ j, i < j ∧ j ≤ l.length ∧ skip 1 (l.drop i) = some (l.drop j) := by
 obtain ⟨k, hk⟩ := rN l 1 h.skip h.node i hi
 rw [Nat.add_comm, dZ] at hk
 cases h1 : skip 1 (l.drop i) with
 | none => grind
 | some r =>
  grind [gO, List.length_drop, List.drop_drop]
end Go.Pl

namespace Go.Pl
open Go Go.Hl

def cR (c : UInt8) : Bool := decide ((33 : Int) ≤ c.toNat) && decide ((c.toNat : Int) ≤ 125) && ((c.toNat : Int) != 37)
def lW (n : Nat) : UInt8 := ([48, 49, 50, 51, 52, 53, 54, 55, 56, 57, 65, 66, 67, 68, 69, 70] : List UInt8).getD n 0
def kP (c : UInt8) : List UInt8 := if cR c then [c] else [37, lW (c.toNat / 16), lW (c.toNat % 16)]
def cG (w : aE) : aE := w.flatMap kP
def jQ (w : aE) : aE := if w = [] then [126] else cG w
def sizeW (w : aE) : Nat := max (cG w).length 1

@[simp] theorem cB4 : cG [] = [] := rfl
theorem bQ0 (c : UInt8) : (kP c).length ≤ 3 := by unfold kP; split <;> simp
theorem bF3 (c : UInt8) : 1 ≤ (kP c).length := by unfold kP; split <;> simp
theorem vB (w : aE) : (cG w).length ≤ 3 * w.length := by
 induction w with
 | nil => simp [cG]
 | cons c w ih =>
  have := bQ0 c
  simp only [cG, List.flatMap_cons, List.length_append, List.length_cons] at *
  omega
theorem aG6 (w : aE) : w.length ≤ (cG w).length := by
 induction w with
 | nil => simp [cG]
 | cons c w ih =>
  have := bF3 c
  simp only [cG, List.flatMap_cons, List.length_append, List.length_cons] at *
  omega
theorem vC {w : aE} {i : Nat} (h : i < w.length) : cG (w.take (i + 1)) = cG (w.take i) ++ kP w[i] := by
 simp only [List.take_succ_eq_append_getElem h, cG, List.flatMap_append, List.flatMap_cons, List.flatMap_nil, List.append_nil]
theorem oQ (w : aE) (i : Nat) : (cG (w.take i)).length ≤ (cG w).length := by
 have : cG w = cG (w.take i) ++ cG (w.drop i) := by simp [cG, ← List.flatMap_append]
 rw [this, List.length_append]; omega
theorem vD (w : aE) : (jQ w).length = sizeW w := by
 unfold jQ sizeW
 split
 ·
  subst_vars; rfl
 ·
  rename_i h
  have := aG6 w
  have : 0 < w.length := List.length_pos_iff.2 h
  omega
theorem vE (w : aE) : sizeW w ≤ 3 * w.length + 1 := by have := vB w; unfold sizeW; omega
theorem aX6 (w : aE) : 1 ≤ sizeW w := by unfold sizeW; omega
theorem cG4 (n : Nat) : (if (1 : Int) > (n : Int) then (1 : Int) else (n : Int)) = ((max n 1 : Nat) : Int) := by split <;> omega
theorem cG5 (c : UInt8) : Int.fdiv (c.toNat : Int) (2 ^ (min 4 IntKind.u8.bits)) = ((c.toNat / 16 : Nat) : Int) := by
 rw [show min 4 IntKind.u8.bits = 4 from rfl, Int.fdiv_eq_ediv_of_nonneg _ (by omega)]
 rfl
theorem cC8 (c : UInt8) : IntKind.u8.wrap ((BitVec.ofInt IntKind.u8.bits (c.toNat : Int) &&& BitVec.ofInt IntKind.u8.bits 15).toNat : Int) = ((c.toNat % 16 : Nat) : Int) := by
 have h := c.toNat_lt
 have : (BitVec.ofInt IntKind.u8.bits (c.toNat : Int) &&& BitVec.ofInt IntKind.u8.bits 15).toNat = c.toNat % 16 := by
  rw [BitVec.toNat_and]
  have e1 : (BitVec.ofInt IntKind.u8.bits (c.toNat : Int)).toNat = c.toNat := by
   simp [IntKind.bits]
  have e2 : (BitVec.ofInt IntKind.u8.bits 15).toNat = 15 := rfl
  rw [e1, e2]
  exact Nat.and_two_pow_sub_one_eq_mod _ 4
 rw [this]
 exact IntWalk.u8_in _ (by omega)

theorem dT : ∀ bs : List UInt8, CV.denilL (bs.map dY) = bs.map dY
 | [] => rfl
 | b :: bs => by simp only [List.map_cons, CV.denilL, dT bs]; rfl

def iA : List aE → aE
 | [] => []
 | w :: l => jQ w ++ l.flatMap fun v => 32 :: jQ v
theorem aX7 (l : List aE) (w : aE) : iA (l ++ [w]) = iA l ++ ((if l = [] then [] else [32]) ++ jQ w) := by
 cases l with
 | nil => simp [iA]
 | cons a l => simp [iA]
theorem aX8 {l : List aE} {i : Nat} (h : i < l.length) : iA (l.take (i + 1)) = iA (l.take i) ++ ((if i = 0 then [] else [32]) ++ jQ l[i]) := by
 rw [List.take_succ_eq_append_getElem h, aX7]
 congr 2
 have : l.take i = [] ↔ i = 0 := by
  rw [List.take_eq_nil_iff]
  constructor
  ·
   rintro (h1 | h1)
   ·
    exact h1
   ·
    subst h1; simp at h
  ·
   exact Or.inl
 simp only [this]
def aA6 (l : List aE) : aE := iA l ++ [10]
def gB (ls : List (List aE)) : aE := ls.flatMap aA6
def gK (l : List aE) : Nat := (l.map fun w => sizeW w + 1).sum
def sumD (ls : List (List aE)) : Nat := (ls.map gK).sum
theorem aG7 : ∀ (l : List aE), l ≠ [] → (iA l).length + 1 = gK l
 | [], h => absurd rfl h
 | w :: l, _ => by
  have : ∀ l : List aE, (l.flatMap fun v => 32 :: jQ v).length = gK l := by
   intro l
   induction l with
   | nil => rfl
   | cons v l ih => simp only [List.flatMap_cons, List.length_append, List.length_cons, vD, ih, gK, List.map_cons, List.sum_cons]
  simp only [iA, List.length_append, vD, this, gK, List.map_cons, List.sum_cons]
  omega
theorem bF4 {l : List aE} (h : l ≠ []) : (aA6 l).length = gK l := by
 rw [aA6, List.length_append, ← aG7 l h]; rfl
theorem bQ1 (l : List aE) : (iA l).length ≤ gK l := by
 cases l with
 | nil => simp [iA]
 | cons w l => have := aG7 (w :: l) (by simp); omega
theorem vF : ∀ {ls : List (List aE)}, (∀ l ∈ ls, l ≠ []) → (gB ls).length = sumD ls
 | [], _ => rfl
 | l :: ls, h => by
  have ih := vF (ls := ls) fun x hx => h x (List.mem_cons_of_mem _ hx)
  have h1 := bF4 (h l List.mem_cons_self)
  simp only [gB, sumD, List.flatMap_cons, List.length_append, List.map_cons, List.sum_cons] at *
  omega
theorem aX9 {ls : List (List aE)} {i : Nat} (h : i < ls.length) : gB (ls.take (i + 1)) = gB (ls.take i) ++ aA6 ls[i] := by
 simp only [List.take_succ_eq_append_getElem h, gB, List.flatMap_append, List.flatMap_cons, List.flatMap_nil, List.append_nil]
theorem aY0 {l : List aE} {i : Nat} (h : i < l.length) : gK (l.take (i + 1)) = gK (l.take i) + (sizeW l[i] + 1) := by
 simp only [List.take_succ_eq_append_getElem h, gK, List.map_append, List.sum_append, List.map_cons, List.map_nil, List.sum_cons, List.sum_nil, Nat.add_zero]
theorem aY1 {ls : List (List aE)} {i : Nat} (h : i < ls.length) : sumD (ls.take (i + 1)) = sumD (ls.take i) + gK ls[i] := by
 simp only [List.take_succ_eq_append_getElem h, sumD, List.map_append, List.sum_append, List.map_cons, List.map_nil, List.sum_cons, List.sum_nil, Nat.add_zero]

@[simp] theorem cC9 : gB [] = [] := rfl
@[simp] theorem cD0 : iA [] = [] := rfl
@[simp] theorem cD1 : gK [] = 0 := rfl
@[simp] theorem cD2 : sumD [] = 0 := rfl
theorem pW (l : List aE) (i : Nat) : gK (l.take i) ≤ gK l := by
 have : gK l = gK (l.take i) + gK (l.drop i) := by
  simp only [gK, ← List.sum_append, ← List.map_append, List.take_append_drop]
 omega
theorem aA7 (l : List (List aE)) (i : Nat) : sumD (l.take i) ≤ sumD l := by
 have : sumD l = sumD (l.take i) + sumD (l.drop i) := by
  simp only [sumD, ← List.sum_append, ← List.map_append, List.take_append_drop]
 omega

def rO (l : List aE) : Int :=
 if l.length = 0 then 1 else if 120 < l.length then 3 else if l.any (fun w => decide (32768 < w.length)) then 3 else 0
def okL (l : List aE) : Bool := rO l == 0
theorem nX (l : List aE) : okL l = true ↔ l ≠ [] ∧ l.length ≤ 120 ∧ ∀ w ∈ l, w.length ≤ 32768 := by
 unfold okL rO
 constructor
 ·
  intro h
  split at h
  ·
   simp at h
  ·
   split at h
   ·
    simp at h
   ·
    split at h
    ·
     simp at h
    ·
     rename_i h1 h2 h3
     refine ⟨fun h => h1 (by rw [h]; rfl), by omega, fun w hw => ?_⟩
     simp only [List.any_eq_true, not_exists, not_and, decide_eq_true_eq, Nat.not_lt] at h3
     exact h3 w hw
 ·
  rintro ⟨h1, h2, h3⟩
  rw [if_neg (fun h => h1 (List.eq_nil_of_length_eq_zero h)), if_neg (by omega), if_neg (by simpa using h3)]
  rfl
theorem aS9 {l : List aE} (h : okL l = true) : gK l ≤ 11796720 := by
 obtain ⟨-, h1, h2⟩ := (nX l).1 h
 have key : ∀ l : List aE, (∀ w ∈ l, w.length ≤ 32768) → gK l ≤ 98306 * l.length := by
  intro l
  induction l with
  | nil => intro _; simp [gK]
  | cons w l ih =>
   intro h
   have := ih fun x hx => h x (List.mem_cons_of_mem _ hx)
   have h3 := h w List.mem_cons_self
   have h4 := vE w
   simp only [gK, List.map_cons, List.sum_cons, List.length_cons] at *
   omega
 have := key l h2
 omega
theorem bQ2 {ls : List (List aE)} (h : ∀ l ∈ ls, okL l = true) : sumD ls ≤ 11796720 * ls.length := by
 induction ls with
 | nil => simp [sumD]
 | cons l ls ih =>
  have := ih fun x hx => h x (List.mem_cons_of_mem _ hx)
  have h3 := aS9 (h l List.mem_cons_self)
  simp only [sumD, List.map_cons, List.sum_cons, List.length_cons] at *
  omega
def lM (ls : List (List aE)) : Int :=
 if 1000 < ls.length then 3 else match ls.find? (fun l => !okL l) with
  | some l => rO l
  | none => if 262144 < (gB ls).length then 3 else 0
def pX (ls : List (List aE)) : aE := if lM ls = 0 then gB ls else []
theorem aY2 {ls : List (List aE)} (h : 1000 < ls.length) : lM ls = 3 := by unfold lM; rw [if_pos h]
theorem bF5 {ls : List (List aE)} {i : Nat} (h : ls.length ≤ 1000) (hi : i < ls.length) (h0 : ∀ l ∈ ls.take i, okL l = true) (h1 : okL ls[i] = false) : lM ls = rO ls[i] := by
 unfold lM
 rw [if_neg (by omega)]
 have : ls.find? (fun l => !okL l) = some ls[i] := by
  rw [List.find?_eq_some_iff_append]
  refine ⟨by simp [h1], ls.take i, ls.drop (i + 1), ?_, fun l hl => by simp [h0 l hl]⟩
  rw [List.getElem_cons_drop, List.take_append_drop]
 rw [this]
theorem aT0 {ls : List (List aE)} (h : ls.length ≤ 1000) (h0 : ∀ l ∈ ls, okL l = true) : lM ls = if 262144 < (gB ls).length then 3 else 0 := by
 unfold lM
 rw [if_neg (by omega)]
 have : ls.find? (fun l => !okL l) = none := by
  rw [List.find?_eq_none]
  intro l hl
  simp [h0 l hl]
 rw [this]
theorem bQ3 {l : List aE} (h : okL l = false) : rO l ≠ 0 := by unfold okL at h; simpa using h
theorem vG {ls : List (List aE)} (h : lM ls ≠ 0) : pX ls = [] := by unfold pX; rw [if_neg h]
theorem aA8 {ls : List (List aE)} (h : lM ls = 0) : pX ls = gB ls := by unfold pX; rw [if_pos h]

def bW4 (n : Nat) : UInt8 := ([48, 49, 50, 51, 52, 53, 54, 55, 56, 57, 97, 98, 99, 100, 101, 102] : List UInt8).getD n 0
def cG6 (c : UInt8) : List UInt8 := [bW4 (c.toNat / 16), bW4 (c.toNat % 16)]
def bY3 (bs : List UInt8) : List UInt8 := bs.flatMap cG6
@[simp] theorem cD3 : bY3 [] = [] := rfl
end Go.Pl
