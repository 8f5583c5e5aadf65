/- HL: functions without a body that the model stands in for: their contracts. By an AI agent. -/
import Derived.Test.YtlldglbooaefhaaDoorPlSha
import Derived.Sort.KeysCollected
import Derived.Test.YtlldglbooaefhaaDoorChecked
import Derived.Test.YtlldglbooaefhaaDoorHlK
import Derived.Laws.Externs
import Derived.Lib.BytesEntry
set_option linter.unusedSimpArgs false
set_option linter.unusedVariables false
set_option linter.defProp false
namespace Go.Hl
open Go

def gd (ops : Array Oper) (o : Oper) : Option (Option (Nat × Bool)) :=
 match o.guard with
 | none => some none
 | some (j, want) => match (ops[j]?).bind (·.dst) with
  | some d => some (some (d, want))
  | none => none
def hgd (g : Option (Nat × Bool)) (fr : Fr) : Option Bool :=
 match g with
 | none => some true
 | some (d, want) => match fr d with
  | .c (.bool b) => some (b == want)
  | .tup _ => some false
  | _ => none
def hop1 (P : Program) (nid : Nat) (av : List Nat) (g : Option (Nat × Bool)) (o : Op) (d : Option Nat) (K : Fr → Ob → Prop) (fr : Fr) (ob : Ob) : Prop :=
 match hgd g fr with
 | some true => hstep P av nid o (ev fr) ob fun v ob' => K (updo fr d v) ob'
 | some false => K (updo fr d (.tup [])) ob
 | none => False
section
variable {P : Program} {ops : Array Oper} {nx i : Nat} {o : Oper} {g : Option (Nat × Bool)} {Q : Fr → Ob → Prop} {fr : Fr} {ob : Ob}

theorem eG (hg : gd ops o = some g) : hguard ops o fr = hgd g fr := by grind [gd, hguard, hgd, bind]

theorem nS {av : List Nat} {K : Fr → Ob → Prop} (ho : ops[i]? = some o) (hg : gd ops o = some g) (h : hop1 P (nx + 4 * i) av g o.op o.dst K fr ob) : hopI P ops nx av i K fr ob := by grind [hop1, hopI, eG]

theorem aW {l : List Nat} (ho : ops[i]? = some o) (hg : gd ops o = some g) (h : ∀ K : Fr → Ob → Prop, (∀ fr ob, hlex P ops nx Q l fr ob → K fr ob) → hop1 P (nx + 4 * i) [] g o.op o.dst K fr ob) : hlex P ops nx Q (i :: l) fr ob := by grind [hlex, nS]

theorem cM {cr rd : List Nat} {l : mG} {C : iV} (ho : ops[i]? = some o) (hg : gd ops o = some g)
  (h : ∀ K : Fr → Ob → Prop, (∀ fr' ob', hwalk2 P ops nx Q l (if isEff o.op = true then C else (i, if hgd g fr = some true then touch o.op (ev fr) else []) :: C) fr' ob' → K fr' ob') →
   hop1 P (nx + 4 * i) (cr.flatMap (ids4 nx) ++ rd.flatMap (getF C)) g o.op o.dst K fr ob) : hwalk2 P ops nx Q ((i, cr, rd) :: l) C fr ob := by grind [hwalk2, nS, eG]

theorem dJ {id n sz : Nat} {el : TypeId} {l : List CV} {ob : Ob} {K : HV → Ob → Prop} (hn : n = l.length) (h : K (.c (.slc l)) (upd ob id (some .dead))) : aL8 id ob K (.own id n) (upd ob id (some (.row el sz l))) :=
 ⟨n, el, sz, l, rfl, rfl, hn, h⟩
def gS (P : Program) (nid : Nat) (av : List Nat) (g : Option (Nat × Bool)) (o : Op) (d : Option Nat) (id : Nat) (K : Fr → Ob → Prop) (fr : Fr) (ob : Ob) : Prop :=
 match hgd g fr with
 | some true => (hcallOf o = none ∧ kK nid o (ev fr) = some id) ∧ (∀ i ∈ touch o (ev fr), i ∉ av ∧ (ob i).isSome = true) ∧ hop P nid o (ev fr) ob (aL8 id ob fun v ob' => K (updo fr d v) ob')
 | some false => K (updo fr d (.tup [])) ob
 | none => False
theorem sD {av : List Nat} {K : Fr → Ob → Prop} {id : Nat} (ho : ops[i]? = some o) (hg : gd ops o = some g) (h : gS P (nx + 4 * i) av g o.op o.dst id K fr ob) : cX P ops nx av i K fr ob := by
 unfold gS at h
 unfold cX
 rw [ho]
 simp only [eG hg]
 cases hb : hgd g fr with
 | none => grind
 | some b =>
  rw [hb] at h
  cases b with
  | false => exact h
  | true =>
   obtain ⟨⟨h1, h2⟩, h3, h4⟩ := h
   simp only
   unfold dO
   rw [h1]
   exact ⟨h3, .inr (.inl ⟨id, h2, h4⟩)⟩
def hop1H (P : Program) (nid : Nat) (av : List Nat) (g : Option (Nat × Bool)) (o : Op) (d : Option Nat) (K : Fr → Ob → Prop) (fr : Fr) (ob : Ob) : Prop :=
 match hgd g fr with
 | some true => hcallOf o = none ∧ (∀ i ∈ touch o (ev fr), i ∉ av ∧ (ob i).isSome = true) ∧ hopH P nid o (ev fr) ob fun v ob' => K (updo fr d v) ob'
 | some false => K (updo fr d (.tup [])) ob
 | none => False
theorem sF {av : List Nat} {K : Fr → Ob → Prop} (ho : ops[i]? = some o) (hg : gd ops o = some g) (h : hop1H P (nx + 4 * i) av g o.op o.dst K fr ob) : cX P ops nx av i K fr ob := by
 unfold hop1H at h
 unfold cX
 rw [ho]
 simp only [eG hg]
 cases hb : hgd g fr with
 | none => grind
 | some b =>
  rw [hb] at h
  cases b with
  | false => exact h
  | true =>
   obtain ⟨h1, h3, h4⟩ := h
   simp only
   unfold dO
   rw [h1]
   exact ⟨h3, .inr (.inr h4)⟩
def hop1N (P : Program) (nid : Nat) (av : List Nat) (g : Option (Nat × Bool)) (o : Op) (d : Option Nat) (K : Fr → Ob → Prop) (fr : Fr) (ob : Ob) : Prop :=
 match hgd g fr with
 | some true => match hcallOf o with
  | some (f, xs) => (∀ x ∈ xs, ev fr x ≠ .junk) ∧ match ev fr f with
   | .c (.fn g) => HCall P av g (xs.map fun x => ev fr x) ob nid fun v ob' => K (updo fr d v) ob'
   | _ => False
  | none => False
 | some false => K (updo fr d (.tup [])) ob
 | none => False
theorem aE9 {av : List Nat} {K : Fr → Ob → Prop} (ho : ops[i]? = some o) (hg : gd ops o = some g) (h : hop1N P (nx + 4 * i) av g o.op o.dst K fr ob) : cX P ops nx av i K fr ob := by
 unfold hop1N at h
 unfold cX
 rw [ho]
 simp only [eG hg]
 cases hb : hgd g fr with
 | none => grind
 | some b =>
  rw [hb] at h
  cases b with
  | false => exact h
  | true =>
   simp only at h ⊢
   unfold dO
   cases hc : hcallOf o.op with
   | none => grind
   | some p =>
    rw [hc] at h
    simp only at h ⊢
    obtain ⟨h1, h2⟩ := h
    refine ⟨h1, true, ?_⟩
    split at h2
    ·
     rename_i g hg; rw [hg]; exact h2.L
    grind
def hop1L (P : Program) (nid : Nat) (av : List Nat) (g : Option (Nat × Bool)) (o : Op) (d : Option Nat) (K : Fr → Ob → Prop) (fr : Fr) (ob : Ob) : Prop :=
 match hgd g fr with
 | some true => match hcallOf o with
  | some (f, xs) => (∀ x ∈ xs, ev fr x ≠ .junk) ∧ match ev fr f with
   | .c (.fn g) => HCallL P av g (xs.map fun x => (ev fr x).den) ob nid fun v ob' => K (updo fr d v) ob'
   | _ => False
  | none => False
 | some false => K (updo fr d (.tup [])) ob
 | none => False
theorem aF0 {av : List Nat} {K : Fr → Ob → Prop} (ho : ops[i]? = some o) (hg : gd ops o = some g) (h : hop1L P (nx + 4 * i) av g o.op o.dst K fr ob) : cX P ops nx av i K fr ob := by
 unfold hop1L at h
 unfold cX
 rw [ho]
 simp only [eG hg]
 cases hb : hgd g fr with
 | none => grind
 | some b =>
  rw [hb] at h
  cases b with
  | false => exact h
  | true =>
   simp only at h ⊢
   unfold dO
   cases hc : hcallOf o.op with
   | none => grind
   | some p =>
    rw [hc] at h
    simp only at h ⊢
    obtain ⟨h1, h2⟩ := h
    refine ⟨h1, false, ?_⟩
    split at h2
    ·
     rename_i g hg; rw [hg]; exact h2
    grind
theorem oF {cr rd : List Nat} {l : mG} {C : iV} (ho : ops[i]? = some o) (hg : gd ops o = some g)
  (h : ∀ K : Fr → Ob → Prop, (∀ fr' ob', hwalk2G P ops nx Q l (if isEff o.op = true then C else (i, if hgd g fr = some true then touch o.op (ev fr) else []) :: C) fr' ob' → K fr' ob') →
   hop1L P (nx + 4 * i) (cr.flatMap (ids4 nx) ++ rd.flatMap (getF C)) g o.op o.dst K fr ob) : hwalk2G P ops nx Q ((i, cr, rd) :: l) C fr ob := by grind [hwalk2G, aF0, eG]
theorem sG {l : List Nat} (ho : ops[i]? = some o) (hg : gd ops o = some g) (h : ∀ K : Fr → Ob → Prop, (∀ fr ob, hlexG P ops nx Q l fr ob → K fr ob) → hop1N P (nx + 4 * i) [] g o.op o.dst K fr ob) : hlexG P ops nx Q (i :: l) fr ob := by grind [hlexG, aE9]
theorem bY {l : List Nat} (ho : ops[i]? = some o) (hg : gd ops o = some g) (h : ∀ K : Fr → Ob → Prop, (∀ fr ob, hlexG P ops nx Q l fr ob → K fr ob) → hop1H P (nx + 4 * i) [] g o.op o.dst K fr ob) : hlexG P ops nx Q (i :: l) fr ob := by grind [hlexG, sF]
theorem eH {cr rd : List Nat} {l : mG} {C : iV} (ho : ops[i]? = some o) (hg : gd ops o = some g)
  (h : ∀ K : Fr → Ob → Prop, (∀ fr' ob', hwalk2G P ops nx Q l (if isEff o.op = true then C else (i, if hgd g fr = some true then touch o.op (ev fr) else []) :: C) fr' ob' → K fr' ob') →
   hop1H P (nx + 4 * i) (cr.flatMap (ids4 nx) ++ rd.flatMap (getF C)) g o.op o.dst K fr ob) : hwalk2G P ops nx Q ((i, cr, rd) :: l) C fr ob := by grind [hwalk2G, sF, eG]
theorem bJ {l : List Nat} (ho : ops[i]? = some o) (hg : gd ops o = some g) (h : ∀ K : Fr → Ob → Prop, (∀ fr ob, hlexG P ops nx Q l fr ob → K fr ob) → hop1 P (nx + 4 * i) [] g o.op o.dst K fr ob) : hlexG P ops nx Q (i :: l) fr ob := by
 simp only [hlexG]
 exact uK (fun _ _ h => h) (nS ho hg (h _ fun _ _ h => h))
theorem cV {l : List Nat} (id : Nat) (ho : ops[i]? = some o) (hg : gd ops o = some g) (h : ∀ K : Fr → Ob → Prop, (∀ fr ob, hlexG P ops nx Q l fr ob → K fr ob) → gS P (nx + 4 * i) [] g o.op o.dst id K fr ob) : hlexG P ops nx Q (i :: l) fr ob := by
 simp only [hlexG]
 exact sD ho hg (h _ fun _ _ h => h)
theorem iL {cr rd : List Nat} {l : mG} {C : iV} (ho : ops[i]? = some o) (hg : gd ops o = some g)
  (h : ∀ K : Fr → Ob → Prop, (∀ fr' ob', hwalk2G P ops nx Q l (if isEff o.op = true then C else (i, if hgd g fr = some true then touch o.op (ev fr) else []) :: C) fr' ob' → K fr' ob') →
   hop1 P (nx + 4 * i) (cr.flatMap (ids4 nx) ++ rd.flatMap (getF C)) g o.op o.dst K fr ob) : hwalk2G P ops nx Q ((i, cr, rd) :: l) C fr ob := by
 simp only [hwalk2G]
 refine uK (fun _ _ h => h) (nS ho hg (h _ fun fr' ob' h => ?_))
 grind [eG]
theorem oG {cr rd : List Nat} {l : mG} {C : iV} (id : Nat) (ho : ops[i]? = some o) (hg : gd ops o = some g)
  (h : ∀ K : Fr → Ob → Prop, (∀ fr' ob', hwalk2G P ops nx Q l (if isEff o.op = true then C else (i, if hgd g fr = some true then touch o.op (ev fr) else []) :: C) fr' ob' → K fr' ob') →
   gS P (nx + 4 * i) (cr.flatMap (ids4 nx) ++ rd.flatMap (getF C)) g o.op o.dst id K fr ob) : hwalk2G P ops nx Q ((i, cr, rd) :: l) C fr ob := by
 simp only [hwalk2G]
 refine sD ho hg (h _ fun fr' ob' h => ?_)
 grind [eG]
end
end Go.Hl

namespace Go.Hl
open Go

mutual
def CV.flatv : CV → Bool
 | .bool _ => true
 | .int _ _ => true
 | .str _ => true
 | .agg l => CV.flatvL l
 | _ => false
def CV.flatvL : List CV → Bool
 | [] => true
 | v :: l => v.flatv && CV.flatvL l
end

theorem zX {ob lob : Ob} {σ : List Nat} {nid : Nat} (hn : σ.Nodup) (h1 : ∀ j, j < σ.length → ∃ o, lob j = some o ∧ ob (σ.getD j 0) = some (o.ren (sub σ nid))) (h2 : ∀ j, σ.length ≤ j → lob j = none) (h3 : ∀ i, nid ≤ i → i < nid + 4 → ob i = none) :
  bT ob σ nid lob = ob := by
 funext i
 unfold bT
 split
 ·
  rename_i j hj
  obtain ⟨hjl, hje, _⟩ := List.findIdx?_eq_some_iff_getElem.1 hj
  obtain ⟨o, e1, e2⟩ := h1 j hjl
  have : σ.getD j 0 = i := by rw [List.getD_eq_getElem?_getD, List.getElem?_eq_getElem hjl]; simpa using hje
  rw [e1, ← this, e2]; rfl
 ·
  split
  ·
   rename_i h; rw [h2 _ (by omega), h3 i h.1 h.2]; rfl
  ·
   rfl
def Free4 (ob : Ob) (nid : Nat) : Prop := ob nid = none ∧ ob (nid + 1) = none ∧ ob (nid + 2) = none ∧ ob (nid + 3) = none
theorem Free4.all {ob : Ob} {nid : Nat} (h : Free4 ob nid) : ∀ i, nid ≤ i → i < nid + 4 → ob i = none := fun i h1 h2 => by
 have : i = nid ∨ i = nid + 1 ∨ i = nid + 2 ∨ i = nid + 3 := by omega
 rcases this with rfl | rfl | rfl | rfl
 ·
  exact h.1
 ·
  exact h.2.1
 ·
  exact h.2.2.1
 ·
  exact h.2.2.2

def bE1 (T : TypeId) (v : CV) (R : CV → Prop) : HV → Ob → Prop := fun r ob' => ∃ u v', r = .c u ∧ ob' = fob [(0, .box T (.c v'))] ∧ (v' = v ∧ u.flatv = true ∧ R u)
def cC4 (P : Program) (f : FuncId) (T : TypeId) (v : CV) (args : List CV) (R : CV → Prop) : Prop := HFn P f (args.map HV.c ++ [HV.ptr 0 0]) 1 (fob [(0, .box T (.c v))]) (bE1 T v R)
theorem xO (T : TypeId) (v : CV) (args : List CV) : LocOk 1 (args.map HV.c ++ [HV.ptr 0 0]) (fob [(0, .box T (.c v))]) := by
 have h := cP T v []
 exact ⟨h.all, h.none, by rw [HV.menL_append]; exact ⟨HV.menL_c, by simp [HV.menL, HV.men]⟩⟩
theorem aM9 {ob : Ob} {r : HV} {T : TypeId} {R : CV → Prop} {w : HV} (cl : List Nat) (u v : CV) (h : (r.close ob cl).norm = .c u) (hb : ob 0 = some (.box T w)) (hw : (w.close ob cl).norm = .c v) (h0 : 0 ∉ cl) (hu : u.flatv = true) (hR : R u) : lM 1 r ob (bE1 T v R) :=
 eR cl u v h hb hw h0 ⟨rfl, hu, hR⟩
section
variable {P : Program} {av : List Nat} {f g : FuncId} {ob : Ob} {nid id id2 n : Nat} {K : HV → Ob → Prop} {T e : TypeId} {sz : Nat} {v : CV} {l : List CV} {R : CV → Prop}

theorem bE2 {args : List CV} (h : cC4 P f T v args R) (hid : ob id = some (.box T (.c v))) (hav : id ∉ av) (hfree : Free4 ob nid) (hK : ∀ u, R u → K (.c u) ob) : HCall P av f (args.map HV.c ++ [HV.ptr id 0]) ob nid K := by
 have hsub : sub [id] nid 0 = id := rfl
 refine ⟨[id], (args.map HV.c ++ [HV.ptr 0 0] : List HV), fob [(0, .box T (.c v))], bE1 T v R, h, xO T v args, ⟨by simp, by simpa using hav⟩, ?_, fun j o hj => ?_, fun r lob' hR _ => ?_⟩
 ·
  have : ∀ l1 l2 : List HV, HV.renL (sub [id] nid) (l1 ++ l2) = HV.renL (sub [id] nid) l1 ++ HV.renL (sub [id] nid) l2 := by
   intro l1 l2; induction l1 with
   | nil => rfl
   | cons x l ih => simp only [List.cons_append, HV.renL, ih]
  rw [this, HV.renL_c]; simp only [HV.renL, HV.ren, hsub]
 ·
  simp only [fob_at, fob_nil] at hj
  split at hj
  ·
   rename_i e; subst e; cases hj; simpa [HO.ren, HV.ren] using hid
  ·
   cases hj
 ·
  obtain ⟨u, v', rfl, rfl, rfl, _, hR⟩ := hR
  rw [zX (by simp) (fun j hj => ?_) (fun j hj => ?_) hfree.all]
  ·
   exact hK u hR
  ·
   have : j = 0 := by simp at hj; omega
   subst this; exact ⟨_, rfl, by simpa [HO.ren, HV.ren] using hid⟩
  ·
   simp only [List.length_cons, List.length_nil] at hj
   rw [fob_at, if_neg (by omega)]; rfl

end



theorem aF1 {ob : Ob} {nid id : Nat} {o : HO} (hfree : Free4 ob nid) : bT ob [id] nid (fob [(0, o)]) = upd ob id (some (o.ren (sub [id] nid))) := by
 funext i
 by_cases e : i = id
 ·
  subst e
  simp only [bT, aP, List.findIdx?_cons, beq_self_eq_true, if_true, fob_at, Option.map_some]
 ·
  have e' : (id == i) = false := by simp; exact fun h => e h.symm
  simp only [bT, List.findIdx?_cons, e', List.findIdx?_nil, Option.map_none, aV _ _ e]
  simp only [Bool.false_eq_true, if_false]
  split
  ·
   rename_i hr
   have h1 : [id].length + (i - nid) ≠ 0 := by simp
   rw [fob_at, if_neg h1, fob_nil]
   exact (hfree.all i hr.1 hr.2).symm
  ·
   rfl

end Go.Hl

namespace Go.Pl
open Go Go.Hl

theorem Rp.setAll (p : Rp) (x : HV) : CV.setAt 0 97 x p.cv = some x := by
 have := Rp.cells p
 simp only [Rp.cv, CV.cells] at this
 simp only [Rp.cv, CV.setAt, this, and_self, if_true]

end Go.Pl

namespace Go.Hl
open Go Go.RowKit

structure MOk (D : MD) : Prop where
 nd : (D.map (·.1)).Nodup
 th : ∀ p ∈ D, p.2.there = true

section
variable {P : Program} {av : List Nat} {f fi : FuncId} {ob : Ob} {nid id id2 : Nat} {K : HV → Ob → Prop} {T e : TypeId} {sz : Nat} {D : MD}
end

end Go.Hl

namespace Go.Pl
open Go Go.Hl

end Go.Pl

namespace Go.Pl
open Go Go.Hl

section
variable {s r o : Dig} {t : Int} {l : List Rb}
end
end Go.Pl

namespace Go.Pl
open Go Go.Hl

section
variable {s r o : Dig} {t : Int} {l l' : List Rb}
end
section
variable {s r o d : Dig} {t : Int} {m : List Rb} {w : aE}
end
end Go.Pl

namespace Go.Pl
open Go Go.Hl

abbrev wM := {l : List UInt8 // l.length = 16}
def hf (h : wM) : CV := .agg (h.1.map u8)
theorem aS (h : wM) : (hf h).cells = 16 := by rw [← h.2]; exact us_cells h.1
theorem fY (h : wM) : (hf h).denil = hf h := by simp only [hf, CV.denil]; rw [bV (f := u8) (fun _ => rfl)]
theorem bE3 (h : wM) : CV.getAt 0 16 true (hf h) = some (hf h) := by
 have := aS h
 simp_all [hf, CV.cells, CV.getAt, and_self, if_true]
theorem bE4 (h : wM) (x : HV) : CV.setAt 0 16 x (hf h) = some x := by
 have := aS h
 simp_all [hf, CV.cells, CV.setAt, and_self, if_true]
theorem denilL_dg (l : List Dig) : CV.denilL (l.map dg) = l.map dg := bV dg_denil l
theorem mH {l : List UInt8} : (∀ v ∈ l.map u8, v.cells = 1) ↔ True := by simp [u8, CV.cells]

structure Pk where
 h : Int
 r : wM
def Pk.cv (x : Pk) : CV := .agg [.int .i64 x.h, hf x.r]
theorem Pk.cells (x : Pk) : x.cv.cells = 17 := by simp [Pk.cv, CV.cells, CV.cellsL, dg_cells, aS]
theorem Pk.denil (x : Pk) : x.cv.denil = x.cv := by simp only [Pk.cv, CV.denil, CV.denilL, dg_denil, fY, denilL_str, denilL_dg]
theorem Pk.isAgg (x : Pk) : x.cv.isAgg = true := rfl
theorem Pk.getAll (x : Pk) : CV.getAt 0 17 true x.cv = some x.cv := by
 have := Pk.cells x
 simp_all [Pk.cv, CV.cells, CV.getAt, and_self, if_true]
theorem Pk.setAll (x : Pk) (y : HV) : CV.setAt 0 17 y x.cv = some y := by
 have := Pk.cells x
 simp_all [Pk.cv, CV.cells, CV.setAt, and_self, if_true]
theorem Pk.fold (h : Int) (r : wM) : CV.agg [.int .i64 h, hf r] = Pk.cv ⟨h, r⟩ := rfl
theorem Pk.get_r (x : Pk) : CV.getAt 1 16 true x.cv = some (hf x.r) := by simp [Pk.cv, CV.getAt, CV.getAtL, CV.cells, CV.cellsL, dg_cells, aS, bE3]
theorem Pk.set_r (x : Pk) (y : HV) : CV.setAt 1 16 y x.cv = some (.agg [.c (.int .i64 x.h), y]) := by simp [Pk.cv, CV.setAt, CV.setAtL, CV.cells, CV.cellsL, dg_cells, aS, bE4]

structure Ky where
 p : Pk
 o : aE
 rs : List aE
 fr : Int
 un : Int
def Ky.cv (x : Ky) : CV := .agg [x.p.cv, .str x.o, .slc (x.rs.map .str), .int .i64 x.fr, .int .i64 x.un]
theorem Ky.cells (x : Ky) : x.cv.cells = 21 := by simp [Ky.cv, CV.cells, CV.cellsL, dg_cells, aS, Pk.cells]
theorem Ky.denil (x : Ky) : x.cv.denil = x.cv := by simp only [Ky.cv, CV.denil, CV.denilL, dg_denil, fY, denilL_str, denilL_dg, Pk.denil]
theorem aW2 (l : List Ky) : CV.denilL (l.map Ky.cv) = l.map Ky.cv := bV Ky.denil l
theorem Ky.isAgg (x : Ky) : x.cv.isAgg = true := rfl
theorem Ky.getAll (x : Ky) : CV.getAt 0 21 true x.cv = some x.cv := by
 have := Ky.cells x
 simp_all [Ky.cv, CV.cells, CV.getAt, and_self, if_true]
theorem Ky.setAll (x : Ky) (y : HV) : CV.setAt 0 21 y x.cv = some y := by
 have := Ky.cells x
 simp_all [Ky.cv, CV.cells, CV.setAt, and_self, if_true]
theorem Ky.fold (p : Pk) (o : aE) (rs : List aE) (fr : Int) (un : Int) : CV.agg [p.cv, .str o, .slc (rs.map .str), .int .i64 fr, .int .i64 un] = Ky.cv ⟨p, o, rs, fr, un⟩ := rfl
structure Qt where
 r : aE
 n : Int
def Qt.cv (x : Qt) : CV := .agg [.str x.r, .int .i64 x.n]
theorem Qt.cells (x : Qt) : x.cv.cells = 2 := by simp [Qt.cv, CV.cells, CV.cellsL, dg_cells, aS]
theorem Qt.denil (x : Qt) : x.cv.denil = x.cv := by simp only [Qt.cv, CV.denil, CV.denilL, dg_denil, fY, denilL_str, denilL_dg]
theorem aW3 (l : List Qt) : CV.denilL (l.map Qt.cv) = l.map Qt.cv := bV Qt.denil l
theorem Qt.isAgg (x : Qt) : x.cv.isAgg = true := rfl
theorem Qt.getAll (x : Qt) : CV.getAt 0 2 true x.cv = some x.cv := by
 have := Qt.cells x
 simp_all [Qt.cv, CV.cells, CV.getAt, and_self, if_true]
theorem Qt.setAll (x : Qt) (y : HV) : CV.setAt 0 2 y x.cv = some y := by
 have := Qt.cells x
 simp_all [Qt.cv, CV.cells, CV.setAt, and_self, if_true]
theorem Qt.fold (r : aE) (n : Int) : CV.agg [.str r, .int .i64 n] = Qt.cv ⟨r, n⟩ := rfl
theorem Qt.get_r (x : Qt) : CV.getAt 0 1 false x.cv = some (.str x.r) := by simp [Qt.cv, CV.getAt, CV.getAtL, CV.cells, CV.cellsL, dg_cells, aS]
theorem Qt.set_r (x : Qt) (y : HV) : CV.setAt 0 1 y x.cv = some (.agg [y, .c (.int .i64 x.n)]) := by simp [Qt.cv, CV.setAt, CV.setAtL, CV.cells, CV.cellsL, dg_cells, aS]
theorem Qt.get_n (x : Qt) : CV.getAt 1 1 false x.cv = some (.int .i64 x.n) := by simp [Qt.cv, CV.getAt, CV.getAtL, CV.cells, CV.cellsL, dg_cells, aS]
theorem Qt.set_n (x : Qt) (y : HV) : CV.setAt 1 1 y x.cv = some (.agg [.c (.str x.r), y]) := by simp [Qt.cv, CV.setAt, CV.setAtL, CV.cells, CV.cellsL, dg_cells, aS]

structure Rv where
 k : Dig
 t : Int
def Rv.cv (x : Rv) : CV := .agg [dg x.k, .int .i64 x.t]
theorem Rv.cells (x : Rv) : x.cv.cells = 33 := by simp [Rv.cv, CV.cells, CV.cellsL, dg_cells, aS]
theorem Rv.denil (x : Rv) : x.cv.denil = x.cv := by simp only [Rv.cv, CV.denil, CV.denilL, dg_denil, fY, denilL_str, denilL_dg]
theorem aW4 (l : List Rv) : CV.denilL (l.map Rv.cv) = l.map Rv.cv := bV Rv.denil l
theorem Rv.isAgg (x : Rv) : x.cv.isAgg = true := rfl
theorem Rv.getAll (x : Rv) : CV.getAt 0 33 true x.cv = some x.cv := by
 have := Rv.cells x
 simp_all [Rv.cv, CV.cells, CV.getAt, and_self, if_true]
theorem Rv.setAll (x : Rv) (y : HV) : CV.setAt 0 33 y x.cv = some y := by
 have := Rv.cells x
 simp_all [Rv.cv, CV.cells, CV.setAt, and_self, if_true]
theorem Rv.fold (k : Dig) (t : Int) : CV.agg [dg k, .int .i64 t] = Rv.cv ⟨k, t⟩ := rfl
theorem Rv.get_k (x : Rv) : CV.getAt 0 32 true x.cv = some (dg x.k) := by simp [Rv.cv, CV.getAt, CV.getAtL, CV.cells, CV.cellsL, dg_cells, aS, dg_getAt]
theorem Rv.set_k (x : Rv) (y : HV) : CV.setAt 0 32 y x.cv = some (.agg [y, .c (.int .i64 x.t)]) := by simp [Rv.cv, CV.setAt, CV.setAtL, CV.cells, CV.cellsL, dg_cells, aS, dg_setAt]
theorem Rv.get_t (x : Rv) : CV.getAt 32 1 false x.cv = some (.int .i64 x.t) := by simp [Rv.cv, CV.getAt, CV.getAtL, CV.cells, CV.cellsL, dg_cells, aS]
theorem Rv.set_t (x : Rv) (y : HV) : CV.setAt 32 1 y x.cv = some (.agg [.c (dg x.k), y]) := by simp [Rv.cv, CV.setAt, CV.setAtL, CV.cells, CV.cellsL, dg_cells, aS]

structure Rt where
 v : Int
 e : Int
 q : List Qt
 k : List Ky
 x : List Rv
def Rt.cv (x : Rt) : CV := .agg [.int .i64 x.v, .int .i64 x.e, .slc (x.q.map Qt.cv), .slc (x.k.map Ky.cv), .slc (x.x.map Rv.cv)]
theorem Rt.cells (x : Rt) : x.cv.cells = 5 := by simp [Rt.cv, CV.cells, CV.cellsL, dg_cells, aS]
theorem Rt.denil (x : Rt) : x.cv.denil = x.cv := by simp only [Rt.cv, CV.denil, CV.denilL, dg_denil, fY, denilL_str, denilL_dg, aW3, aW2, aW4]
theorem Rt.isAgg (x : Rt) : x.cv.isAgg = true := rfl
theorem Rt.getAll (x : Rt) : CV.getAt 0 5 true x.cv = some x.cv := by
 have := Rt.cells x
 simp_all [Rt.cv, CV.cells, CV.getAt, and_self, if_true]
theorem Rt.setAll (x : Rt) (y : HV) : CV.setAt 0 5 y x.cv = some y := by
 have := Rt.cells x
 simp_all [Rt.cv, CV.cells, CV.setAt, and_self, if_true]
theorem Rt.fold (v : Int) (e : Int) (q : List Qt) (k : List Ky) (x : List Rv) : CV.agg [.int .i64 v, .int .i64 e, .slc (q.map Qt.cv), .slc (k.map Ky.cv), .slc (x.map Rv.cv)] = Rt.cv ⟨v, e, q, k, x⟩ := rfl
theorem Rt.get_v (x : Rt) : CV.getAt 0 1 false x.cv = some (.int .i64 x.v) := by simp [Rt.cv, CV.getAt, CV.getAtL, CV.cells, CV.cellsL, dg_cells, aS]
theorem Rt.set_v (x : Rt) (y : HV) : CV.setAt 0 1 y x.cv = some (.agg [y, .c (.int .i64 x.e), .c (.slc (x.q.map Qt.cv)), .c (.slc (x.k.map Ky.cv)), .c (.slc (x.x.map Rv.cv))]) := by simp [Rt.cv, CV.setAt, CV.setAtL, CV.cells, CV.cellsL, dg_cells, aS]
theorem Rt.get_q (x : Rt) : CV.getAt 2 1 false x.cv = some (.slc (x.q.map Qt.cv)) := by simp [Rt.cv, CV.getAt, CV.getAtL, CV.cells, CV.cellsL, dg_cells, aS]
theorem Rt.set_q (x : Rt) (y : HV) : CV.setAt 2 1 y x.cv = some (.agg [.c (.int .i64 x.v), .c (.int .i64 x.e), y, .c (.slc (x.k.map Ky.cv)), .c (.slc (x.x.map Rv.cv))]) := by simp [Rt.cv, CV.setAt, CV.setAtL, CV.cells, CV.cellsL, dg_cells, aS]
theorem Rt.get_k (x : Rt) : CV.getAt 3 1 false x.cv = some (.slc (x.k.map Ky.cv)) := by simp [Rt.cv, CV.getAt, CV.getAtL, CV.cells, CV.cellsL, dg_cells, aS]
theorem Rt.set_k (x : Rt) (y : HV) : CV.setAt 3 1 y x.cv = some (.agg [.c (.int .i64 x.v), .c (.int .i64 x.e), .c (.slc (x.q.map Qt.cv)), y, .c (.slc (x.x.map Rv.cv))]) := by simp [Rt.cv, CV.setAt, CV.setAtL, CV.cells, CV.cellsL, dg_cells, aS]
def aF2 : Int := 1099511627776
def al (c : UInt8) : Bool := (decide (97 ≤ c) && decide (c ≤ 122)) || (decide (48 ≤ c) && decide (c ≤ 57))
def nc (c : UInt8) : Bool := al c || (c == 46 || (c == 95 || c == 45))
def eC : aE → Bool
 | [] => false
 | c :: r => decide ((c :: r).length ≤ 64) && (al c && r.all nc)
end Go.Pl

namespace Go.Proofs
namespace YtlldglbooaefhaaDoor
open Go Go.Hl Go.Pl

theorem ty1 : aO Tryd.prog 1 = some ⟨1, 8, .func, .nilf⟩ := by kernel_rfl
theorem ty2 : aO Tryd.prog 2 = some ⟨1, 8, .int .i64, .int .i64 0⟩ := by kernel_rfl
theorem ty3 : aO Tryd.prog 3 = some ⟨1, 8, .int .i64, .int .i64 0⟩ := by kernel_rfl
theorem ty4 : aO Tryd.prog 4 = some ⟨1, 1, .bool, .bool false⟩ := by kernel_rfl
theorem ty5 : aO Tryd.prog 5 = some ⟨1, 1, .int .u8, .int .u8 0⟩ := by kernel_rfl
theorem ty6 : aO Tryd.prog 6 = some ⟨1, 1, .int .u8, .int .u8 0⟩ := by kernel_rfl
theorem ty7 : aO Tryd.prog 7 = some ⟨4, 24, .struct [(0, 2), (1, 3), (2, 4), (3, 6)], .agg [.int .i64 0, .int .i64 0, .bool false, .int .u8 0]⟩ := by kernel_rfl
theorem ty8 : aO Tryd.prog 8 = some ⟨4, 24, .struct [(0, 2), (1, 3), (2, 4), (3, 6)], .agg [.int .i64 0, .int .i64 0, .bool false, .int .u8 0]⟩ := by kernel_rfl
theorem ty9 : aO Tryd.prog 9 = some ⟨1, 16, .string, .str []⟩ := by kernel_rfl
theorem ty10 : aO Tryd.prog 10 = some ⟨1, 16, .string, .str []⟩ := by kernel_rfl
theorem ty11 : aO Tryd.prog 11 = some ⟨1, 16, .string, .str []⟩ := by kernel_rfl
theorem ty12 : aO Tryd.prog 12 = some ⟨1, 8, .int .u64, .int .u64 0⟩ := by kernel_rfl
theorem ty13 : aO Tryd.prog 13 = some ⟨2, 24, .struct [(0, 9), (1, 12)], .agg [.str [], .int .u64 0]⟩ := by kernel_rfl
theorem ty14 : aO Tryd.prog 14 = some ⟨2, 24, .struct [(0, 9), (1, 12)], .agg [.str [], .int .u64 0]⟩ := by kernel_rfl
theorem ty15 : aO Tryd.prog 15 = some ⟨1, 8, .pointer 161, .nilp⟩ := by kernel_rfl
theorem ty16 : aO Tryd.prog 16 = some ⟨1, 8, .pointer 164, .nilp⟩ := by kernel_rfl
theorem ty17 : aO Tryd.prog 17 = some ⟨1, 8, .pointer 173, .nilp⟩ := by kernel_rfl
theorem ty18 : aO Tryd.prog 18 = some ⟨1, 8, .struct [(0, 17)], .agg [.nilp]⟩ := by kernel_rfl
theorem ty19 : aO Tryd.prog 19 = some ⟨1, 8, .struct [(0, 17)], .agg [.nilp]⟩ := by kernel_rfl
theorem ty20 : aO Tryd.prog 20 = some ⟨1, 16, .iface true, .nili⟩ := by kernel_rfl
theorem ty21 : aO Tryd.prog 21 = some ⟨1, 4, .int .i32, .int .i32 0⟩ := by kernel_rfl
theorem ty22 : aO Tryd.prog 22 = some ⟨1, 24, .slice 3, .nils⟩ := by kernel_rfl
theorem ty23 : aO Tryd.prog 23 = some ⟨1, 24, .slice 54, .nils⟩ := by kernel_rfl
theorem ty24 : aO Tryd.prog 24 = some ⟨3, 48, .struct [(0, 9), (1, 2), (2, 23)], .agg [.str [], .int .i64 0, .nils]⟩ := by kernel_rfl
theorem ty25 : aO Tryd.prog 25 = some ⟨3, 48, .struct [(0, 9), (1, 2), (2, 23)], .agg [.str [], .int .i64 0, .nils]⟩ := by kernel_rfl
theorem ty26 : aO Tryd.prog 26 = some ⟨1, 8, .func, .nilf⟩ := by kernel_rfl
theorem ty27 : aO Tryd.prog 27 = some ⟨1, 8, .pointer 56, .nilp⟩ := by kernel_rfl
theorem ty28 : aO Tryd.prog 28 = some ⟨1, 8, .func, .nilf⟩ := by kernel_rfl
theorem ty29 : aO Tryd.prog 29 = some ⟨1, 24, .slice 5, .nils⟩ := by kernel_rfl
theorem ty30 : aO Tryd.prog 30 = some ⟨1, 8, .int .i64, .int .i64 0⟩ := by kernel_rfl
theorem ty32 : aO Tryd.prog 32 = some ⟨1, 8, .func, .nilf⟩ := by kernel_rfl
theorem ty34 : aO Tryd.prog 34 = some ⟨1, 8, .func, .nilf⟩ := by kernel_rfl
theorem ty35 : aO Tryd.prog 35 = some ⟨1, 8, .func, .nilf⟩ := by kernel_rfl
theorem ty36 : aO Tryd.prog 36 = some ⟨1, 8, .func, .nilf⟩ := by kernel_rfl
theorem ty37 : aO Tryd.prog 37 = some ⟨1, 8, .func, .nilf⟩ := by kernel_rfl
theorem ty38 : aO Tryd.prog 38 = some ⟨1, 24, .slice 4, .nils⟩ := by kernel_rfl
theorem ty39 : aO Tryd.prog 39 = some ⟨1, 24, .slice 48, .nils⟩ := by kernel_rfl
theorem ty40 : aO Tryd.prog 40 = some ⟨1, 8, .func, .nilf⟩ := by kernel_rfl
theorem ty41 : aO Tryd.prog 41 = some ⟨1, 8, .func, .nilf⟩ := by kernel_rfl
theorem ty42 : aO Tryd.prog 42 = some ⟨1, 8, .func, .nilf⟩ := by kernel_rfl
theorem ty43 : aO Tryd.prog 43 = some ⟨1, 8, .func, .nilf⟩ := by kernel_rfl
theorem ty44 : aO Tryd.prog 44 = some ⟨1, 8, .func, .nilf⟩ := by kernel_rfl
theorem ty45 : aO Tryd.prog 45 = some ⟨4, 40, .struct [(0, 3), (1, 2), (2, 2), (3, 9)], .agg [.int .i64 0, .int .i64 0, .int .i64 0, .str []]⟩ := by kernel_rfl
theorem ty46 : aO Tryd.prog 46 = some ⟨4, 40, .struct [(0, 3), (1, 2), (2, 2), (3, 9)], .agg [.int .i64 0, .int .i64 0, .int .i64 0, .str []]⟩ := by kernel_rfl
theorem ty47 : aO Tryd.prog 47 = some ⟨7, 64, .struct [(0, 3), (1, 3), (2, 3), (3, 46)], .agg [.int .i64 0, .int .i64 0, .int .i64 0, .agg [.int .i64 0, .int .i64 0, .int .i64 0, .str []]]⟩ := by kernel_rfl
theorem ty48 : aO Tryd.prog 48 = some ⟨7, 64, .struct [(0, 3), (1, 3), (2, 3), (3, 46)], .agg [.int .i64 0, .int .i64 0, .int .i64 0, .agg [.int .i64 0, .int .i64 0, .int .i64 0, .str []]]⟩ := by kernel_rfl
theorem ty49 : aO Tryd.prog 49 = some ⟨1, 8, .func, .nilf⟩ := by kernel_rfl
theorem ty50 : aO Tryd.prog 50 = some ⟨1, 8, .func, .nilf⟩ := by kernel_rfl
theorem ty51 : aO Tryd.prog 51 = some ⟨1, 8, .func, .nilf⟩ := by kernel_rfl
theorem ty52 : aO Tryd.prog 52 = some ⟨1, 24, .slice 9, .nils⟩ := by kernel_rfl
theorem ty53 : aO Tryd.prog 53 = some ⟨5, 80, .struct [(0, 9), (1, 9), (2, 9), (3, 2), (4, 39)], .agg [.str [], .str [], .str [], .int .i64 0, .nils]⟩ := by kernel_rfl
theorem ty54 : aO Tryd.prog 54 = some ⟨5, 80, .struct [(0, 9), (1, 9), (2, 9), (3, 2), (4, 39)], .agg [.str [], .str [], .str [], .int .i64 0, .nils]⟩ := by kernel_rfl
theorem ty55 : aO Tryd.prog 55 = some ⟨2, 32, .struct [(0, 22), (1, 3)], .agg [.nils, .int .i64 0]⟩ := by kernel_rfl
theorem ty56 : aO Tryd.prog 56 = some ⟨2, 32, .struct [(0, 22), (1, 3)], .agg [.nils, .int .i64 0]⟩ := by kernel_rfl
theorem ty57 : aO Tryd.prog 57 = some ⟨1, 8, .func, .nilf⟩ := by kernel_rfl
theorem ty58 : aO Tryd.prog 58 = some ⟨1, 8, .func, .nilf⟩ := by kernel_rfl
theorem ty59 : aO Tryd.prog 59 = some ⟨1, 24, .slice 52, .nils⟩ := by kernel_rfl
theorem ty61 : aO Tryd.prog 61 = some ⟨1, 8, .func, .nilf⟩ := by kernel_rfl
theorem ty62 : aO Tryd.prog 62 = some ⟨1, 8, .func, .nilf⟩ := by kernel_rfl
theorem ty64 : aO Tryd.prog 64 = some ⟨1, 8, .func, .nilf⟩ := by kernel_rfl
theorem ty65 : aO Tryd.prog 65 = some ⟨1, 8, .pointer 67, .nilp⟩ := by kernel_rfl
theorem ty66 : aO Tryd.prog 66 = some ⟨2, 32, .struct [(0, 59), (1, 3)], .agg [.nils, .int .i64 0]⟩ := by kernel_rfl
theorem ty67 : aO Tryd.prog 67 = some ⟨2, 32, .struct [(0, 59), (1, 3)], .agg [.nils, .int .i64 0]⟩ := by kernel_rfl
theorem ty69 : aO Tryd.prog 69 = some ⟨1, 8, .func, .nilf⟩ := by kernel_rfl
theorem ty70 : aO Tryd.prog 70 = some ⟨1, 8, .func, .nilf⟩ := by kernel_rfl
theorem ty71 : aO Tryd.prog 71 = some ⟨1, 8, .func, .nilf⟩ := by kernel_rfl
theorem ty72 : aO Tryd.prog 72 = some ⟨1, 8, .func, .nilf⟩ := by kernel_rfl
theorem ty73 : aO Tryd.prog 73 = some ⟨1, 8, .func, .nilf⟩ := by kernel_rfl
theorem ty74 : aO Tryd.prog 74 = some ⟨1, 8, .func, .nilf⟩ := by kernel_rfl
theorem ty75 : aO Tryd.prog 75 = some ⟨1, 8, .func, .nilf⟩ := by kernel_rfl
theorem ty76 : aO Tryd.prog 76 = some ⟨1, 8, .func, .nilf⟩ := by kernel_rfl
theorem ty77 : aO Tryd.prog 77 = some ⟨1, 8, .func, .nilf⟩ := by kernel_rfl
theorem ty78 : aO Tryd.prog 78 = some ⟨1, 8, .func, .nilf⟩ := by kernel_rfl
theorem ty79 : aO Tryd.prog 79 = some ⟨1, 8, .func, .nilf⟩ := by kernel_rfl
theorem ty80 : aO Tryd.prog 80 = some ⟨1, 8, .func, .nilf⟩ := by kernel_rfl
theorem ty81 : aO Tryd.prog 81 = some ⟨1, 8, .func, .nilf⟩ := by kernel_rfl
theorem ty82 : aO Tryd.prog 82 = some ⟨1, 8, .func, .nilf⟩ := by kernel_rfl
theorem ty83 : aO Tryd.prog 83 = some ⟨1, 8, .map 9 4, .nilm⟩ := by kernel_rfl
theorem ty84 : aO Tryd.prog 84 = some ⟨1, 8, .func, .nilf⟩ := by kernel_rfl
theorem ty85 : aO Tryd.prog 85 = some ⟨1, 8, .func, .nilf⟩ := by kernel_rfl
theorem ty86 : aO Tryd.prog 86 = some ⟨1, 8, .func, .nilf⟩ := by kernel_rfl
theorem ty87 : aO Tryd.prog 87 = some ⟨1, 8, .func, .nilf⟩ := by kernel_rfl
theorem ty88 : aO Tryd.prog 88 = some ⟨1, 8, .func, .nilf⟩ := by kernel_rfl
theorem ty90 : aO Tryd.prog 90 = some ⟨1, 8, .func, .nilf⟩ := by kernel_rfl
theorem ty91 : aO Tryd.prog 91 = some ⟨1, 8, .func, .nilf⟩ := by kernel_rfl
theorem ty92 : aO Tryd.prog 92 = some ⟨1, 8, .func, .nilf⟩ := by kernel_rfl
theorem ty93 : aO Tryd.prog 93 = some ⟨1, 8, .func, .nilf⟩ := by kernel_rfl
theorem ty95 : aO Tryd.prog 95 = some ⟨1, 8, .func, .nilf⟩ := by kernel_rfl
theorem ty96 : aO Tryd.prog 96 = some ⟨1, 8, .func, .nilf⟩ := by kernel_rfl
theorem ty98 : aO Tryd.prog 98 = some ⟨1, 8, .func, .nilf⟩ := by kernel_rfl
theorem ty100 : aO Tryd.prog 100 = some ⟨1, 8, .func, .nilf⟩ := by kernel_rfl
theorem ty101 : aO Tryd.prog 101 = some ⟨1, 8, .func, .nilf⟩ := by kernel_rfl
theorem ty102 : aO Tryd.prog 102 = some ⟨1, 8, .func, .nilf⟩ := by kernel_rfl
theorem ty103 : aO Tryd.prog 103 = some ⟨1, 8, .func, .nilf⟩ := by kernel_rfl
theorem ty104 : aO Tryd.prog 104 = some ⟨1, 8, .func, .nilf⟩ := by kernel_rfl
theorem ty105 : aO Tryd.prog 105 = some ⟨1, 8, .func, .nilf⟩ := by kernel_rfl
theorem ty106 : aO Tryd.prog 106 = some ⟨1, 8, .func, .nilf⟩ := by kernel_rfl
theorem ty107 : aO Tryd.prog 107 = some ⟨1, 24, .slice 120, .nils⟩ := by kernel_rfl
theorem ty109 : aO Tryd.prog 109 = some ⟨1, 8, .func, .nilf⟩ := by kernel_rfl
theorem ty110 : aO Tryd.prog 110 = some ⟨1, 8, .func, .nilf⟩ := by kernel_rfl
theorem ty111 : aO Tryd.prog 111 = some ⟨1, 8, .int .u64, .int .u64 0⟩ := by kernel_rfl
theorem ty112 : aO Tryd.prog 112 = some ⟨1, 8, .func, .nilf⟩ := by kernel_rfl
theorem ty113 : aO Tryd.prog 113 = some ⟨1, 8, .func, .nilf⟩ := by kernel_rfl
theorem ty114 : aO Tryd.prog 114 = some ⟨1, 8, .func, .nilf⟩ := by kernel_rfl
theorem ty115 : aO Tryd.prog 115 = some ⟨1, 8, .func, .nilf⟩ := by kernel_rfl
theorem ty117 : aO Tryd.prog 117 = some ⟨1, 8, .func, .nilf⟩ := by kernel_rfl
theorem ty118 : aO Tryd.prog 118 = some ⟨1, 8, .func, .nilf⟩ := by kernel_rfl
theorem ty119 : aO Tryd.prog 119 = some ⟨2, 16, .struct [(0, 3), (1, 5)], .agg [.int .i64 0, .int .u8 0]⟩ := by kernel_rfl
theorem ty120 : aO Tryd.prog 120 = some ⟨2, 16, .struct [(0, 3), (1, 5)], .agg [.int .i64 0, .int .u8 0]⟩ := by kernel_rfl
theorem ty121 : aO Tryd.prog 121 = some ⟨1, 8, .func, .nilf⟩ := by kernel_rfl
theorem ty122 : aO Tryd.prog 122 = some ⟨1, 8, .func, .nilf⟩ := by kernel_rfl
theorem ty123 : aO Tryd.prog 123 = some ⟨24, 24, .array 24 5, .agg [.int .u8 0, .int .u8 0, .int .u8 0, .int .u8 0, .int .u8 0, .int .u8 0, .int .u8 0, .int .u8 0, .int .u8 0, .int .u8 0, .int .u8 0, .int .u8 0, .int .u8 0, .int .u8 0, .int .u8 0, .int .u8 0, .int .u8 0, .int .u8 0, .int .u8 0, .int .u8 0, .int .u8 0, .int .u8 0, .int .u8 0, .int .u8 0]⟩ := by kernel_rfl
theorem ty124 : aO Tryd.prog 124 = some ⟨1, 8, .int .u64, .int .u64 0⟩ := by kernel_rfl
theorem ty125 : aO Tryd.prog 125 = some ⟨1, 8, .func, .nilf⟩ := by kernel_rfl
theorem ty126 : aO Tryd.prog 126 = some ⟨1, 8, .func, .nilf⟩ := by kernel_rfl
theorem ty128 : aO Tryd.prog 128 = some ⟨1, 8, .func, .nilf⟩ := by kernel_rfl
theorem ty129 : aO Tryd.prog 129 = some ⟨1, 8, .func, .nilf⟩ := by kernel_rfl
theorem ty130 : aO Tryd.prog 130 = some ⟨1, 8, .func, .nilf⟩ := by kernel_rfl
theorem ty132 : aO Tryd.prog 132 = some ⟨1, 8, .func, .nilf⟩ := by kernel_rfl
theorem ty134 : aO Tryd.prog 134 = some ⟨1, 8, .func, .nilf⟩ := by kernel_rfl
theorem ty136 : aO Tryd.prog 136 = some ⟨1, 8, .func, .nilf⟩ := by kernel_rfl
theorem ty137 : aO Tryd.prog 137 = some ⟨1, 8, .func, .nilf⟩ := by kernel_rfl
theorem ty139 : aO Tryd.prog 139 = some ⟨1, 8, .func, .nilf⟩ := by kernel_rfl
theorem ty140 : aO Tryd.prog 140 = some ⟨1, 8, .func, .nilf⟩ := by kernel_rfl
theorem ty141 : aO Tryd.prog 141 = some ⟨20, 160, .array 20 124, .agg [.int .u64 0, .int .u64 0, .int .u64 0, .int .u64 0, .int .u64 0, .int .u64 0, .int .u64 0, .int .u64 0, .int .u64 0, .int .u64 0, .int .u64 0, .int .u64 0, .int .u64 0, .int .u64 0, .int .u64 0, .int .u64 0, .int .u64 0, .int .u64 0, .int .u64 0, .int .u64 0]⟩ := by kernel_rfl
theorem ty142 : aO Tryd.prog 142 = some ⟨1, 4, .int .u32, .int .u32 0⟩ := by kernel_rfl
theorem ty143 : aO Tryd.prog 143 = some ⟨65, 65, .array 65 5, .agg [.int .u8 0, .int .u8 0, .int .u8 0, .int .u8 0, .int .u8 0, .int .u8 0, .int .u8 0, .int .u8 0, .int .u8 0, .int .u8 0, .int .u8 0, .int .u8 0, .int .u8 0, .int .u8 0, .int .u8 0, .int .u8 0, .int .u8 0, .int .u8 0, .int .u8 0, .int .u8 0, .int .u8 0, .int .u8 0, .int .u8 0, .int .u8 0, .int .u8 0, .int .u8 0, .int .u8 0, .int .u8 0, .int .u8 0, .int .u8 0, .int .u8 0, .int .u8 0, .int .u8 0, .int .u8 0, .int .u8 0, .int .u8 0, .int .u8 0, .int .u8 0, .int .u8 0, .int .u8 0, .int .u8 0, .int .u8 0, .int .u8 0, .int .u8 0, .int .u8 0, .int .u8 0, .int .u8 0, .int .u8 0, .int .u8 0, .int .u8 0, .int .u8 0, .int .u8 0, .int .u8 0, .int .u8 0, .int .u8 0, .int .u8 0, .int .u8 0, .int .u8 0, .int .u8 0, .int .u8 0, .int .u8 0, .int .u8 0, .int .u8 0, .int .u8 0, .int .u8 0]⟩ := by kernel_rfl
theorem ty144 : aO Tryd.prog 144 = some ⟨1, 8, .func, .nilf⟩ := by kernel_rfl
theorem ty145 : aO Tryd.prog 145 = some ⟨1, 8, .func, .nilf⟩ := by kernel_rfl
theorem ty147 : aO Tryd.prog 147 = some ⟨1, 8, .func, .nilf⟩ := by kernel_rfl
theorem ty148 : aO Tryd.prog 148 = some ⟨1, 8, .pointer 2, .nilp⟩ := by kernel_rfl
theorem ty149 : aO Tryd.prog 149 = some ⟨1, 24, .slice 148, .nils⟩ := by kernel_rfl
theorem ty150 : aO Tryd.prog 150 = some ⟨1, 8, .func, .nilf⟩ := by kernel_rfl
theorem ty152 : aO Tryd.prog 152 = some ⟨2, 2, .struct [(0, 5), (1, 5)], .agg [.int .u8 0, .int .u8 0]⟩ := by kernel_rfl
theorem ty153 : aO Tryd.prog 153 = some ⟨2, 2, .struct [(0, 5), (1, 5)], .agg [.int .u8 0, .int .u8 0]⟩ := by kernel_rfl
theorem ty154 : aO Tryd.prog 154 = some ⟨32, 32, .array 16 153, .agg [.agg [.int .u8 0, .int .u8 0], .agg [.int .u8 0, .int .u8 0], .agg [.int .u8 0, .int .u8 0], .agg [.int .u8 0, .int .u8 0], .agg [.int .u8 0, .int .u8 0], .agg [.int .u8 0, .int .u8 0], .agg [.int .u8 0, .int .u8 0], .agg [.int .u8 0, .int .u8 0], .agg [.int .u8 0, .int .u8 0], .agg [.int .u8 0, .int .u8 0], .agg [.int .u8 0, .int .u8 0], .agg [.int .u8 0, .int .u8 0], .agg [.int .u8 0, .int .u8 0], .agg [.int .u8 0, .int .u8 0], .agg [.int .u8 0, .int .u8 0], .agg [.int .u8 0, .int .u8 0]]⟩ := by kernel_rfl
theorem ty155 : aO Tryd.prog 155 = some ⟨1, 8, .func, .nilf⟩ := by kernel_rfl
theorem ty156 : aO Tryd.prog 156 = some ⟨32, 32, .array 32 5, zd⟩ := by kernel_rfl
theorem ty157 : aO Tryd.prog 157 = some ⟨64, 64, .array 64 5, us (uz 64)⟩ := by kernel_rfl
theorem ty158 : aO Tryd.prog 158 = some ⟨1, 8, .func, .nilf⟩ := by kernel_rfl
theorem ty159 : aO Tryd.prog 159 = some ⟨1, 8, .func, .nilf⟩ := by kernel_rfl
theorem ty160 : aO Tryd.prog 160 = some ⟨4, 40, .struct [(0, 17), (1, 17), (2, 17), (3, 9)], .agg [.nilp, .nilp, .nilp, .str []]⟩ := by kernel_rfl
theorem ty161 : aO Tryd.prog 161 = some ⟨4, 40, .struct [(0, 17), (1, 17), (2, 17), (3, 9)], .agg [.nilp, .nilp, .nilp, .str []]⟩ := by kernel_rfl
theorem ty165 : aO Tryd.prog 165 = some ⟨1, 8, .func, .nilf⟩ := by kernel_rfl
theorem ty166 : aO Tryd.prog 166 = some ⟨1, 1, .int .u8, .int .u8 0⟩ := by kernel_rfl
theorem ty167 : aO Tryd.prog 167 = some ⟨1, 1, .int .u8, .int .u8 0⟩ := by kernel_rfl
theorem ty168 : aO Tryd.prog 168 = some ⟨1, 8, .func, .nilf⟩ := by kernel_rfl
theorem ty169 : aO Tryd.prog 169 = some ⟨1, 8, .pointer 5, .nilp⟩ := by kernel_rfl
theorem ty170 : aO Tryd.prog 170 = some ⟨1, 4, .int .i32, .int .i32 0⟩ := by kernel_rfl
theorem ty171 : aO Tryd.prog 171 = some ⟨1, 4, .int .i32, .int .i32 0⟩ := by kernel_rfl
theorem ty172 : aO Tryd.prog 172 = some ⟨11, 48, .struct [(0, 12), (1, 12), (2, 142), (3, 166), (4, 5), (5, 5), (6, 167), (7, 168), (8, 169), (9, 170), (10, 171)], .agg [.int .u64 0, .int .u64 0, .int .u32 0, .int .u8 0, .int .u8 0, .int .u8 0, .int .u8 0, .nilf, .nilp, .int .i32 0, .int .i32 0]⟩ := by kernel_rfl
theorem ty173 : aO Tryd.prog 173 = some ⟨11, 48, .struct [(0, 12), (1, 12), (2, 142), (3, 166), (4, 5), (5, 5), (6, 167), (7, 168), (8, 169), (9, 170), (10, 171)], .agg [.int .u64 0, .int .u64 0, .int .u32 0, .int .u8 0, .int .u8 0, .int .u8 0, .int .u8 0, .nilf, .nilp, .int .i32 0, .int .i32 0]⟩ := by kernel_rfl
theorem eqdg156 (x y : Dig) (K : CV → Prop) : jH Tryd.prog .eql 156 (.c (dg x)) (.c (dg y)) K = K (.bool (x == y)) := (aR7 (by kernel_rfl) ty156 ty5 (by kernel_rfl) x y K).1
theorem nedg156 (x y : Dig) (K : CV → Prop) : jH Tryd.prog .neq 156 (.c (dg x)) (.c (dg y)) K = K (.bool (!(x == y))) := (aR7 (by kernel_rfl) ty156 ty5 (by kernel_rfl) x y K).2
theorem mixed : Tryd.prog.follows .mixedOrders = true := by kernel_rfl
end YtlldglbooaefhaaDoor
end Go.Proofs

namespace Go.Pl
open Go Go.Hl

structure Rq where
 k : Int
 n : Int
 m : Int
 t : aE
def Rq.cv (x : Rq) : CV := .agg [.int .i64 x.k, .int .i64 x.n, .int .i64 x.m, .str x.t]
theorem Rq.cells (x : Rq) : x.cv.cells = 4 := by simp [Rq.cv, CV.cells, CV.cellsL, dg_cells, aS]
theorem Rq.denil (x : Rq) : x.cv.denil = x.cv := by simp only [Rq.cv, CV.denil, CV.denilL, dg_denil, fY, denilL_str, denilL_dg]
theorem denilL_Rq (l : List Rq) : CV.denilL (l.map Rq.cv) = l.map Rq.cv := bV Rq.denil l
theorem Rq.isAgg (x : Rq) : x.cv.isAgg = true := rfl
theorem Rq.getAll (x : Rq) : CV.getAt 0 4 true x.cv = some x.cv := by
 have := Rq.cells x
 simp_all [Rq.cv, CV.cells, CV.getAt, and_self, if_true]
theorem Rq.setAll (x : Rq) (y : HV) : CV.setAt 0 4 y x.cv = some y := by
 have := Rq.cells x
 simp_all [Rq.cv, CV.cells, CV.setAt, and_self, if_true]
theorem Rq.fold (k : Int) (n : Int) (m : Int) (t : aE) : CV.agg [.int .i64 k, .int .i64 n, .int .i64 m, .str t] = Rq.cv ⟨k, n, m, t⟩ := rfl
theorem Rq.get_k (x : Rq) : CV.getAt 0 1 false x.cv = some (.int .i64 x.k) := by simp [Rq.cv, CV.getAt, CV.getAtL, CV.cells, CV.cellsL, dg_cells, aS]
theorem Rq.set_k (x : Rq) (y : HV) : CV.setAt 0 1 y x.cv = some (.agg [y, .c (.int .i64 x.n), .c (.int .i64 x.m), .c (.str x.t)]) := by simp [Rq.cv, CV.setAt, CV.setAtL, CV.cells, CV.cellsL, dg_cells, aS]
theorem Rq.get_n (x : Rq) : CV.getAt 1 1 false x.cv = some (.int .i64 x.n) := by simp [Rq.cv, CV.getAt, CV.getAtL, CV.cells, CV.cellsL, dg_cells, aS]
theorem Rq.set_n (x : Rq) (y : HV) : CV.setAt 1 1 y x.cv = some (.agg [.c (.int .i64 x.k), y, .c (.int .i64 x.m), .c (.str x.t)]) := by simp [Rq.cv, CV.setAt, CV.setAtL, CV.cells, CV.cellsL, dg_cells, aS]
theorem Rq.get_m (x : Rq) : CV.getAt 2 1 false x.cv = some (.int .i64 x.m) := by simp [Rq.cv, CV.getAt, CV.getAtL, CV.cells, CV.cellsL, dg_cells, aS]
theorem Rq.set_m (x : Rq) (y : HV) : CV.setAt 2 1 y x.cv = some (.agg [.c (.int .i64 x.k), .c (.int .i64 x.n), y, .c (.str x.t)]) := by simp [Rq.cv, CV.setAt, CV.setAtL, CV.cells, CV.cellsL, dg_cells, aS]
theorem Rq.get_t (x : Rq) : CV.getAt 3 1 false x.cv = some (.str x.t) := by simp [Rq.cv, CV.getAt, CV.getAtL, CV.cells, CV.cellsL, dg_cells, aS]
theorem Rq.set_t (x : Rq) (y : HV) : CV.setAt 3 1 y x.cv = some (.agg [.c (.int .i64 x.k), .c (.int .i64 x.n), .c (.int .i64 x.m), y]) := by simp [Rq.cv, CV.setAt, CV.setAtL, CV.cells, CV.cellsL, dg_cells, aS]

structure Nd where
 k : Int
 n : Int
 c : Int
 q : Rq
def Nd.cv (x : Nd) : CV := .agg [.int .i64 x.k, .int .i64 x.n, .int .i64 x.c, x.q.cv]
theorem Nd.cells (x : Nd) : x.cv.cells = 7 := by simp [Nd.cv, CV.cells, CV.cellsL, dg_cells, aS, Rq.cells]
theorem Nd.denil (x : Nd) : x.cv.denil = x.cv := by simp only [Nd.cv, CV.denil, CV.denilL, dg_denil, fY, denilL_str, denilL_dg, Rq.denil]
theorem denilL_Nd (l : List Nd) : CV.denilL (l.map Nd.cv) = l.map Nd.cv := bV Nd.denil l
theorem Nd.isAgg (x : Nd) : x.cv.isAgg = true := rfl
theorem Nd.getAll (x : Nd) : CV.getAt 0 7 true x.cv = some x.cv := by
 have := Nd.cells x
 simp_all [Nd.cv, CV.cells, CV.getAt, and_self, if_true]
theorem Nd.setAll (x : Nd) (y : HV) : CV.setAt 0 7 y x.cv = some y := by
 have := Nd.cells x
 simp_all [Nd.cv, CV.cells, CV.setAt, and_self, if_true]
theorem Nd.fold (k : Int) (n : Int) (c : Int) (q : Rq) : CV.agg [.int .i64 k, .int .i64 n, .int .i64 c, q.cv] = Nd.cv ⟨k, n, c, q⟩ := rfl
theorem Nd.get_k (x : Nd) : CV.getAt 0 1 false x.cv = some (.int .i64 x.k) := by simp [Nd.cv, CV.getAt, CV.getAtL, CV.cells, CV.cellsL, dg_cells, aS, Rq.cells]
theorem Nd.set_k (x : Nd) (y : HV) : CV.setAt 0 1 y x.cv = some (.agg [y, .c (.int .i64 x.n), .c (.int .i64 x.c), .c (x.q.cv)]) := by simp [Nd.cv, CV.setAt, CV.setAtL, CV.cells, CV.cellsL, dg_cells, aS, Rq.cells]
theorem Nd.get_n (x : Nd) : CV.getAt 1 1 false x.cv = some (.int .i64 x.n) := by simp [Nd.cv, CV.getAt, CV.getAtL, CV.cells, CV.cellsL, dg_cells, aS, Rq.cells]
theorem Nd.set_n (x : Nd) (y : HV) : CV.setAt 1 1 y x.cv = some (.agg [.c (.int .i64 x.k), y, .c (.int .i64 x.c), .c (x.q.cv)]) := by simp [Nd.cv, CV.setAt, CV.setAtL, CV.cells, CV.cellsL, dg_cells, aS, Rq.cells]
theorem Nd.get_c (x : Nd) : CV.getAt 2 1 false x.cv = some (.int .i64 x.c) := by simp [Nd.cv, CV.getAt, CV.getAtL, CV.cells, CV.cellsL, dg_cells, aS, Rq.cells]
theorem Nd.set_c (x : Nd) (y : HV) : CV.setAt 2 1 y x.cv = some (.agg [.c (.int .i64 x.k), .c (.int .i64 x.n), y, .c (x.q.cv)]) := by simp [Nd.cv, CV.setAt, CV.setAtL, CV.cells, CV.cellsL, dg_cells, aS, Rq.cells]
theorem Nd.get_q (x : Nd) : CV.getAt 3 4 true x.cv = some (x.q.cv) := by simp [Nd.cv, CV.getAt, CV.getAtL, CV.cells, CV.cellsL, dg_cells, aS, Rq.cells, Rq.getAll]
theorem Nd.set_q (x : Nd) (y : HV) : CV.setAt 3 4 y x.cv = some (.agg [.c (.int .i64 x.k), .c (.int .i64 x.n), .c (.int .i64 x.c), y]) := by simp [Nd.cv, CV.setAt, CV.setAtL, CV.cells, CV.cellsL, dg_cells, aS, Rq.cells, Rq.setAll]

structure Pr where
 a : aE
 b : aE
 c : aE
 g : Int
 t : List Nd
def Pr.cv (x : Pr) : CV := .agg [.str x.a, .str x.b, .str x.c, .int .i64 x.g, .slc (x.t.map Nd.cv)]
theorem Pr.cells (x : Pr) : x.cv.cells = 5 := by simp [Pr.cv, CV.cells, CV.cellsL, dg_cells, aS]
theorem Pr.denil (x : Pr) : x.cv.denil = x.cv := by simp only [Pr.cv, CV.denil, CV.denilL, dg_denil, fY, denilL_str, denilL_dg, denilL_Nd]
theorem denilL_Pr (l : List Pr) : CV.denilL (l.map Pr.cv) = l.map Pr.cv := bV Pr.denil l
theorem Pr.isAgg (x : Pr) : x.cv.isAgg = true := rfl
theorem Pr.getAll (x : Pr) : CV.getAt 0 5 true x.cv = some x.cv := by
 have := Pr.cells x
 simp_all [Pr.cv, CV.cells, CV.getAt, and_self, if_true]
theorem Pr.setAll (x : Pr) (y : HV) : CV.setAt 0 5 y x.cv = some y := by
 have := Pr.cells x
 simp_all [Pr.cv, CV.cells, CV.setAt, and_self, if_true]
theorem Pr.fold (a : aE) (b : aE) (c : aE) (g : Int) (t : List Nd) : CV.agg [.str a, .str b, .str c, .int .i64 g, .slc (t.map Nd.cv)] = Pr.cv ⟨a, b, c, g, t⟩ := rfl
theorem Pr.get_a (x : Pr) : CV.getAt 0 1 false x.cv = some (.str x.a) := by simp [Pr.cv, CV.getAt, CV.getAtL, CV.cells, CV.cellsL, dg_cells, aS]
theorem Pr.set_a (x : Pr) (y : HV) : CV.setAt 0 1 y x.cv = some (.agg [y, .c (.str x.b), .c (.str x.c), .c (.int .i64 x.g), .c (.slc (x.t.map Nd.cv))]) := by simp [Pr.cv, CV.setAt, CV.setAtL, CV.cells, CV.cellsL, dg_cells, aS]
theorem Pr.get_b (x : Pr) : CV.getAt 1 1 false x.cv = some (.str x.b) := by simp [Pr.cv, CV.getAt, CV.getAtL, CV.cells, CV.cellsL, dg_cells, aS]
theorem Pr.set_b (x : Pr) (y : HV) : CV.setAt 1 1 y x.cv = some (.agg [.c (.str x.a), y, .c (.str x.c), .c (.int .i64 x.g), .c (.slc (x.t.map Nd.cv))]) := by simp [Pr.cv, CV.setAt, CV.setAtL, CV.cells, CV.cellsL, dg_cells, aS]
theorem Pr.get_c (x : Pr) : CV.getAt 2 1 false x.cv = some (.str x.c) := by simp [Pr.cv, CV.getAt, CV.getAtL, CV.cells, CV.cellsL, dg_cells, aS]
theorem Pr.set_c (x : Pr) (y : HV) : CV.setAt 2 1 y x.cv = some (.agg [.c (.str x.a), .c (.str x.b), y, .c (.int .i64 x.g), .c (.slc (x.t.map Nd.cv))]) := by simp [Pr.cv, CV.setAt, CV.setAtL, CV.cells, CV.cellsL, dg_cells, aS]
theorem Pr.get_g (x : Pr) : CV.getAt 3 1 false x.cv = some (.int .i64 x.g) := by simp [Pr.cv, CV.getAt, CV.getAtL, CV.cells, CV.cellsL, dg_cells, aS]
theorem Pr.set_g (x : Pr) (y : HV) : CV.setAt 3 1 y x.cv = some (.agg [.c (.str x.a), .c (.str x.b), .c (.str x.c), y, .c (.slc (x.t.map Nd.cv))]) := by simp [Pr.cv, CV.setAt, CV.setAtL, CV.cells, CV.cellsL, dg_cells, aS]
theorem Pr.get_t (x : Pr) : CV.getAt 4 1 false x.cv = some (.slc (x.t.map Nd.cv)) := by simp [Pr.cv, CV.getAt, CV.getAtL, CV.cells, CV.cellsL, dg_cells, aS]
theorem Pr.set_t (x : Pr) (y : HV) : CV.setAt 4 1 y x.cv = some (.agg [.c (.str x.a), .c (.str x.b), .c (.str x.c), .c (.int .i64 x.g), y]) := by simp [Pr.cv, CV.setAt, CV.setAtL, CV.cells, CV.cellsL, dg_cells, aS]

structure Po where
 n : aE
 v : Int
 r : List Pr
def Po.cv (x : Po) : CV := .agg [.str x.n, .int .i64 x.v, .slc (x.r.map Pr.cv)]
theorem Po.cells (x : Po) : x.cv.cells = 3 := by simp [Po.cv, CV.cells, CV.cellsL, dg_cells, aS]
theorem Po.denil (x : Po) : x.cv.denil = x.cv := by simp only [Po.cv, CV.denil, CV.denilL, dg_denil, fY, denilL_str, denilL_dg, denilL_Pr]
theorem denilL_Po (l : List Po) : CV.denilL (l.map Po.cv) = l.map Po.cv := bV Po.denil l
theorem Po.isAgg (x : Po) : x.cv.isAgg = true := rfl
theorem Po.getAll (x : Po) : CV.getAt 0 3 true x.cv = some x.cv := by
 have := Po.cells x
 simp_all [Po.cv, CV.cells, CV.getAt, and_self, if_true]
theorem Po.setAll (x : Po) (y : HV) : CV.setAt 0 3 y x.cv = some y := by
 have := Po.cells x
 simp_all [Po.cv, CV.cells, CV.setAt, and_self, if_true]
theorem Po.fold (n : aE) (v : Int) (r : List Pr) : CV.agg [.str n, .int .i64 v, .slc (r.map Pr.cv)] = Po.cv ⟨n, v, r⟩ := rfl
theorem Po.get_n (x : Po) : CV.getAt 0 1 false x.cv = some (.str x.n) := by simp [Po.cv, CV.getAt, CV.getAtL, CV.cells, CV.cellsL, dg_cells, aS]
theorem Po.set_n (x : Po) (y : HV) : CV.setAt 0 1 y x.cv = some (.agg [y, .c (.int .i64 x.v), .c (.slc (x.r.map Pr.cv))]) := by simp [Po.cv, CV.setAt, CV.setAtL, CV.cells, CV.cellsL, dg_cells, aS]
theorem Po.get_v (x : Po) : CV.getAt 1 1 false x.cv = some (.int .i64 x.v) := by simp [Po.cv, CV.getAt, CV.getAtL, CV.cells, CV.cellsL, dg_cells, aS]
theorem Po.set_v (x : Po) (y : HV) : CV.setAt 1 1 y x.cv = some (.agg [.c (.str x.n), y, .c (.slc (x.r.map Pr.cv))]) := by simp [Po.cv, CV.setAt, CV.setAtL, CV.cells, CV.cellsL, dg_cells, aS]
theorem Po.get_r (x : Po) : CV.getAt 2 1 false x.cv = some (.slc (x.r.map Pr.cv)) := by simp [Po.cv, CV.getAt, CV.getAtL, CV.cells, CV.cellsL, dg_cells, aS]
theorem Po.set_r (x : Po) (y : HV) : CV.setAt 2 1 y x.cv = some (.agg [.c (.str x.n), .c (.int .i64 x.v), y]) := by simp [Po.cv, CV.setAt, CV.setAtL, CV.cells, CV.cellsL, dg_cells, aS]


def gF (a b : Rq) : Bool := a.k == b.k && (a.n == b.n && (a.m == b.m && a.t == b.t))
theorem uR (a b : Rq) : gF a b = true ↔ a = b := by
 obtain ⟨a1, a2, a3, a4⟩ := a
 obtain ⟨b1, b2, b3, b4⟩ := b
 simp only [gF, Bool.and_eq_true, beq_iff_eq, Rq.mk.injEq]
def rq0 : Rq := ⟨0, 0, 0, []⟩
def nd0 : Nd := ⟨0, 0, 0, rq0⟩
def inB (n lo hi : Int) : Bool := decide (lo ≤ n) && decide (n ≤ hi)
def eL (q : Rq) : Bool :=
 if q.k = 1 ∨ q.k = 3 ∨ q.k = 5 then inB q.n 1 32 && (q.m == 0 && q.t == [])
 else if q.k = 4 then inB q.n 1 32 && (inB q.m 0 32 && q.t == [])
 else if q.k = 2 then eC q.t && (q.n == 0 && q.m == 0)
 else if q.k = 6 then inB q.n 1 10 && (q.m == 0 && q.t == [])
 else if q.k = 7 then inB q.n 0 aF2 && (q.m == 0 && q.t == [])
 else if q.k = 8 then q.n == 0 && (q.m == 0 && q.t == [])
 else false
def bK (n : Nd) : Bool :=
 if n.k = 1 then n.c == 0 && (n.n == 0 && eL n.q)
 else if n.k = 2 ∨ n.k = 3 then inB n.c 1 60 && (gF n.q rq0 && n.n == 0)
 else if n.k = 4 then inB n.c 1 60 && (gF n.q rq0 && inB n.n 1 n.c)
 else false
theorem cU {n : Nd} (h : bK n = true) : 0 ≤ n.c ∧ n.c ≤ 60 ∧ (n.k = 1 → n.c = 0) ∧ (n.k ≠ 1 → 1 ≤ n.c) := by
 unfold bK inB at h
 split at h
 ·
  grind
 grind

def pO : List Nd → Int → Int → Option (Int × Int)
 | [], m, v => some (m, v)
 | n :: l, m, v => if m = 0 then none else if bK n then pO l (m + (n.c - 1)) (if n.k = 1 then v + 1 else v) else none
def dH (l : List Nd) : Bool := decide (1 ≤ l.length) && (decide (l.length ≤ 60) && (match pO l 1 0 with | some (m, v) => m == 0 && decide (v ≤ 16) | none => false))
def lv : List Nd → Nat
 | [] => 0
 | n :: l => (if n.k = 1 then 1 else 0) + lv l
theorem gI (a b : List Nd) : lv (a ++ b) = lv a + lv b := by
 induction a with
 | nil => simp [lv]
 | cons n a ih => grind [lv]
theorem bV9 (l : List Nd) : lv l ≤ l.length := by
 induction l with
 | nil => simp [lv]
 | cons n l ih => grind [lv, List.length_cons]
def skip : Nat → List Nd → Option (List Nd)
 | 0, l => some l
 | _ + 1, [] => none
 | m + 1, n :: l => skip (m + n.c.toNat) l
theorem cE (l : List Nd) : skip 0 l = some l := by cases l <;> rfl
theorem eD : ∀ (l : List Nd) (a b : Nat), skip (a + b) l = (skip a l).bind (skip b)
 | l, 0, b => by rw [Nat.zero_add, cE]; rfl
 | [], a + 1, b => by rw [show a + 1 + b = a + b + 1 from by omega]; rfl
 | n :: l, a + 1, b => by
  rw [show a + 1 + b = a + b + 1 from by omega]
  show skip (a + b + n.c.toNat) l = (skip (a + n.c.toNat) l).bind (skip b)
  rw [show a + b + n.c.toNat = a + n.c.toNat + b from by omega]
  exact eD l (a + n.c.toNat) b
theorem gJ : ∀ (l : List Nd) (m : Nat) (r : List Nd), skip m l = some r → ∃ j, j ≤ l.length ∧ r = l.drop j ∧ (0 < m → 0 < j) ∧ m ≤ j + 0 * l.length + m
 | l, 0, r, h => by rw [cE] at h; cases h; exact ⟨0, by omega, by simp, by omega, by omega⟩
 | [], m + 1, r, h => by cases h
 | n :: l, m + 1, r, h => by
  obtain ⟨j, h1, h2, _, _⟩ := gJ l (m + n.c.toNat) r h
  exact ⟨j + 1, by grind, by grind, by omega, by omega⟩
theorem xP : ∀ (l : List Nd) (m : Nat) (v v' : Int), pO l m v = some (0, v') → skip m l = some [] ∧ v' = v + lv l ∧ ∀ n ∈ l, bK n = true
 | [], m, v, v', h => by
  simp only [pO, Option.some.injEq, Prod.mk.injEq] at h
  obtain ⟨h1, rfl⟩ := h
  have : m = 0 := by omega
  subst this
  exact ⟨rfl, by simp [lv], by simp⟩
 | n :: l, m, v, v', h => by
  simp only [pO] at h
  split at h
  ·
   cases h
  ·
   rename_i h1
   split at h
   ·
    rename_i h2
    obtain ⟨c1, c2, c3, c4⟩ := cU h2
    obtain ⟨k, rfl⟩ : ∃ k, m = k + 1 := ⟨m - 1, by omega⟩
    have e : ((k + 1 : Nat) : Int) + (n.c - 1) = ((k + n.c.toNat : Nat) : Int) := by omega
    rw [e] at h
    obtain ⟨g1, g2, g3⟩ := xP l _ _ _ h
    refine ⟨g1, ?_, fun x hx => ?_⟩
    ·
     grind [lv]
    grind
   grind
structure IsTree (l : List Nd) : Prop where
 ne : 1 ≤ l.length
 len : l.length ≤ 60
 skip : skip 1 l = some []
 node : ∀ n ∈ l, bK n = true
 lv : lv l ≤ 16
theorem kL {l : List Nd} (h : dH l = true) : IsTree l := by
 unfold dH at h
 simp only [Bool.and_eq_true, decide_eq_true_eq] at h
 obtain ⟨h1, h2, h3⟩ := h
 split at h3
 ·
  rename_i m v hs
  simp only [Bool.and_eq_true, beq_iff_eq, decide_eq_true_eq] at h3
  obtain ⟨rfl, h4⟩ := h3
  obtain ⟨g1, g2, g3⟩ := xP l 1 0 v hs
  exact ⟨h1, h2, g1, g3, by omega⟩
 grind
theorem qZ : ∀ (l : List Nd) (m : Nat), skip m l = some [] → (∀ n ∈ l, bK n = true) → ∀ i, i < l.length → ∃ k, skip (k + 1) (l.drop i) = some []
 | [], m, h, _, i, hi => by grind
 | n :: l, 0, h, _, i, hi => by grind [cE]
 | n :: l, m + 1, h, hn, 0, hi => ⟨m, h⟩
 | n :: l, m + 1, h, hn, i + 1, hi => by
  have h' : skip (m + n.c.toNat) l = some [] := h
  exact qZ l _ h' (fun x hx => hn x (List.mem_cons_of_mem _ hx)) i (by grind)
theorem bE5 {l : List Nd} (h : IsTree l) {i : Nat} (hi : i < l.length) : ∃ j, i < j ∧ j ≤ l.length ∧ skip 1 (l.drop i) = some (l.drop j) := by
 obtain ⟨k, hk⟩ := qZ l 1 h.skip h.node i hi
 rw [Nat.add_comm, eD] at hk
 cases h1 : skip 1 (l.drop i) with
 | none => grind
 | some r =>
  grind [gJ, List.length_drop, List.drop_drop]
end Go.Pl

namespace Go.Pl
open Go Go.Hl

def cQ (c : UInt8) : Bool := decide ((33 : Int) ≤ c.toNat) && decide ((c.toNat : Int) ≤ 125) && ((c.toNat : Int) != 37)
def mI (n : Nat) : UInt8 := ([48, 49, 50, 51, 52, 53, 54, 55, 56, 57, 65, 66, 67, 68, 69, 70] : List UInt8).getD n 0
def kM (c : UInt8) : List UInt8 := if cQ c then [c] else [37, mI (c.toNat / 16), mI (c.toNat % 16)]
def cJ (w : aE) : aE := w.flatMap kM
def jI (w : aE) : aE := if w = [] then [126] else cJ w
def sizeW (w : aE) : Nat := max (cJ w).length 1

@[simp] theorem cB1 : cJ [] = [] := rfl
theorem bP1 (c : UInt8) : (kM c).length ≤ 3 := by grind [kM]
theorem bE6 (c : UInt8) : 1 ≤ (kM c).length := by grind [kM]
theorem uS (w : aE) : (cJ w).length ≤ 3 * w.length := by
 induction w with
 | nil => simp_all
 | cons c w ih =>
  grind [bP1, cJ, List.length_append, List.length_cons]
theorem aF3 (w : aE) : w.length ≤ (cJ w).length := by
 induction w with
 | nil => grind
 | cons c w ih =>
  grind [bE6, cJ, List.length_append, List.length_cons]
theorem uT {w : aE} {i : Nat} (h : i < w.length) : cJ (w.take (i + 1)) = cJ (w.take i) ++ kM w[i] := by
 simp only [List.take_succ_eq_append_getElem h, cJ, List.flatMap_append, List.flatMap_cons, List.flatMap_nil, List.append_nil]
theorem oH (w : aE) (i : Nat) : (cJ (w.take i)).length ≤ (cJ w).length := by
 have : cJ w = cJ (w.take i) ++ cJ (w.drop i) := by simp [cJ, ← List.flatMap_append]
 grind
theorem uU (w : aE) : (jI w).length = sizeW w := by
 unfold jI sizeW
 split
 ·
  simp_all
 ·
  rename_i h
  have := aF3 w
  grind [List.length_pos_iff]
theorem uV (w : aE) : sizeW w ≤ 3 * w.length + 1 := by grind [uS, sizeW]
theorem aW5 (w : aE) : 1 ≤ sizeW w := by unfold sizeW; omega
theorem cG1 (n : Nat) : (if (1 : Int) > (n : Int) then (1 : Int) else (n : Int)) = ((max n 1 : Nat) : Int) := by split <;> omega
theorem cG2 (c : UInt8) : Int.fdiv (c.toNat : Int) (2 ^ (min 4 IntKind.u8.bits)) = ((c.toNat / 16 : Nat) : Int) := by
 rw [show min 4 IntKind.u8.bits = 4 from rfl, Int.fdiv_eq_ediv_of_nonneg _ (by omega)]
 rfl
theorem cC5 (c : UInt8) : IntKind.u8.wrap ((BitVec.ofInt IntKind.u8.bits (c.toNat : Int) &&& BitVec.ofInt IntKind.u8.bits 15).toNat : Int) = ((c.toNat % 16 : Nat) : Int) := by
 have h := c.toNat_lt
 have : (BitVec.ofInt IntKind.u8.bits (c.toNat : Int) &&& BitVec.ofInt IntKind.u8.bits 15).toNat = c.toNat % 16 := by
  rw [BitVec.toNat_and]
  have e1 : (BitVec.ofInt IntKind.u8.bits (c.toNat : Int)).toNat = c.toNat := by simp [IntKind.bits]
  have e2 : (BitVec.ofInt IntKind.u8.bits 15).toNat = 15 := rfl
  rw [e1, e2]
  exact Nat.and_two_pow_sub_one_eq_mod _ 4
 grind [IntWalk.u8_in]

theorem dS : ∀ bs : List UInt8, CV.denilL (bs.map dY) = bs.map dY
 | [] => rfl
 | b :: bs => by simp only [List.map_cons, CV.denilL, dS bs]; rfl

def gT : List aE → aE
 | [] => []
 | w :: l => jI w ++ l.flatMap fun v => 32 :: jI v
theorem aW6 (l : List aE) (w : aE) : gT (l ++ [w]) = gT l ++ ((if l = [] then [] else [32]) ++ jI w) := by
 cases l with
 | nil => simp [gT]
 | cons a l => simp [gT]
theorem aW7 {l : List aE} {i : Nat} (h : i < l.length) : gT (l.take (i + 1)) = gT (l.take i) ++ ((if i = 0 then [] else [32]) ++ jI l[i]) := by grind [List.take_succ_eq_append_getElem, aW6, List.take_eq_nil_iff]
def aF4 (l : List aE) : aE := gT l ++ [10]
def gK (ls : List (List aE)) : aE := ls.flatMap aF4
def iM (l : List aE) : Nat := (l.map fun w => sizeW w + 1).sum
def sumD (ls : List (List aE)) : Nat := (ls.map iM).sum
theorem aF5 : ∀ (l : List aE), l ≠ [] → (gT l).length + 1 = iM l
 | [], h => absurd rfl h
 | w :: l, _ => by
  have : ∀ l : List aE, (l.flatMap fun v => 32 :: jI v).length = iM l := by
   intro l
   induction l with
   | nil => rfl
   | cons v l ih => grind [List.length_append, List.length_cons, uU, iM]
  grind [gT, List.length_append, uU, iM]
theorem bE7 {l : List aE} (h : l ≠ []) : (aF4 l).length = iM l := by grind [aF4, List.length_append, aF5]
theorem bP2 (l : List aE) : (gT l).length ≤ iM l := by
 cases l with
 | nil => simp [gT]
 | cons w l => grind [aF5]
theorem uW : ∀ {ls : List (List aE)}, (∀ l ∈ ls, l ≠ []) → (gK ls).length = sumD ls
 | [], _ => rfl
 | l :: ls, h => by
  have ih := uW (ls := ls) fun x hx => h x (List.mem_cons_of_mem _ hx)
  grind [bE7, List.mem_cons_self, gK, sumD, List.length_append]
theorem aW8 {ls : List (List aE)} {i : Nat} (h : i < ls.length) : gK (ls.take (i + 1)) = gK (ls.take i) ++ aF4 ls[i] := by
 simp only [List.take_succ_eq_append_getElem h, gK, List.flatMap_append, List.flatMap_cons, List.flatMap_nil, List.append_nil]
theorem aW9 {l : List aE} {i : Nat} (h : i < l.length) : iM (l.take (i + 1)) = iM (l.take i) + (sizeW l[i] + 1) := by
 simp only [List.take_succ_eq_append_getElem h, iM, List.map_append, List.sum_append, List.map_cons, List.map_nil, List.sum_cons, List.sum_nil, Nat.add_zero]
theorem aX0 {ls : List (List aE)} {i : Nat} (h : i < ls.length) : sumD (ls.take (i + 1)) = sumD (ls.take i) + iM ls[i] := by
 simp only [List.take_succ_eq_append_getElem h, sumD, List.map_append, List.sum_append, List.map_cons, List.map_nil, List.sum_cons, List.sum_nil, Nat.add_zero]

@[simp] theorem cC6 : gK [] = [] := rfl
@[simp] theorem cC7 : gT [] = [] := rfl
@[simp] theorem cC8 : iM [] = 0 := rfl
@[simp] theorem cC9 : sumD [] = 0 := rfl
theorem pP (l : List aE) (i : Nat) : iM (l.take i) ≤ iM l := by grind [iM, List.take_append_drop]
theorem zY (l : List (List aE)) (i : Nat) : sumD (l.take i) ≤ sumD l := by grind [sumD, List.take_append_drop]

def rA (l : List aE) : Int :=
 if l.length = 0 then 1 else if 120 < l.length then 3 else if l.any (fun w => decide (32768 < w.length)) then 3 else 0
def okL (l : List aE) : Bool := rA l == 0
theorem nT (l : List aE) : okL l = true ↔ l ≠ [] ∧ l.length ≤ 120 ∧ ∀ w ∈ l, w.length ≤ 32768 := by
 unfold okL rA
 constructor
 ·
  intro h
  split at h
  ·
   grind
  ·
   split at h
   ·
    grind
   ·
    grind
 grind
theorem aR8 {l : List aE} (h : okL l = true) : iM l ≤ 11796720 := by
 obtain ⟨-, h1, h2⟩ := (nT l).1 h
 have key : ∀ l : List aE, (∀ w ∈ l, w.length ≤ 32768) → iM l ≤ 98306 * l.length := by
  intro l
  induction l with
  | nil => simp_all
  | cons w l ih =>
   grind [List.mem_cons_of_mem, List.mem_cons_self, uV, iM, List.length_cons]
 grind
theorem bP3 {ls : List (List aE)} (h : ∀ l ∈ ls, okL l = true) : sumD ls ≤ 11796720 * ls.length := by
 induction ls with
 | nil => simp_all
 | cons l ls ih =>
  grind [List.mem_cons_of_mem, aR8, List.mem_cons_self, sumD, List.length_cons]
def lD (ls : List (List aE)) : Int :=
 if 1000 < ls.length then 3 else match ls.find? (fun l => !okL l) with
  | some l => rA l
  | none => if 262144 < (gK ls).length then 3 else 0
def pQ (ls : List (List aE)) : aE := if lD ls = 0 then gK ls else []
theorem aX1 {ls : List (List aE)} (h : 1000 < ls.length) : lD ls = 3 := by unfold lD; grind
theorem bE8 {ls : List (List aE)} {i : Nat} (h : ls.length ≤ 1000) (hi : i < ls.length) (h0 : ∀ l ∈ ls.take i, okL l = true) (h1 : okL ls[i] = false) : lD ls = rA ls[i] := by
 unfold lD
 rw [if_neg (by omega)]
 grind [okL, List.find?_eq_some_iff_append, List.getElem_cons_drop, List.take_append_drop]
theorem aR9 {ls : List (List aE)} (h : ls.length ≤ 1000) (h0 : ∀ l ∈ ls, okL l = true) : lD ls = if 262144 < (gK ls).length then 3 else 0 := by
 unfold lD
 grind
theorem bP4 {l : List aE} (h : okL l = false) : rA l ≠ 0 := by grind [okL]
theorem uX {ls : List (List aE)} (h : lD ls ≠ 0) : pQ ls = [] := by unfold pQ; grind
theorem zZ {ls : List (List aE)} (h : lD ls = 0) : pQ ls = gK ls := by unfold pQ; grind

def bW0 (n : Nat) : UInt8 := ([48, 49, 50, 51, 52, 53, 54, 55, 56, 57, 97, 98, 99, 100, 101, 102] : List UInt8).getD n 0
def cG3 (c : UInt8) : List UInt8 := [bW0 (c.toNat / 16), bW0 (c.toNat % 16)]
def bY0 (bs : List UInt8) : List UInt8 := bs.flatMap cG3
@[simp] theorem cD0 : bY0 [] = [] := rfl
end Go.Pl

namespace Go.Hl
open Go Go.Pl

theorem xQ {P : Program} {f : FuncId} {fn : Func} {e : Array Value → Sem Value} {args : List CV} {R : CV → Prop} (hf : P.funcs[f]? = some fn) (hname : (fn.name == "runtime.NumGoroutine") = false)
  (hb : fn.body.isNone = true) (hn : Extern.findNext fn = none) (he : Extern.find fn = some e)
  (h : ∀ (w : World) (ρ : Env) (O : Nat → Prop) (xs : List Value), RepHV w ρ O (args.map .c) xs → ∃ v x, R v ∧ RepV w ρ O (.c v) x ∧ (e xs.toArray).run P w = .ok x w) : cH P f args R := by
 refine ⟨by grind [aV2], fun w ρ X xs hS hA hX => .inr ⟨by grind [eI, Option.isNone_iff_eq_none], ?_⟩⟩
 obtain ⟨v, x, hR, hv, hrun⟩ := h w ρ _ xs hA
 refine ⟨x, by simp_all [run_callFunc_extern], .c v, cI, ρ, x, rfl, ⟨v, rfl, hR, rfl⟩, ⟨hv, hS, by simp [HV.men], fun id o h => by simp [cI] at h, Stay2.refl _ _, Moves.refl _ _⟩⟩

theorem aS0 {w : World} {O : Nat → Prop} : ∀ {l : List UInt8} {xs : List Value}, RepL w O (l.map u8) xs → xs = l.map fun b => .int .u8 (b.toNat : Int)
 | [], xs, h => by simpa [RepL] using h
 | b :: l, xs, h => by
  simp only [List.map_cons, RepL, u8, RepC] at h
  obtain ⟨c1, c2, rfl, rfl, h2⟩ := h
  rw [aS0 h2]
  rfl
theorem aX2 {P : Program} {w : World} {ρ : Env} {O : Nat → Prop} {l : List UInt8} {x : Value} (h : RepV w ρ O (.c (.slc (l.map u8))) x) : (Extern.Bytes.bytesOf x).run P w = .ok ⟨l.toArray⟩ w := by
 have h1 := h.single rfl
 simp only [RepC, List.cons.injEq, and_true] at h1
 obtain ⟨a, cap, xs, sz, rfl, h2, _, h4, h5, h6⟩ := h1
 have hx := aS0 h2
 cases a with
 | none =>
  have := h5 rfl
  have hl : l = [] := by
   have : l.length = 0 := by simp only [List.length_map] at h4; omega
   exact List.eq_nil_of_length_eq_zero this
  subst hl
  simp only [Extern.Bytes.bytesOf, Sem.run_pure]
  rfl
 | some ad =>
  have hr := (h6 ad rfl).1
  have := Go.Lib.run_loadBytesX (P := P) w (l.map fun b => (b.toNat : Int)) ad .empty (fun j y hj => hr j _ (by
   rw [hx]
   rw [List.getElem?_map] at hj ⊢
   cases hb : l[j]? with
   | none => rw [hb] at hj; cases hj
   | some b => rw [hb] at hj; cases hj; rfl))
  simp only [List.length_map] at this
  simp only [Extern.Bytes.bytesOf, List.length_map, this]
  congr 2
  simp only [Go.Lib.bytesOf, List.map_map]
  have e : l.map ((fun n : Int => n.toNat.toUInt8) ∘ fun b : UInt8 => (b.toNat : Int)) = l := by
   conv => rhs; rw [← List.map_id l]
   exact List.map_congr_left fun b _ => by simp
  rw [e]
  simp

theorem aN0 {p : Nat → Bool} (n : Nat) : (List.range (n + 1)).find? p = if p 0 then some 0 else ((List.range n).find? fun i => p (i + 1)).map (· + 1) := by
 rw [List.range_succ_eq_map, List.find?_cons, List.find?_map]
 split <;> simp_all [Function.comp]
 rfl
end Go.Hl
