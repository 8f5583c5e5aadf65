/- Encoded words and documents (2.1, 2.2), in plain Lean. By an AI agent. -/
import Derived.Test.YtlldglbooaefhaaGreatDoorPlSha
import Derived.Sort.KeysCollected
import Derived.Test.YtlldglbooaefhaaGreatDoorChecked
import Derived.Test.YtlldglbooaefhaaGreatDoorHlK
set_option linter.unusedSimpArgs false
set_option linter.unusedVariables false
set_option linter.defProp false
namespace Go.Hl
open Go

def gd (ops : Array Oper) (o : Oper) : Option (Option (Nat × Bool)) :=
 match o.guard with
 | none => some none
 | some (j, want) => match (ops[j]?).bind (·.dst) with
  | some d => some (some (d, want))
  | none => none
def hgd (g : Option (Nat × Bool)) (fr : Fr) : Option Bool :=
 match g with
 | none => some true
 | some (d, want) => match fr d with
  | .c (.bool b) => some (b == want)
  | .tup _ => some false
  | _ => none
def hop1 (P : Program) (nid : Nat) (av : List Nat) (g : Option (Nat × Bool)) (o : Op) (d : Option Nat) (K : Fr → Ob → Prop) (fr : Fr) (ob : Ob) : Prop :=
 match hgd g fr with
 | some true => hstep P av nid o (ev fr) ob fun v ob' => K (updo fr d v) ob'
 | some false => K (updo fr d (.tup [])) ob
 | none => False
section
variable {P : Program} {ops : Array Oper} {nx i : Nat} {o : Oper} {g : Option (Nat × Bool)} {Q : Fr → Ob → Prop} {fr : Fr} {ob : Ob}

theorem eS (hg : gd ops o = some g) : hguard ops o fr = hgd g fr := by grind [gd, hguard, hgd, bind]

theorem oJ {av : List Nat} {K : Fr → Ob → Prop} (ho : ops[i]? = some o) (hg : gd ops o = some g) (h : hop1 P (nx + 4 * i) av g o.op o.dst K fr ob) : hopI P ops nx av i K fr ob := by grind [hop1, hopI, eS]

theorem bM {l : List Nat} (ho : ops[i]? = some o) (hg : gd ops o = some g) (h : ∀ K : Fr → Ob → Prop, (∀ fr ob, hlex P ops nx Q l fr ob → K fr ob) → hop1 P (nx + 4 * i) [] g o.op o.dst K fr ob) : hlex P ops nx Q (i :: l) fr ob := by grind [hlex, oJ]

theorem cF {cr rd : List Nat} {l : nH} {C : jS} (ho : ops[i]? = some o) (hg : gd ops o = some g)
  (h : ∀ K : Fr → Ob → Prop, (∀ fr' ob', hwalk2 P ops nx Q l (if isEff o.op = true then C else (i, if hgd g fr = some true then touch o.op (ev fr) else []) :: C) fr' ob' → K fr' ob') →
   hop1 P (nx + 4 * i) (cr.flatMap (ids4 nx) ++ rd.flatMap (getF C)) g o.op o.dst K fr ob) : hwalk2 P ops nx Q ((i, cr, rd) :: l) C fr ob := by grind [hwalk2, oJ, eS]

theorem cB {id n sz : Nat} {el : TypeId} {l : List CV} {ob : Ob} {K : HV → Ob → Prop} (hn : n = l.length) (h : K (.c (.slc l)) (upd ob id (some .dead))) : aR6 id ob K (.own id n) (upd ob id (some (.row el sz l))) :=
 ⟨n, el, sz, l, rfl, rfl, hn, h⟩
def eN (P : Program) (nid : Nat) (av : List Nat) (g : Option (Nat × Bool)) (o : Op) (d : Option Nat) (id : Nat) (K : Fr → Ob → Prop) (fr : Fr) (ob : Ob) : Prop :=
 match hgd g fr with
 | some true => (hcallOf o = none ∧ iD nid o (ev fr) = some id) ∧ (∀ i ∈ touch o (ev fr), i ∉ av ∧ (ob i).isSome = true) ∧ hop P nid o (ev fr) ob (aR6 id ob fun v ob' => K (updo fr d v) ob')
 | some false => K (updo fr d (.tup [])) ob
 | none => False
theorem tY {av : List Nat} {K : Fr → Ob → Prop} {id : Nat} (ho : ops[i]? = some o) (hg : gd ops o = some g) (h : eN P (nx + 4 * i) av g o.op o.dst id K fr ob) : dF P ops nx av i K fr ob := by
 unfold eN at h
 unfold dF
 rw [ho]
 simp only [eS hg]
 cases hb : hgd g fr with
 | none => grind
 | some b =>
  rw [hb] at h
  cases b with
  | false => exact h
  | true =>
   obtain ⟨⟨h1, h2⟩, h3, h4⟩ := h
   simp only
   unfold dZ
   rw [h1]
   exact ⟨h3, .inr (.inl ⟨id, h2, h4⟩)⟩
def hop1H (P : Program) (nid : Nat) (av : List Nat) (g : Option (Nat × Bool)) (o : Op) (d : Option Nat) (K : Fr → Ob → Prop) (fr : Fr) (ob : Ob) : Prop :=
 match hgd g fr with
 | some true => hcallOf o = none ∧ (∀ i ∈ touch o (ev fr), i ∉ av ∧ (ob i).isSome = true) ∧ hopH P nid o (ev fr) ob fun v ob' => K (updo fr d v) ob'
 | some false => K (updo fr d (.tup [])) ob
 | none => False
theorem tZ {av : List Nat} {K : Fr → Ob → Prop} (ho : ops[i]? = some o) (hg : gd ops o = some g) (h : hop1H P (nx + 4 * i) av g o.op o.dst K fr ob) : dF P ops nx av i K fr ob := by
 unfold hop1H at h
 unfold dF
 rw [ho]
 simp only [eS hg]
 cases hb : hgd g fr with
 | none => grind
 | some b =>
  rw [hb] at h
  cases b with
  | false => exact h
  | true =>
   obtain ⟨h1, h3, h4⟩ := h
   simp only
   unfold dZ
   rw [h1]
   exact ⟨h3, .inr (.inr h4)⟩
def hop1N (P : Program) (nid : Nat) (av : List Nat) (g : Option (Nat × Bool)) (o : Op) (d : Option Nat) (K : Fr → Ob → Prop) (fr : Fr) (ob : Ob) : Prop :=
 match hgd g fr with
 | some true => match hcallOf o with
  | some (f, xs) => (∀ x ∈ xs, ev fr x ≠ .junk) ∧ match ev fr f with
   | .c (.fn g) => HCall P av g (xs.map fun x => ev fr x) ob nid fun v ob' => K (updo fr d v) ob'
   | _ => False
  | none => False
 | some false => K (updo fr d (.tup [])) ob
 | none => False
theorem aK5 {av : List Nat} {K : Fr → Ob → Prop} (ho : ops[i]? = some o) (hg : gd ops o = some g) (h : hop1N P (nx + 4 * i) av g o.op o.dst K fr ob) : dF P ops nx av i K fr ob := by
 unfold hop1N at h
 unfold dF
 rw [ho]
 simp only [eS hg]
 cases hb : hgd g fr with
 | none => grind
 | some b =>
  rw [hb] at h
  cases b with
  | false => exact h
  | true =>
   simp only at h ⊢
   unfold dZ
   cases hc : hcallOf o.op with
   | none => grind
   | some p =>
    rw [hc] at h
    simp only at h ⊢
    obtain ⟨h1, h2⟩ := h
    refine ⟨h1, true, ?_⟩
    split at h2
    ·
     rename_i g hg; rw [hg]; exact h2.L
    grind
def hop1L (P : Program) (nid : Nat) (av : List Nat) (g : Option (Nat × Bool)) (o : Op) (d : Option Nat) (K : Fr → Ob → Prop) (fr : Fr) (ob : Ob) : Prop :=
 match hgd g fr with
 | some true => match hcallOf o with
  | some (f, xs) => (∀ x ∈ xs, ev fr x ≠ .junk) ∧ match ev fr f with
   | .c (.fn g) => HCallL P av g (xs.map fun x => (ev fr x).den) ob nid fun v ob' => K (updo fr d v) ob'
   | _ => False
  | none => False
 | some false => K (updo fr d (.tup [])) ob
 | none => False
theorem aK6 {av : List Nat} {K : Fr → Ob → Prop} (ho : ops[i]? = some o) (hg : gd ops o = some g) (h : hop1L P (nx + 4 * i) av g o.op o.dst K fr ob) : dF P ops nx av i K fr ob := by
 unfold hop1L at h
 unfold dF
 rw [ho]
 simp only [eS hg]
 cases hb : hgd g fr with
 | none => grind
 | some b =>
  rw [hb] at h
  cases b with
  | false => exact h
  | true =>
   simp only at h ⊢
   unfold dZ
   cases hc : hcallOf o.op with
   | none => grind
   | some p =>
    rw [hc] at h
    simp only at h ⊢
    obtain ⟨h1, h2⟩ := h
    refine ⟨h1, false, ?_⟩
    split at h2
    ·
     rename_i g hg; rw [hg]; exact h2
    grind
theorem pA {cr rd : List Nat} {l : nH} {C : jS} (ho : ops[i]? = some o) (hg : gd ops o = some g)
  (h : ∀ K : Fr → Ob → Prop, (∀ fr' ob', hwalk2G P ops nx Q l (if isEff o.op = true then C else (i, if hgd g fr = some true then touch o.op (ev fr) else []) :: C) fr' ob' → K fr' ob') →
   hop1L P (nx + 4 * i) (cr.flatMap (ids4 nx) ++ rd.flatMap (getF C)) g o.op o.dst K fr ob) : hwalk2G P ops nx Q ((i, cr, rd) :: l) C fr ob := by grind [hwalk2G, aK6, eS]
theorem uA {l : List Nat} (ho : ops[i]? = some o) (hg : gd ops o = some g) (h : ∀ K : Fr → Ob → Prop, (∀ fr ob, hlexG P ops nx Q l fr ob → K fr ob) → hop1N P (nx + 4 * i) [] g o.op o.dst K fr ob) : hlexG P ops nx Q (i :: l) fr ob := by grind [hlexG, aK5]
theorem bY {l : List Nat} (ho : ops[i]? = some o) (hg : gd ops o = some g) (h : ∀ K : Fr → Ob → Prop, (∀ fr ob, hlexG P ops nx Q l fr ob → K fr ob) → hop1H P (nx + 4 * i) [] g o.op o.dst K fr ob) : hlexG P ops nx Q (i :: l) fr ob := by grind [hlexG, tZ]
theorem eT {cr rd : List Nat} {l : nH} {C : jS} (ho : ops[i]? = some o) (hg : gd ops o = some g)
  (h : ∀ K : Fr → Ob → Prop, (∀ fr' ob', hwalk2G P ops nx Q l (if isEff o.op = true then C else (i, if hgd g fr = some true then touch o.op (ev fr) else []) :: C) fr' ob' → K fr' ob') →
   hop1H P (nx + 4 * i) (cr.flatMap (ids4 nx) ++ rd.flatMap (getF C)) g o.op o.dst K fr ob) : hwalk2G P ops nx Q ((i, cr, rd) :: l) C fr ob := by grind [hwalk2G, tZ, eS]
theorem bI {l : List Nat} (ho : ops[i]? = some o) (hg : gd ops o = some g) (h : ∀ K : Fr → Ob → Prop, (∀ fr ob, hlexG P ops nx Q l fr ob → K fr ob) → hop1 P (nx + 4 * i) [] g o.op o.dst K fr ob) : hlexG P ops nx Q (i :: l) fr ob := by
 simp only [hlexG]
 exact sM (fun _ _ h => h) (oJ ho hg (h _ fun _ _ h => h))
theorem bZ {l : List Nat} (id : Nat) (ho : ops[i]? = some o) (hg : gd ops o = some g) (h : ∀ K : Fr → Ob → Prop, (∀ fr ob, hlexG P ops nx Q l fr ob → K fr ob) → eN P (nx + 4 * i) [] g o.op o.dst id K fr ob) : hlexG P ops nx Q (i :: l) fr ob := by
 simp only [hlexG]
 exact tY ho hg (h _ fun _ _ h => h)
theorem fM {cr rd : List Nat} {l : nH} {C : jS} (ho : ops[i]? = some o) (hg : gd ops o = some g)
  (h : ∀ K : Fr → Ob → Prop, (∀ fr' ob', hwalk2G P ops nx Q l (if isEff o.op = true then C else (i, if hgd g fr = some true then touch o.op (ev fr) else []) :: C) fr' ob' → K fr' ob') →
   hop1 P (nx + 4 * i) (cr.flatMap (ids4 nx) ++ rd.flatMap (getF C)) g o.op o.dst K fr ob) : hwalk2G P ops nx Q ((i, cr, rd) :: l) C fr ob := by
 simp only [hwalk2G]
 refine sM (fun _ _ h => h) (oJ ho hg (h _ fun fr' ob' h => ?_))
 grind [eS]
theorem iT {cr rd : List Nat} {l : nH} {C : jS} (id : Nat) (ho : ops[i]? = some o) (hg : gd ops o = some g)
  (h : ∀ K : Fr → Ob → Prop, (∀ fr' ob', hwalk2G P ops nx Q l (if isEff o.op = true then C else (i, if hgd g fr = some true then touch o.op (ev fr) else []) :: C) fr' ob' → K fr' ob') →
   eN P (nx + 4 * i) (cr.flatMap (ids4 nx) ++ rd.flatMap (getF C)) g o.op o.dst id K fr ob) : hwalk2G P ops nx Q ((i, cr, rd) :: l) C fr ob := by
 simp only [hwalk2G]
 refine tY ho hg (h _ fun fr' ob' h => ?_)
 grind [eS]
end
end Go.Hl

namespace Go.Hl
open Go

mutual
def CV.flatv : CV → Bool
 | .bool _ => true
 | .int _ _ => true
 | .str _ => true
 | .agg l => CV.flatvL l
 | _ => false
def CV.flatvL : List CV → Bool
 | [] => true
 | v :: l => v.flatv && CV.flatvL l
end

theorem aE4 {ob lob : Ob} {σ : List Nat} {nid : Nat} (hn : σ.Nodup) (h1 : ∀ j, j < σ.length → ∃ o, lob j = some o ∧ ob (σ.getD j 0) = some (o.ren (sub σ nid))) (h2 : ∀ j, σ.length ≤ j → lob j = none) (h3 : ∀ i, nid ≤ i → i < nid + 4 → ob i = none) :
  bV ob σ nid lob = ob := by
 funext i
 unfold bV
 split
 ·
  rename_i j hj
  obtain ⟨hjl, hje, _⟩ := List.findIdx?_eq_some_iff_getElem.1 hj
  obtain ⟨o, e1, e2⟩ := h1 j hjl
  have : σ.getD j 0 = i := by rw [List.getD_eq_getElem?_getD, List.getElem?_eq_getElem hjl]; simpa using hje
  rw [e1, ← this, e2]; rfl
 ·
  split
  ·
   rename_i h; rw [h2 _ (by omega), h3 i h.1 h.2]; rfl
  ·
   rfl
def Free4 (ob : Ob) (nid : Nat) : Prop := ob nid = none ∧ ob (nid + 1) = none ∧ ob (nid + 2) = none ∧ ob (nid + 3) = none
theorem Free4.all {ob : Ob} {nid : Nat} (h : Free4 ob nid) : ∀ i, nid ≤ i → i < nid + 4 → ob i = none := fun i h1 h2 => by
 have : i = nid ∨ i = nid + 1 ∨ i = nid + 2 ∨ i = nid + 3 := by omega
 rcases this with rfl | rfl | rfl | rfl
 ·
  exact h.1
 ·
  exact h.2.1
 ·
  exact h.2.2.1
 ·
  exact h.2.2.2

def bL6 (T : TypeId) (v : CV) (R : CV → Prop) : HV → Ob → Prop := fun r ob' => ∃ u v', r = .c u ∧ ob' = fob [(0, .box T (.c v'))] ∧ (v' = v ∧ u.flatv = true ∧ R u)
def cK2 (P : Program) (f : FuncId) (T : TypeId) (v : CV) (args : List CV) (R : CV → Prop) : Prop := HFn P f (args.map HV.c ++ [HV.ptr 0 0]) 1 (fob [(0, .box T (.c v))]) (bL6 T v R)
theorem zJ (T : TypeId) (v : CV) (args : List CV) : LocOk 1 (args.map HV.c ++ [HV.ptr 0 0]) (fob [(0, .box T (.c v))]) := by
 have h := cZ T v []
 exact ⟨h.all, h.none, by rw [HV.menL_append]; exact ⟨HV.menL_c, by simp [HV.menL, HV.men]⟩⟩
theorem aS7 {ob : Ob} {r : HV} {T : TypeId} {R : CV → Prop} {w : HV} (cl : List Nat) (u v : CV) (h : (r.close ob cl).norm = .c u) (hb : ob 0 = some (.box T w)) (hw : (w.close ob cl).norm = .c v) (h0 : 0 ∉ cl) (hu : u.flatv = true) (hR : R u) : mO 1 r ob (bL6 T v R) :=
 fE cl u v h hb hw h0 ⟨rfl, hu, hR⟩
section
variable {P : Program} {av : List Nat} {f g : FuncId} {ob : Ob} {nid id id2 n : Nat} {K : HV → Ob → Prop} {T e : TypeId} {sz : Nat} {v : CV} {l : List CV} {R : CV → Prop}

theorem bL7 {args : List CV} (h : cK2 P f T v args R) (hid : ob id = some (.box T (.c v))) (hav : id ∉ av) (hfree : Free4 ob nid) (hK : ∀ u, R u → K (.c u) ob) : HCall P av f (args.map HV.c ++ [HV.ptr id 0]) ob nid K := by
 have hsub : sub [id] nid 0 = id := rfl
 refine ⟨[id], (args.map HV.c ++ [HV.ptr 0 0] : List HV), fob [(0, .box T (.c v))], bL6 T v R, h, zJ T v args, ⟨by simp, by simpa using hav⟩, ?_, fun j o hj => ?_, fun r lob' hR _ => ?_⟩
 ·
  have : ∀ l1 l2 : List HV, HV.renL (sub [id] nid) (l1 ++ l2) = HV.renL (sub [id] nid) l1 ++ HV.renL (sub [id] nid) l2 := by
   intro l1 l2; induction l1 with
   | nil => rfl
   | cons x l ih => simp only [List.cons_append, HV.renL, ih]
  rw [this, HV.renL_c]; simp only [HV.renL, HV.ren, hsub]
 ·
  simp only [fob_at, fob_nil] at hj
  split at hj
  ·
   rename_i e; subst e; cases hj; simpa [HO.ren, HV.ren] using hid
  ·
   cases hj
 ·
  obtain ⟨u, v', rfl, rfl, rfl, _, hR⟩ := hR
  rw [aE4 (by simp) (fun j hj => ?_) (fun j hj => ?_) hfree.all]
  ·
   exact hK u hR
  ·
   have : j = 0 := by simp at hj; omega
   subst this; exact ⟨_, rfl, by simpa [HO.ren, HV.ren] using hid⟩
  ·
   simp only [List.length_cons, List.length_nil] at hj
   rw [fob_at, if_neg (by omega)]; rfl

end



theorem aK7 {ob : Ob} {nid id : Nat} {o : HO} (hfree : Free4 ob nid) : bV ob [id] nid (fob [(0, o)]) = upd ob id (some (o.ren (sub [id] nid))) := by
 funext i
 by_cases e : i = id
 ·
  subst e
  simp only [bV, aS, List.findIdx?_cons, beq_self_eq_true, if_true, fob_at, Option.map_some]
 ·
  have e' : (id == i) = false := by simp; exact fun h => e h.symm
  simp only [bV, List.findIdx?_cons, e', List.findIdx?_nil, Option.map_none, aX _ _ e]
  simp only [Bool.false_eq_true, if_false]
  split
  ·
   rename_i hr
   have h1 : [id].length + (i - nid) ≠ 0 := by simp
   rw [fob_at, if_neg h1, fob_nil]
   exact (hfree.all i hr.1 hr.2).symm
  ·
   rfl

end Go.Hl

namespace Go.Pl
open Go Go.Hl

theorem Rp.setAll (p : Rp) (x : HV) : CV.setAt 0 97 x p.cv = some x := by
 have := Rp.cells p
 simp only [Rp.cv, CV.cells] at this
 simp only [Rp.cv, CV.setAt, this, and_self, if_true]

end Go.Pl

namespace Go.Hl
open Go Go.RowKit

structure MOk (D : MD) : Prop where
 nd : (D.map (·.1)).Nodup
 th : ∀ p ∈ D, p.2.there = true

section
variable {P : Program} {av : List Nat} {f fi : FuncId} {ob : Ob} {nid id id2 : Nat} {K : HV → Ob → Prop} {T e : TypeId} {sz : Nat} {D : MD}
end

end Go.Hl

namespace Go.Pl
open Go Go.Hl

end Go.Pl

namespace Go.Pl
open Go Go.Hl

section
variable {s r o : Dig} {t : Int} {l : List Rb}
end
end Go.Pl

namespace Go.Pl
open Go Go.Hl

section
variable {s r o : Dig} {t : Int} {l l' : List Rb}
end
section
variable {s r o d : Dig} {t : Int} {m : List Rb} {w : aJ}
end
end Go.Pl

namespace Go.Pl
open Go Go.Hl

abbrev yJ := {l : List UInt8 // l.length = 16}
def hf (h : yJ) : CV := .agg (h.1.map u8)
theorem aT (h : yJ) : (hf h).cells = 16 := by rw [← h.2]; exact us_cells h.1
theorem gV (h : yJ) : (hf h).denil = hf h := by simp only [hf, CV.denil]; rw [cE (f := u8) (fun _ => rfl)]
theorem bL8 (h : yJ) : CV.getAt 0 16 true (hf h) = some (hf h) := by
 have := aT h
 simp_all [hf, CV.cells, CV.getAt, and_self, if_true]
theorem bL9 (h : yJ) (x : HV) : CV.setAt 0 16 x (hf h) = some x := by
 have := aT h
 simp_all [hf, CV.cells, CV.setAt, and_self, if_true]
theorem denilL_dg (l : List Dig) : CV.denilL (l.map dg) = l.map dg := cE dg_denil l
theorem lF {l : List UInt8} : (∀ v ∈ l.map u8, v.cells = 1) ↔ True := by simp [u8, CV.cells]

structure Pk where
 h : Int
 r : yJ
def Pk.cv (x : Pk) : CV := .agg [.int .i64 x.h, hf x.r]
theorem Pk.cells (x : Pk) : x.cv.cells = 17 := by simp [Pk.cv, CV.cells, CV.cellsL, dg_cells, aT]
theorem Pk.denil (x : Pk) : x.cv.denil = x.cv := by simp only [Pk.cv, CV.denil, CV.denilL, dg_denil, gV, denilL_str, denilL_dg]
theorem Pk.isAgg (x : Pk) : x.cv.isAgg = true := rfl
theorem Pk.getAll (x : Pk) : CV.getAt 0 17 true x.cv = some x.cv := by
 have := Pk.cells x
 simp_all [Pk.cv, CV.cells, CV.getAt, and_self, if_true]
theorem Pk.setAll (x : Pk) (y : HV) : CV.setAt 0 17 y x.cv = some y := by
 have := Pk.cells x
 simp_all [Pk.cv, CV.cells, CV.setAt, and_self, if_true]
theorem Pk.fold (h : Int) (r : yJ) : CV.agg [.int .i64 h, hf r] = Pk.cv ⟨h, r⟩ := rfl
theorem Pk.get_r (x : Pk) : CV.getAt 1 16 true x.cv = some (hf x.r) := by simp [Pk.cv, CV.getAt, CV.getAtL, CV.cells, CV.cellsL, dg_cells, aT, bL8]
theorem Pk.set_r (x : Pk) (y : HV) : CV.setAt 1 16 y x.cv = some (.agg [.c (.int .i64 x.h), y]) := by simp [Pk.cv, CV.setAt, CV.setAtL, CV.cells, CV.cellsL, dg_cells, aT, bL9]

structure Ky where
 p : Pk
 o : aJ
 rs : List aJ
 fr : Int
 un : Int
def Ky.cv (x : Ky) : CV := .agg [x.p.cv, .str x.o, .slc (x.rs.map .str), .int .i64 x.fr, .int .i64 x.un]
theorem Ky.cells (x : Ky) : x.cv.cells = 21 := by simp [Ky.cv, CV.cells, CV.cellsL, dg_cells, aT, Pk.cells]
theorem Ky.denil (x : Ky) : x.cv.denil = x.cv := by simp only [Ky.cv, CV.denil, CV.denilL, dg_denil, gV, denilL_str, denilL_dg, Pk.denil]
theorem bD9 (l : List Ky) : CV.denilL (l.map Ky.cv) = l.map Ky.cv := cE Ky.denil l
theorem Ky.isAgg (x : Ky) : x.cv.isAgg = true := rfl
theorem Ky.getAll (x : Ky) : CV.getAt 0 21 true x.cv = some x.cv := by
 have := Ky.cells x
 simp_all [Ky.cv, CV.cells, CV.getAt, and_self, if_true]
theorem Ky.setAll (x : Ky) (y : HV) : CV.setAt 0 21 y x.cv = some y := by
 have := Ky.cells x
 simp_all [Ky.cv, CV.cells, CV.setAt, and_self, if_true]
theorem Ky.fold (p : Pk) (o : aJ) (rs : List aJ) (fr : Int) (un : Int) : CV.agg [p.cv, .str o, .slc (rs.map .str), .int .i64 fr, .int .i64 un] = Ky.cv ⟨p, o, rs, fr, un⟩ := rfl
structure Qt where
 r : aJ
 n : Int
def Qt.cv (x : Qt) : CV := .agg [.str x.r, .int .i64 x.n]
theorem Qt.cells (x : Qt) : x.cv.cells = 2 := by simp [Qt.cv, CV.cells, CV.cellsL, dg_cells, aT]
theorem Qt.denil (x : Qt) : x.cv.denil = x.cv := by simp only [Qt.cv, CV.denil, CV.denilL, dg_denil, gV, denilL_str, denilL_dg]
theorem bE0 (l : List Qt) : CV.denilL (l.map Qt.cv) = l.map Qt.cv := cE Qt.denil l
theorem Qt.isAgg (x : Qt) : x.cv.isAgg = true := rfl
theorem Qt.getAll (x : Qt) : CV.getAt 0 2 true x.cv = some x.cv := by
 have := Qt.cells x
 simp_all [Qt.cv, CV.cells, CV.getAt, and_self, if_true]
theorem Qt.setAll (x : Qt) (y : HV) : CV.setAt 0 2 y x.cv = some y := by
 have := Qt.cells x
 simp_all [Qt.cv, CV.cells, CV.setAt, and_self, if_true]
theorem Qt.fold (r : aJ) (n : Int) : CV.agg [.str r, .int .i64 n] = Qt.cv ⟨r, n⟩ := rfl
theorem Qt.get_r (x : Qt) : CV.getAt 0 1 false x.cv = some (.str x.r) := by simp [Qt.cv, CV.getAt, CV.getAtL, CV.cells, CV.cellsL, dg_cells, aT]
theorem Qt.set_r (x : Qt) (y : HV) : CV.setAt 0 1 y x.cv = some (.agg [y, .c (.int .i64 x.n)]) := by simp [Qt.cv, CV.setAt, CV.setAtL, CV.cells, CV.cellsL, dg_cells, aT]
theorem Qt.get_n (x : Qt) : CV.getAt 1 1 false x.cv = some (.int .i64 x.n) := by simp [Qt.cv, CV.getAt, CV.getAtL, CV.cells, CV.cellsL, dg_cells, aT]
theorem Qt.set_n (x : Qt) (y : HV) : CV.setAt 1 1 y x.cv = some (.agg [.c (.str x.r), y]) := by simp [Qt.cv, CV.setAt, CV.setAtL, CV.cells, CV.cellsL, dg_cells, aT]

structure Rv where
 k : Dig
 t : Int
def Rv.cv (x : Rv) : CV := .agg [dg x.k, .int .i64 x.t]
theorem Rv.cells (x : Rv) : x.cv.cells = 33 := by simp [Rv.cv, CV.cells, CV.cellsL, dg_cells, aT]
theorem Rv.denil (x : Rv) : x.cv.denil = x.cv := by simp only [Rv.cv, CV.denil, CV.denilL, dg_denil, gV, denilL_str, denilL_dg]
theorem bE1 (l : List Rv) : CV.denilL (l.map Rv.cv) = l.map Rv.cv := cE Rv.denil l
theorem Rv.isAgg (x : Rv) : x.cv.isAgg = true := rfl
theorem Rv.getAll (x : Rv) : CV.getAt 0 33 true x.cv = some x.cv := by
 have := Rv.cells x
 simp_all [Rv.cv, CV.cells, CV.getAt, and_self, if_true]
theorem Rv.setAll (x : Rv) (y : HV) : CV.setAt 0 33 y x.cv = some y := by
 have := Rv.cells x
 simp_all [Rv.cv, CV.cells, CV.setAt, and_self, if_true]
theorem Rv.fold (k : Dig) (t : Int) : CV.agg [dg k, .int .i64 t] = Rv.cv ⟨k, t⟩ := rfl
theorem Rv.get_k (x : Rv) : CV.getAt 0 32 true x.cv = some (dg x.k) := by simp [Rv.cv, CV.getAt, CV.getAtL, CV.cells, CV.cellsL, dg_cells, aT, dg_getAt]
theorem Rv.set_k (x : Rv) (y : HV) : CV.setAt 0 32 y x.cv = some (.agg [y, .c (.int .i64 x.t)]) := by simp [Rv.cv, CV.setAt, CV.setAtL, CV.cells, CV.cellsL, dg_cells, aT, dg_setAt]
theorem Rv.get_t (x : Rv) : CV.getAt 32 1 false x.cv = some (.int .i64 x.t) := by simp [Rv.cv, CV.getAt, CV.getAtL, CV.cells, CV.cellsL, dg_cells, aT]
theorem Rv.set_t (x : Rv) (y : HV) : CV.setAt 32 1 y x.cv = some (.agg [.c (dg x.k), y]) := by simp [Rv.cv, CV.setAt, CV.setAtL, CV.cells, CV.cellsL, dg_cells, aT]

structure Rt where
 v : Int
 e : Int
 q : List Qt
 k : List Ky
 x : List Rv
def Rt.cv (x : Rt) : CV := .agg [.int .i64 x.v, .int .i64 x.e, .slc (x.q.map Qt.cv), .slc (x.k.map Ky.cv), .slc (x.x.map Rv.cv)]
theorem Rt.cells (x : Rt) : x.cv.cells = 5 := by simp [Rt.cv, CV.cells, CV.cellsL, dg_cells, aT]
theorem Rt.denil (x : Rt) : x.cv.denil = x.cv := by simp only [Rt.cv, CV.denil, CV.denilL, dg_denil, gV, denilL_str, denilL_dg, bE0, bD9, bE1]
theorem Rt.isAgg (x : Rt) : x.cv.isAgg = true := rfl
theorem Rt.getAll (x : Rt) : CV.getAt 0 5 true x.cv = some x.cv := by
 have := Rt.cells x
 simp_all [Rt.cv, CV.cells, CV.getAt, and_self, if_true]
theorem Rt.setAll (x : Rt) (y : HV) : CV.setAt 0 5 y x.cv = some y := by
 have := Rt.cells x
 simp_all [Rt.cv, CV.cells, CV.setAt, and_self, if_true]
theorem Rt.fold (v : Int) (e : Int) (q : List Qt) (k : List Ky) (x : List Rv) : CV.agg [.int .i64 v, .int .i64 e, .slc (q.map Qt.cv), .slc (k.map Ky.cv), .slc (x.map Rv.cv)] = Rt.cv ⟨v, e, q, k, x⟩ := rfl
theorem Rt.get_v (x : Rt) : CV.getAt 0 1 false x.cv = some (.int .i64 x.v) := by simp [Rt.cv, CV.getAt, CV.getAtL, CV.cells, CV.cellsL, dg_cells, aT]
theorem Rt.set_v (x : Rt) (y : HV) : CV.setAt 0 1 y x.cv = some (.agg [y, .c (.int .i64 x.e), .c (.slc (x.q.map Qt.cv)), .c (.slc (x.k.map Ky.cv)), .c (.slc (x.x.map Rv.cv))]) := by simp [Rt.cv, CV.setAt, CV.setAtL, CV.cells, CV.cellsL, dg_cells, aT]
theorem Rt.get_q (x : Rt) : CV.getAt 2 1 false x.cv = some (.slc (x.q.map Qt.cv)) := by simp [Rt.cv, CV.getAt, CV.getAtL, CV.cells, CV.cellsL, dg_cells, aT]
theorem Rt.set_q (x : Rt) (y : HV) : CV.setAt 2 1 y x.cv = some (.agg [.c (.int .i64 x.v), .c (.int .i64 x.e), y, .c (.slc (x.k.map Ky.cv)), .c (.slc (x.x.map Rv.cv))]) := by simp [Rt.cv, CV.setAt, CV.setAtL, CV.cells, CV.cellsL, dg_cells, aT]
theorem Rt.get_k (x : Rt) : CV.getAt 3 1 false x.cv = some (.slc (x.k.map Ky.cv)) := by simp [Rt.cv, CV.getAt, CV.getAtL, CV.cells, CV.cellsL, dg_cells, aT]
theorem Rt.set_k (x : Rt) (y : HV) : CV.setAt 3 1 y x.cv = some (.agg [.c (.int .i64 x.v), .c (.int .i64 x.e), .c (.slc (x.q.map Qt.cv)), y, .c (.slc (x.x.map Rv.cv))]) := by simp [Rt.cv, CV.setAt, CV.setAtL, CV.cells, CV.cellsL, dg_cells, aT]
def qK : Int := 1099511627776
def al (c : UInt8) : Bool := (decide (97 ≤ c) && decide (c ≤ 122)) || (decide (48 ≤ c) && decide (c ≤ 57))
def nc (c : UInt8) : Bool := al c || (c == 46 || (c == 95 || c == 45))
def cW : aJ → Bool
 | [] => false
 | c :: r => decide ((c :: r).length ≤ 64) && (al c && r.all nc)
def inN (t : Int) : Bool := decide (0 ≤ t) && decide (t ≤ qK)
end Go.Pl

namespace Go.Proofs
namespace YtlldglbooaefhaaGreatDoor
open Go Go.Hl Go.Pl

theorem ty1 : aO Tryz.prog 1 = some ⟨1, 8, .func, .nilf⟩ := by kernel_rfl
theorem ty2 : aO Tryz.prog 2 = some ⟨1, 8, .int .i64, .int .i64 0⟩ := by kernel_rfl
theorem ty3 : aO Tryz.prog 3 = some ⟨1, 8, .int .i64, .int .i64 0⟩ := by kernel_rfl
theorem ty4 : aO Tryz.prog 4 = some ⟨1, 1, .bool, .bool false⟩ := by kernel_rfl
theorem ty5 : aO Tryz.prog 5 = some ⟨1, 1, .int .u8, .int .u8 0⟩ := by kernel_rfl
theorem ty6 : aO Tryz.prog 6 = some ⟨1, 1, .int .u8, .int .u8 0⟩ := by kernel_rfl
theorem ty7 : aO Tryz.prog 7 = some ⟨4, 24, .struct [(0, 2), (1, 3), (2, 4), (3, 6)], .agg [.int .i64 0, .int .i64 0, .bool false, .int .u8 0]⟩ := by kernel_rfl
theorem ty8 : aO Tryz.prog 8 = some ⟨4, 24, .struct [(0, 2), (1, 3), (2, 4), (3, 6)], .agg [.int .i64 0, .int .i64 0, .bool false, .int .u8 0]⟩ := by kernel_rfl
theorem ty9 : aO Tryz.prog 9 = some ⟨1, 16, .string, .str []⟩ := by kernel_rfl
theorem ty10 : aO Tryz.prog 10 = some ⟨1, 16, .string, .str []⟩ := by kernel_rfl
theorem ty11 : aO Tryz.prog 11 = some ⟨1, 16, .string, .str []⟩ := by kernel_rfl
theorem ty12 : aO Tryz.prog 12 = some ⟨1, 8, .int .u64, .int .u64 0⟩ := by kernel_rfl
theorem ty13 : aO Tryz.prog 13 = some ⟨2, 24, .struct [(0, 9), (1, 12)], .agg [.str [], .int .u64 0]⟩ := by kernel_rfl
theorem ty14 : aO Tryz.prog 14 = some ⟨2, 24, .struct [(0, 9), (1, 12)], .agg [.str [], .int .u64 0]⟩ := by kernel_rfl
theorem ty15 : aO Tryz.prog 15 = some ⟨1, 8, .pointer 188, .nilp⟩ := by kernel_rfl
theorem ty16 : aO Tryz.prog 16 = some ⟨1, 8, .pointer 191, .nilp⟩ := by kernel_rfl
theorem ty17 : aO Tryz.prog 17 = some ⟨1, 8, .pointer 200, .nilp⟩ := by kernel_rfl
theorem ty18 : aO Tryz.prog 18 = some ⟨1, 8, .struct [(0, 17)], .agg [.nilp]⟩ := by kernel_rfl
theorem ty19 : aO Tryz.prog 19 = some ⟨1, 8, .struct [(0, 17)], .agg [.nilp]⟩ := by kernel_rfl
theorem ty20 : aO Tryz.prog 20 = some ⟨1, 16, .iface true, .nili⟩ := by kernel_rfl
theorem ty21 : aO Tryz.prog 21 = some ⟨1, 4, .int .i32, .int .i32 0⟩ := by kernel_rfl
theorem ty22 : aO Tryz.prog 22 = some ⟨1, 24, .slice 40, .nils⟩ := by kernel_rfl
theorem ty23 : aO Tryz.prog 23 = some ⟨1, 24, .slice 3, .nils⟩ := by kernel_rfl
theorem ty24 : aO Tryz.prog 24 = some ⟨1, 24, .slice 4, .nils⟩ := by kernel_rfl
theorem ty25 : aO Tryz.prog 25 = some ⟨1, 8, .func, .nilf⟩ := by kernel_rfl
theorem ty26 : aO Tryz.prog 26 = some ⟨1, 8, .func, .nilf⟩ := by kernel_rfl
theorem ty27 : aO Tryz.prog 27 = some ⟨1, 8, .func, .nilf⟩ := by kernel_rfl
theorem ty28 : aO Tryz.prog 28 = some ⟨1, 8, .func, .nilf⟩ := by kernel_rfl
theorem ty29 : aO Tryz.prog 29 = some ⟨1, 8, .func, .nilf⟩ := by kernel_rfl
theorem ty30 : aO Tryz.prog 30 = some ⟨1, 8, .func, .nilf⟩ := by kernel_rfl
theorem ty31 : aO Tryz.prog 31 = some ⟨1, 8, .func, .nilf⟩ := by kernel_rfl
theorem ty32 : aO Tryz.prog 32 = some ⟨1, 8, .func, .nilf⟩ := by kernel_rfl
theorem ty33 : aO Tryz.prog 33 = some ⟨1, 8, .func, .nilf⟩ := by kernel_rfl
theorem ty34 : aO Tryz.prog 34 = some ⟨1, 8, .pointer 83, .nilp⟩ := by kernel_rfl
theorem ty35 : aO Tryz.prog 35 = some ⟨1, 8, .func, .nilf⟩ := by kernel_rfl
theorem ty36 : aO Tryz.prog 36 = some ⟨1, 8, .func, .nilf⟩ := by kernel_rfl
theorem ty37 : aO Tryz.prog 37 = some ⟨4, 40, .struct [(0, 3), (1, 2), (2, 2), (3, 9)], .agg [.int .i64 0, .int .i64 0, .int .i64 0, .str []]⟩ := by kernel_rfl
theorem ty38 : aO Tryz.prog 38 = some ⟨4, 40, .struct [(0, 3), (1, 2), (2, 2), (3, 9)], .agg [.int .i64 0, .int .i64 0, .int .i64 0, .str []]⟩ := by kernel_rfl
theorem ty39 : aO Tryz.prog 39 = some ⟨7, 64, .struct [(0, 3), (1, 3), (2, 3), (3, 38)], .agg [.int .i64 0, .int .i64 0, .int .i64 0, .agg [.int .i64 0, .int .i64 0, .int .i64 0, .str []]]⟩ := by kernel_rfl
theorem ty40 : aO Tryz.prog 40 = some ⟨7, 64, .struct [(0, 3), (1, 3), (2, 3), (3, 38)], .agg [.int .i64 0, .int .i64 0, .int .i64 0, .agg [.int .i64 0, .int .i64 0, .int .i64 0, .str []]]⟩ := by kernel_rfl
theorem ty41 : aO Tryz.prog 41 = some ⟨1, 8, .int .u64, .int .u64 0⟩ := by kernel_rfl
theorem ty42 : aO Tryz.prog 42 = some ⟨1, 8, .func, .nilf⟩ := by kernel_rfl
theorem ty43 : aO Tryz.prog 43 = some ⟨1, 24, .slice 54, .nils⟩ := by kernel_rfl
theorem ty44 : aO Tryz.prog 44 = some ⟨3, 48, .struct [(0, 9), (1, 2), (2, 43)], .agg [.str [], .int .i64 0, .nils]⟩ := by kernel_rfl
theorem ty45 : aO Tryz.prog 45 = some ⟨3, 48, .struct [(0, 9), (1, 2), (2, 43)], .agg [.str [], .int .i64 0, .nils]⟩ := by kernel_rfl
theorem ty46 : aO Tryz.prog 46 = some ⟨1, 8, .func, .nilf⟩ := by kernel_rfl
theorem ty47 : aO Tryz.prog 47 = some ⟨1, 24, .slice 5, .nils⟩ := by kernel_rfl
theorem ty48 : aO Tryz.prog 48 = some ⟨1, 8, .int .i64, .int .i64 0⟩ := by kernel_rfl
theorem ty50 : aO Tryz.prog 50 = some ⟨1, 8, .func, .nilf⟩ := by kernel_rfl
theorem ty51 : aO Tryz.prog 51 = some ⟨1, 8, .func, .nilf⟩ := by kernel_rfl
theorem ty52 : aO Tryz.prog 52 = some ⟨1, 8, .pointer 54, .nilp⟩ := by kernel_rfl
theorem ty53 : aO Tryz.prog 53 = some ⟨5, 80, .struct [(0, 9), (1, 9), (2, 9), (3, 2), (4, 22)], .agg [.str [], .str [], .str [], .int .i64 0, .nils]⟩ := by kernel_rfl
theorem ty54 : aO Tryz.prog 54 = some ⟨5, 80, .struct [(0, 9), (1, 9), (2, 9), (3, 2), (4, 22)], .agg [.str [], .str [], .str [], .int .i64 0, .nils]⟩ := by kernel_rfl
theorem ty55 : aO Tryz.prog 55 = some ⟨1, 8, .func, .nilf⟩ := by kernel_rfl
theorem ty57 : aO Tryz.prog 57 = some ⟨1, 8, .func, .nilf⟩ := by kernel_rfl
theorem ty58 : aO Tryz.prog 58 = some ⟨1, 8, .func, .nilf⟩ := by kernel_rfl
theorem ty59 : aO Tryz.prog 59 = some ⟨1, 8, .func, .nilf⟩ := by kernel_rfl
theorem ty60 : aO Tryz.prog 60 = some ⟨1, 24, .slice 9, .nils⟩ := by kernel_rfl
theorem ty61 : aO Tryz.prog 61 = some ⟨1, 8, .func, .nilf⟩ := by kernel_rfl
theorem ty62 : aO Tryz.prog 62 = some ⟨1, 24, .slice 60, .nils⟩ := by kernel_rfl
theorem ty63 : aO Tryz.prog 63 = some ⟨1, 8, .func, .nilf⟩ := by kernel_rfl
theorem ty64 : aO Tryz.prog 64 = some ⟨1, 8, .func, .nilf⟩ := by kernel_rfl
theorem ty65 : aO Tryz.prog 65 = some ⟨1, 8, .func, .nilf⟩ := by kernel_rfl
theorem ty67 : aO Tryz.prog 67 = some ⟨1, 8, .func, .nilf⟩ := by kernel_rfl
theorem ty68 : aO Tryz.prog 68 = some ⟨1, 8, .func, .nilf⟩ := by kernel_rfl
theorem ty69 : aO Tryz.prog 69 = some ⟨1, 8, .func, .nilf⟩ := by kernel_rfl
theorem ty70 : aO Tryz.prog 70 = some ⟨1, 8, .func, .nilf⟩ := by kernel_rfl
theorem ty71 : aO Tryz.prog 71 = some ⟨1, 8, .func, .nilf⟩ := by kernel_rfl
theorem ty72 : aO Tryz.prog 72 = some ⟨1, 8, .func, .nilf⟩ := by kernel_rfl
theorem ty73 : aO Tryz.prog 73 = some ⟨1, 8, .func, .nilf⟩ := by kernel_rfl
theorem ty74 : aO Tryz.prog 74 = some ⟨1, 8, .func, .nilf⟩ := by kernel_rfl
theorem ty75 : aO Tryz.prog 75 = some ⟨1, 8, .func, .nilf⟩ := by kernel_rfl
theorem ty76 : aO Tryz.prog 76 = some ⟨1, 8, .func, .nilf⟩ := by kernel_rfl
theorem ty77 : aO Tryz.prog 77 = some ⟨1, 8, .func, .nilf⟩ := by kernel_rfl
theorem ty78 : aO Tryz.prog 78 = some ⟨1, 8, .func, .nilf⟩ := by kernel_rfl
theorem ty79 : aO Tryz.prog 79 = some ⟨1, 8, .func, .nilf⟩ := by kernel_rfl
theorem ty80 : aO Tryz.prog 80 = some ⟨1, 8, .func, .nilf⟩ := by kernel_rfl
theorem ty81 : aO Tryz.prog 81 = some ⟨1, 8, .func, .nilf⟩ := by kernel_rfl
theorem ty82 : aO Tryz.prog 82 = some ⟨2, 32, .struct [(0, 23), (1, 3)], .agg [.nils, .int .i64 0]⟩ := by kernel_rfl
theorem ty83 : aO Tryz.prog 83 = some ⟨2, 32, .struct [(0, 23), (1, 3)], .agg [.nils, .int .i64 0]⟩ := by kernel_rfl
theorem ty84 : aO Tryz.prog 84 = some ⟨1, 8, .func, .nilf⟩ := by kernel_rfl
theorem ty86 : aO Tryz.prog 86 = some ⟨1, 8, .func, .nilf⟩ := by kernel_rfl
theorem ty87 : aO Tryz.prog 87 = some ⟨1, 8, .func, .nilf⟩ := by kernel_rfl
theorem ty88 : aO Tryz.prog 88 = some ⟨1, 8, .func, .nilf⟩ := by kernel_rfl
theorem ty89 : aO Tryz.prog 89 = some ⟨1, 8, .func, .nilf⟩ := by kernel_rfl
theorem ty90 : aO Tryz.prog 90 = some ⟨1, 8, .map 9 4, .nilm⟩ := by kernel_rfl
theorem ty91 : aO Tryz.prog 91 = some ⟨1, 8, .func, .nilf⟩ := by kernel_rfl
theorem ty92 : aO Tryz.prog 92 = some ⟨1, 8, .pointer 94, .nilp⟩ := by kernel_rfl
theorem ty93 : aO Tryz.prog 93 = some ⟨2, 32, .struct [(0, 62), (1, 3)], .agg [.nils, .int .i64 0]⟩ := by kernel_rfl
theorem ty94 : aO Tryz.prog 94 = some ⟨2, 32, .struct [(0, 62), (1, 3)], .agg [.nils, .int .i64 0]⟩ := by kernel_rfl
theorem ty96 : aO Tryz.prog 96 = some ⟨1, 8, .func, .nilf⟩ := by kernel_rfl
theorem ty97 : aO Tryz.prog 97 = some ⟨1, 8, .func, .nilf⟩ := by kernel_rfl
theorem ty98 : aO Tryz.prog 98 = some ⟨1, 8, .pointer 100, .nilp⟩ := by kernel_rfl
theorem ty99 : aO Tryz.prog 99 = some ⟨5, 80, .struct [(0, 45), (3, 23), (4, 4)], .agg [.agg [.str [], .int .i64 0, .nils], .nils, .bool false]⟩ := by kernel_rfl
theorem ty100 : aO Tryz.prog 100 = some ⟨5, 80, .struct [(0, 45), (3, 23), (4, 4)], .agg [.agg [.str [], .int .i64 0, .nils], .nils, .bool false]⟩ := by kernel_rfl
theorem ty101 : aO Tryz.prog 101 = some ⟨1, 8, .func, .nilf⟩ := by kernel_rfl
theorem ty102 : aO Tryz.prog 102 = some ⟨1, 8, .func, .nilf⟩ := by kernel_rfl
theorem ty103 : aO Tryz.prog 103 = some ⟨1, 8, .func, .nilf⟩ := by kernel_rfl
theorem ty104 : aO Tryz.prog 104 = some ⟨1, 8, .func, .nilf⟩ := by kernel_rfl
theorem ty106 : aO Tryz.prog 106 = some ⟨1, 8, .func, .nilf⟩ := by kernel_rfl
theorem ty107 : aO Tryz.prog 107 = some ⟨1, 8, .func, .nilf⟩ := by kernel_rfl
theorem ty108 : aO Tryz.prog 108 = some ⟨1, 8, .func, .nilf⟩ := by kernel_rfl
theorem ty109 : aO Tryz.prog 109 = some ⟨1, 8, .func, .nilf⟩ := by kernel_rfl
theorem ty110 : aO Tryz.prog 110 = some ⟨1, 8, .func, .nilf⟩ := by kernel_rfl
theorem ty111 : aO Tryz.prog 111 = some ⟨1, 8, .func, .nilf⟩ := by kernel_rfl
theorem ty112 : aO Tryz.prog 112 = some ⟨1, 8, .func, .nilf⟩ := by kernel_rfl
theorem ty113 : aO Tryz.prog 113 = some ⟨1, 8, .func, .nilf⟩ := by kernel_rfl
theorem ty114 : aO Tryz.prog 114 = some ⟨1, 8, .func, .nilf⟩ := by kernel_rfl
theorem ty115 : aO Tryz.prog 115 = some ⟨1, 8, .func, .nilf⟩ := by kernel_rfl
theorem ty116 : aO Tryz.prog 116 = some ⟨1, 8, .int .u64, .int .u64 0⟩ := by kernel_rfl
theorem ty117 : aO Tryz.prog 117 = some ⟨1, 24, .slice 140, .nils⟩ := by kernel_rfl
theorem ty119 : aO Tryz.prog 119 = some ⟨1, 8, .func, .nilf⟩ := by kernel_rfl
theorem ty120 : aO Tryz.prog 120 = some ⟨1, 24, .slice 143, .nils⟩ := by kernel_rfl
theorem ty122 : aO Tryz.prog 122 = some ⟨1, 8, .func, .nilf⟩ := by kernel_rfl
theorem ty124 : aO Tryz.prog 124 = some ⟨1, 8, .func, .nilf⟩ := by kernel_rfl
theorem ty125 : aO Tryz.prog 125 = some ⟨1, 8, .func, .nilf⟩ := by kernel_rfl
theorem ty126 : aO Tryz.prog 126 = some ⟨1, 8, .func, .nilf⟩ := by kernel_rfl
theorem ty127 : aO Tryz.prog 127 = some ⟨1, 8, .func, .nilf⟩ := by kernel_rfl
theorem ty128 : aO Tryz.prog 128 = some ⟨1, 8, .func, .nilf⟩ := by kernel_rfl
theorem ty130 : aO Tryz.prog 130 = some ⟨1, 8, .func, .nilf⟩ := by kernel_rfl
theorem ty132 : aO Tryz.prog 132 = some ⟨1, 8, .func, .nilf⟩ := by kernel_rfl
theorem ty133 : aO Tryz.prog 133 = some ⟨1, 8, .func, .nilf⟩ := by kernel_rfl
theorem ty135 : aO Tryz.prog 135 = some ⟨1, 8, .func, .nilf⟩ := by kernel_rfl
theorem ty136 : aO Tryz.prog 136 = some ⟨1, 8, .func, .nilf⟩ := by kernel_rfl
theorem ty137 : aO Tryz.prog 137 = some ⟨1, 8, .func, .nilf⟩ := by kernel_rfl
theorem ty138 : aO Tryz.prog 138 = some ⟨1, 8, .func, .nilf⟩ := by kernel_rfl
theorem ty139 : aO Tryz.prog 139 = some ⟨2, 16, .struct [(0, 3), (1, 5)], .agg [.int .i64 0, .int .u8 0]⟩ := by kernel_rfl
theorem ty140 : aO Tryz.prog 140 = some ⟨2, 16, .struct [(0, 3), (1, 5)], .agg [.int .i64 0, .int .u8 0]⟩ := by kernel_rfl
theorem ty141 : aO Tryz.prog 141 = some ⟨1, 8, .func, .nilf⟩ := by kernel_rfl
theorem ty142 : aO Tryz.prog 142 = some ⟨2, 16, .struct [(0, 3), (1, 5)], .agg [.int .i64 0, .int .u8 0]⟩ := by kernel_rfl
theorem ty143 : aO Tryz.prog 143 = some ⟨2, 16, .struct [(0, 3), (1, 5)], .agg [.int .i64 0, .int .u8 0]⟩ := by kernel_rfl
theorem ty144 : aO Tryz.prog 144 = some ⟨1, 8, .func, .nilf⟩ := by kernel_rfl
theorem ty145 : aO Tryz.prog 145 = some ⟨1, 8, .func, .nilf⟩ := by kernel_rfl
theorem ty146 : aO Tryz.prog 146 = some ⟨1, 8, .func, .nilf⟩ := by kernel_rfl
theorem ty147 : aO Tryz.prog 147 = some ⟨1, 8, .func, .nilf⟩ := by kernel_rfl
theorem ty149 : aO Tryz.prog 149 = some ⟨1, 8, .func, .nilf⟩ := by kernel_rfl
theorem ty150 : aO Tryz.prog 150 = some ⟨1, 8, .func, .nilf⟩ := by kernel_rfl
theorem ty151 : aO Tryz.prog 151 = some ⟨1, 8, .func, .nilf⟩ := by kernel_rfl
theorem ty153 : aO Tryz.prog 153 = some ⟨1, 8, .func, .nilf⟩ := by kernel_rfl
theorem ty154 : aO Tryz.prog 154 = some ⟨1, 8, .func, .nilf⟩ := by kernel_rfl
theorem ty155 : aO Tryz.prog 155 = some ⟨24, 24, .array 24 5, .agg [.int .u8 0, .int .u8 0, .int .u8 0, .int .u8 0, .int .u8 0, .int .u8 0, .int .u8 0, .int .u8 0, .int .u8 0, .int .u8 0, .int .u8 0, .int .u8 0, .int .u8 0, .int .u8 0, .int .u8 0, .int .u8 0, .int .u8 0, .int .u8 0, .int .u8 0, .int .u8 0, .int .u8 0, .int .u8 0, .int .u8 0, .int .u8 0]⟩ := by kernel_rfl
theorem ty156 : aO Tryz.prog 156 = some ⟨1, 8, .func, .nilf⟩ := by kernel_rfl
theorem ty157 : aO Tryz.prog 157 = some ⟨1, 8, .func, .nilf⟩ := by kernel_rfl
theorem ty159 : aO Tryz.prog 159 = some ⟨1, 8, .func, .nilf⟩ := by kernel_rfl
theorem ty160 : aO Tryz.prog 160 = some ⟨1, 8, .func, .nilf⟩ := by kernel_rfl
theorem ty162 : aO Tryz.prog 162 = some ⟨1, 8, .func, .nilf⟩ := by kernel_rfl
theorem ty164 : aO Tryz.prog 164 = some ⟨1, 8, .func, .nilf⟩ := by kernel_rfl
theorem ty165 : aO Tryz.prog 165 = some ⟨1, 8, .func, .nilf⟩ := by kernel_rfl
theorem ty166 : aO Tryz.prog 166 = some ⟨1, 8, .func, .nilf⟩ := by kernel_rfl
theorem ty167 : aO Tryz.prog 167 = some ⟨1, 8, .func, .nilf⟩ := by kernel_rfl
theorem ty168 : aO Tryz.prog 168 = some ⟨1, 8, .func, .nilf⟩ := by kernel_rfl
theorem ty169 : aO Tryz.prog 169 = some ⟨20, 160, .array 20 116, .agg [.int .u64 0, .int .u64 0, .int .u64 0, .int .u64 0, .int .u64 0, .int .u64 0, .int .u64 0, .int .u64 0, .int .u64 0, .int .u64 0, .int .u64 0, .int .u64 0, .int .u64 0, .int .u64 0, .int .u64 0, .int .u64 0, .int .u64 0, .int .u64 0, .int .u64 0, .int .u64 0]⟩ := by kernel_rfl
theorem ty170 : aO Tryz.prog 170 = some ⟨1, 4, .int .u32, .int .u32 0⟩ := by kernel_rfl
theorem ty171 : aO Tryz.prog 171 = some ⟨65, 65, .array 65 5, .agg [.int .u8 0, .int .u8 0, .int .u8 0, .int .u8 0, .int .u8 0, .int .u8 0, .int .u8 0, .int .u8 0, .int .u8 0, .int .u8 0, .int .u8 0, .int .u8 0, .int .u8 0, .int .u8 0, .int .u8 0, .int .u8 0, .int .u8 0, .int .u8 0, .int .u8 0, .int .u8 0, .int .u8 0, .int .u8 0, .int .u8 0, .int .u8 0, .int .u8 0, .int .u8 0, .int .u8 0, .int .u8 0, .int .u8 0, .int .u8 0, .int .u8 0, .int .u8 0, .int .u8 0, .int .u8 0, .int .u8 0, .int .u8 0, .int .u8 0, .int .u8 0, .int .u8 0, .int .u8 0, .int .u8 0, .int .u8 0, .int .u8 0, .int .u8 0, .int .u8 0, .int .u8 0, .int .u8 0, .int .u8 0, .int .u8 0, .int .u8 0, .int .u8 0, .int .u8 0, .int .u8 0, .int .u8 0, .int .u8 0, .int .u8 0, .int .u8 0, .int .u8 0, .int .u8 0, .int .u8 0, .int .u8 0, .int .u8 0, .int .u8 0, .int .u8 0, .int .u8 0]⟩ := by kernel_rfl
theorem ty172 : aO Tryz.prog 172 = some ⟨1, 8, .func, .nilf⟩ := by kernel_rfl
theorem ty173 : aO Tryz.prog 173 = some ⟨1, 8, .func, .nilf⟩ := by kernel_rfl
theorem ty175 : aO Tryz.prog 175 = some ⟨1, 8, .func, .nilf⟩ := by kernel_rfl
theorem ty176 : aO Tryz.prog 176 = some ⟨1, 8, .pointer 2, .nilp⟩ := by kernel_rfl
theorem ty177 : aO Tryz.prog 177 = some ⟨1, 24, .slice 176, .nils⟩ := by kernel_rfl
theorem ty178 : aO Tryz.prog 178 = some ⟨1, 8, .func, .nilf⟩ := by kernel_rfl
theorem ty180 : aO Tryz.prog 180 = some ⟨2, 2, .struct [(0, 5), (1, 5)], .agg [.int .u8 0, .int .u8 0]⟩ := by kernel_rfl
theorem ty181 : aO Tryz.prog 181 = some ⟨2, 2, .struct [(0, 5), (1, 5)], .agg [.int .u8 0, .int .u8 0]⟩ := by kernel_rfl
theorem ty182 : aO Tryz.prog 182 = some ⟨32, 32, .array 16 181, .agg [.agg [.int .u8 0, .int .u8 0], .agg [.int .u8 0, .int .u8 0], .agg [.int .u8 0, .int .u8 0], .agg [.int .u8 0, .int .u8 0], .agg [.int .u8 0, .int .u8 0], .agg [.int .u8 0, .int .u8 0], .agg [.int .u8 0, .int .u8 0], .agg [.int .u8 0, .int .u8 0], .agg [.int .u8 0, .int .u8 0], .agg [.int .u8 0, .int .u8 0], .agg [.int .u8 0, .int .u8 0], .agg [.int .u8 0, .int .u8 0], .agg [.int .u8 0, .int .u8 0], .agg [.int .u8 0, .int .u8 0], .agg [.int .u8 0, .int .u8 0], .agg [.int .u8 0, .int .u8 0]]⟩ := by kernel_rfl
theorem ty183 : aO Tryz.prog 183 = some ⟨1, 8, .func, .nilf⟩ := by kernel_rfl
theorem ty184 : aO Tryz.prog 184 = some ⟨32, 32, .array 32 5, zd⟩ := by kernel_rfl
theorem ty185 : aO Tryz.prog 185 = some ⟨64, 64, .array 64 5, us (uz 64)⟩ := by kernel_rfl
theorem ty186 : aO Tryz.prog 186 = some ⟨1, 8, .func, .nilf⟩ := by kernel_rfl
theorem ty187 : aO Tryz.prog 187 = some ⟨4, 40, .struct [(0, 17), (1, 17), (2, 17), (3, 9)], .agg [.nilp, .nilp, .nilp, .str []]⟩ := by kernel_rfl
theorem ty188 : aO Tryz.prog 188 = some ⟨4, 40, .struct [(0, 17), (1, 17), (2, 17), (3, 9)], .agg [.nilp, .nilp, .nilp, .str []]⟩ := by kernel_rfl
theorem ty192 : aO Tryz.prog 192 = some ⟨1, 8, .func, .nilf⟩ := by kernel_rfl
theorem ty193 : aO Tryz.prog 193 = some ⟨1, 1, .int .u8, .int .u8 0⟩ := by kernel_rfl
theorem ty194 : aO Tryz.prog 194 = some ⟨1, 1, .int .u8, .int .u8 0⟩ := by kernel_rfl
theorem ty195 : aO Tryz.prog 195 = some ⟨1, 8, .func, .nilf⟩ := by kernel_rfl
theorem ty196 : aO Tryz.prog 196 = some ⟨1, 8, .pointer 5, .nilp⟩ := by kernel_rfl
theorem ty197 : aO Tryz.prog 197 = some ⟨1, 4, .int .i32, .int .i32 0⟩ := by kernel_rfl
theorem ty198 : aO Tryz.prog 198 = some ⟨1, 4, .int .i32, .int .i32 0⟩ := by kernel_rfl
theorem ty199 : aO Tryz.prog 199 = some ⟨11, 48, .struct [(0, 12), (1, 12), (2, 170), (3, 193), (4, 5), (5, 5), (6, 194), (7, 195), (8, 196), (9, 197), (10, 198)], .agg [.int .u64 0, .int .u64 0, .int .u32 0, .int .u8 0, .int .u8 0, .int .u8 0, .int .u8 0, .nilf, .nilp, .int .i32 0, .int .i32 0]⟩ := by kernel_rfl
theorem ty200 : aO Tryz.prog 200 = some ⟨11, 48, .struct [(0, 12), (1, 12), (2, 170), (3, 193), (4, 5), (5, 5), (6, 194), (7, 195), (8, 196), (9, 197), (10, 198)], .agg [.int .u64 0, .int .u64 0, .int .u32 0, .int .u8 0, .int .u8 0, .int .u8 0, .int .u8 0, .nilf, .nilp, .int .i32 0, .int .i32 0]⟩ := by kernel_rfl
theorem eqdg184 (x y : Dig) (K : CV → Prop) : kG Tryz.prog .eql 184 (.c (dg x)) (.c (dg y)) K = K (.bool (x == y)) := (aX7 (by kernel_rfl) ty184 ty5 (by kernel_rfl) x y K).1
theorem nedg184 (x y : Dig) (K : CV → Prop) : kG Tryz.prog .neq 184 (.c (dg x)) (.c (dg y)) K = K (.bool (!(x == y))) := (aX7 (by kernel_rfl) ty184 ty5 (by kernel_rfl) x y K).2
theorem mixed : Tryz.prog.follows .mixedOrders = true := by kernel_rfl
end YtlldglbooaefhaaGreatDoor
end Go.Proofs

namespace Go.Pl
open Go Go.Hl

structure Rq where
 k : Int
 n : Int
 m : Int
 t : aJ
def Rq.cv (x : Rq) : CV := .agg [.int .i64 x.k, .int .i64 x.n, .int .i64 x.m, .str x.t]
theorem Rq.cells (x : Rq) : x.cv.cells = 4 := by simp [Rq.cv, CV.cells, CV.cellsL, dg_cells, aT]
theorem Rq.denil (x : Rq) : x.cv.denil = x.cv := by simp only [Rq.cv, CV.denil, CV.denilL, dg_denil, gV, denilL_str, denilL_dg]
theorem denilL_Rq (l : List Rq) : CV.denilL (l.map Rq.cv) = l.map Rq.cv := cE Rq.denil l
theorem Rq.isAgg (x : Rq) : x.cv.isAgg = true := rfl
theorem Rq.getAll (x : Rq) : CV.getAt 0 4 true x.cv = some x.cv := by
 have := Rq.cells x
 simp_all [Rq.cv, CV.cells, CV.getAt, and_self, if_true]
theorem Rq.setAll (x : Rq) (y : HV) : CV.setAt 0 4 y x.cv = some y := by
 have := Rq.cells x
 simp_all [Rq.cv, CV.cells, CV.setAt, and_self, if_true]
theorem Rq.fold (k : Int) (n : Int) (m : Int) (t : aJ) : CV.agg [.int .i64 k, .int .i64 n, .int .i64 m, .str t] = Rq.cv ⟨k, n, m, t⟩ := rfl
theorem Rq.get_k (x : Rq) : CV.getAt 0 1 false x.cv = some (.int .i64 x.k) := by simp [Rq.cv, CV.getAt, CV.getAtL, CV.cells, CV.cellsL, dg_cells, aT]
theorem Rq.set_k (x : Rq) (y : HV) : CV.setAt 0 1 y x.cv = some (.agg [y, .c (.int .i64 x.n), .c (.int .i64 x.m), .c (.str x.t)]) := by simp [Rq.cv, CV.setAt, CV.setAtL, CV.cells, CV.cellsL, dg_cells, aT]
theorem Rq.get_n (x : Rq) : CV.getAt 1 1 false x.cv = some (.int .i64 x.n) := by simp [Rq.cv, CV.getAt, CV.getAtL, CV.cells, CV.cellsL, dg_cells, aT]
theorem Rq.set_n (x : Rq) (y : HV) : CV.setAt 1 1 y x.cv = some (.agg [.c (.int .i64 x.k), y, .c (.int .i64 x.m), .c (.str x.t)]) := by simp [Rq.cv, CV.setAt, CV.setAtL, CV.cells, CV.cellsL, dg_cells, aT]
theorem Rq.get_m (x : Rq) : CV.getAt 2 1 false x.cv = some (.int .i64 x.m) := by simp [Rq.cv, CV.getAt, CV.getAtL, CV.cells, CV.cellsL, dg_cells, aT]
theorem Rq.set_m (x : Rq) (y : HV) : CV.setAt 2 1 y x.cv = some (.agg [.c (.int .i64 x.k), .c (.int .i64 x.n), y, .c (.str x.t)]) := by simp [Rq.cv, CV.setAt, CV.setAtL, CV.cells, CV.cellsL, dg_cells, aT]
theorem Rq.get_t (x : Rq) : CV.getAt 3 1 false x.cv = some (.str x.t) := by simp [Rq.cv, CV.getAt, CV.getAtL, CV.cells, CV.cellsL, dg_cells, aT]
theorem Rq.set_t (x : Rq) (y : HV) : CV.setAt 3 1 y x.cv = some (.agg [.c (.int .i64 x.k), .c (.int .i64 x.n), .c (.int .i64 x.m), y]) := by simp [Rq.cv, CV.setAt, CV.setAtL, CV.cells, CV.cellsL, dg_cells, aT]

structure Nd where
 k : Int
 n : Int
 c : Int
 q : Rq
def Nd.cv (x : Nd) : CV := .agg [.int .i64 x.k, .int .i64 x.n, .int .i64 x.c, x.q.cv]
theorem Nd.cells (x : Nd) : x.cv.cells = 7 := by simp [Nd.cv, CV.cells, CV.cellsL, dg_cells, aT, Rq.cells]
theorem Nd.denil (x : Nd) : x.cv.denil = x.cv := by simp only [Nd.cv, CV.denil, CV.denilL, dg_denil, gV, denilL_str, denilL_dg, Rq.denil]
theorem denilL_Nd (l : List Nd) : CV.denilL (l.map Nd.cv) = l.map Nd.cv := cE Nd.denil l
theorem Nd.isAgg (x : Nd) : x.cv.isAgg = true := rfl
theorem Nd.getAll (x : Nd) : CV.getAt 0 7 true x.cv = some x.cv := by
 have := Nd.cells x
 simp_all [Nd.cv, CV.cells, CV.getAt, and_self, if_true]
theorem Nd.setAll (x : Nd) (y : HV) : CV.setAt 0 7 y x.cv = some y := by
 have := Nd.cells x
 simp_all [Nd.cv, CV.cells, CV.setAt, and_self, if_true]
theorem Nd.fold (k : Int) (n : Int) (c : Int) (q : Rq) : CV.agg [.int .i64 k, .int .i64 n, .int .i64 c, q.cv] = Nd.cv ⟨k, n, c, q⟩ := rfl
theorem Nd.get_k (x : Nd) : CV.getAt 0 1 false x.cv = some (.int .i64 x.k) := by simp [Nd.cv, CV.getAt, CV.getAtL, CV.cells, CV.cellsL, dg_cells, aT, Rq.cells]
theorem Nd.set_k (x : Nd) (y : HV) : CV.setAt 0 1 y x.cv = some (.agg [y, .c (.int .i64 x.n), .c (.int .i64 x.c), .c (x.q.cv)]) := by simp [Nd.cv, CV.setAt, CV.setAtL, CV.cells, CV.cellsL, dg_cells, aT, Rq.cells]
theorem Nd.get_n (x : Nd) : CV.getAt 1 1 false x.cv = some (.int .i64 x.n) := by simp [Nd.cv, CV.getAt, CV.getAtL, CV.cells, CV.cellsL, dg_cells, aT, Rq.cells]
theorem Nd.set_n (x : Nd) (y : HV) : CV.setAt 1 1 y x.cv = some (.agg [.c (.int .i64 x.k), y, .c (.int .i64 x.c), .c (x.q.cv)]) := by simp [Nd.cv, CV.setAt, CV.setAtL, CV.cells, CV.cellsL, dg_cells, aT, Rq.cells]
theorem Nd.get_c (x : Nd) : CV.getAt 2 1 false x.cv = some (.int .i64 x.c) := by simp [Nd.cv, CV.getAt, CV.getAtL, CV.cells, CV.cellsL, dg_cells, aT, Rq.cells]
theorem Nd.set_c (x : Nd) (y : HV) : CV.setAt 2 1 y x.cv = some (.agg [.c (.int .i64 x.k), .c (.int .i64 x.n), y, .c (x.q.cv)]) := by simp [Nd.cv, CV.setAt, CV.setAtL, CV.cells, CV.cellsL, dg_cells, aT, Rq.cells]
theorem Nd.get_q (x : Nd) : CV.getAt 3 4 true x.cv = some (x.q.cv) := by simp [Nd.cv, CV.getAt, CV.getAtL, CV.cells, CV.cellsL, dg_cells, aT, Rq.cells, Rq.getAll]
theorem Nd.set_q (x : Nd) (y : HV) : CV.setAt 3 4 y x.cv = some (.agg [.c (.int .i64 x.k), .c (.int .i64 x.n), .c (.int .i64 x.c), y]) := by simp [Nd.cv, CV.setAt, CV.setAtL, CV.cells, CV.cellsL, dg_cells, aT, Rq.cells, Rq.setAll]

structure Pr where
 a : aJ
 b : aJ
 c : aJ
 g : Int
 t : List Nd
def Pr.cv (x : Pr) : CV := .agg [.str x.a, .str x.b, .str x.c, .int .i64 x.g, .slc (x.t.map Nd.cv)]
theorem Pr.cells (x : Pr) : x.cv.cells = 5 := by simp [Pr.cv, CV.cells, CV.cellsL, dg_cells, aT]
theorem Pr.denil (x : Pr) : x.cv.denil = x.cv := by simp only [Pr.cv, CV.denil, CV.denilL, dg_denil, gV, denilL_str, denilL_dg, denilL_Nd]
theorem denilL_Pr (l : List Pr) : CV.denilL (l.map Pr.cv) = l.map Pr.cv := cE Pr.denil l
theorem Pr.isAgg (x : Pr) : x.cv.isAgg = true := rfl
theorem Pr.getAll (x : Pr) : CV.getAt 0 5 true x.cv = some x.cv := by
 have := Pr.cells x
 simp_all [Pr.cv, CV.cells, CV.getAt, and_self, if_true]
theorem Pr.setAll (x : Pr) (y : HV) : CV.setAt 0 5 y x.cv = some y := by
 have := Pr.cells x
 simp_all [Pr.cv, CV.cells, CV.setAt, and_self, if_true]
theorem Pr.fold (a : aJ) (b : aJ) (c : aJ) (g : Int) (t : List Nd) : CV.agg [.str a, .str b, .str c, .int .i64 g, .slc (t.map Nd.cv)] = Pr.cv ⟨a, b, c, g, t⟩ := rfl
theorem Pr.get_a (x : Pr) : CV.getAt 0 1 false x.cv = some (.str x.a) := by simp [Pr.cv, CV.getAt, CV.getAtL, CV.cells, CV.cellsL, dg_cells, aT]
theorem Pr.set_a (x : Pr) (y : HV) : CV.setAt 0 1 y x.cv = some (.agg [y, .c (.str x.b), .c (.str x.c), .c (.int .i64 x.g), .c (.slc (x.t.map Nd.cv))]) := by simp [Pr.cv, CV.setAt, CV.setAtL, CV.cells, CV.cellsL, dg_cells, aT]
theorem Pr.get_b (x : Pr) : CV.getAt 1 1 false x.cv = some (.str x.b) := by simp [Pr.cv, CV.getAt, CV.getAtL, CV.cells, CV.cellsL, dg_cells, aT]
theorem Pr.set_b (x : Pr) (y : HV) : CV.setAt 1 1 y x.cv = some (.agg [.c (.str x.a), y, .c (.str x.c), .c (.int .i64 x.g), .c (.slc (x.t.map Nd.cv))]) := by simp [Pr.cv, CV.setAt, CV.setAtL, CV.cells, CV.cellsL, dg_cells, aT]
theorem Pr.get_c (x : Pr) : CV.getAt 2 1 false x.cv = some (.str x.c) := by simp [Pr.cv, CV.getAt, CV.getAtL, CV.cells, CV.cellsL, dg_cells, aT]
theorem Pr.set_c (x : Pr) (y : HV) : CV.setAt 2 1 y x.cv = some (.agg [.c (.str x.a), .c (.str x.b), y, .c (.int .i64 x.g), .c (.slc (x.t.map Nd.cv))]) := by simp [Pr.cv, CV.setAt, CV.setAtL, CV.cells, CV.cellsL, dg_cells, aT]
theorem Pr.get_g (x : Pr) : CV.getAt 3 1 false x.cv = some (.int .i64 x.g) := by simp [Pr.cv, CV.getAt, CV.getAtL, CV.cells, CV.cellsL, dg_cells, aT]
theorem Pr.set_g (x : Pr) (y : HV) : CV.setAt 3 1 y x.cv = some (.agg [.c (.str x.a), .c (.str x.b), .c (.str x.c), y, .c (.slc (x.t.map Nd.cv))]) := by simp [Pr.cv, CV.setAt, CV.setAtL, CV.cells, CV.cellsL, dg_cells, aT]
theorem Pr.get_t (x : Pr) : CV.getAt 4 1 false x.cv = some (.slc (x.t.map Nd.cv)) := by simp [Pr.cv, CV.getAt, CV.getAtL, CV.cells, CV.cellsL, dg_cells, aT]
theorem Pr.set_t (x : Pr) (y : HV) : CV.setAt 4 1 y x.cv = some (.agg [.c (.str x.a), .c (.str x.b), .c (.str x.c), .c (.int .i64 x.g), y]) := by simp [Pr.cv, CV.setAt, CV.setAtL, CV.cells, CV.cellsL, dg_cells, aT]

structure Po where
 n : aJ
 v : Int
 r : List Pr
def Po.cv (x : Po) : CV := .agg [.str x.n, .int .i64 x.v, .slc (x.r.map Pr.cv)]
theorem Po.cells (x : Po) : x.cv.cells = 3 := by simp [Po.cv, CV.cells, CV.cellsL, dg_cells, aT]
theorem Po.denil (x : Po) : x.cv.denil = x.cv := by simp only [Po.cv, CV.denil, CV.denilL, dg_denil, gV, denilL_str, denilL_dg, denilL_Pr]
theorem denilL_Po (l : List Po) : CV.denilL (l.map Po.cv) = l.map Po.cv := cE Po.denil l
theorem Po.isAgg (x : Po) : x.cv.isAgg = true := rfl
theorem Po.getAll (x : Po) : CV.getAt 0 3 true x.cv = some x.cv := by
 have := Po.cells x
 simp_all [Po.cv, CV.cells, CV.getAt, and_self, if_true]
theorem Po.setAll (x : Po) (y : HV) : CV.setAt 0 3 y x.cv = some y := by
 have := Po.cells x
 simp_all [Po.cv, CV.cells, CV.setAt, and_self, if_true]
theorem Po.fold (n : aJ) (v : Int) (r : List Pr) : CV.agg [.str n, .int .i64 v, .slc (r.map Pr.cv)] = Po.cv ⟨n, v, r⟩ := rfl
theorem Po.get_n (x : Po) : CV.getAt 0 1 false x.cv = some (.str x.n) := by simp [Po.cv, CV.getAt, CV.getAtL, CV.cells, CV.cellsL, dg_cells, aT]
theorem Po.set_n (x : Po) (y : HV) : CV.setAt 0 1 y x.cv = some (.agg [y, .c (.int .i64 x.v), .c (.slc (x.r.map Pr.cv))]) := by simp [Po.cv, CV.setAt, CV.setAtL, CV.cells, CV.cellsL, dg_cells, aT]
theorem Po.get_v (x : Po) : CV.getAt 1 1 false x.cv = some (.int .i64 x.v) := by simp [Po.cv, CV.getAt, CV.getAtL, CV.cells, CV.cellsL, dg_cells, aT]
theorem Po.set_v (x : Po) (y : HV) : CV.setAt 1 1 y x.cv = some (.agg [.c (.str x.n), y, .c (.slc (x.r.map Pr.cv))]) := by simp [Po.cv, CV.setAt, CV.setAtL, CV.cells, CV.cellsL, dg_cells, aT]
theorem Po.get_r (x : Po) : CV.getAt 2 1 false x.cv = some (.slc (x.r.map Pr.cv)) := by simp [Po.cv, CV.getAt, CV.getAtL, CV.cells, CV.cellsL, dg_cells, aT]
theorem Po.set_r (x : Po) (y : HV) : CV.setAt 2 1 y x.cv = some (.agg [.c (.str x.n), .c (.int .i64 x.v), y]) := by simp [Po.cv, CV.setAt, CV.setAtL, CV.cells, CV.cellsL, dg_cells, aT]


def fG (a b : Rq) : Bool := a.k == b.k && (a.n == b.n && (a.m == b.m && a.t == b.t))
theorem wL (a b : Rq) : fG a b = true ↔ a = b := by
 obtain ⟨a1, a2, a3, a4⟩ := a
 obtain ⟨b1, b2, b3, b4⟩ := b
 simp only [fG, Bool.and_eq_true, beq_iff_eq, Rq.mk.injEq]
def rq0 : Rq := ⟨0, 0, 0, []⟩
def nd0 : Nd := ⟨0, 0, 0, rq0⟩
def inB (n lo hi : Int) : Bool := decide (lo ≤ n) && decide (n ≤ hi)
def dC (q : Rq) : Bool :=
 if q.k = 1 ∨ q.k = 3 ∨ q.k = 5 then inB q.n 1 32 && (q.m == 0 && q.t == [])
 else if q.k = 4 then inB q.n 1 32 && (inB q.m 0 32 && q.t == [])
 else if q.k = 2 then cW q.t && (q.n == 0 && q.m == 0)
 else if q.k = 6 then inB q.n 1 10 && (q.m == 0 && q.t == [])
 else if q.k = 7 then inB q.n 0 qK && (q.m == 0 && q.t == [])
 else if q.k = 8 then q.n == 0 && (q.m == 0 && q.t == [])
 else false
def bF (n : Nd) : Bool :=
 if n.k = 1 then n.c == 0 && (n.n == 0 && dC n.q)
 else if n.k = 2 ∨ n.k = 3 then inB n.c 1 60 && (fG n.q rq0 && n.n == 0)
 else if n.k = 4 then inB n.c 1 60 && (fG n.q rq0 && inB n.n 1 n.c)
 else false
theorem dG {n : Nd} (h : bF n = true) : 0 ≤ n.c ∧ n.c ≤ 60 ∧ (n.k = 1 → n.c = 0) ∧ (n.k ≠ 1 → 1 ≤ n.c) := by
 unfold bF inB at h
 split at h
 ·
  grind
 grind

def qL : List Nd → Int → Int → Option (Int × Int)
 | [], m, v => some (m, v)
 | n :: l, m, v => if m = 0 then none else if bF n then qL l (m + (n.c - 1)) (if n.k = 1 then v + 1 else v) else none
def dH (l : List Nd) : Bool := decide (1 ≤ l.length) && (decide (l.length ≤ 60) && (match qL l 1 0 with | some (m, v) => m == 0 && decide (v ≤ 16) | none => false))
def lv : List Nd → Nat
 | [] => 0
 | n :: l => (if n.k = 1 then 1 else 0) + lv l
theorem sO (a b : List Nd) : lv (a ++ b) = lv a + lv b := by
 induction a with
 | nil => simp [lv]
 | cons n a ih => grind [lv]
theorem cD4 (l : List Nd) : lv l ≤ l.length := by
 induction l with
 | nil => simp [lv]
 | cons n l ih => grind [lv, List.length_cons]
def skip : Nat → List Nd → Option (List Nd)
 | 0, l => some l
 | _ + 1, [] => none
 | m + 1, n :: l => skip (m + n.c.toNat) l
theorem cL (l : List Nd) : skip 0 l = some l := by cases l <;> rfl
theorem eG : ∀ (l : List Nd) (a b : Nat), skip (a + b) l = (skip a l).bind (skip b)
 | l, 0, b => by rw [Nat.zero_add, cL]; rfl
 | [], a + 1, b => by rw [show a + 1 + b = a + b + 1 from by omega]; rfl
 | n :: l, a + 1, b => by
  rw [show a + 1 + b = a + b + 1 from by omega]
  show skip (a + b + n.c.toNat) l = (skip (a + n.c.toNat) l).bind (skip b)
  rw [show a + b + n.c.toNat = a + n.c.toNat + b from by omega]
  exact eG l (a + n.c.toNat) b
theorem fN : ∀ (l : List Nd) (m : Nat) (r : List Nd), skip m l = some r → ∃ j, j ≤ l.length ∧ r = l.drop j ∧ (0 < m → 0 < j) ∧ m ≤ j + 0 * l.length + m
 | l, 0, r, h => by rw [cL] at h; cases h; exact ⟨0, by omega, by simp, by omega, by omega⟩
 | [], m + 1, r, h => by cases h
 | n :: l, m + 1, r, h => by
  obtain ⟨j, h1, h2, _, _⟩ := fN l (m + n.c.toNat) r h
  exact ⟨j + 1, by grind, by grind, by omega, by omega⟩
theorem zK : ∀ (l : List Nd) (m : Nat) (v v' : Int), qL l m v = some (0, v') → skip m l = some [] ∧ v' = v + lv l ∧ ∀ n ∈ l, bF n = true
 | [], m, v, v', h => by
  simp only [qL, Option.some.injEq, Prod.mk.injEq] at h
  obtain ⟨h1, rfl⟩ := h
  have : m = 0 := by omega
  subst this
  exact ⟨rfl, by simp [lv], by simp⟩
 | n :: l, m, v, v', h => by
  simp only [qL] at h
  split at h
  ·
   cases h
  ·
   rename_i h1
   split at h
   ·
    rename_i h2
    obtain ⟨c1, c2, c3, c4⟩ := dG h2
    obtain ⟨k, rfl⟩ : ∃ k, m = k + 1 := ⟨m - 1, by omega⟩
    have e : ((k + 1 : Nat) : Int) + (n.c - 1) = ((k + n.c.toNat : Nat) : Int) := by omega
    rw [e] at h
    obtain ⟨g1, g2, g3⟩ := zK l _ _ _ h
    refine ⟨g1, ?_, fun x hx => ?_⟩
    ·
     grind [lv]
    grind
   grind
structure IsTree (l : List Nd) : Prop where
 ne : 1 ≤ l.length
 len : l.length ≤ 60
 skip : skip 1 l = some []
 node : ∀ n ∈ l, bF n = true
 lv : lv l ≤ 16
theorem lG {l : List Nd} (h : dH l = true) : IsTree l := by
 unfold dH at h
 simp only [Bool.and_eq_true, decide_eq_true_eq] at h
 obtain ⟨h1, h2, h3⟩ := h
 split at h3
 ·
  rename_i m v hs
  simp only [Bool.and_eq_true, beq_iff_eq, decide_eq_true_eq] at h3
  obtain ⟨rfl, h4⟩ := h3
  obtain ⟨g1, g2, g3⟩ := zK l 1 0 v hs
  exact ⟨h1, h2, g1, g3, by omega⟩
 grind
theorem sQ : ∀ (l : List Nd) (m : Nat), skip m l = some [] → (∀ n ∈ l, bF n = true) → ∀ i, i < l.length → ∃ k, skip (k + 1) (l.drop i) = some []
 | [], m, h, _, i, hi => by grind
 | n :: l, 0, h, _, i, hi => by grind [cL]
 | n :: l, m + 1, h, hn, 0, hi => ⟨m, h⟩
 | n :: l, m + 1, h, hn, i + 1, hi => by
  have h' : skip (m + n.c.toNat) l = some [] := h
  exact sQ l _ h' (fun x hx => hn x (List.mem_cons_of_mem _ hx)) i (by grind)
theorem bM0 {l : List Nd} (h : IsTree l) {i : Nat} (hi : i < l.length) : ∃ j, i < j ∧ j ≤ l.length ∧ skip 1 (l.drop i) = some (l.drop j) := by
 obtain ⟨k, hk⟩ := sQ l 1 h.skip h.node i hi
 rw [Nat.add_comm, eG] at hk
 cases h1 : skip 1 (l.drop i) with
 | none => grind
 | some r =>
  grind [fN, List.length_drop, List.drop_drop]
end Go.Pl

namespace Go.Pl
open Go Go.Hl

def cG (c : UInt8) : Bool := decide ((33 : Int) ≤ c.toNat) && decide ((c.toNat : Int) ≤ 125) && ((c.toNat : Int) != 37)
def nI (n : Nat) : UInt8 := ([48, 49, 50, 51, 52, 53, 54, 55, 56, 57, 65, 66, 67, 68, 69, 70] : List UInt8).getD n 0
def jH (c : UInt8) : List UInt8 := if cG c then [c] else [37, nI (c.toNat / 16), nI (c.toNat % 16)]
def cK (w : aJ) : aJ := w.flatMap jH
def iE (w : aJ) : aJ := if w = [] then [126] else cK w
def sizeW (w : aJ) : Nat := max (cK w).length 1

@[simp] theorem cI9 : cK [] = [] := rfl
theorem bW7 (c : UInt8) : (jH c).length ≤ 3 := by grind [jH]
theorem bM1 (c : UInt8) : 1 ≤ (jH c).length := by grind [jH]
theorem qM (w : aJ) : (cK w).length ≤ 3 * w.length := by
 induction w with
 | nil => simp_all
 | cons c w ih =>
  grind [bW7, cK, List.length_append, List.length_cons]
theorem aK8 (w : aJ) : w.length ≤ (cK w).length := by
 induction w with
 | nil => grind
 | cons c w ih =>
  grind [bM1, cK, List.length_append, List.length_cons]
theorem pK {w : aJ} {i : Nat} (h : i < w.length) : cK (w.take (i + 1)) = cK (w.take i) ++ jH w[i] := by
 simp only [List.take_succ_eq_append_getElem h, cK, List.flatMap_append, List.flatMap_cons, List.flatMap_nil, List.append_nil]
theorem kY (w : aJ) (i : Nat) : (cK (w.take i)).length ≤ (cK w).length := by
 have : cK w = cK (w.take i) ++ cK (w.drop i) := by simp [cK, ← List.flatMap_append]
 grind
theorem qN (w : aJ) : (iE w).length = sizeW w := by
 unfold iE sizeW
 split
 ·
  simp_all
 ·
  rename_i h
  have := aK8 w
  grind [List.length_pos_iff]
theorem lH (w : aJ) : sizeW w ≤ 3 * w.length + 1 := by grind [qM, sizeW]
theorem zL (w : aJ) : 1 ≤ sizeW w := by unfold sizeW; omega
theorem cN8 (n : Nat) : (if (1 : Int) > (n : Int) then (1 : Int) else (n : Int)) = ((max n 1 : Nat) : Int) := by split <;> omega
theorem cK3 (c : UInt8) : Int.fdiv (c.toNat : Int) (2 ^ (min 4 IntKind.u8.bits)) = ((c.toNat / 16 : Nat) : Int) := by
 rw [show min 4 IntKind.u8.bits = 4 from rfl, Int.fdiv_eq_ediv_of_nonneg _ (by omega)]
 rfl
theorem cD5 (c : UInt8) : IntKind.u8.wrap ((BitVec.ofInt IntKind.u8.bits (c.toNat : Int) &&& BitVec.ofInt IntKind.u8.bits 15).toNat : Int) = ((c.toNat % 16 : Nat) : Int) := by
 have h := c.toNat_lt
 have : (BitVec.ofInt IntKind.u8.bits (c.toNat : Int) &&& BitVec.ofInt IntKind.u8.bits 15).toNat = c.toNat % 16 := by
  rw [BitVec.toNat_and]
  have e1 : (BitVec.ofInt IntKind.u8.bits (c.toNat : Int)).toNat = c.toNat := by simp [IntKind.bits]
  have e2 : (BitVec.ofInt IntKind.u8.bits 15).toNat = 15 := rfl
  rw [e1, e2]
  exact Nat.and_two_pow_sub_one_eq_mod _ 4
 grind [IntWalk.u8_in]

theorem cM : ∀ bs : List UInt8, CV.denilL (bs.map cP) = bs.map cP
 | [] => rfl
 | b :: bs => by simp only [List.map_cons, CV.denilL, cM bs]; rfl

def gL : List aJ → aJ
 | [] => []
 | w :: l => iE w ++ l.flatMap fun v => 32 :: iE v
theorem bE2 (l : List aJ) (w : aJ) : gL (l ++ [w]) = gL l ++ ((if l = [] then [] else [32]) ++ iE w) := by
 cases l with
 | nil => simp [gL]
 | cons a l => simp [gL]
theorem zM {l : List aJ} {i : Nat} (h : i < l.length) : gL (l.take (i + 1)) = gL (l.take i) ++ ((if i = 0 then [] else [32]) ++ iE l[i]) := by grind [List.take_succ_eq_append_getElem, bE2, List.take_eq_nil_iff]
def uU (l : List aJ) : aJ := gL l ++ [10]
def eW (ls : List (List aJ)) : aJ := ls.flatMap uU
def iF (l : List aJ) : Nat := (l.map fun w => sizeW w + 1).sum
def sumD (ls : List (List aJ)) : Nat := (ls.map iF).sum
theorem aK9 : ∀ (l : List aJ), l ≠ [] → (gL l).length + 1 = iF l
 | [], h => absurd rfl h
 | w :: l, _ => by
  have : ∀ l : List aJ, (l.flatMap fun v => 32 :: iE v).length = iF l := by
   intro l
   induction l with
   | nil => rfl
   | cons v l ih => grind [List.length_append, List.length_cons, qN, iF]
  grind [gL, List.length_append, qN, iF]
theorem bM2 {l : List aJ} (h : l ≠ []) : (uU l).length = iF l := by grind [uU, List.length_append, aK9]
theorem aE5 (l : List aJ) : (gL l).length ≤ iF l := by
 cases l with
 | nil => simp [gL]
 | cons w l => grind [aK9]
theorem qO : ∀ {ls : List (List aJ)}, (∀ l ∈ ls, l ≠ []) → (eW ls).length = sumD ls
 | [], _ => rfl
 | l :: ls, h => by
  have ih := qO (ls := ls) fun x hx => h x (List.mem_cons_of_mem _ hx)
  grind [bM2, List.mem_cons_self, eW, sumD, List.length_append]
theorem zN {ls : List (List aJ)} {i : Nat} (h : i < ls.length) : eW (ls.take (i + 1)) = eW (ls.take i) ++ uU ls[i] := by
 simp only [List.take_succ_eq_append_getElem h, eW, List.flatMap_append, List.flatMap_cons, List.flatMap_nil, List.append_nil]
theorem bE3 {l : List aJ} {i : Nat} (h : i < l.length) : iF (l.take (i + 1)) = iF (l.take i) + (sizeW l[i] + 1) := by
 simp only [List.take_succ_eq_append_getElem h, iF, List.map_append, List.sum_append, List.map_cons, List.map_nil, List.sum_cons, List.sum_nil, Nat.add_zero]
theorem bE4 {ls : List (List aJ)} {i : Nat} (h : i < ls.length) : sumD (ls.take (i + 1)) = sumD (ls.take i) + iF ls[i] := by
 simp only [List.take_succ_eq_append_getElem h, sumD, List.map_append, List.sum_append, List.map_cons, List.map_nil, List.sum_cons, List.sum_nil, Nat.add_zero]

@[simp] theorem cK4 : eW [] = [] := rfl
@[simp] theorem cK5 : gL [] = [] := rfl
@[simp] theorem cK6 : iF [] = 0 := rfl
@[simp] theorem cK7 : sumD [] = 0 := rfl
theorem qP (l : List aJ) (i : Nat) : iF (l.take i) ≤ iF l := by grind [iF, List.take_append_drop]
theorem aE6 (l : List (List aJ)) (i : Nat) : sumD (l.take i) ≤ sumD l := by grind [sumD, List.take_append_drop]

def mE (l : List aJ) : Int :=
 if l.length = 0 then 1 else if 120 < l.length then 3 else if l.any (fun w => decide (32768 < w.length)) then 3 else 0
def okL (l : List aJ) : Bool := mE l == 0
theorem jI (l : List aJ) : okL l = true ↔ l ≠ [] ∧ l.length ≤ 120 ∧ ∀ w ∈ l, w.length ≤ 32768 := by
 unfold okL mE
 constructor
 ·
  intro h
  split at h
  ·
   grind
  ·
   split at h
   ·
    grind
   ·
    grind
 grind
theorem aX8 {l : List aJ} (h : okL l = true) : iF l ≤ 11796720 := by
 obtain ⟨-, h1, h2⟩ := (jI l).1 h
 have key : ∀ l : List aJ, (∀ w ∈ l, w.length ≤ 32768) → iF l ≤ 98306 * l.length := by
  intro l
  induction l with
  | nil => simp_all
  | cons w l ih =>
   grind [List.mem_cons_of_mem, List.mem_cons_self, lH, iF, List.length_cons]
 grind
theorem aX9 {ls : List (List aJ)} (h : ∀ l ∈ ls, okL l = true) : sumD ls ≤ 11796720 * ls.length := by
 induction ls with
 | nil => simp_all
 | cons l ls ih =>
  grind [List.mem_cons_of_mem, aX8, List.mem_cons_self, sumD, List.length_cons]
theorem bM3 (l : List aJ) (h : ∀ w ∈ l, w.length ≤ 32768) : (gL l).length ≤ 98306 * l.length := by
 have h1 := aE5 l
 have key : ∀ l : List aJ, (∀ w ∈ l, w.length ≤ 32768) → iF l ≤ 98306 * l.length := by
  intro l
  induction l with
  | nil => simp_all
  | cons w l ih =>
   grind [List.mem_cons_of_mem, List.mem_cons_self, lH, iF, List.length_cons]
 grind
theorem sS {α : Type} {p : α → Prop} {l : List α} {i : Nat} (h : i < l.length) (h1 : p l[i]) (h0 : ∀ x ∈ l.take i, p x) : ∀ x ∈ l.take (i + 1), p x := by
 intro x hx
 rw [List.take_succ_eq_append_getElem h, List.mem_append, List.mem_singleton] at hx
 grind
def gM (ls : List (List aJ)) : Int :=
 if 1000 < ls.length then 3 else match ls.find? (fun l => !okL l) with
  | some l => mE l
  | none => if 262144 < (eW ls).length then 3 else 0
def iM (ls : List (List aJ)) : aJ := if gM ls = 0 then eW ls else []
theorem sT {ls : List (List aJ)} (h : 1000 < ls.length) : gM ls = 3 := by unfold gM; grind
theorem qQ {ls : List (List aJ)} {i : Nat} (h : ls.length ≤ 1000) (hi : i < ls.length) (h0 : ∀ l ∈ ls.take i, okL l = true) (h1 : okL ls[i] = false) : gM ls = mE ls[i] := by
 unfold gM
 rw [if_neg (by omega)]
 grind [okL, List.find?_eq_some_iff_append, List.getElem_cons_drop, List.take_append_drop]
theorem qR {ls : List (List aJ)} (h : ls.length ≤ 1000) (h0 : ∀ l ∈ ls, okL l = true) : gM ls = if 262144 < (eW ls).length then 3 else 0 := by
 unfold gM
 grind
theorem aY0 {l : List aJ} (h : okL l = false) : mE l ≠ 0 := by grind [okL]
theorem iW {ls : List (List aJ)} (h : gM ls ≠ 0) : iM ls = [] := by unfold iM; grind
theorem qS {ls : List (List aJ)} (h : gM ls = 0) : iM ls = eW ls := by unfold iM; grind

def cD6 (n : Nat) : UInt8 := ([48, 49, 50, 51, 52, 53, 54, 55, 56, 57, 97, 98, 99, 100, 101, 102] : List UInt8).getD n 0
def cN9 (c : UInt8) : List UInt8 := [cD6 (c.toNat / 16), cD6 (c.toNat % 16)]
def cF6 (bs : List UInt8) : List UInt8 := bs.flatMap cN9
@[simp] theorem cK8 : cF6 [] = [] := rfl
end Go.Pl
