/- Digests, subjects, reports; how they lie as closed values. By an AI agent. -/
import Derived.Test.YtbmeabkgdpfpbaaPl02
set_option linter.unusedSimpArgs false
set_option linter.unusedVariables false
namespace Go.Pl
open Go Go.Hl

abbrev Dig := {l : List UInt8 // l.length = 32}
def dgl (d : Dig) : List CV := d.1.map fun b => .int .u8 b.toNat
def dg (d : Dig) : CV := .agg (dgl d)
def dg1 (b : UInt8) : Dig := ⟨b :: List.replicate 31 0, by simp⟩
def zdg : Dig := ⟨List.replicate 32 0, by simp⟩
def zd : CV := dg zdg
/-- A digest of one byte and zeros. -/
def dgi (k : IntKind) (n : Int) : CV := .agg (.int k n :: List.replicate 31 (.int .u8 0))
theorem dgi_dg (b : UInt8) : dgi .u8 b.toNat = dg (dg1 b) := rfl

theorem dgi_1 : dgi .u8 1 = dg (dg1 1) := rfl
theorem dgi_2 : dgi .u8 2 = dg (dg1 2) := rfl
theorem dgi_3 : dgi .u8 3 = dg (dg1 3) := rfl
theorem dgi_ofInt {n : Int} (h : 0 ≤ n) (h' : n < 256) : dgi .u8 n = dg (dg1 (UInt8.ofNat n.toNat)) := by
  rw [← dgi_dg]
  congr 1
  have : (UInt8.ofNat n.toNat).toNat = n.toNat := by
    rw [UInt8.toNat_ofNat']
    exact Nat.mod_eq_of_lt (by omega)
  rw [this]; omega

theorem cellsL_ints : ∀ {α : Type} (l : List α) (k : IntKind) (f : α → Int), CV.cellsL (l.map fun b => .int k (f b)) = l.length
  | _, [], _, _ => rfl
  | _, x :: l, k, f => by simp only [List.map_cons, CV.cellsL, CV.cells, cellsL_ints l, List.length_cons]; omega
theorem dg_cells (d : Dig) : (dg d).cells = 32 := by simp only [dg, dgl, CV.cells, cellsL_ints, d.2]
theorem dg_isAgg (d : Dig) : (dg d).isAgg = true := rfl
theorem denilL_ints : ∀ {α : Type} (l : List α) (k : IntKind) (f : α → Int), CV.denilL (l.map fun b => .int k (f b)) = l.map fun b => .int k (f b)
  | _, [], _, _ => rfl
  | _, x :: l, k, f => by simp only [List.map_cons, CV.denilL, CV.denil, denilL_ints l]
theorem dg_denil (d : Dig) : (dg d).denil = dg d := by simp only [dg, dgl, CV.denil, denilL_ints]
theorem dg_getAt (d : Dig) : CV.getAt 0 32 true (dg d) = some (dg d) := by
  have := dg_cells d
  simp only [dg, CV.cells] at this
  simp only [dg, CV.getAt, this, and_self, if_true]
theorem dg_setAt (d : Dig) (x : HV) : CV.setAt 0 32 x (dg d) = some x := by
  have := dg_cells d
  simp only [dg, CV.cells] at this
  simp only [dg, CV.setAt, this, and_self, if_true]
theorem zd_cells : zd.cells = 32 := dg_cells _
theorem zd_isAgg : zd.isAgg = true := rfl
theorem zd_denil : zd.denil = zd := dg_denil _
theorem zd_getAt : CV.getAt 0 32 true zd = some zd := dg_getAt _
theorem zd_setAt (x : HV) : CV.setAt 0 32 x zd = some x := dg_setAt _ x
theorem dgi_cells (k : IntKind) (n : Int) : (dgi k n).cells = 32 := rfl
theorem dgi_isAgg (k : IntKind) (n : Int) : (dgi k n).isAgg = true := rfl
theorem dgi_denil (k : IntKind) (n : Int) : (dgi k n).denil = dgi k n := rfl
theorem dgi_getAt (k : IntKind) (n : Int) : CV.getAt 0 32 true (dgi k n) = some (dgi k n) := rfl

def hbuildElse (ti : TyI) (v : HV) (K : HV → Prop) : Prop := hbuild ti [(0, .tmp 0)] (fun _ => v) K
def hbuildDig (ti : TyI) (v : HV) (K : HV → Prop) : Prop :=
  match v with
  | .c (.int k n) => K (.c (dgi k n))
  | v => hbuildElse ti v K
@[congr] theorem hbuildDig_cg {ti : TyI} {v v' : HV} {K : HV → Prop} (h : v = v') : hbuildDig ti v K = hbuildDig ti v' K := by rw [h]
theorem hbuild_dig {bytes : Nat} {t : TypeId} {e : Operand → HV} {x : Operand} {K : HV → Prop} : hbuild ⟨32, bytes, .array 32 t, zd⟩ [(0, x)] e K = hbuildDig ⟨32, bytes, .array 32 t, zd⟩ (e x) K := by
  have key : hbuild ⟨32, bytes, .array 32 t, zd⟩ [(0, x)] e K = hbuild ⟨32, bytes, .array 32 t, zd⟩ [(0, .tmp 0)] (fun _ => e x) K := rfl
  rw [key]
  unfold hbuildDig
  split
  · rename_i k n h
    rw [h]
    have : hfill (fun _ => HV.c (.int k n)) [(0, .tmp 0)] ((dgl zdg).map .c) = some (.c (.int k n) :: (List.replicate 31 (CV.int .u8 0)).map .c) := by
      simp only [hfill]
      rfl
    simp only [hbuild, zd, dg, this, hlift_some]
    rfl
  · rfl

theorem hbuild_agg {s bytes : Nat} {d : TyD} {zs : List CV} {ps : List (Nat × Operand)} {e : Operand → HV} {K : HV → Prop} : hbuild ⟨s, bytes, d, .agg zs⟩ ps e K = hlift (hfill e ps (zs.map .c)) fun hs => K (HV.norm (.agg hs)) := rfl

theorem ints_inj {l m : List UInt8} (h : (l.map fun b => CV.int .u8 b.toNat) = m.map fun b => CV.int .u8 b.toNat) : l = m := by
  induction l generalizing m with
  | nil => cases m <;> simp_all
  | cons a l ih =>
    cases m with
    | nil => simp at h
    | cons b m =>
      simp only [List.map_cons, List.cons.injEq, CV.int.injEq, true_and] at h
      have h1 : a.toNat = b.toNat := by omega
      rw [UInt8.toNat_inj.1 h1, ih h.2]
theorem eqvL_ints : ∀ (l m : List UInt8), CV.eqvL (l.map fun b => .int .u8 b.toNat) (m.map fun b => .int .u8 b.toNat) = (l == m)
  | [], [] => rfl
  | [], _ :: _ => rfl
  | _ :: _, [] => rfl
  | a :: l, b :: m => by
    simp only [List.map_cons, CV.eqvL, CV.eqv, eqvL_ints l m, List.cons_beq_cons]
    congr 1
    rw [Bool.eq_iff_iff]
    simp only [beq_iff_eq]
    constructor
    · intro h; exact UInt8.toNat_inj.1 (by omega)
    · rintro rfl; rfl
theorem dg_eqv (a b : Dig) : CV.eqv (dg a) (dg b) = (a == b) := by
  simp only [dg, dgl, CV.eqv, eqvL_ints]
  rw [Bool.eq_iff_iff]
  simp only [beq_iff_eq, Subtype.ext_iff]
theorem ofTyA_ints {P : Program} {n : Nat} {e : TypeId} {z : CV} {s b : Nat} (he : tyOf P e = some ⟨s, b, .int .u8, z⟩) (l : List UInt8) : CV.ofTyA P (n + 1) e (l.map fun b => .int .u8 b.toNat) = true := by
  induction l with
  | nil => simp only [List.map_nil, CV.ofTyA]
  | cons x l ih =>
    rw [List.map_cons, CV.ofTyA, ih, Bool.and_true]
    unfold CV.ofTy
    rw [he]
    rfl
theorem dg_ofTy {P : Program} {n : Nat} {t e : TypeId} {z z' : CV} {s b s' b' : Nat} (ht : tyOf P t = some ⟨s, b, .array 32 e, z⟩) (he : tyOf P e = some ⟨s', b', .int .u8, z'⟩) (hc : P.cellsOf e = 1) (d : Dig) : CV.ofTy P (n + 2) t (dg d) = true := by
  have h1 : (dgl d).length = 32 := by simp only [dgl, List.length_map, d.2]
  have h2 : (dgl d).all (fun v => v.cells == P.cellsOf e) = true := by
    rw [hc]
    simp only [dgl, List.all_map, List.all_eq_true, Function.comp, CV.cells, beq_self_eq_true, implies_true]
  simp only [dg, CV.ofTy, ht, h1, h2, beq_self_eq_true, Bool.true_and]
  exact ofTyA_ints he d.1
theorem hbin_dg {P : Program} {t e : TypeId} {z z' : CV} {s b s' b' : Nat} (ha : aggEq P t = true) (ht : tyOf P t = some ⟨s, b, .array 32 e, z⟩) (he : tyOf P e = some ⟨s', b', .int .u8, z'⟩) (hc : P.cellsOf e = 1) (x y : Dig) (K : CV → Prop) :
    hbin P .eql t (.c (dg x)) (.c (dg y)) K = K (.bool (x == y)) ∧ hbin P .neq t (.c (dg x)) (.c (dg y)) K = K (.bool (!(x == y))) := by
  have h1 := dg_ofTy (n := 6) ht he hc x
  have h2 := dg_ofTy (n := 6) ht he hc y
  have h3 := dg_eqv x y
  simp only [dg] at h1 h2 h3
  simp only [dg, hbin, ha, h1, h2, h3, and_self, true_and]

structure Rp where
  s : Dig
  r : Dig
  o : Dig
  at_ : Int
structure Rb where
  w : Word
  p : Rp
def Rp.cv (x : Rp) : CV := .agg [.agg [dg x.s, dg x.r, dg x.o], .int .i64 x.at_]
def Rb.cv (x : Rb) : CV := .agg [.str x.w, x.p.cv]
theorem denilL_rb (l : List Rb) : CV.denilL (l.map Rb.cv) = l.map Rb.cv := denilL_map (fun x => by simp only [Rb.cv, Rp.cv, CV.denil, CV.denilL, dg_denil]) l
theorem denilL_rp (l : List Rp) : CV.denilL (l.map Rp.cv) = l.map Rp.cv := denilL_map (fun x => by simp only [Rp.cv, CV.denil, CV.denilL, dg_denil]) l
theorem Rb.denil (x : Rb) : x.cv.denil = x.cv := by simp only [Rb.cv, Rp.cv, CV.denil, CV.denilL, dg_denil]
theorem Rp.denil (x : Rp) : x.cv.denil = x.cv := by simp only [Rp.cv, CV.denil, CV.denilL, dg_denil]
theorem Rb.cells (x : Rb) : x.cv.cells = 98 := by simp [Rb.cv, Rp.cv, CV.cells, CV.cellsL, dg_cells]
theorem Rp.cells (x : Rp) : x.cv.cells = 97 := by simp [Rp.cv, CV.cells, CV.cellsL, dg_cells]
theorem Rb.getW (x : Rb) : CV.getAt 0 1 false x.cv = some (.str x.w) := by simp [Rb.cv, CV.getAt, CV.getAtL, CV.cells]
theorem Rb.getP (x : Rb) : CV.getAt 1 97 true x.cv = some x.p.cv := by
  have := Rp.cells x.p
  have h : CV.getAt 0 97 true x.p.cv = some x.p.cv := by
    simp only [Rp.cv, CV.cells] at this
    simp only [Rp.cv, CV.getAt, this, and_self, if_true]
  simp [Rb.cv, CV.getAt, CV.getAtL, CV.cells, CV.cellsL, this, h]
theorem Rb.getAll (x : Rb) : CV.getAt 0 98 true x.cv = some x.cv := by
  have := Rb.cells x
  simp only [Rb.cv, CV.cells] at this
  simp only [Rb.cv, CV.getAt, this, and_self, if_true]
theorem Rp.getS (p : Rp) : CV.getAt 0 96 true p.cv = some (.agg [dg p.s, dg p.r, dg p.o]) := by
  simp [Rp.cv, CV.getAt, CV.getAtL, CV.cells, CV.cellsL, dg_cells]
theorem Rp.getT (p : Rp) : CV.getAt 96 1 false p.cv = some (.int .i64 p.at_) := by
  simp [Rp.cv, CV.getAt, CV.getAtL, CV.cells, CV.cellsL, dg_cells]
theorem Rp.getAll (p : Rp) : CV.getAt 0 97 true p.cv = some p.cv := by
  have := Rp.cells p
  simp only [Rp.cv, CV.cells] at this
  simp only [Rp.cv, CV.getAt, this, and_self, if_true]
theorem Rb.isAgg (x : Rb) : x.cv.isAgg = true := rfl
theorem Rp.isAgg (x : Rp) : x.cv.isAgg = true := rfl

def pick1 (s r : Dig) (t : Int) (x : Rb) : Bool := x.p.s == s && x.p.r == r && decide (x.p.at_ ≤ t)
def later (some : List Rb) (x : Rb) : Bool := some.all fun y => !(y.w == x.w) || decide (y.p.at_ ≤ x.p.at_)
def considered (s r : Dig) (t : Int) (l : List Rb) : List Rb := (l.filter (pick1 s r t)).filter (later (l.filter (pick1 s r t)))
theorem filter_take {α : Type} (p : α → Bool) (l : List α) (i : Nat) (h : i < l.length) : (l.take (i + 1)).filter p = (l.take i).filter p ++ if p l[i] then [l[i]] else [] := by
  rw [List.take_succ_eq_append_getElem h, List.filter_append]
  simp [List.filter_cons]
theorem all_take {α : Type} (p : α → Bool) (l : List α) (i : Nat) (h : i < l.length) : (l.take (i + 1)).all p = ((l.take i).all p && p l[i]) := by
  rw [List.take_succ_eq_append_getElem h, List.all_append]
  simp
theorem any_take {α : Type} (p : α → Bool) (l : List α) (i : Nat) (h : i < l.length) : (l.take (i + 1)).any p = ((l.take i).any p || p l[i]) := by
  rw [List.take_succ_eq_append_getElem h, List.any_append]
  simp

/-- The reference's judgement: who agrees, who differs, who is faulty. -/
structure Jd where
  a : List Word
  d : List Word
  f : List Word
def faulty (sm : List Rb) (x : Rb) : Bool := sm.any fun y => y.w == x.w && !(y.p.o == x.p.o)
def jstep (sm : List Rb) (o : Dig) (j : Jd) (x : Rb) : Jd :=
  if faulty sm x then { j with f := addW j.f x.w } else if x.p.o == o then { j with a := addW j.a x.w } else { j with d := addW j.d x.w }
def judge18 (s r o : Dig) (t : Int) (l : List Rb) : Jd := (considered s r t l).foldl (jstep (considered s r t l) o) ⟨[], [], []⟩
theorem foldl_take {α β : Type} (g : β → α → β) (b : β) (l : List α) (i : Nat) (h : i < l.length) : (l.take (i + 1)).foldl g b = g ((l.take i).foldl g b) l[i] := by
  rw [List.take_succ_eq_append_getElem h, List.foldl_append]
  rfl
theorem split_len {α : Type} (p : α → Bool) : ∀ l : List α, (l.takeWhile p).length + (l.dropWhile p).length = l.length
  | [] => rfl
  | x :: l => by
    have := split_len p l
    by_cases h : p x = true
    · rw [List.takeWhile_cons_of_pos h, List.dropWhile_cons_of_pos h, List.length_cons, List.length_cons]; omega
    · rw [List.takeWhile_cons_of_neg h, List.dropWhile_cons_of_neg h]; simp
theorem addW_len (l : List Word) (w : Word) : (addW l w).length ≤ l.length + 1 := by
  have h1 := split_len (slt · w) l
  unfold addW
  split
  · omega
  · rw [List.length_append, List.length_cons]
    exact Nat.le_of_eq (by rw [← Nat.add_assoc]; exact congrArg (· + 1) h1)
theorem considered_len (s r : Dig) (t : Int) (l : List Rb) : (considered s r t l).length ≤ l.length := Nat.le_trans (List.length_filter_le _ _) (List.length_filter_le _ _)
theorem jfold_len (sm : List Rb) (o : Dig) (l : List Rb) : let j := l.foldl (jstep sm o) ⟨[], [], []⟩; j.a.length ≤ l.length ∧ j.d.length ≤ l.length ∧ j.f.length ≤ l.length := by
  have key : ∀ (l : List Rb) (j : Jd) (n : Nat), j.a.length ≤ n ∧ j.d.length ≤ n ∧ j.f.length ≤ n → let k := l.foldl (jstep sm o) j; k.a.length ≤ n + l.length ∧ k.d.length ≤ n + l.length ∧ k.f.length ≤ n + l.length := by
    intro l
    induction l with
    | nil => intro j n h; simpa using h
    | cons x l ih =>
      intro j n h
      have h1 : (jstep sm o j x).a.length ≤ n + 1 ∧ (jstep sm o j x).d.length ≤ n + 1 ∧ (jstep sm o j x).f.length ≤ n + 1 := by
        have e1 := addW_len j.a x.w
        have e2 := addW_len j.d x.w
        have e3 := addW_len j.f x.w
        unfold jstep
        split
        · simp only; omega
        · split <;> simp only <;> omega
      have := ih (jstep sm o j x) (n + 1) h1
      simp only [List.foldl_cons, List.length_cons] at this ⊢
      omega
  have := key l ⟨[], [], []⟩ 0 (by simp)
  simpa using this

/-- A list that is nil as long as it is empty. -/
def ns (l : List Word) : CV := if l = [] then .nils else .slc (l.map .str)
theorem ns_nil : ns [] = .nils := rfl
theorem ns_denil (l : List Word) : (ns l).denil = .slc (l.map .str) := by
  unfold ns
  split
  · rename_i h; rw [h]; rfl
  · simp only [CV.denil, denilL_str]
theorem ns_cells (l : List Word) : (ns l).cells = 1 := by unfold ns; split <;> rfl
theorem ns_isAgg (l : List Word) : (ns l).isAgg = false := by unfold ns; split <;> rfl
theorem ns_getAt (l : List Word) : CV.getAt 0 1 false (ns l) = some (ns l) := by unfold ns; split <;> rfl
theorem ns_setAt (l : List Word) (x : HV) : CV.setAt 0 1 x (ns l) = some x := by unfold ns; split <;> rfl
theorem addW_ne (l : List Word) (w : Word) : addW l w ≠ [] := by
  unfold addW
  split
  · rename_i h; intro e; rw [e] at h; simp at h
  · simp
theorem ns_add (l : List Word) (w : Word) : ns (addW l w) = .slc ((addW l w).map .str) := by unfold ns; rw [if_neg (addW_ne l w)]
end Go.Pl
