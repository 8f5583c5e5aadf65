/- HL: a slice of strings that a function copies. By an AI agent. -/
import Derived.Test.YtlldglbooaefhaaDoorHlExt
import Derived.Test.YtlldglbooaefhaaDoorPlSha
import Derived.WalkKit
import Derived.ProofKit
import Derived.OpenShut
import Derived.ReadAgain
import Derived.ChangeBears
import Derived.Sort.Grow
import Derived.Sort.EncStr
set_option linter.unusedSimpArgs false
set_option linter.unusedVariables false
set_option linter.defProp false
namespace Go.Hl
open Go Go.Pl

def dD (l : List UInt8) (c : UInt8) : Int := match l.findIdx? (· == c) with | some i => (i : Int) | none => -1
theorem aF6 {α : Type} {p : α → Bool} (d : α) : ∀ (l : List α), (List.range l.length).find? (fun i => p (l.getD i d)) = l.findIdx? p
 | [] => rfl
 | a :: l => by
  rw [List.length_cons, aN0, List.findIdx?_cons]
  simp only [List.getD_cons_zero, List.getD_cons_succ]
  rw [aF6 d l]
theorem aS1 {P : Program} {w : World} {l : List UInt8} {x y : Value} {c : UInt8} (hx : (Extern.Bytes.bytesOf x).run P w = .ok ⟨l.toArray⟩ w) (hy : (Extern.Bytes.asByte y).run P w = .ok c w) :
  (Extern.BytealgIndexByte.indexByte #[x, y]).run P w = .ok (.int .i64 (dD l c)) w := by
 change (Sem.run P (do
  let b ← Extern.Bytes.bytesOf x
  let c ← Extern.Bytes.asByte y
  match (List.range b.size).find? fun i => b[i]! == c with
  | some i => pure (goInt i)
  | none => pure (goInt (-1))) w) = _
 simp only [Sem.run_bind, hx, hy, Result.andThen_ok]
 have h1 : (⟨l.toArray⟩ : ByteArray).size = l.length := by simp [ByteArray.size]
 have h2 : ∀ i : Nat, (⟨l.toArray⟩ : ByteArray)[i]! = l.getD i 0 := fun i => by exact Go.Lib.get!_eq l i
 simp only [h1, h2, aF6 (p := fun b => b == c)]
 unfold dD
 cases l.findIdx? fun b => b == c <;> rfl
theorem uY {P : Program} {w : World} {ρ : Env} {O : Nat → Prop} {c : UInt8} {y : Value} (h : RepV w ρ O (.c (u8 c)) y) : (Extern.Bytes.asByte y).run P w = .ok c w := by
 have h1 := h.single rfl
 simp_all [u8, RepC, List.cons.injEq, and_true, Extern.Bytes.asByte]
theorem bY1 {P : Program} {f : FuncId} {fn : Func} (hf : P.funcs[f]? = some fn) (hname : (fn.name == "runtime.NumGoroutine") = false) (hb : fn.body.isNone = true) (hn : Extern.findNext fn = none)
  (he : Extern.find fn = some Extern.BytealgIndexByte.indexByte) (l : List UInt8) (c : UInt8) : cH P f [.slc (l.map u8), u8 c] (fun v => v = .int .i64 (dD l c)) :=
 xQ hf hname hb hn he fun w ρ O xs h => by
  simp only [List.map_cons, List.map_nil, bG, RepHV] at h
  obtain ⟨x, l1, rfl, hx, y, l2, rfl, hy, rfl⟩ := h
  exact ⟨_, _, rfl, dR _ _ _ _ _, aS1 (aX2 hx) (uY hy)⟩
theorem bP5 {P : Program} {f : FuncId} {fn : Func} (hf : P.funcs[f]? = some fn) (hname : (fn.name == "runtime.NumGoroutine") = false) (hb : fn.body.isNone = true) (hn : Extern.findNext fn = none)
  (he : Extern.find fn = some Extern.BytealgIndexByte.indexByte) (l : List UInt8) (c : UInt8) : cH P f [.str l, u8 c] (fun v => v = .int .i64 (dD l c)) :=
 xQ hf hname hb hn he fun w ρ O xs h => by
  simp only [List.map_cons, List.map_nil, bG, RepHV] at h
  obtain ⟨x, l1, rfl, hx, y, l2, rfl, hy, rfl⟩ := h
  have hx' : (Extern.Bytes.bytesOf x).run P w = .ok ⟨l.toArray⟩ w := by
   have h1 := hx.single rfl
   simp only [RepC, List.cons.injEq, and_true] at h1
   subst h1
   rfl
  exact ⟨_, _, rfl, dR _ _ _ _ _, aS1 hx' (uY hy)⟩
end Go.Hl

namespace Go.Pl
open Go Go.Hl

def aR (c : UInt8) : List UInt8 → List (List UInt8)
 | [] => [[]]
 | b :: l => if b = c then [] :: aR c l else match aR c l with
  | x :: xs => (b :: x) :: xs
  | [] => [[b]]
theorem cR (c : UInt8) (l : List UInt8) : aR c l ≠ [] := by
 cases l with
 | nil => simp [aR]
 | cons b l => grind [aR]
theorem oQ (c : UInt8) : ∀ l : List UInt8, match l.findIdx? (· == c) with
  | some i => i < l.length ∧ aR c l = l.take i :: aR c (l.drop (i + 1))
  | none => aR c l = [l]
 | [] => rfl
 | b :: l => by
  have ih := oQ c l
  rw [List.findIdx?_cons]
  by_cases h : b = c
  ·
   grind [aR]
  ·
   have hb : (b == c) = false := by simpa using h
   simp only [hb, Bool.false_eq_true, if_false]
   cases hf : l.findIdx? (· == c) with
   | none =>
    simp_all [Option.map_none, aR, if_neg]
   | some i =>
    simp_all [Option.map_some, aR, if_neg, List.length_cons, List.take_succ_cons, List.drop_succ_cons, trivial]
theorem mJ {l : List UInt8} {c : UInt8} (h : dD l c < 0) : aR c l = [l] := by
 have := oQ c l
 grind [dD]
theorem dT {l : List UInt8} {c : UInt8} (h : ¬ dD l c < 0) : ∃ i : Nat, dD l c = (i : Int) ∧ i < l.length ∧ aR c l = l.take i :: aR c (l.drop (i + 1)) := by
 have := oQ c l
 unfold dD at h ⊢
 grind
theorem kC (c : UInt8) : ∀ l : List UInt8, (aR c l).length ≤ l.length + 1
 | [] => by simp [aR]
 | b :: l => by
  have ih := kC c l
  grind [aR, List.length_cons]
theorem uZ (c : UInt8) : ∀ (l : List UInt8), ∀ p ∈ aR c l, p.length ≤ l.length
 | [], p, hp => by grind [aR]
 | b :: l, p, hp => by
  have ih := uZ c l
  unfold aR at hp
  split at hp
  ·
   grind
  ·
   split at hp
   ·
    grind
   grind

def valH (c : UInt8) : Nat := if 48 ≤ c.toNat ∧ c.toNat ≤ 57 then c.toNat - 48 else if 65 ≤ c.toNat ∧ c.toNat ≤ 70 then c.toNat - 55 else 16
def byteH (x y : UInt8) : UInt8 := UInt8.ofNat (16 * valH x + valH y)
def okH (x y : UInt8) : Bool := decide (valH x < 16) && decide (valH y < 16) && !cQ (byteH x y)
def unB : List UInt8 → Option aE
 | [] => some []
 | c :: l => if cQ c then (unB l).map (c :: ·) else if c = 37 then match l with
   | x :: y :: l' => if okH x y then (unB l').map (byteH x y :: ·) else none
   | _ => none
  else none
def unW (s : aE) : Option aE := if s = [126] then some [] else if s = [] then none else unB s

theorem nU {c : UInt8} {l : aE} (h : cQ c = true) : unB (c :: l) = (unB l).map (c :: ·) := by
 rw [unB.eq_def]; grind
theorem tK {c : UInt8} {l : aE} (h : cQ c = false) (h1 : c ≠ 37 ∨ l.length < 2) : unB (c :: l) = none := by
 rw [unB.eq_def]
 grind
theorem aA0 {x y : UInt8} {l : aE} (h : okH x y = true) : unB (37 :: x :: y :: l) = (unB l).map (byteH x y :: ·) := by
 rw [unB.eq_def]
 simp_all [cQ, Bool.false_eq_true, if_false, if_true]
theorem sI {x y : UInt8} {l : aE} (h : okH x y = false) : unB (37 :: x :: y :: l) = none := by simp_all [unB.eq_def, cQ, Bool.false_eq_true, if_false, if_true]
theorem bY2 {s : aE} {w : aE} (hs : s ≠ []) (h : unB s = some w) : w ≠ [] := by
 cases s with
 | nil => grind
 | cons c l =>
  by_cases hp : cQ c = true
  ·
   rw [nU hp, Option.map_eq_some_iff] at h
   grind
  ·
   have hp : cQ c = false := by simpa using hp
   rw [unB.eq_def] at h
   simp only [hp, Bool.false_eq_true, if_false] at h
   split at h
   ·
    split at h
    ·
     split at h
     ·
      rw [Option.map_eq_some_iff] at h; grind
     grind
    grind
   grind


def bP6 : List UInt8 := [48, 49, 50, 51, 52, 53, 54, 55, 56, 57, 65, 66, 67, 68, 69, 70]
set_option maxRecDepth 20000 in
theorem pR (c : UInt8) : dD bP6 c = if valH c < 16 then (valH c : Int) else -1 := by
 have h : ∀ n : Fin 256, dD bP6 (UInt8.ofNat n.1) = if valH (UInt8.ofNat n.1) < 16 then (valH (UInt8.ofNat n.1) : Int) else -1 := by decide
 have := h ⟨c.toNat, c.toNat_lt⟩
 simp_all
theorem xR {x y : UInt8} (hx : valH x < 16) (hy : valH y < 16) : (byteH x y).toNat = 16 * valH x + valH y := by grind [byteH, UInt8.toNat_ofNat']

def UnSt (s : aE) (i : Nat) (out : aE) : Prop := i ≤ s.length ∧ unB s = (unB (s.drop i)).map (out ++ ·) ∧ (out = [] → i = 0) ∧ out.length ≤ i
section
variable {s : aE} {i : Nat} {out : aE}
theorem UnSt.init (s : aE) : UnSt s 0 [] := ⟨Nat.zero_le _, by simp, fun _ => rfl, Nat.le_refl _⟩
theorem UnSt.plain (h : UnSt s i out) (hi : i < s.length) (hp : cQ s[i] = true) : UnSt s (i + 1) (out ++ [s[i]]) := by
 obtain ⟨_, h2, _, h4⟩ := h
 refine ⟨hi, ?_, by simp, by grind⟩
 rw [h2, List.drop_eq_getElem_cons hi, nU hp, Option.map_map]
 congr 1
 grind
theorem UnSt.bad1 (h : UnSt s i out) (hi : i < s.length) (hp : cQ s[i] = false) (h1 : s[i] ≠ 37 ∨ s.length ≤ i + 2) : unB s = none := by
 rw [h.2.1, List.drop_eq_getElem_cons hi, tK hp (h1.imp id fun h => by grind)]
 rfl
theorem bW1 {s : aE} {i : Nat} (hi : i + 2 < s.length) : s.drop i = s[i] :: s[i + 1] :: s[i + 2] :: s.drop (i + 3) := by
 rw [List.drop_eq_getElem_cons (show i < s.length by omega), List.drop_eq_getElem_cons (show i + 1 < s.length by omega), List.drop_eq_getElem_cons hi]
theorem UnSt.esc (h : UnSt s i out) (hi : i + 2 < s.length) (h37 : s[i] = 37) (hok : okH s[i + 1] s[i + 2] = true) : UnSt s (i + 3) (out ++ [byteH s[i + 1] s[i + 2]]) := by
 obtain ⟨_, h2, _, h4⟩ := h
 refine ⟨hi, ?_, by simp, by simp; omega⟩
 rw [h2, bW1 hi, h37, aA0 hok, Option.map_map]
 congr 1
 funext l
 simp
theorem UnSt.bad2 (h : UnSt s i out) (hi : i + 2 < s.length) (h37 : s[i] = 37) (hok : okH s[i + 1] s[i + 2] = false) : unB s = none := by
 rw [h.2.1, bW1 hi, h37, sI hok]
 rfl
theorem mK (h : unB s = none) (h1 : s ≠ [126]) : unW s = none := by simp_all [unW, if_neg]
theorem UnSt.fin (h : UnSt s i out) (hi : i = s.length) (h1 : s ≠ [126]) : unW s = if out = [] then none else some out := by
 subst hi
 obtain ⟨_, h2, h3, h4⟩ := h
 rw [List.drop_length] at h2
 unfold unW
 rw [if_neg h1]
 by_cases ho : out = []
 ·
  grind
 ·
  have hs : s ≠ [] := by
   rintro rfl
   simp only [List.length_nil, Nat.le_zero] at h4
   exact ho (List.eq_nil_of_length_eq_zero h4)
  simp_all [if_neg, unB]
end

def CutR (l : List UInt8) (c : UInt8) (li re : List UInt8) (fd : Bool) : Prop :=
 (fd = false ∧ dD l c < 0 ∧ li = l ∧ re = []) ∨ (fd = true ∧ ∃ i : Nat, dD l c = (i : Int) ∧ i < l.length ∧ li = l.take i ∧ re = l.drop (i + 1))

def unL (r : aE) : Option (List aE) := (aR 32 r).mapM unW
def unR (r : aE) : Option (List aE) := match unL r with | some ws => if okL ws then some ws else none | none => none
def fP (b : aE) : Option (List (List aE)) :=
 if b = [] then some [] else if (aR 10 b).getLast (cR 10 b) = [] then (aR 10 b).dropLast.mapM unR else none
theorem aF7 {l li re : aE} (hc : CutR l 10 li re true) : fP l = (unR li).bind fun ws => (fP re).map (ws :: ·) := by
 rcases hc with ⟨h, _⟩ | ⟨_, i, h1, h2, rfl, rfl⟩
 ·
  cases h
 ·
  obtain ⟨i', h3, _, hsp⟩ := dT (l := l) (c := 10) (by omega)
  have : i' = i := by omega
  subst this
  have hne : l ≠ [] := by rintro rfl; simp at h2
  have hd : fP l = if (aR 10 (l.drop (i' + 1))).getLast (cR 10 _) = [] then (l.take i' :: (aR 10 (l.drop (i' + 1))).dropLast).mapM unR else none := by
   unfold fP
   rw [if_neg hne]
   simp only [hsp]
   grind [List.getLast_cons, cR, List.dropLast_cons_of_ne_nil]
  rw [hd]
  have he : fP (l.drop (i' + 1)) = if (aR 10 (l.drop (i' + 1))).getLast (cR 10 _) = [] then (aR 10 (l.drop (i' + 1))).dropLast.mapM unR else none := by
   unfold fP
   split
   ·
    rename_i h
    rw [h]; rfl
   ·
    rfl
  rw [he]
  split
  ·
   rw [List.mapM_cons]
   cases unR (l.take i') with
   | none => rfl
   | some ws => cases (aR 10 (l.drop (i' + 1))).dropLast.mapM unR <;> rfl
  simp_all
theorem vA {l li re : aE} (hc : CutR l 10 li re false) (hne : l ≠ []) : fP l = none := by
 rcases hc with ⟨_, h, _⟩ | ⟨h, _⟩
 all_goals simp_all [fP, if_neg, mJ, List.getLast_singleton]
theorem bE9 {l li re : aE} {fd : Bool} (hc : CutR l 10 li re fd) (hne : l ≠ []) (h : unR li = none) : fP l = none := by
 cases fd with
 | false => exact vA hc hne
 | true => rw [aF7 hc, h]; rfl
theorem CutR.lt {l li re : aE} {c : UInt8} {fd : Bool} (hc : CutR l c li re fd) (hne : l ≠ []) : re.length < l.length ∧ li.length ≤ l.length := by
 have : 0 < l.length := List.length_pos_iff.2 hne
 rcases hc with ⟨_, _, rfl, rfl⟩ | ⟨_, i, _, h, rfl, rfl⟩
 all_goals grind

def wsT (r : aE) (i : Nat) : List aE := ((aR 32 r).take i).map fun p => (unW p).getD []
def bF0 (r : aE) (i : Nat) : Prop := ∀ p ∈ (aR 32 r).take i, (unW p).isSome = true
theorem bF1 {r : aE} {i : Nat} (h : i < (aR 32 r).length) : wsT r (i + 1) = wsT r i ++ [(unW (aR 32 r)[i]).getD []] := by
 simp only [wsT, List.take_succ_eq_append_getElem h, List.map_append, List.map_cons, List.map_nil]
theorem vB {r : aE} {i : Nat} (h : i ≤ (aR 32 r).length) : (wsT r i).length = i := by grind [wsT, List.length_map, List.length_take]
theorem aX3 {r : aE} {i : Nat} (h : i < (aR 32 r).length) (h1 : bF0 r i) (h2 : (unW (aR 32 r)[i]).isSome = true) : bF0 r (i + 1) := by
 intro p hp
 rw [List.take_succ_eq_append_getElem h, List.mem_append, List.mem_singleton] at hp
 rcases hp with hp | rfl
 ·
  exact h1 p hp
 ·
  exact h2
theorem xS {α β : Type} {f : α → Option β} : ∀ {l : List α} {x : α}, x ∈ l → f x = none → l.mapM f = none
 | a :: l, x, hx, h => by
  rw [List.mapM_cons]
  rcases List.mem_cons.1 hx with rfl | hx
  ·
   grind
  ·
   rw [xS hx h]
   simp_all
theorem aF8 {α β : Type} {f : α → Option β} (d : β) : ∀ {l : List α}, (∀ x ∈ l, (f x).isSome = true) → l.mapM f = some (l.map fun x => (f x).getD d)
 | [], _ => rfl
 | a :: l, h => by
  rw [List.mapM_cons, aF8 d fun x hx => h x (List.mem_cons_of_mem _ hx)]
  grind [Option.isSome_iff_exists, List.mem_cons_self]
theorem bF2 {r : aE} {i : Nat} (h : i < (aR 32 r).length) (h2 : (unW (aR 32 r)[i]).isSome = false) : unR r = none := by
 unfold unR unL
 rw [xS (List.getElem_mem h) (by simpa using h2)]
theorem bP7 {r : aE} (h : bF0 r (aR 32 r).length) : unR r = if okL (wsT r (aR 32 r).length) then some (wsT r (aR 32 r).length) else none := by
 unfold bF0 at h
 rw [List.take_length] at h
 unfold unR unL
 rw [aF8 [] h]
 simp only [wsT, List.take_length]

def DecSt (b rest : aE) (ls : List (List aE)) : Prop := fP b = (fP rest).map (ls ++ ·) ∧ rest.length ≤ b.length ∧ ls.length + rest.length ≤ b.length
theorem DecSt.init (b : aE) : DecSt b b [] := ⟨by simp, Nat.le_refl _, by simp⟩
theorem DecSt.bad {b rest li re : aE} {ls : List (List aE)} {fd : Bool} (h : DecSt b rest ls) (hc : CutR rest 10 li re fd) (hne : rest ≠ []) (hb : unR li = none) : fP b = none := by
 rw [h.1, bE9 hc hne hb]; rfl
theorem DecSt.bad0 {b rest li re : aE} {ls : List (List aE)} (h : DecSt b rest ls) (hc : CutR rest 10 li re false) (hne : rest ≠ []) : fP b = none := by
 rw [h.1, vA hc hne]; rfl
theorem DecSt.next {b rest li re : aE} {ls : List (List aE)} (h : DecSt b rest ls) (hc : CutR rest 10 li re true) (hne : rest ≠ []) {ws : List aE} (hb : unR li = some ws) : DecSt b re (ls ++ [ws]) := by
 have hl := hc.lt hne
 obtain ⟨h1, h2, h3⟩ := h
 refine ⟨?_, by omega, by grind⟩
 rw [h1, aF7 hc, hb]
 cases fP re with
 | none => rfl
 | some l => simp
theorem DecSt.fin {b : aE} {ls : List (List aE)} (h : DecSt b [] ls) : fP b = some ls := by
 rw [h.1]
 simp [fP]
def iA (b : aE) : Int := if 262144 < b.length then 3 else match fP b with | some ls => if 1000 < ls.length then 2 else 0 | none => 2
def eZ (b : aE) : List (List aE) := if iA b = 0 then (fP b).getD [] else []
end Go.Pl

namespace Go.Pl
open Go Go.Hl

def jQ (w : aE) : Bool := !(w == []) && (!(w == [46]) && !(w == [46, 46]))
def jR (s : aE) : Bool := decide (1 ≤ s.length) && (decide (s.length ≤ 200) && (!s.contains 0 && (aR 47 s).all jQ))

structure Pt where
 k : Nat
 c : UInt8
def Pt.cv (x : Pt) : CV := .agg [.int .i64 x.k, .int .u8 x.c.toNat]
theorem Pt.cells (x : Pt) : x.cv.cells = 2 := by simp [Pt.cv, CV.cells, CV.cellsL]
theorem Pt.denil (x : Pt) : x.cv.denil = x.cv := by simp only [Pt.cv, CV.denil, CV.denilL]
theorem denilL_Pt (l : List Pt) : CV.denilL (l.map Pt.cv) = l.map Pt.cv := bV Pt.denil l
theorem Pt.isAgg (x : Pt) : x.cv.isAgg = true := rfl
theorem Pt.getAll (x : Pt) : CV.getAt 0 2 true x.cv = some x.cv := by
 have := Pt.cells x
 simp_all [Pt.cv, CV.cells, CV.getAt, and_self, if_true]
theorem Pt.setAll (x : Pt) (y : HV) : CV.setAt 0 2 y x.cv = some y := by
 have := Pt.cells x
 simp_all [Pt.cv, CV.cells, CV.setAt, and_self, if_true]
theorem Pt.fold (k : Nat) (c : UInt8) : CV.agg [.int .i64 k, .int .u8 c.toNat] = Pt.cv ⟨k, c⟩ := rfl
theorem Pt.get_k (x : Pt) : CV.getAt 0 1 false x.cv = some (.int .i64 x.k) := by simp [Pt.cv, CV.getAt, CV.getAtL, CV.cells, CV.cellsL]
theorem Pt.get_c (x : Pt) : CV.getAt 1 1 false x.cv = some (.int .u8 x.c.toNat) := by simp [Pt.cv, CV.getAt, CV.getAtL, CV.cells, CV.cellsL]
def patP : aE → Option (List Pt)
 | [] => some []
 | c :: l => if c = 0 then none
  else if c = 92 then match l with
   | [] => none
   | d :: r => if d = 0 then none else (patP r).map (⟨0, d⟩ :: ·)
  else if c = 63 then (patP l).map (⟨1, 0⟩ :: ·)
  else if c = 42 then match l with
   | [] => some [⟨2, 0⟩]
   | d :: r => if d = 42 then (patP r).map (⟨3, 0⟩ :: ·) else (patP (d :: r)).map (⟨2, 0⟩ :: ·)
  else (patP l).map (⟨0, c⟩ :: ·)
def gL (p : aE) : Option (List Pt) := if p.length < 1 ∨ 200 < p.length then none else patP p
theorem iR : ∀ (n : Nat) (l : aE), l.length ≤ n → 0 ∈ l → patP l = none
 | _, [], _, h => by grind
 | 0, _ :: _, hn, _ => by grind
 | n + 1, c :: l, hn, h => by
  have hn' : l.length ≤ n := by simpa using hn
  rw [patP.eq_def]
  simp only
  split
  ·
   rfl
  ·
   rename_i hc
   have hl : 0 ∈ l := by
    rcases List.mem_cons.1 h with h | h
    ·
     grind
    ·
     exact h
   split
   ·
    cases l with
    | nil => rfl
    | cons d r =>
     simp only
     split
     ·
      rfl
     ·
      rename_i hd
      have hr : 0 ∈ r := by
       rcases List.mem_cons.1 hl with h | h
       ·
        grind
       ·
        exact h
      rw [iR n r (by grind) hr]; rfl
   ·
    split
    ·
     rw [iR n l hn' hl]; rfl
    ·
     split
     ·
      cases l with
      | nil => grind
      | cons d r =>
       simp only
       split
       ·
        rename_i hd
        have hr : 0 ∈ r := by
         rcases List.mem_cons.1 hl with h | h
         ·
          grind
         ·
          exact h
        rw [iR n r (by grind) hr]; rfl
       ·
        rw [iR n (d :: r) hn' hl]; rfl
     ·
      rw [iR n l hn' hl]; rfl
theorem aS2 : ∀ (n : Nat) (l : aE) (ps : List Pt), l.length ≤ n → patP l = some ps → ps.length ≤ l.length ∧ ∀ x ∈ ps, x.k ≤ 3
 | _, [], ps, _, h => by grind [patP.eq_def]
 | 0, _ :: _, _, hn, _ => by grind
 | n + 1, c :: l, ps, hn, h => by
  have hn' : l.length ≤ n := by simpa using hn
  have key : ∀ (r : aE) (x : Pt), r.length ≤ l.length → x.k ≤ 3 → (patP r).map (x :: ·) = some ps → ps.length ≤ (c :: l).length ∧ ∀ x ∈ ps, x.k ≤ 3 := by
   intro r x hr hx h
   cases hp : patP r with
   | none => grind
   | some q =>
    rw [hp] at h
    cases h
    obtain ⟨g1, g2⟩ := aS2 n r q (by omega) hp
    grind
  rw [patP.eq_def] at h
  simp only at h
  split at h
  ·
   cases h
  ·
   split at h
   ·
    grind
   ·
    split at h
    ·
     grind
    ·
     split at h
     ·
      grind
     grind
def PatSt (p : aE) (i : Nat) (out : List Pt) : Prop := i ≤ p.length ∧ patP p = (patP (p.drop i)).map (out ++ ·) ∧ out.length ≤ i ∧ ∀ x ∈ out, x.k ≤ 3
theorem PatSt.init (p : aE) : PatSt p 0 [] := ⟨by omega, by simp, by simp, by simp⟩
section
variable {p : aE} {i : Nat} {out : List Pt}
theorem PatSt.fin (h : PatSt p i out) (hi : i = p.length) : patP p = some out := by
 rw [h.2.1, hi, List.drop_length, patP.eq_def]; simp
theorem PatSt.step (h : PatSt p i out) {k : Nat} {x : Pt} (hk : i + k ≤ p.length) (h0 : 1 ≤ k) (hx : x.k ≤ 3) (he : patP (p.drop i) = (patP (p.drop (i + k))).map (x :: ·)) : PatSt p (i + k) (out ++ [x]) := by
 refine ⟨hk, ?_, by have := h.2.2.1; grind, fun y hy => ?_⟩
 ·
  rw [h.2.1, he, Option.map_map]
  congr 1
  grind
 ·
  rcases List.mem_append.1 hy with hy | hy
  ·
   exact h.2.2.2 y hy
  grind
theorem PatSt.bad (h : PatSt p i out) (he : patP (p.drop i) = none) : patP p = none := by rw [h.2.1, he]; rfl
theorem bW2 {p : aE} {i : Nat} (h : i + 1 < p.length) : p.drop i = p[i] :: p[i + 1] :: p.drop (i + 2) := by
 rw [List.drop_eq_getElem_cons (by omega), List.drop_eq_getElem_cons h]
theorem bF3 (hi : i + 1 < p.length) (h1 : p[i] = 92) (h2 : p[i + 1] ≠ 0) : patP (p.drop i) = (patP (p.drop (i + 2))).map (⟨0, p[i + 1]⟩ :: ·) := by
 rw [bW2 hi, patP.eq_def]; simp only
 rw [if_neg (by rw [h1]; decide), if_pos h1, if_neg h2]
theorem aX4 (hi : i < p.length) (h1 : p[i] = 92) (he : i + 1 = p.length) : patP (p.drop i) = none := by simp_all [List.drop_eq_getElem_cons, List.drop_eq_nil_of_le, patP.eq_def, if_neg, if_pos]
theorem bY3 (hi : i < p.length) (h1 : p[i] = 63) : patP (p.drop i) = (patP (p.drop (i + 1))).map (⟨1, 0⟩ :: ·) := by
 rw [List.drop_eq_getElem_cons hi, patP.eq_def]; grind
theorem bP8 (hi : i + 1 < p.length) (h1 : p[i] = 42) (h2 : p[i + 1] = 42) : patP (p.drop i) = (patP (p.drop (i + 2))).map (⟨3, 0⟩ :: ·) := by
 rw [bW2 hi, patP.eq_def]; simp only
 rw [if_neg (by rw [h1]; decide), if_neg (by rw [h1]; decide), if_neg (by rw [h1]; decide), if_pos h1, if_pos h2]
theorem bF4 (hi : i < p.length) (h1 : p[i] = 42) (h2 : ∀ h : i + 1 < p.length, p[i + 1] ≠ 42) : patP (p.drop i) = (patP (p.drop (i + 1))).map (⟨2, 0⟩ :: ·) := by
 rw [List.drop_eq_getElem_cons hi, patP.eq_def]; simp only
 rw [if_neg (by rw [h1]; decide), if_neg (by rw [h1]; decide), if_neg (by rw [h1]; decide), if_pos h1]
 rcases Nat.lt_or_ge (i + 1) p.length with h | h
 ·
  rw [List.drop_eq_getElem_cons h]; simp only
  rw [if_neg (h2 h)]
 ·
  rw [List.drop_eq_nil_of_le h]
  simp only
  rw [patP.eq_def]; rfl
theorem bY4 (hi : i < p.length) (h0 : p[i] ≠ 0) (h1 : p[i] ≠ 92) (h2 : p[i] ≠ 63) (h3 : p[i] ≠ 42) : patP (p.drop i) = (patP (p.drop (i + 1))).map (⟨0, p[i]⟩ :: ·) := by
 rw [List.drop_eq_getElem_cons hi, patP.eq_def]; grind
end

def Pt.long (x : Pt) : Bool := decide (2 ≤ x.k)
def Pt.takes (x : Pt) (c : UInt8) : Bool := if x.k = 0 then c == x.c else if x.k = 3 then true else !(c == 47)
def mD (ps : List Pt) (s : aE) : Nat → Nat → Bool
 | 0, 0 => true
 | 0, _ + 1 => false
 | k + 1, 0 => (ps.getD k ⟨0, 0⟩).long && mD ps s k 0
 | k + 1, i + 1 => if (ps.getD k ⟨0, 0⟩).long then mD ps s k (i + 1) || (mD ps s (k + 1) i && (ps.getD k ⟨0, 0⟩).takes (s.getD i 0))
  else mD ps s k i && (ps.getD k ⟨0, 0⟩).takes (s.getD i 0)
termination_by k i => k + i
def lE (p s : aE) : Bool := match gL p with | some ps => jR s && mD ps s ps.length s.length | none => false
def mN (ps : List Pt) (s : aE) (k i : Nat) : Bool := if k < ps.length ∧ (ps.getD k ⟨0, 0⟩).long = true then mD ps s (k + 1) i else mD ps s k i
end Go.Pl

namespace Go.Hl
open Go

section
variable {P : Program} {av : List Nat} {f : FuncId} {ob : Ob} {nid id n : Nat} {K : HV → Ob → Prop} {T e : TypeId} {sz : Nat} {v : CV} {l : List CV}
end
def mL (P : Program) (f : FuncId) (args : List CV) (R : CV → CV → Prop) : Prop :=
 HFn P f (args.map .c) 0 cI (fun r ob' => ∃ u v, r = .tup [.c u, .c v] ∧ R u v ∧ ob' = cI)
theorem bF {ob : Ob} {r : HV} {R : CV → CV → Prop} (cl : List Nat) (u v : CV) (h : (r.close ob cl).norm = .tup [.c u, .c v]) (hR : R u v) : lM 0 r ob (fun r ob' => ∃ u v, r = .tup [.c u, .c v] ∧ R u v ∧ ob' = cI) :=
 ⟨cl, id, .tup [.c u, .c v], cI, ⟨u, v, rfl, hR, rfl⟩, by rw [h]; rfl, fun _ h => by omega, fun _ _ _ _ h => h, by simp [HV.men, HV.menL], fun j o h => by simp [cI] at h⟩
theorem aN1 {P : Program} {av : List Nat} {f : FuncId} {ob : Ob} {nid : Nat} {K : HV → Ob → Prop} {args : List CV} {R : CV → CV → Prop} (h : mL P f args R) (hfree : Free4 ob nid) (hK : ∀ u v, R u v → K (.tup [.c u, .c v]) ob) :
  HCall P av f (args.map .c) ob nid K := by
 refine ⟨[], args.map .c, cI, _, h, iQ args, ⟨List.nodup_nil, by simp⟩, (HV.renL_c _ _).symm, fun j o h => by simp [cI] at h, fun r lob' hR _ => ?_⟩
 obtain ⟨u, v, rfl, hv, rfl⟩ := hR
 rw [jP hfree.all]
 exact hK u v hv
end Go.Hl

namespace Go.Hl
open Go

section
variable {P : Program} {av : List Nat} {f : FuncId} {ob : Ob} {nid id n : Nat} {K : HV → Ob → Prop} {T e : TypeId} {sz : Nat} {v : CV} {l : List CV} {rest : List HV}
end

def aA1 (P : Program) (f : FuncId) (args : List CV) (R : CV → CV → CV → Prop) : Prop :=
 HFn P f (args.map .c) 0 cI (fun r ob' => ∃ u v x, r = .tup [.c u, .c v, .c x] ∧ R u v x ∧ ob' = cI)
theorem iZ {ob : Ob} {r : HV} {R : CV → CV → CV → Prop} (cl : List Nat) (u v x : CV) (h : (r.close ob cl).norm = .tup [.c u, .c v, .c x]) (hR : R u v x) : lM 0 r ob (fun r ob' => ∃ u v x, r = .tup [.c u, .c v, .c x] ∧ R u v x ∧ ob' = cI) :=
 ⟨cl, id, .tup [.c u, .c v, .c x], cI, ⟨u, v, x, rfl, hR, rfl⟩, by rw [h]; rfl, fun _ h => by omega, fun _ _ _ _ h => h, by simp [HV.men, HV.menL], fun j o h => by simp [cI] at h⟩
theorem oR {P : Program} {av : List Nat} {f : FuncId} {ob : Ob} {nid : Nat} {K : HV → Ob → Prop} {args : List CV} {R : CV → CV → CV → Prop} (h : aA1 P f args R) (hfree : Free4 ob nid) (hK : ∀ u v x, R u v x → K (.tup [.c u, .c v, .c x]) ob) :
  HCall P av f (args.map .c) ob nid K := by
 refine ⟨[], args.map .c, cI, _, h, iQ args, ⟨List.nodup_nil, by simp⟩, (HV.renL_c _ _).symm, fun j o h => by simp [cI] at h, fun r lob' hR _ => ?_⟩
 obtain ⟨u, v, x, rfl, hv, rfl⟩ := hR
 rw [jP hfree.all]
 exact hK u v x hv
theorem aN2 {ob : Ob} {r w : HV} {T : TypeId} {R : CV → CV → CV → Prop} (cl : List Nat) (u x v' : CV) (h : (r.close ob cl).norm = .tup [.c u, .c x]) (hb : ob 0 = some (.box T w)) (hw : (w.close ob cl).norm = .c v') (h0 : 0 ∉ cl) (hR : R u x v') :
  lM 1 r ob (fun r ob' => ∃ u x v', r = .tup [.c u, .c x] ∧ ob' = fob [(0, .box T (.c v'))] ∧ R u x v') := by
 refine ⟨cl, id, .tup [.c u, .c x], fob [(0, .box T (.c v'))], ⟨u, x, v', rfl, rfl, hR⟩, by grind [HV.ren, HV.renL], fun _ _ => rfl, fun _ _ _ _ h => h, by simp [HV.men, HV.menL], fun j o ho => ?_⟩
 by_cases e : j = 0
 ·
  subst e
  simp only [fob_at, if_true, Option.some.injEq] at ho
  subst ho
  refine ⟨by omega, by simp [HO.men, HV.men], h0, .box T w, hb, ?_⟩
  simp only [hw]
  rfl
 grind [fob_at, fob_nil]
end Go.Hl

namespace Go.Hl
open Go

def lst (os : List HO) : Ob := fun j => os[j]?
theorem vC (o : HO) (os : List HO) (j : Nat) : lst (o :: os) (j + 1) = lst os j := by simp [lst]
def HGe (P : Program) (f : FuncId) (args : List HV) (os : List HO) (R : HV → List HO → Prop) : Prop :=
 HFn P f args os.length (lst os) (fun r ob' => ∃ os', ob' = lst os' ∧ (os.length ≤ os'.length ∧ os'.length ≤ os.length + 4) ∧ R r os')
def jJ (m : Nat → Nat) : Ob → Nat → List HO → Ob
 | ob, _, [] => ob
 | ob, j, o :: os => jJ m (upd ob (m j) (some (o.ren m))) (j + 1) os
theorem nV (m : Nat → Nat) (i : Nat) : ∀ (os : List HO) (ob : Ob) (j : Nat), (∀ t, t < os.length → m (j + t) ≠ i) → jJ m ob j os i = ob i
 | [], _, _, _ => rfl
 | o :: os, ob, j, h => by
  rw [jJ, nV m i os _ (j + 1) fun t ht => by have := h (t + 1) (by grind); grind]
  exact aV _ _ fun e => h 0 (by simp) e.symm
theorem aF9 (m : Nat → Nat) {N : Nat} (inj : ∀ a b, a < N → b < N → m a = m b → a = b) : ∀ (os : List HO) (ob : Ob) (j t : Nat) (ht : t < os.length), j + os.length ≤ N → jJ m ob j os (m (j + t)) = some (os[t].ren m)
 | o :: os, ob, j, 0, ht, hN => by
  show jJ m (upd ob (m j) (some (o.ren m))) (j + 1) os (m j) = _
  grind [nV, List.length_cons, aP]
 | o :: os, ob, j, t + 1, ht, hN => by
  have := aF9 m inj os (upd ob (m j) (some (o.ren m))) (j + 1) t (by grind) (by grind)
  rw [jJ, show j + (t + 1) = j + 1 + t from by omega, this]
  rfl
theorem aN3 {σ : List Nat} {nid j : Nat} (h : j < σ.length) : sub σ nid j = σ[j] := by simp_all [sub, if_pos, List.getD_eq_getElem?_getD, List.getElem?_eq_getElem]
theorem aN4 {σ : List Nat} {nid j : Nat} (h : σ.length ≤ j) : sub σ nid j = nid + (j - σ.length) := by simp_all [sub, if_neg]
theorem bP9 {σ : List Nat} {nid : Nat} (hn : σ.Nodup) (ho : ∀ s ∈ σ, s < nid ∨ nid + 4 ≤ s) : ∀ a b, a < σ.length + 4 → b < σ.length + 4 → sub σ nid a = sub σ nid b → a = b := by grind [Nat.lt_or_ge, aN3, List.getElem_inj, aN4, List.getElem_mem]
theorem sJ {ob : Ob} {σ : List Nat} {nid : Nat} {os : List HO} (hn : σ.Nodup) (ho : ∀ s ∈ σ, s < nid ∨ nid + 4 ≤ s) (hfree : Free4 ob nid) (h1 : σ.length ≤ os.length) (h2 : os.length ≤ σ.length + 4) :
  bT ob σ nid (lst os) = jJ (sub σ nid) ob 0 os := by
 have inj := bP9 hn ho
 have hit : ∀ t, (ht : t < os.length) → jJ (sub σ nid) ob 0 os (sub σ nid t) = some (os[t].ren (sub σ nid)) := fun t ht => by
  have := aF9 (sub σ nid) inj os ob 0 t ht (by omega)
  grind
 funext i
 unfold bT
 split
 ·
  grind [List.findIdx?_eq_some_iff_getElem, sub, aN3, lst, List.getElem?_eq_getElem]
 ·
  rename_i hj
  have hmem : i ∉ σ := fun h => by grind
  split
  ·
   rename_i hr
   have hi : sub σ nid (σ.length + (i - nid)) = i := by rw [aN4 (by omega)]; omega
   by_cases hlt : σ.length + (i - nid) < os.length
   ·
    grind [lst, List.getElem?_eq_getElem]
   ·
    rw [nV, lst, List.getElem?_eq_none (by omega), hfree.all i hr.1 hr.2]; all_goals grind
  ·
   rename_i hr
   rw [nV]
   intro t ht e
   rw [Nat.zero_add] at e
   grind [Nat.lt_or_ge, aN3, List.getElem_mem, aN4]
def aS3 (ob : Ob) (m : Nat → Nat) : List Nat → List HO → Prop
 | [], [] => True
 | s :: σ, o :: os => ob s = some (o.ren m) ∧ aS3 ob m σ os
 | _, _ => False
theorem rB {ob : Ob} {m : Nat → Nat} : ∀ {σ : List Nat} {os : List HO}, aS3 ob m σ os → σ.length = os.length ∧ ∀ j o, lst os j = some o → ob (σ.getD j 0) = some (o.ren m)
 | [], [], _ => ⟨rfl, fun j o h => by simp [lst] at h⟩
 | s :: σ, o :: os, h => by
  obtain ⟨h1, h2⟩ := rB h.2
  refine ⟨by grind, fun j o' hj => ?_⟩
  cases j with
  | zero => cases hj; exact h.1
  | succ j => grind [vC]
 | [], _ :: _, h => h.elim
 | _ :: _, [], h => h.elim
def eE (k : Nat) : List HO → Prop
 | [] => True
 | o :: os => o.men (· < k) ∧ eE k os
theorem xT {k : Nat} : ∀ {os : List HO}, eE k os → ∀ j o, lst os j = some o → o.men (· < k)
 | [], _, j, o, h => by simp [lst] at h
 | o :: os, h, 0, o', hj => by cases hj; exact h.1
 | o :: os, h, j + 1, o', hj => by rw [vC] at hj; exact xT h.2 j o' hj
theorem bF5 {os : List HO} {j : Nat} {o : HO} (h : lst os j = some o) : j < os.length := (List.getElem?_eq_some_iff.1 h).1
theorem fE {args : List HV} {os : List HO} {k : Nat} (hk : k = os.length) (h1 : eE k os) (h2 : HV.menL (· < k) args) : LocOk k args (lst os) := by
 subst hk
 exact ⟨fun j hj => ⟨os[j], by rw [lst, List.getElem?_eq_getElem hj]⟩, fun id o h => ⟨bF5 h, xT h1 id o h⟩, h2⟩
theorem fZ {P : Program} {av : List Nat} {f : FuncId} {ob : Ob} {nid : Nat} {K : HV → Ob → Prop} {largs args : List HV} {os : List HO} {R : HV → List HO → Prop} (σ : List Nat) (h : HGe P f largs os R) (ha : args = HV.renL (sub σ nid) largs)
  (hob : aS3 ob (sub σ nid) σ os) (hn : σ.Nodup) (hav : ∀ s ∈ σ, s ∉ av) (hfree : Free4 ob nid) (hm : eE os.length os) (hm2 : HV.menL (· < os.length) largs)
  (hK : ∀ r os', R r os' → K (r.ren (sub σ nid)) (jJ (sub σ nid) ob 0 os')) : HCall P av f args ob nid K := by
 obtain ⟨hl, hg⟩ := rB hob
 have ho : ∀ s ∈ σ, s < nid ∨ nid + 4 ≤ s := fun s hs => by
  obtain ⟨j, hj, rfl⟩ := List.getElem_of_mem hs
  have h1 := hg j os[j] (by rw [lst, List.getElem?_eq_getElem])
  rw [List.getD_eq_getElem?_getD, List.getElem?_eq_getElem hj] at h1
  rcases Nat.lt_or_ge σ[j] nid with h2 | h2
  ·
   grind
  ·
   rcases Nat.lt_or_ge σ[j] (nid + 4) with h3 | h3
   ·
    rw [Option.getD_some, hfree.all _ h2 h3] at h1; grind
   grind
 unfold HGe at h
 rw [← hl] at h hm hm2
 refine ⟨σ, largs, lst os, _, h, fE hl hm hm2, ⟨hn, hav⟩, ha, hg, fun r lob' hR _ => ?_⟩
 obtain ⟨os', rfl, ⟨h1, h2⟩, hR⟩ := hR
 grind [sJ]
def tau (k : Nat) (new : List Nat) (j : Nat) : Nat := if j < k then j else if j - k < new.length then new.getD (j - k) 0 else k + new.sum + 4 + j
theorem bF6 : ∀ {l : List Nat} {x : Nat}, x ∈ l → x ≤ l.sum
 | y :: l, x, h => by
  rcases List.mem_cons.1 h with rfl | h
  ·
   simp
  ·
   have := bF6 h; grind
theorem bQ0 {k : Nat} {new : List Nat} (hn : new.Nodup) (hk : ∀ s ∈ new, k ≤ s) : ∀ i j, tau k new i = tau k new j → i = j := by
 have key : ∀ j, j - k < new.length → ¬ j < k → k ≤ tau k new j ∧ tau k new j ≤ new.sum := fun j h1 h2 => by simp_all [tau, if_neg, if_pos, List.getD_eq_getElem?_getD, List.getElem?_eq_getElem, List.getElem_mem, bF6]
 have lo : ∀ j, j < k → tau k new j = j := fun j h => by unfold tau; grind
 have hi : ∀ j, ¬ j < k → ¬ j - k < new.length → tau k new j = k + new.sum + 4 + j := fun j h1 h2 => by simp_all [tau, if_neg]
 intro i j h
 by_cases i1 : i < k <;> by_cases j1 : j < k
 ·
  rwa [lo i i1, lo j j1] at h
 ·
  grind
 ·
  grind
 ·
  by_cases i2 : i - k < new.length <;> by_cases j2 : j - k < new.length
  ·
   unfold tau at h
   rw [if_neg i1, if_pos i2, if_neg j1, if_pos j2, List.getD_eq_getElem?_getD, List.getElem?_eq_getElem i2, List.getD_eq_getElem?_getD, List.getElem?_eq_getElem j2] at h
   grind [List.getElem_inj]
  all_goals grind
def fG (ob : Ob) (cl : List Nat) : HO → HO
 | .box t v => .box t (v.close ob cl).norm
 | .row e sz l => .row e sz l
 | .mp e sz D => .mp e sz D
 | .dead => .dead
 | .tab T => .tab T
 | .hrow e sz l => .hrow e sz (HV.closeL ob cl l)
def bF7 (ob : Ob) (cl : List Nat) (k : Nat) (τ : Nat → Nat) : Nat → List HO → Prop
 | _, [] => True
 | j, o :: os => (o.men (· < k + 4) ∧ τ j ∉ cl ∧ ∃ o0, ob (τ j) = some o0 ∧ fG ob cl o0 = o.ren τ) ∧ bF7 ob cl k τ (j + 1) os
theorem xU {ob : Ob} {cl : List Nat} {k : Nat} {τ : Nat → Nat} : ∀ {os : List HO} {j : Nat}, bF7 ob cl k τ j os → ∀ t o, lst os t = some o → o.men (· < k + 4) ∧ τ (j + t) ∉ cl ∧ ∃ o0, ob (τ (j + t)) = some o0 ∧ fG ob cl o0 = o.ren τ
 | [], _, _, t, o, h => by simp [lst] at h
 | o :: os, j, h, 0, o', ht => by cases ht; exact h.1
 | o :: os, j, h, t + 1, o', ht => by
  rw [vC] at ht
  have := xU h.2 t o' ht
  grind
theorem dX {k : Nat} {r : HV} {ob : Ob} {R : HV → List HO → Prop} (cl new : List Nat) (r' : HV) (os' : List HO) (hr : (r.close ob cl).norm = r'.ren (tau k new)) (hm : r'.men (· < k + 4)) (ho : bF7 ob cl k (tau k new) 0 os') (hl : os'.length = k + new.length)
  (hn : new.Nodup) (hk : ∀ s ∈ new, k ≤ s) (hl4 : new.length ≤ 4) (hR : R r' os') : lM k r ob (fun r ob' => ∃ os', ob' = lst os' ∧ (k ≤ os'.length ∧ os'.length ≤ k + 4) ∧ R r os') := by
 refine ⟨cl, tau k new, r', lst os', ⟨os', rfl, by omega, hR⟩, hr, fun j hj => by unfold tau; grind, fun i j _ _ h => bQ0 hn hk i j h, hm, fun j o hj => ?_⟩
 obtain ⟨h1, h2, o0, h3, h4⟩ := xU ho j o hj
 rw [Nat.zero_add] at h2 h3
 refine ⟨by have := bF5 hj; omega, h1, h2, o0, h3, ?_⟩
 rw [← h4]
 cases o0 <;> rfl
theorem aG0 {P : Program} {av : List Nat} {f : FuncId} {ob : Ob} {nid : Nat} {K : HV → Ob → Prop} {largs args : List HV} {os : List HO} {R : HV → List HO → Prop} (σ : List Nat) (h : HGe P f largs os R) (ha : args = HV.renL (sub σ nid) largs)
  (hob : aS3 ob (sub σ nid) σ os) (hn : σ.Nodup) (hav : ∀ j, j < σ.length → σ.getD j 0 ∉ av ∨ (σ.getD j 0 + 10000 ≤ nid ∧ ∀ r os', R r os' → os'[j]? = os[j]?)) (hfree : Free4 ob nid) (hm : eE os.length os) (hm2 : HV.menL (· < os.length) largs)
  (hK : ∀ r os', R r os' → K (r.ren (sub σ nid)) (jJ (sub σ nid) ob 0 os')) : HCallL P av f args ob nid K := by
 obtain ⟨hl, hg⟩ := rB hob
 have ho : ∀ s ∈ σ, s < nid ∨ nid + 4 ≤ s := fun s hs => by
  obtain ⟨j, hj, rfl⟩ := List.getElem_of_mem hs
  have h1 := hg j os[j] (by rw [lst, List.getElem?_eq_getElem])
  rw [List.getD_eq_getElem?_getD, List.getElem?_eq_getElem hj] at h1
  rcases Nat.lt_or_ge σ[j] nid with h2 | h2
  ·
   grind
  ·
   rcases Nat.lt_or_ge σ[j] (nid + 4) with h3 | h3
   ·
    rw [Option.getD_some, hfree.all _ h2 h3] at h1; grind
   grind
 unfold HGe at h
 rw [← hl] at h hm hm2
 refine ⟨σ, largs, lst os, _, h, fE hl hm hm2, ⟨hn, fun j hj => (hav j hj).imp (fun h => h) fun h => ⟨h.1, fun r lob' hR => ?_⟩⟩, ha, hg, fun r lob' hR _ => ?_⟩
 ·
  obtain ⟨os', rfl, _, hR⟩ := hR
  exact h.2 r os' hR
 ·
  obtain ⟨os', rfl, ⟨h1, h2⟩, hR⟩ := hR
  grind [sJ]
end Go.Hl

namespace Go.Hl
open Go

def sK (P : Program) (f : FuncId) (T : TypeId) (v : CV) (args : List CV) (R : CV → CV → CV → Prop) : Prop :=
 HFn P f (.ptr 0 0 :: args.map .c) 1 (fob [(0, .box T (.c v))]) (fun r ob' => ∃ u x v', r = .tup [.c u, .c x] ∧ ob' = fob [(0, .box T (.c v'))] ∧ R u x v')
theorem bR {ob : Ob} {r w : HV} {T : TypeId} {R : CV → CV → CV → Prop} (cl : List Nat) (u x v' : CV) (h : (r.close ob cl).norm = .tup [.c u, .c x]) (hb : ob 0 = some (.box T w)) (hw : (w.close ob cl).norm = .c v') (h0 : 0 ∉ cl) (hR : R u x v') :
  lM 1 r ob (fun r ob' => ∃ u x v', r = .tup [.c u, .c x] ∧ ob' = fob [(0, .box T (.c v'))] ∧ R u x v') := aN2 cl u x v' h hb hw h0 hR
theorem dP {P : Program} {av : List Nat} {f : FuncId} {ob : Ob} {nid id : Nat} {K : HV → Ob → Prop} {T : TypeId} {v : CV} {args : List CV} {R : CV → CV → CV → Prop} (h : sK P f T v args R) (hid : ob id = some (.box T (.c v))) (hav : id ∉ av)
  (hfree : Free4 ob nid) (hK : ∀ u x v', R u x v' → K (.tup [.c u, .c x]) (upd ob id (some (.box T (.c v'))))) :
  HCall P av f (.ptr id 0 :: args.map .c) ob nid K := by
 refine ⟨[id], .ptr 0 0 :: args.map .c, _, _, h, cP T v args, ⟨by simp, by grind⟩, ?_, fun j o hj => ?_, fun r lob' hR _ => ?_⟩
 ·
  simp only [HV.renL, HV.ren, HV.renL_c]
  rfl
 ·
  by_cases e : j = 0
  ·
   subst e
   simp only [fob_at, if_true, Option.some.injEq] at hj
   grind [HO.ren, HV.ren]
  grind [fob_at, fob_nil]
 ·
  obtain ⟨u, x, v', rfl, rfl, hR⟩ := hR
  rw [aF1 hfree]
  exact hK u x v' hR
end Go.Hl

namespace Go.Proofs.YtlldglbooaefhaaDoor
open Go Go.Hl Go.Pl
set_option maxRecDepth 10000
def sP := (And.intro (And.intro (And.intro (And.intro (And.intro @Go.Hl.hlift.eq_def @Go.Hl.hopI.eq_def) (And.intro @Go.Hl.hstep.eq_def @Go.Hl.hop.eq_def)) (And.intro (And.intro @Go.Hl.hint.eq_def @Go.Hl.hstr.eq_def) (And.intro @Go.Hl.hshift.eq_def @Go.Hl.hun.eq_def))) (And.intro (And.intro (And.intro @Go.Hl.hconv.eq_def @Go.Hl.hpick.eq_def) (And.intro @Go.Hl.hclo.eq_def @Go.Hl.hext.eq_def)) (And.intro (And.intro @Go.Hl.hmax.eq_def @Go.Hl.hslice.eq_def) (And.intro @Go.Hl.hindex.eq_def @Go.Hl.hindexAddr.eq_def)))) (And.intro (And.intro (And.intro (And.intro @Go.Hl.hfieldAddr.eq_def @Go.Hl.hfield.eq_def) (And.intro @Go.Hl.hload.eq_def @Go.Hl.hstore.eq_def)) (And.intro (And.intro @Go.Hl.happend.eq_def @Go.Hl.happend2.eq_def) (And.intro @Go.Hl.hslice2.eq_def @Go.Hl.hclear.eq_def))) (And.intro (And.intro (And.intro @Go.Hl.hmakeMap.eq_def @Go.Hl.hlookup.eq_def) (And.intro @Go.Hl.hmapUpdate.eq_def @Go.Pl.hbuildDig.eq_def)) (And.intro (And.intro @Go.Hl.hcopy.eq_def @Go.Hl.hmkIface.eq_def) (And.intro @Go.Hl.hassert.eq_def (And.intro @Go.Hl.hmakeSlice.eq_def @Go.Hl.happends.eq_def))))))
def sA := (And.intro (And.intro (And.intro (And.intro (And.intro (And.intro (And.intro (And.intro @Go.Hl.HV.toC.eq_1 @Go.Hl.HV.toC.eq_2) (And.intro @Go.Hl.HV.toC.eq_3 @Go.Hl.HV.toCL.eq_1)) (And.intro (And.intro @Go.Hl.HV.toCL.eq_2 @Go.Hl.cells_mem_str) (And.intro @List.length_singleton.{0} (And.intro @beq_true @beq_false)))) (And.intro (And.intro (And.intro @decide_eq_true_eq @Go.Hl.denilL_str) (And.intro @Go.Hl.denilL_int @Go.Hl.hwalk2.eq_1)) (And.intro (And.intro @Go.Hl.hwalk2.eq_2 @Go.Hl.ids4.eq_1) (And.intro @Go.Hl.getF.eq_1 (And.intro @Go.Hl.isEff.eq_1 @Go.Hl.isEff.eq_2))))) (And.intro (And.intro (And.intro (And.intro @Go.Hl.isEff.eq_3 @Go.Hl.isEff.eq_4) (And.intro @Bool.or_false @List.append_nil.{0})) (And.intro (And.intro @Go.Hl.hlex.eq_1 @Go.Hl.hlex.eq_2) (And.intro @Go.Hl.hguard.eq_1 (And.intro @Go.Hl.hcallOf.eq_1 @Go.Hl.hcallOf.eq_2)))) (And.intro (And.intro (And.intro @Go.Hl.touch.eq_1 @Go.Hl.touch.eq_2) (And.intro @Go.Hl.touch.eq_3 @Go.Hl.touch.eq_4)) (And.intro (And.intro @Go.Hl.touch.eq_5 @Go.Hl.touch.eq_6) (And.intro @Go.Hl.touch.eq_7 (And.intro @Go.Hl.touch.eq_8 @Go.Hl.touch.eq_9)))))) (And.intro (And.intro (And.intro (And.intro (And.intro @Go.Hl.touch.eq_10 @Go.Hl.HV.ids.eq_1) (And.intro @Go.Hl.HV.ids.eq_2 @Go.Hl.HV.ids.eq_3)) (And.intro (And.intro @Go.Hl.HV.ids.eq_4 @Go.Hl.HV.ids.eq_5) (And.intro @Go.Hl.HV.ids.eq_6 (And.intro @Go.Hl.HV.ids.eq_7 @Go.Hl.ev.eq_1)))) (And.intro (And.intro (And.intro @Go.Hl.ev.eq_2 @Go.Hl.ev.eq_3) (And.intro @Go.Hl.ev.eq_4 @Go.Hl.cvC.eq_1)) (And.intro (And.intro @Go.Hl.cvC.eq_2 @Go.Hl.cvC1.eq_1) (And.intro @Go.Hl.cvC1.eq_2 (And.intro @Go.Hl.cvC1.eq_3 @Go.Hl.cvC1.eq_4))))) (And.intro (And.intro (And.intro (And.intro @Go.Hl.cvC1.eq_5 @Go.Hl.cvC1.eq_6) (And.intro @Go.Hl.cvC1.eq_7 @Go.Hl.cvC1.eq_8)) (And.intro (And.intro @Go.Hl.cvC1.eq_9 @Go.Hl.updo_at) (And.intro @Go.Hl.updo_none (And.intro @Go.Hl.updo.eq_1 @Go.Hl.updo.eq_2)))) (And.intro (And.intro (And.intro @Go.Hl.upd_at @Go.Hl.fin_at) (And.intro @Go.Hl.fin_nil @Go.Hl.finA_at)) (And.intro (And.intro @Go.Hl.finA_nil @Go.Hl.fob_at) (And.intro @Go.Hl.fob_nil (And.intro @Go.Hl.none0_at @Go.Hl.hlift_some))))))) (And.intro (And.intro (And.intro (And.intro (And.intro (And.intro @Go.Hl.hlift_none @Go.Hl.hthen.eq_1) (And.intro @Go.Hl.hthen.eq_2 @Go.Hl.hblk.eq_1)) (And.intro (And.intro @Go.Hl.hblk.eq_2 @Go.Hl.hbin_int) (And.intro @Go.Hl.hbin_str (And.intro @Go.Hl.hbin_bool @Go.Hl.isShift.eq_1)))) (And.intro (And.intro (And.intro @Go.Hl.isShift.eq_2 @Go.Hl.isShift.eq_3) (And.intro @Go.Pl.hbuild_agg @Go.Hl.hfill.eq_1)) (And.intro (And.intro @Go.Hl.hfill.eq_2 @Go.Hl.HV.norm.eq_1) (And.intro @List.set_cons_zero.{0} (And.intro @List.set_cons_succ.{0} @Go.Hl.hclosed.eq_1))))) (And.intro (And.intro (And.intro (And.intro @Go.Hl.hclosed.eq_2 @Go.Hl.hread.eq_1) (And.intro @Go.Hl.hread.eq_2 @Go.Hl.hread.eq_3)) (And.intro (And.intro @Go.Hl.hread.eq_4 @Go.Hl.hlo.eq_1) (And.intro @Go.Hl.hlo.eq_2 (And.intro @Go.Hl.hlo.eq_3 @Go.Hl.live.eq_1)))) (And.intro (And.intro (And.intro @Go.Hl.live.eq_2 @Go.Hl.live.eq_3) (And.intro @Go.Hl.live.eq_4 @Go.Hl.live.eq_5)) (And.intro (And.intro @Go.Hl.live.eq_6 @Go.Hl.HO.isBox.eq_1) (And.intro @Go.Hl.HO.isBox.eq_2 (And.intro @Go.Hl.HO.isRow.eq_1 @Go.Hl.HO.isRow.eq_2)))))) (And.intro (And.intro (And.intro (And.intro (And.intro @Go.Hl.TyD.isAgg.eq_1 @Go.Hl.TyD.isAgg.eq_2) (And.intro @Go.Hl.TyD.isAgg.eq_3 @Go.Hl.HV.sto.eq_1)) (And.intro (And.intro @Go.Hl.HV.sto.eq_2 @Go.Hl.HV.sto.eq_3) (And.intro @Go.Hl.HV.sto.eq_4 (And.intro @Go.Hl.HV.stoL.eq_1 @Go.Hl.HV.stoL.eq_2)))) (And.intro (And.intro (And.intro @Go.Hl.HV.isAgg.eq_1 @Go.Hl.HV.isAgg.eq_2) (And.intro @Go.Hl.HV.isAgg.eq_3 @Go.Hl.CV.isAgg.eq_1)) (And.intro (And.intro @Go.Hl.CV.isAgg.eq_2 @Go.Hl.HV.cells.eq_1) (And.intro @Go.Hl.HV.cells.eq_2 (And.intro @Go.Hl.HV.cells.eq_3 @Go.Hl.HV.cellsL.eq_1))))) (And.intro (And.intro (And.intro (And.intro @Go.Hl.HV.cellsL.eq_2 @Go.Hl.CV.cells.eq_1) (And.intro @Go.Hl.CV.cells.eq_2 @Go.Hl.CV.cellsL.eq_1)) (And.intro (And.intro @Go.Hl.CV.cellsL.eq_2 @Go.Hl.HV.getAt.eq_1) (And.intro @Go.Hl.HV.getAt.eq_2 (And.intro @Go.Hl.HV.getAt.eq_3 @Go.Hl.HV.getAtL.eq_1)))) (And.intro (And.intro (And.intro @Go.Hl.HV.getAtL.eq_2 @Go.Hl.CV.getAt.eq_1) (And.intro @Go.Hl.CV.getAt.eq_2 (And.intro @Go.Hl.CV.getAtL.eq_1 @Go.Hl.CV.getAtL.eq_2))) (And.intro (And.intro @Go.Hl.HV.setAt.eq_1 @Go.Hl.HV.setAt.eq_2) (And.intro @Go.Hl.HV.setAt.eq_3 (And.intro @Go.Hl.HV.setAtL.eq_1 @Go.Hl.HV.setAtL.eq_2)))))))) (And.intro (And.intro (And.intro (And.intro (And.intro (And.intro (And.intro @Go.Hl.CV.setAt.eq_1 @Go.Hl.CV.setAt.eq_2) (And.intro @Go.Hl.CV.setAtL.eq_1 @Go.Hl.CV.setAtL.eq_2)) (And.intro (And.intro @Go.Hl.HV.den.eq_1 @Go.Hl.HV.den.eq_2) (And.intro @Go.Hl.CV.denil.eq_1 (And.intro @Go.Hl.CV.denil.eq_2 @Go.Hl.CV.denil.eq_3)))) (And.intro (And.intro (And.intro @Go.Hl.CV.denil.eq_4 @Go.Hl.CV.denilL.eq_1) (And.intro @Go.Hl.CV.denilL.eq_2 @List.range.eq_1)) (And.intro (And.intro @List.range.loop.eq_1 @List.range.loop.eq_2) (And.intro @List.size_toArray.{0} (And.intro @List.length_cons.{0} @List.length_nil.{0}))))) (And.intro (And.intro (And.intro (And.intro @List.length_map.{0,0} @List.getElem?_toArray.{0}) (And.intro @List.getElem?_cons_zero.{0} @List.getElem?_cons_succ.{0})) (And.intro (And.intro @List.map_cons.{0,0} @List.map_nil.{0,0}) (And.intro @List.flatMap_cons.{0,0} (And.intro @List.flatMap_nil.{0,0} @List.toList_toArray.{0})))) (And.intro (And.intro (And.intro @List.not_mem_nil.{0} @List.mem_cons.{0}) (And.intro @List.nil_append.{0} @List.cons_append.{0})) (And.intro (And.intro @false_implies @implies_true.{0}) (And.intro @implies_true.{1} (And.intro @true_and @and_true)))))) (And.intro (And.intro (And.intro (And.intro (And.intro @and_self @ne_eq.{0}) (And.intro @ne_eq.{1} @not_false_eq_true)) (And.intro (And.intro @not_true_eq_false @Nat.lt_irrefl) (And.intro @Nat.zero_add (And.intro @Nat.add_zero @Nat.succ_ne_self)))) (And.intro (And.intro (And.intro @Option.map_some.{0,0} @Option.map_none.{0,0}) (And.intro @Option.bind_some.{0,0} @Option.isSome_some.{0})) (And.intro (And.intro @Bool.false_eq_true @Bool.true_eq_false) (And.intro @Int.toNat_natCast (And.intro @forall_eq_or_imp.{0} @forall_eq_or_imp.{1}))))) (And.intro (And.intro (And.intro (And.intro @forall_eq.{0} @forall_eq.{1}) (And.intro @decide_true @decide_false)) (And.intro (And.intro @Bool.not_true @Bool.not_false) (And.intro @beq_self_eq_true.{0} (And.intro @bne_self_eq_false.{0} @Go.Pl.hbuild_dig)))) (And.intro (And.intro (And.intro @Go.Pl.dg_cells @Go.Pl.dg_isAgg) (And.intro @Go.Pl.dg_denil @Go.Pl.dg_getAt)) (And.intro (And.intro @Go.Pl.dg_setAt @Go.Pl.denilL_dg) (And.intro @Go.Pl.us_cells (And.intro @Go.Hl.TyD.plain.eq_1 @Go.Hl.TyD.plain.eq_2))))))) (And.intro (And.intro (And.intro (And.intro (And.intro (And.intro @Go.Hl.TyD.plain.eq_3 @Go.Hl.TyD.plain.eq_4) (And.intro @Go.Hl.TyD.plain.eq_5 @Go.Hl.bytesC_map)) (And.intro (And.intro @Go.Pl.Rq.cells @Go.Pl.Rq.denil) (And.intro @Go.Pl.Rq.isAgg (And.intro @Go.Pl.Rq.getAll @Go.Pl.Rq.setAll)))) (And.intro (And.intro (And.intro @Go.Pl.Rq.fold @Go.Pl.denilL_Rq) (And.intro @Go.Pl.Rq.get_k @Go.Pl.Rq.set_k)) (And.intro (And.intro @Go.Pl.Rq.get_n @Go.Pl.Rq.set_n) (And.intro @Go.Pl.Rq.get_m (And.intro @Go.Pl.Rq.set_m @Go.Pl.Rq.get_t))))) (And.intro (And.intro (And.intro (And.intro @Go.Pl.Rq.set_t @Go.Pl.Nd.cells) (And.intro @Go.Pl.Nd.denil @Go.Pl.Nd.isAgg)) (And.intro (And.intro @Go.Pl.Nd.getAll @Go.Pl.Nd.setAll) (And.intro @Go.Pl.Nd.fold (And.intro @Go.Pl.denilL_Nd @Go.Pl.Nd.get_k)))) (And.intro (And.intro (And.intro @Go.Pl.Nd.set_k @Go.Pl.Nd.get_n) (And.intro @Go.Pl.Nd.set_n @Go.Pl.Nd.get_c)) (And.intro (And.intro @Go.Pl.Nd.set_c @Go.Pl.Nd.get_q) (And.intro @Go.Pl.Nd.set_q (And.intro @Go.Pl.Pr.cells @Go.Pl.Pr.denil)))))) (And.intro (And.intro (And.intro (And.intro (And.intro @Go.Pl.Pr.isAgg @Go.Pl.Pr.getAll) (And.intro @Go.Pl.Pr.setAll @Go.Pl.Pr.fold)) (And.intro (And.intro @Go.Pl.denilL_Pr @Go.Pl.Pr.get_a) (And.intro @Go.Pl.Pr.set_a (And.intro @Go.Pl.Pr.get_b @Go.Pl.Pr.set_b)))) (And.intro (And.intro (And.intro @Go.Pl.Pr.get_c @Go.Pl.Pr.set_c) (And.intro @Go.Pl.Pr.get_g @Go.Pl.Pr.set_g)) (And.intro (And.intro @Go.Pl.Pr.get_t @Go.Pl.Pr.set_t) (And.intro @Go.Pl.Po.cells (And.intro @Go.Pl.Po.denil @Go.Pl.Po.isAgg))))) (And.intro (And.intro (And.intro (And.intro @Go.Pl.Po.getAll @Go.Pl.Po.setAll) (And.intro @Go.Pl.Po.fold @Go.Pl.denilL_Po)) (And.intro (And.intro @Go.Pl.Po.get_n @Go.Pl.Po.set_n) (And.intro @Go.Pl.Po.get_v (And.intro @Go.Pl.Po.set_v @Go.Pl.Po.get_r)))) (And.intro (And.intro (And.intro @Go.Pl.Po.set_r @Go.Pl.Pt.cells) (And.intro @Go.Pl.Pt.denil (And.intro @Go.Pl.Pt.isAgg @Go.Pl.Pt.getAll))) (And.intro (And.intro @Go.Pl.Pt.setAll @Go.Pl.Pt.fold) (And.intro @Go.Pl.denilL_Pt (And.intro @Go.Pl.Pt.get_k @Go.Pl.Pt.get_c)))))))))
def sE := (And.intro (And.intro (And.intro (And.intro @Go.Hl.hlex.eq_1 @Go.Hl.hlex.eq_2) (And.intro @Go.Hl.hwalk2.eq_1 @Go.Hl.hwalk2.eq_2)) (And.intro (And.intro @Go.Hl.hlexG.eq_1 @Go.Hl.hlexG.eq_2) (And.intro @Go.Hl.hwalk2G.eq_1 @Go.Hl.hwalk2G.eq_2))) (And.intro (And.intro (And.intro @Go.Hl.hthen.eq_1 @Go.Hl.hthen.eq_2) (And.intro @Go.Hl.hblk.eq_1 @Go.Hl.hblk.eq_2)) (And.intro (And.intro @List.size_toArray.{0} @List.length_cons.{0}) (And.intro @List.length_nil.{0} @Nat.zero_add))))
def sR := (And.intro (And.intro (And.intro @List.range.eq_1 @List.range.loop.eq_1) (And.intro @List.range.loop.eq_2 @List.size_toArray.{0})) (And.intro (And.intro @List.length_cons.{0} @List.length_nil.{0}) (And.intro @Nat.zero_add @Nat.add_zero)))
def sH := (And.intro (And.intro @Go.Hl.hop1.eq_1 (And.intro @Go.Hl.hgd.eq_1 @Go.Hl.hgd.eq_2)) (And.intro @List.getElem_toArray.{0} (And.intro @List.getElem_cons_zero.{0} @List.getElem_cons_succ.{0})))
def sN := (And.intro (And.intro (And.intro @Go.Hl.hop1H.eq_1 @Go.Hl.hop1N.eq_1) (And.intro @Go.Hl.hop1L.eq_1 (And.intro @Go.Hl.hreadH.eq_def @Go.Hl.hreadA.eq_def))) (And.intro (And.intro @Go.Hl.hparts.eq_1 @Go.Hl.hparts.eq_2) (And.intro @Go.Hl.HO.isH.eq_def (And.intro @Go.Hl.nthH_zero @Go.Hl.nthH_succ))))
def tyS := (And.intro (And.intro (And.intro (And.intro (And.intro (And.intro (And.intro @ty1 @ty2) (And.intro @ty3 @ty4)) (And.intro (And.intro @ty5 @ty6) (And.intro @ty7 (And.intro @ty8 @ty9)))) (And.intro (And.intro (And.intro @ty10 @ty11) (And.intro @ty12 (And.intro @ty13 @ty14))) (And.intro (And.intro @ty15 @ty16) (And.intro @ty17 (And.intro @ty18 @ty19))))) (And.intro (And.intro (And.intro (And.intro @ty20 @ty21) (And.intro @ty22 @ty23)) (And.intro (And.intro @ty24 @ty25) (And.intro @ty26 (And.intro @ty27 @ty28)))) (And.intro (And.intro (And.intro @ty29 @ty30) (And.intro @ty32 (And.intro @ty34 @ty35))) (And.intro (And.intro @ty36 @ty37) (And.intro @ty38 (And.intro @ty39 @ty40)))))) (And.intro (And.intro (And.intro (And.intro (And.intro @ty41 @ty42) (And.intro @ty43 @ty44)) (And.intro (And.intro @ty45 @ty46) (And.intro @ty47 (And.intro @ty48 @ty49)))) (And.intro (And.intro (And.intro @ty50 @ty51) (And.intro @ty52 (And.intro @ty53 @ty54))) (And.intro (And.intro @ty55 @ty56) (And.intro @ty57 (And.intro @ty58 @ty59))))) (And.intro (And.intro (And.intro (And.intro @ty61 @ty62) (And.intro @ty64 (And.intro @ty65 @ty66))) (And.intro (And.intro @ty67 @ty69) (And.intro @ty70 (And.intro @ty71 @ty72)))) (And.intro (And.intro (And.intro @ty73 @ty74) (And.intro @ty75 (And.intro @ty76 @ty77))) (And.intro (And.intro @ty78 @ty79) (And.intro @ty80 (And.intro @ty81 @ty82))))))) (And.intro (And.intro (And.intro (And.intro (And.intro (And.intro @ty83 @ty84) (And.intro @ty85 @ty86)) (And.intro (And.intro @ty87 @ty88) (And.intro @ty90 (And.intro @ty91 @ty92)))) (And.intro (And.intro (And.intro @ty93 @ty95) (And.intro @ty96 (And.intro @ty98 @ty100))) (And.intro (And.intro @ty101 @ty102) (And.intro @ty103 (And.intro @ty104 @ty105))))) (And.intro (And.intro (And.intro (And.intro @ty106 @ty107) (And.intro @ty109 @ty110)) (And.intro (And.intro @ty111 @ty112) (And.intro @ty113 (And.intro @ty114 @ty115)))) (And.intro (And.intro (And.intro @ty117 @ty118) (And.intro @ty119 (And.intro @ty120 @ty121))) (And.intro (And.intro @ty122 @ty123) (And.intro @ty124 (And.intro @ty125 @ty126)))))) (And.intro (And.intro (And.intro (And.intro (And.intro @ty128 @ty129) (And.intro @ty130 @ty132)) (And.intro (And.intro @ty134 @ty136) (And.intro @ty137 (And.intro @ty139 @ty140)))) (And.intro (And.intro (And.intro @ty141 @ty142) (And.intro @ty143 (And.intro @ty144 @ty145))) (And.intro (And.intro @ty147 @ty148) (And.intro @ty149 (And.intro @ty150 @ty152))))) (And.intro (And.intro (And.intro (And.intro @ty153 @ty154) (And.intro @ty155 (And.intro @ty156 @ty157))) (And.intro (And.intro @ty158 @ty159) (And.intro @ty160 (And.intro @ty161 @ty165)))) (And.intro (And.intro (And.intro @ty166 @ty167) (And.intro @ty168 (And.intro @ty169 @ty170))) (And.intro (And.intro @ty171 @ty172) (And.intro @ty173 (And.intro @eqdg156 @nedg156))))))))
theorem AI {p q : Prop} (h : q) (hp : p := by first | omega | (simp only [maxLen]; omega) | assumption | (simp [CV.cells]; done) | (simp [CV.cells, maxLen]; omega)) : p ∧ q := ⟨hp, h⟩
section
variable {P : Program} {ops : Array Oper} {nx : Nat} {Q : Fr → Ob → Prop} {fr : Fr} {ob : Ob} {c : Bool}
theorem aH {l : List Nat} (d : Nat) (h : fr d = .c (.bool c)) (hT : c = true → hlex P ops nx Q l fr ob) (hF : c = false → hlex P ops nx Q l fr ob) : hlex P ops nx Q l fr ob := by
  cases c
  · exact hF rfl
  · exact hT rfl
theorem aA2 {l : mG} {C : iV} (d : Nat) (h : fr d = .c (.bool c)) (hT : c = true → hwalk2 P ops nx Q l C fr ob) (hF : c = false → hwalk2 P ops nx Q l C fr ob) : hwalk2 P ops nx Q l C fr ob := by
  cases c
  · exact hF rfl
  · exact hT rfl
end
end Go.Proofs.YtlldglbooaefhaaDoor

namespace Go.Hl
open Go

inductive HasTy (P : Program) : TypeId → CV → Prop where
 | bool {t : TypeId} (hu : P.underlying t = some .bool) (b : Bool) : HasTy P t (.bool b)
 | int {t : TypeId} {k : IntKind} (hu : P.underlying t = some (.int k)) {n : Int} (hw : (Lit.int k n).wf = true) : HasTy P t (.int k n)
 | str {t : TypeId} (hu : P.underlying t = some .string) {s : List UInt8} (hs : s.length ≤ maxLen) : HasTy P t (.str s)
 | slc {t e : TypeId} (hu : P.underlying t = some (.slice e)) {l : List CV} (hl : ∀ x ∈ l, HasTy P e x) (hn : l.length ≤ maxLen) : HasTy P t (.slc l)
 | arr {t e : TypeId} {m : Nat} (hu : P.underlying t = some (.array m e)) {l : List CV} (hl : ∀ x ∈ l, HasTy P e x) (hn : l.length = m) : HasTy P t (.agg l)
 | struct {t : TypeId} {fs : Array Field} (hu : P.underlying t = some (.struct fs)) {l : List CV} (hn : l.length = fs.size) (hl : ∀ (i : Nat) (f : Field) (x : CV), fs.toList[i]? = some f → l[i]? = some x → HasTy P f.type x) : HasTy P t (.agg l)

theorem HasTy.of_int {P : Program} {t : TypeId} {k : IntKind} {c : CV} (hu : P.underlying t = some (.int k)) (h : HasTy P t c) : ∃ n, c = .int k n ∧ (Lit.int k n).wf = true := by
 cases h with
 | int h2 hw => grind
 | bool h2 | str h2 | slc h2 | arr h2 | struct h2 => rw [hu] at h2; cases h2
theorem HasTy.of_bool {P : Program} {t : TypeId} {c : CV} (hu : P.underlying t = some .bool) (h : HasTy P t c) : ∃ b, c = .bool b := by
 cases h with
 | bool h2 => grind
 | int h2 | str h2 | slc h2 | arr h2 | struct h2 => rw [hu] at h2; cases h2
theorem HasTy.of_slc {P : Program} {t e : TypeId} {c : CV} (hu : P.underlying t = some (.slice e)) (h : HasTy P t c) : ∃ l, c = .slc l ∧ (∀ x ∈ l, HasTy P e x) ∧ l.length ≤ maxLen := by
 cases h with
 | slc h2 hl hn => grind
 | int h2 | bool h2 | str h2 | arr h2 | struct h2 => rw [hu] at h2; cases h2
def mM (P : Program) : Nat → TypeId → Bool
 | 0, _ => false
 | n + 1, t => match P.underlying t with
  | some .bool | some (.int _) | some .string => true
  | some (.slice e) => mM P n e
  | some (.array _ e) => mM P n e
  | some (.struct fs) => fs.toList.all fun f => mM P n f.type
  | _ => false

theorem lF {α : Type} {w : World} {O : Nat → Prop} {g : α → List Value} {R : α → CV → Prop} : ∀ (l : List α), (∀ a ∈ l, ∃ c, RepC w O c (g a) ∧ R a c) →
  ∃ cl : List CV, RepL w O cl (l.flatMap g) ∧ cl.length = l.length ∧ ∀ (i : Nat) a c, l[i]? = some a → cl[i]? = some c → R a c
 | [], _ => ⟨[], by simp [RepL], rfl, by simp⟩
 | a :: l, h => by
  obtain ⟨c, h1, h2⟩ := h a (by simp)
  obtain ⟨cl, h3, h4, h5⟩ := lF l (fun x hx => h x (by grind))
  refine ⟨c :: cl, by simp only [List.flatMap_cons, RepL]; grind, by grind, fun i x y hx hy => ?_⟩
  grind

theorem vD {cw : Field → Nat} {cs : List Value} : ∀ (fs : List Field) (k : Nat), (∀ (j : Nat) f, fs[j]? = some f → f.offset = k + ((fs.take j).map cw).sum) →
  fs.flatMap (fun f => (cs.drop f.offset).take (cw f)) = (cs.drop k).take ((fs.map cw).sum)
 | [], k, _ => by simp
 | f :: fs, k, h => by
  have h0 := h 0 f rfl
  simp only [List.take_zero, List.map_nil, List.sum_nil, Nat.add_zero] at h0
  have ih := vD (cw := cw) (cs := cs) fs (k + cw f) (fun j g hg => by
   have := h (j + 1) g (by grind)
   grind)
  grind [List.drop_drop]

theorem vE {cs : List Value} (c : Nat) : ∀ (m : Nat), (List.range m).flatMap (fun i => (cs.drop (i * c)).take c) = cs.take (m * c)
 | 0 => by simp
 | m + 1 => by
  rw [List.range_succ, List.flatMap_append, vE c m]
  simp_all [List.flatMap_cons, List.flatMap_nil, List.append_nil, List.take_add, Nat.succ_mul]

theorem vF {w : World} {a : Addr} {c : Nat} {g : Nat → List Value} : ∀ (m : Nat), (∀ i, i < m → (g i).length = c ∧ ∀ r, r < c → w.cell? ((a.add (i * c)).add r) = (g i)[r]?) →
  ((List.range m).flatMap g).length = m * c ∧ ∀ j u, ((List.range m).flatMap g)[j]? = some u → w.cell? (a.add j) = some u
 | 0, _ => by simp
 | m + 1, h => by
  obtain ⟨h1, h2⟩ := vF m (fun i hi => h i (by omega))
  obtain ⟨h3, h4⟩ := h m (by omega)
  rw [List.range_succ, List.flatMap_append]
  simp only [List.flatMap_cons, List.flatMap_nil, List.append_nil]
  refine ⟨by rw [List.length_append, h1, h3, Nat.succ_mul], fun j u hj => ?_⟩
  grind [List.getElem?_append_left, List.getElem?_append_right, List.getElem?_eq_some_iff, Addr.add_add]

section
variable {H : Type} {enc : TypeId × Value → H} {P : Program} {T : TypeId → Prop} {w : World} {base : Nat} {sp : Nat → Bool} {held : Bool}

theorem pS (K : Kids P T) : ∀ (m : Nat) (t : TypeId), mM P m t = true → T t → ∀ (n : Nat) (cs : List Value) (x : DataW H × List MemPlace), DataW.trod enc P w base sp held n t cs = some x →
  ∃ c, RepC w (fun _ => False) c cs ∧ HasTy P t c ∧ cs.length = cs.length
 | 0, t, hp, _, _, _, _, _ => by simp [mM] at hp
 | m + 1, t, hp, hT, 0, cs, x, h => by simp [DataW.trod] at h
 | m + 1, t, hp, hT, n + 1, cs, x, h => by
  unfold mM at hp
  split at hp
  ·
   rename_i hu
   unfold DataW.trod at h
   rw [hu] at h
   split at h
   case h_1 => rename_i b h1; exact ⟨.bool b, by simp [RepC], .bool hu b, rfl⟩
   all_goals grind
  ·
   rename_i k hu
   unfold DataW.trod at h
   rw [hu] at h
   split at h
   case h_2 =>
    rename_i k' k2 n2 h1
    cases h1
    split at h
    ·
     rename_i hc
     obtain ⟨rfl, hw⟩ := hc
     exact ⟨.int _ n2, by simp [RepC], .int hu hw, rfl⟩
    grind
   all_goals grind
  ·
   rename_i hu
   unfold DataW.trod at h
   rw [hu] at h
   split at h
   case h_4 =>
    rename_i s h1
    split at h
    ·
     rename_i hc
     refine ⟨.str s.data.toList, by simp [RepC], .str hu ?_, rfl⟩
     simp_all
    grind
   all_goals grind
  ·
   rename_i e hu
   unfold DataW.trod at h
   rw [hu] at h
   split at h
   case h_7 =>
    rename_i el h1
    exact ⟨.slc [], by simp only [RepC]; exact ⟨none, 0, [], 0, rfl, by simp [RepL], by simp, by simp, fun _ => rfl, fun ad had => (by grind)⟩, .slc hu (by simp) (by simp), rfl⟩
   case h_8 =>
    rename_i e' a len cap h1
    cases h1
    simp only at h
    split at h
    ·
     rename_i hc
     obtain ⟨hb, hlc, hcm⟩ := hc
     rw [Option.bind_eq_some_iff] at h
     obtain ⟨elems, he, _⟩ := h
     have hel : ∀ i, i < len → ∃ cl, w.cells? base (a.add (i * P.cellsOf e)) (P.cellsOf e) = some cl ∧ ∃ y, DataW.trod enc P w base sp held n e cl = some y := fun i hi => by
      have := mapM_some_get he i i (by grind)
      grind [hlen, mapM_some_length, List.length_range, List.getElem?_eq_getElem, Option.bind_eq_some_iff]
     let g : Nat → List Value := fun i => (w.cells? base (a.add (i * P.cellsOf e)) (P.cellsOf e)).getD []
     have hg : ∀ i, i < len → (g i).length = P.cellsOf e ∧ ∀ r, r < P.cellsOf e → w.cell? ((a.add (i * P.cellsOf e)).add r) = (g i)[r]? := fun i hi => by
      obtain ⟨cl, h3, _⟩ := hel i hi
      obtain ⟨_, h4, h5⟩ := World.cells?_some h3
      grind
     obtain ⟨cl, hr, hlen, hty⟩ := lF (w := w) (O := fun _ => False) (g := g) (R := fun i c => HasTy P e c ∧ c.cells = P.cellsOf e) (List.range len) (fun i hi => by
      have hi' := List.mem_range.1 hi
      obtain ⟨cl, h3, y, h4⟩ := hel i hi'
      have hgi : g i = cl := by simp [g, h3]
      obtain ⟨c, q1, q2, _⟩ := pS K m e hp (K.slice hT hu) n cl y h4
      grind [aZ, World.cells?_some])
     simp only [List.length_range] at hlen
     have hmem : ∀ x ∈ cl, HasTy P e x ∧ x.cells = P.cellsOf e := fun x hx => by
      obtain ⟨i, hi, rfl⟩ := List.getElem_of_mem hx
      exact hty i i _ (List.getElem?_range (by omega)) (by rw [List.getElem?_eq_getElem hi])
     refine ⟨.slc cl, ?_, .slc hu (fun x hx => (hmem x hx).1) (by omega), rfl⟩
     simp only [RepC]
     refine ⟨some a, cap, _, P.cellsOf e, by rw [hlen], hr, fun v hv => (hmem v hv).2, by omega, fun hh => (by grind), fun ad had => ?_⟩
     cases had
     exact ⟨(vF len hg).2, fun _ h => h⟩
    grind
   all_goals grind
  ·
   rename_i k e hu
   unfold DataW.trod at h
   rw [hu] at h
   split at h
   case h_10 =>
    rename_i cs0 _ _ k' e' h1
    cases h1
    split at h
    ·
     rename_i hc
     rw [Option.map_eq_some_iff] at h
     obtain ⟨xs, hxs, _⟩ := h
     obtain ⟨hTe, hce⟩ := K.array hT hu
     obtain ⟨cl, hr, hlen, hty⟩ := lF (w := w) (O := fun _ => False) (g := fun i => (cs0.drop (i * P.cellsOf e)).take (P.cellsOf e)) (R := fun i c => HasTy P e c) (List.range k) (fun i hi => by
      have hi' := List.mem_range.1 hi
      have := mapM_some_get hxs i i (by grind)
      have hlen := mapM_some_length hxs
      simp only [List.length_range] at hlen
      rw [List.getElem?_eq_getElem (by omega)] at this
      obtain ⟨c, q1, q2, _⟩ := pS K m e hp hTe n _ _ this
      grind)
     simp only [List.length_range] at hlen
     rw [vE, ← hce, ← hc, List.take_length] at hr
     refine ⟨.agg cl, hr, .arr hu (fun x hx => ?_) hlen, rfl⟩
     obtain ⟨i, hi, rfl⟩ := List.getElem_of_mem hx
     exact hty i i _ (List.getElem?_range (by omega)) (by rw [List.getElem?_eq_getElem hi])
    grind
   all_goals grind
  ·
   rename_i fs hu
   unfold DataW.trod at h
   rw [hu] at h
   split at h
   case h_9 =>
    rename_i cs0 _ _ fs' h1
    cases h1
    split at h
    ·
     rename_i hc
     rw [Option.map_eq_some_iff] at h
     obtain ⟨xs, hxs, _⟩ := h
     obtain ⟨hTf, hsum, hoff⟩ := K.struct hT hu
     obtain ⟨cl, hr, hlen, hty⟩ := lF (w := w) (O := fun _ => False) (g := fun f : Field => (cs0.drop f.offset).take (P.cellsOf f.type)) (R := fun f c => HasTy P f.type c) fs.toList (fun f hf => by
      obtain ⟨i, hi, rfl⟩ := List.getElem_of_mem hf
      have := mapM_some_get hxs i _ (List.getElem?_eq_getElem hi)
      have hlen := mapM_some_length hxs
      rw [List.getElem?_eq_getElem (by omega)] at this
      obtain ⟨c, q1, q2, _⟩ := pS K m _ (List.all_eq_true.1 hp _ (List.getElem_mem hi)) (hTf _ (List.getElem_mem hi)) n _ _ this
      grind)
     rw [vD (cw := fun f => P.cellsOf f.type) fs.toList 0 (fun j f hf => by grind), List.drop_zero, ← hsum, ← hc, List.take_length] at hr
     exact ⟨.agg cl, hr, .struct hu (by grind) hty, rfl⟩
    grind
   all_goals grind
  grind

theorem tE {t : TypeId} {v : Value} {c : CV} (hc : HasTy P t c) (h : Value.okWide P w .any base t v) : c.isAgg = Value.isAgg' v := by
 cases hc with
 | bool hu b => unfold Value.okWide at h; rw [hu] at h; simp only [Cell.okWide, hu] at h; cases v <;> simp_all [Cell.ok, CV.isAgg, Value.isAgg']
 | int hu hw => unfold Value.okWide at h; rw [hu] at h; simp only [Cell.okWide, hu] at h; cases v <;> simp_all [Cell.ok, CV.isAgg, Value.isAgg']
 | str hu hs => unfold Value.okWide at h; rw [hu] at h; simp only [Cell.okWide, hu] at h; cases v <;> simp_all [Cell.ok, CV.isAgg, Value.isAgg']
 | slc hu hl hn => unfold Value.okWide at h; rw [hu] at h; simp only [Cell.okWide, hu] at h; cases v <;> simp_all [Cell.ok, CV.isAgg, Value.isAgg']
 | arr hu hl hn => unfold Value.okWide at h; rw [hu] at h; obtain ⟨cs, rfl, _⟩ := h; rfl
 | struct hu hn hl => unfold Value.okWide at h; rw [hu] at h; obtain ⟨cs, rfl, _⟩ := h; rfl

theorem aG1 (b : Nat) : ¬ Own (fun _ => none) b := by rintro ⟨_, _, h, _⟩; cases h

theorem pT (K : Kids P T) {m : Nat} : ∀ {ts : List TypeId} {vs : List Value} {ds : List (DataW H)} {ps : List MemPlace}, DataW.TrodAll enc P w base sp held ts vs ds ps → (∀ t ∈ ts, mM P m t = true ∧ T t) →
  (∀ (j : Nat) t v, ts[j]? = some t → vs[j]? = some v → Value.okWide P w .any 0 t v) →
  ∃ cs : List CV, RepHV w (fun _ => none) (Owned (fun _ => none) (fun _ => False)) (cs.map .c) vs ∧ cs.length = ts.length ∧ ds.length = ts.length ∧ ∀ (j : Nat) t c, ts[j]? = some t → cs[j]? = some c → HasTy P t c
 | [], vs, ds, ps, h, _, _ => by
  obtain ⟨rfl, rfl, rfl⟩ := ChangeShapes.trodAll_nil h
  exact ⟨[], by simp [RepHV], rfl, rfl, by simp⟩
 | t :: ts, vs, ds, ps, h, hp, ho => by
  obtain ⟨v, vs1, d, ds1, a, b, rfl, rfl, rfl, ⟨n, h1⟩, h2⟩ := ChangeShapes.trodAll_cons h
  obtain ⟨c, q1, q2, _⟩ := pS (w := w) K m t (hp t (by simp)).1 (hp t (by simp)).2 n _ _ h1
  obtain ⟨cs, r1, r2, r3, r4⟩ := pT K h2 (fun t ht => hp t (by simp [ht])) (fun j t v h3 h4 => ho (j + 1) t v (by simpa using h3) (by simpa using h4))
  have hst : Stay w (fun _ => False) w (Owned (fun _ => none) (fun _ => False)) := ⟨fun b _ _ => ⟨rfl, fun hb => hb.elim (fun x => x) (aG1 b)⟩⟩
  refine ⟨c :: cs, ?_, by simp [r2], by simp [r3], fun j t' c' h3 h4 => ?_⟩
  ·
   rw [List.map_cons, bG]
   exact ⟨v, vs1, rfl, ⟨by simp only [RepH]; exact q1.stay hst, tE q2 (ho 0 t v rfl rfl)⟩, r1⟩
  ·
   cases j with
   | zero => simp at h3 h4; rw [← h3, ← h4]; exact q2
   | succ j => simp at h3 h4; exact r4 j t' c' h3 h4

theorem aX5 {w w' : World} (h : ∀ b, b < w.heap.size → w'.heap[b]? = w.heap[b]?) {p : MemPlace} (hp : p.block < w.heap.size) : w.sameAt w' p := by
 cases p with
 | cell b off => exact World.cell?_of_block (h b hp)
 | map b => exact h b hp

theorem oI {w' : World} : ∀ {ts : List TypeId} {vs : List Value} {ds : List (DataW H)} {ps : List MemPlace}, DataW.TrodAll enc P w base sp held ts vs ds ps → (∀ p ∈ ps, w.sameAt w' p) → DataW.TrodAll enc P w' base sp held ts vs ds ps
 | [], _, _, _, h, _ => by
  obtain ⟨rfl, rfl, rfl⟩ := ChangeShapes.trodAll_nil h
  exact ChangeShapes.trodAll_mk0
 | t :: ts, _, _, _, h, hs => by
  obtain ⟨v, vs1, d, ds1, a, b, rfl, rfl, rfl, ⟨n, h1⟩, h2⟩ := ChangeShapes.trodAll_cons h
  exact ⟨a, b, ⟨n, DataW.trod_carry n t _ _ h1 (fun p hp => hs p (List.mem_append_left _ hp))⟩, oI h2 (fun p hp => hs p (List.mem_append_right _ hp)), rfl⟩

theorem aN5 {w w' : World} (h1 : w'.os = w.os) (h2 : w'.output = w.output) (h : ∀ b, b < w.heap.size → w'.heap[b]? = w.heap[b]?) (may : MemPlace → Prop) : w.keptBut w' may := by
 refine ⟨h1, h2, fun i hi => ?_⟩
 grind

end
end Go.Hl

namespace Go.Hl
open Go Go.RowKit Go.Sort Go.Proofs

end Go.Hl

namespace Go.Hl
open Go Go.RowKit

end Go.Hl
