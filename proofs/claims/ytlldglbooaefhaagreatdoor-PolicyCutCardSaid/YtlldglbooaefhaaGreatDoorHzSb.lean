/- The rules that a step of a walk uses, in bundles. Printed by gen/bund.py. By an AI agent. -/
import Derived.Test.YtlldglbooaefhaaGreatDoorPlSha
import Derived.Laws.Externs
import Derived.Lib.BytesEntry
import Derived.Test.YtlldglbooaefhaaGreatDoorPl02e
set_option linter.unusedSimpArgs false
set_option linter.unusedVariables false
set_option linter.defProp false
namespace Go.Hl
open Go Go.Pl

theorem sU {P : Program} {f : FuncId} {fn : Func} {e : Array Value → Sem Value} {args : List CV} {R : CV → Prop} (hf : P.funcs[f]? = some fn) (hname : (fn.name == "runtime.NumGoroutine") = false)
  (hb : fn.body.isNone = true) (hn : Extern.findNext fn = none) (he : Extern.find fn = some e)
  (h : ∀ (w : World) (ρ : Env) (O : Nat → Prop) (xs : List Value), RepHV w ρ O (args.map .c) xs → ∃ v x, R v ∧ RepV w ρ O (.c v) x ∧ (e xs.toArray).run P w = .ok x w) : bQ P f args R := by
 refine ⟨by grind [bC9], fun w ρ X xs hS hA hX => .inr ⟨by grind [eV, Option.isNone_iff_eq_none], ?_⟩⟩
 obtain ⟨v, x, hR, hv, hrun⟩ := h w ρ _ xs hA
 refine ⟨x, by simp_all [run_callFunc_extern], .c v, cQ, ρ, x, rfl, ⟨v, rfl, hR, rfl⟩, ⟨hv, hS, by simp [HV.men], fun id o h => by simp [cQ] at h, Stay2.refl _ _, Moves.refl _ _⟩⟩

theorem aY1 {w : World} {O : Nat → Prop} : ∀ {l : List UInt8} {xs : List Value}, RepL w O (l.map u8) xs → xs = l.map fun b => .int .u8 (b.toNat : Int)
 | [], xs, h => by simpa [RepL] using h
 | b :: l, xs, h => by
  simp only [List.map_cons, RepL, u8, RepC] at h
  obtain ⟨c1, c2, rfl, rfl, h2⟩ := h
  rw [aY1 h2]
  rfl
theorem bE5 {P : Program} {w : World} {ρ : Env} {O : Nat → Prop} {l : List UInt8} {x : Value} (h : RepV w ρ O (.c (.slc (l.map u8))) x) : (Extern.Bytes.bytesOf x).run P w = .ok ⟨l.toArray⟩ w := by
 have h1 := h.single rfl
 simp only [RepC, List.cons.injEq, and_true] at h1
 obtain ⟨a, cap, xs, sz, rfl, h2, _, h4, h5, h6⟩ := h1
 have hx := aY1 h2
 cases a with
 | none =>
  have := h5 rfl
  have hl : l = [] := by
   have : l.length = 0 := by simp only [List.length_map] at h4; omega
   exact List.eq_nil_of_length_eq_zero this
  subst hl
  simp only [Extern.Bytes.bytesOf, Sem.run_pure]
  rfl
 | some ad =>
  have hr := (h6 ad rfl).1
  have := Go.Lib.run_loadBytesX (P := P) w (l.map fun b => (b.toNat : Int)) ad .empty (fun j y hj => hr j _ (by
   rw [hx]
   rw [List.getElem?_map] at hj ⊢
   cases hb : l[j]? with
   | none => rw [hb] at hj; cases hj
   | some b => rw [hb] at hj; cases hj; rfl))
  simp only [List.length_map] at this
  simp only [Extern.Bytes.bytesOf, List.length_map, this]
  congr 2
  simp only [Go.Lib.bytesOf, List.map_map]
  have e : l.map ((fun n : Int => n.toNat.toUInt8) ∘ fun b : UInt8 => (b.toNat : Int)) = l := by
   conv => rhs; rw [← List.map_id l]
   exact List.map_congr_left fun b _ => by simp
  rw [e]
  simp

theorem aS8 {p : Nat → Bool} (n : Nat) : (List.range (n + 1)).find? p = if p 0 then some 0 else ((List.range n).find? fun i => p (i + 1)).map (· + 1) := by
 rw [List.range_succ_eq_map, List.find?_cons, List.find?_map]
 split <;> simp_all [Function.comp]
 rfl
end Go.Hl

namespace Go.Hl
open Go Go.Pl

def dD (l : List UInt8) (c : UInt8) : Int := match l.findIdx? (· == c) with | some i => (i : Int) | none => -1
theorem aL0 {α : Type} {p : α → Bool} (d : α) : ∀ (l : List α), (List.range l.length).find? (fun i => p (l.getD i d)) = l.findIdx? p
 | [] => rfl
 | a :: l => by
  rw [List.length_cons, aS8, List.findIdx?_cons]
  simp only [List.getD_cons_zero, List.getD_cons_succ]
  rw [aL0 d l]
theorem aY2 {P : Program} {w : World} {l : List UInt8} {x y : Value} {c : UInt8} (hx : (Extern.Bytes.bytesOf x).run P w = .ok ⟨l.toArray⟩ w) (hy : (Extern.Bytes.asByte y).run P w = .ok c w) :
  (Extern.BytealgIndexByte.indexByte #[x, y]).run P w = .ok (.int .i64 (dD l c)) w := by
 change (Sem.run P (do
  let b ← Extern.Bytes.bytesOf x
  let c ← Extern.Bytes.asByte y
  match (List.range b.size).find? fun i => b[i]! == c with
  | some i => pure (goInt i)
  | none => pure (goInt (-1))) w) = _
 simp only [Sem.run_bind, hx, hy, Result.andThen_ok]
 have h1 : (⟨l.toArray⟩ : ByteArray).size = l.length := by simp [ByteArray.size]
 have h2 : ∀ i : Nat, (⟨l.toArray⟩ : ByteArray)[i]! = l.getD i 0 := fun i => by exact Go.Lib.get!_eq l i
 simp only [h1, h2, aL0 (p := fun b => b == c)]
 unfold dD
 cases l.findIdx? fun b => b == c <;> rfl
theorem wM {P : Program} {w : World} {ρ : Env} {O : Nat → Prop} {c : UInt8} {y : Value} (h : RepV w ρ O (.c (u8 c)) y) : (Extern.Bytes.asByte y).run P w = .ok c w := by
 have h1 := h.single rfl
 simp_all [u8, RepC, List.cons.injEq, and_true, Extern.Bytes.asByte]
theorem cF7 {P : Program} {f : FuncId} {fn : Func} (hf : P.funcs[f]? = some fn) (hname : (fn.name == "runtime.NumGoroutine") = false) (hb : fn.body.isNone = true) (hn : Extern.findNext fn = none)
  (he : Extern.find fn = some Extern.BytealgIndexByte.indexByte) (l : List UInt8) (c : UInt8) : bQ P f [.slc (l.map u8), u8 c] (fun v => v = .int .i64 (dD l c)) :=
 sU hf hname hb hn he fun w ρ O xs h => by
  simp only [List.map_cons, List.map_nil, bH, RepHV] at h
  obtain ⟨x, l1, rfl, hx, y, l2, rfl, hy, rfl⟩ := h
  exact ⟨_, _, rfl, dT _ _ _ _ _, aY2 (bE5 hx) (wM hy)⟩
theorem bW8 {P : Program} {f : FuncId} {fn : Func} (hf : P.funcs[f]? = some fn) (hname : (fn.name == "runtime.NumGoroutine") = false) (hb : fn.body.isNone = true) (hn : Extern.findNext fn = none)
  (he : Extern.find fn = some Extern.BytealgIndexByte.indexByte) (l : List UInt8) (c : UInt8) : bQ P f [.str l, u8 c] (fun v => v = .int .i64 (dD l c)) :=
 sU hf hname hb hn he fun w ρ O xs h => by
  simp only [List.map_cons, List.map_nil, bH, RepHV] at h
  obtain ⟨x, l1, rfl, hx, y, l2, rfl, hy, rfl⟩ := h
  have hx' : (Extern.Bytes.bytesOf x).run P w = .ok ⟨l.toArray⟩ w := by
   have h1 := hx.single rfl
   simp only [RepC, List.cons.injEq, and_true] at h1
   subst h1
   rfl
  exact ⟨_, _, rfl, dT _ _ _ _ _, aY2 hx' (wM hy)⟩
end Go.Hl

namespace Go.Pl
open Go Go.Hl

def aP (c : UInt8) : List UInt8 → List (List UInt8)
 | [] => [[]]
 | b :: l => if b = c then [] :: aP c l else match aP c l with
  | x :: xs => (b :: x) :: xs
  | [] => [[b]]
theorem cN (c : UInt8) (l : List UInt8) : aP c l ≠ [] := by
 cases l with
 | nil => simp [aP]
 | cons b l => grind [aP]
theorem pL (c : UInt8) : ∀ l : List UInt8, match l.findIdx? (· == c) with
  | some i => i < l.length ∧ aP c l = l.take i :: aP c (l.drop (i + 1))
  | none => aP c l = [l]
 | [] => rfl
 | b :: l => by
  have ih := pL c l
  rw [List.findIdx?_cons]
  by_cases h : b = c
  ·
   grind [aP]
  ·
   have hb : (b == c) = false := by simpa using h
   simp only [hb, Bool.false_eq_true, if_false]
   cases hf : l.findIdx? (· == c) with
   | none =>
    simp_all [Option.map_none, aP, if_neg]
   | some i =>
    simp_all [Option.map_some, aP, if_neg, List.length_cons, List.take_succ_cons, List.drop_succ_cons, trivial]
theorem nJ {l : List UInt8} {c : UInt8} (h : dD l c < 0) : aP c l = [l] := by
 have := pL c l
 grind [dD]
theorem dP {l : List UInt8} {c : UInt8} (h : ¬ dD l c < 0) : ∃ i : Nat, dD l c = (i : Int) ∧ i < l.length ∧ aP c l = l.take i :: aP c (l.drop (i + 1)) := by
 have := pL c l
 unfold dD at h ⊢
 grind
theorem eB (c : UInt8) : ∀ l : List UInt8, (aP c l).length ≤ l.length + 1
 | [] => by simp [aP]
 | b :: l => by
  have ih := eB c l
  grind [aP, List.length_cons]
theorem mF (c : UInt8) : ∀ (l : List UInt8), ∀ p ∈ aP c l, p.length ≤ l.length
 | [], p, hp => by grind [aP]
 | b :: l, p, hp => by
  have ih := mF c l
  unfold aP at hp
  split at hp
  ·
   grind
  ·
   split at hp
   ·
    grind
   grind

def valH (c : UInt8) : Nat := if 48 ≤ c.toNat ∧ c.toNat ≤ 57 then c.toNat - 48 else if 65 ≤ c.toNat ∧ c.toNat ≤ 70 then c.toNat - 55 else 16
theorem aY3 (c : UInt8) : valH c ≤ 16 := by grind [valH]
def byteH (x y : UInt8) : UInt8 := UInt8.ofNat (16 * valH x + valH y)
def okH (x y : UInt8) : Bool := decide (valH x < 16) && decide (valH y < 16) && !cG (byteH x y)
def unB : List UInt8 → Option aJ
 | [] => some []
 | c :: l => if cG c then (unB l).map (c :: ·) else if c = 37 then match l with
   | x :: y :: l' => if okH x y then (unB l').map (byteH x y :: ·) else none
   | _ => none
  else none
def unW (s : aJ) : Option aJ := if s = [126] then some [] else if s = [] then none else unB s

theorem oK {c : UInt8} {l : aJ} (h : cG c = true) : unB (c :: l) = (unB l).map (c :: ·) := by
 rw [unB.eq_def]; grind
theorem vB {c : UInt8} {l : aJ} (h : cG c = false) (h1 : c ≠ 37 ∨ l.length < 2) : unB (c :: l) = none := by
 rw [unB.eq_def]
 grind
theorem aE7 {x y : UInt8} {l : aJ} (h : okH x y = true) : unB (37 :: x :: y :: l) = (unB l).map (byteH x y :: ·) := by
 rw [unB.eq_def]
 simp_all [cG, Bool.false_eq_true, if_false, if_true]
theorem uB {x y : UInt8} {l : aJ} (h : okH x y = false) : unB (37 :: x :: y :: l) = none := by simp_all [unB.eq_def, cG, Bool.false_eq_true, if_false, if_true]
theorem cF8 {s : aJ} {w : aJ} (hs : s ≠ []) (h : unB s = some w) : w ≠ [] := by
 cases s with
 | nil => grind
 | cons c l =>
  by_cases hp : cG c = true
  ·
   rw [oK hp, Option.map_eq_some_iff] at h
   grind
  ·
   have hp : cG c = false := by simpa using hp
   rw [unB.eq_def] at h
   simp only [hp, Bool.false_eq_true, if_false] at h
   split at h
   ·
    split at h
    ·
     split at h
     ·
      rw [Option.map_eq_some_iff] at h; grind
     grind
    grind
   grind


def bW9 : List UInt8 := [48, 49, 50, 51, 52, 53, 54, 55, 56, 57, 65, 66, 67, 68, 69, 70]
set_option maxRecDepth 20000 in
theorem qT (c : UInt8) : dD bW9 c = if valH c < 16 then (valH c : Int) else -1 := by
 have h : ∀ n : Fin 256, dD bW9 (UInt8.ofNat n.1) = if valH (UInt8.ofNat n.1) < 16 then (valH (UInt8.ofNat n.1) : Int) else -1 := by decide
 have := h ⟨c.toNat, c.toNat_lt⟩
 simp_all
theorem sV {x y : UInt8} (hx : valH x < 16) (hy : valH y < 16) : (byteH x y).toNat = 16 * valH x + valH y := by grind [byteH, UInt8.toNat_ofNat']

def UnSt (s : aJ) (i : Nat) (out : aJ) : Prop := i ≤ s.length ∧ unB s = (unB (s.drop i)).map (out ++ ·) ∧ (out = [] → i = 0) ∧ out.length ≤ i
section
variable {s : aJ} {i : Nat} {out : aJ}
theorem UnSt.init (s : aJ) : UnSt s 0 [] := ⟨Nat.zero_le _, by simp, fun _ => rfl, Nat.le_refl _⟩
theorem UnSt.plain (h : UnSt s i out) (hi : i < s.length) (hp : cG s[i] = true) : UnSt s (i + 1) (out ++ [s[i]]) := by
 obtain ⟨_, h2, _, h4⟩ := h
 refine ⟨hi, ?_, by simp, by grind⟩
 rw [h2, List.drop_eq_getElem_cons hi, oK hp, Option.map_map]
 congr 1
 grind
theorem UnSt.bad1 (h : UnSt s i out) (hi : i < s.length) (hp : cG s[i] = false) (h1 : s[i] ≠ 37 ∨ s.length ≤ i + 2) : unB s = none := by
 rw [h.2.1, List.drop_eq_getElem_cons hi, vB hp (h1.imp id fun h => by grind)]
 rfl
theorem cD7 {s : aJ} {i : Nat} (hi : i + 2 < s.length) : s.drop i = s[i] :: s[i + 1] :: s[i + 2] :: s.drop (i + 3) := by
 rw [List.drop_eq_getElem_cons (show i < s.length by omega), List.drop_eq_getElem_cons (show i + 1 < s.length by omega), List.drop_eq_getElem_cons hi]
theorem UnSt.esc (h : UnSt s i out) (hi : i + 2 < s.length) (h37 : s[i] = 37) (hok : okH s[i + 1] s[i + 2] = true) : UnSt s (i + 3) (out ++ [byteH s[i + 1] s[i + 2]]) := by
 obtain ⟨_, h2, _, h4⟩ := h
 refine ⟨hi, ?_, by simp, by simp; omega⟩
 rw [h2, cD7 hi, h37, aE7 hok, Option.map_map]
 congr 1
 funext l
 simp
theorem UnSt.bad2 (h : UnSt s i out) (hi : i + 2 < s.length) (h37 : s[i] = 37) (hok : okH s[i + 1] s[i + 2] = false) : unB s = none := by
 rw [h.2.1, cD7 hi, h37, uB hok]
 rfl
theorem fW (h : unB s = none) (h1 : s ≠ [126]) : unW s = none := by simp_all [unW, if_neg]
theorem UnSt.fin (h : UnSt s i out) (hi : i = s.length) (h1 : s ≠ [126]) : unW s = if out = [] then none else some out := by
 subst hi
 obtain ⟨_, h2, h3, h4⟩ := h
 rw [List.drop_length] at h2
 unfold unW
 rw [if_neg h1]
 by_cases ho : out = []
 ·
  grind
 ·
  have hs : s ≠ [] := by
   rintro rfl
   simp only [List.length_nil, Nat.le_zero] at h4
   exact ho (List.eq_nil_of_length_eq_zero h4)
  simp_all [if_neg, unB]
end

def CutR (l : List UInt8) (c : UInt8) (li re : List UInt8) (fd : Bool) : Prop :=
 (fd = false ∧ dD l c < 0 ∧ li = l ∧ re = []) ∨ (fd = true ∧ ∃ i : Nat, dD l c = (i : Int) ∧ i < l.length ∧ li = l.take i ∧ re = l.drop (i + 1))

def unL (r : aJ) : Option (List aJ) := (aP 32 r).mapM unW
def unR (r : aJ) : Option (List aJ) := match unL r with | some ws => if okL ws then some ws else none | none => none
def fQ (b : aJ) : Option (List (List aJ)) :=
 if b = [] then some [] else if (aP 10 b).getLast (cN 10 b) = [] then (aP 10 b).dropLast.mapM unR else none
theorem aL1 {l li re : aJ} (hc : CutR l 10 li re true) : fQ l = (unR li).bind fun ws => (fQ re).map (ws :: ·) := by
 rcases hc with ⟨h, _⟩ | ⟨_, i, h1, h2, rfl, rfl⟩
 ·
  cases h
 ·
  obtain ⟨i', h3, _, hsp⟩ := dP (l := l) (c := 10) (by omega)
  have : i' = i := by omega
  subst this
  have hne : l ≠ [] := by rintro rfl; simp at h2
  have hd : fQ l = if (aP 10 (l.drop (i' + 1))).getLast (cN 10 _) = [] then (l.take i' :: (aP 10 (l.drop (i' + 1))).dropLast).mapM unR else none := by
   unfold fQ
   rw [if_neg hne]
   simp only [hsp]
   grind [List.getLast_cons, cN, List.dropLast_cons_of_ne_nil]
  rw [hd]
  have he : fQ (l.drop (i' + 1)) = if (aP 10 (l.drop (i' + 1))).getLast (cN 10 _) = [] then (aP 10 (l.drop (i' + 1))).dropLast.mapM unR else none := by
   unfold fQ
   split
   ·
    rename_i h
    rw [h]; rfl
   ·
    rfl
  rw [he]
  split
  ·
   rw [List.mapM_cons]
   cases unR (l.take i') with
   | none => rfl
   | some ws => cases (aP 10 (l.drop (i' + 1))).dropLast.mapM unR <;> rfl
  simp_all
theorem wN {l li re : aJ} (hc : CutR l 10 li re false) (hne : l ≠ []) : fQ l = none := by
 rcases hc with ⟨_, h, _⟩ | ⟨h, _⟩
 all_goals simp_all [fQ, if_neg, nJ, List.getLast_singleton]
theorem bM4 {l li re : aJ} {fd : Bool} (hc : CutR l 10 li re fd) (hne : l ≠ []) (h : unR li = none) : fQ l = none := by
 cases fd with
 | false => exact wN hc hne
 | true => rw [aL1 hc, h]; rfl
theorem CutR.lt {l li re : aJ} {c : UInt8} {fd : Bool} (hc : CutR l c li re fd) (hne : l ≠ []) : re.length < l.length ∧ li.length ≤ l.length := by
 have : 0 < l.length := List.length_pos_iff.2 hne
 rcases hc with ⟨_, _, rfl, rfl⟩ | ⟨_, i, _, h, rfl, rfl⟩
 all_goals grind

def wsT (r : aJ) (i : Nat) : List aJ := ((aP 32 r).take i).map fun p => (unW p).getD []
def aL2 (r : aJ) (i : Nat) : Prop := ∀ p ∈ (aP 32 r).take i, (unW p).isSome = true
theorem aL3 {r : aJ} {i : Nat} (h : i < (aP 32 r).length) : wsT r (i + 1) = wsT r i ++ [(unW (aP 32 r)[i]).getD []] := by
 simp only [wsT, List.take_succ_eq_append_getElem h, List.map_append, List.map_cons, List.map_nil]
theorem pM {r : aJ} {i : Nat} (h : i ≤ (aP 32 r).length) : (wsT r i).length = i := by grind [wsT, List.length_map, List.length_take]
theorem zO {r : aJ} {i : Nat} (h : i < (aP 32 r).length) (h1 : aL2 r i) (h2 : (unW (aP 32 r)[i]).isSome = true) : aL2 r (i + 1) := by
 intro p hp
 rw [List.take_succ_eq_append_getElem h, List.mem_append, List.mem_singleton] at hp
 rcases hp with hp | rfl
 ·
  exact h1 p hp
 ·
  exact h2
theorem oL {α β : Type} {f : α → Option β} : ∀ {l : List α} {x : α}, x ∈ l → f x = none → l.mapM f = none
 | a :: l, x, hx, h => by
  rw [List.mapM_cons]
  rcases List.mem_cons.1 hx with rfl | hx
  ·
   grind
  ·
   rw [oL hx h]
   simp_all
theorem qU {α β : Type} {f : α → Option β} (d : β) : ∀ {l : List α}, (∀ x ∈ l, (f x).isSome = true) → l.mapM f = some (l.map fun x => (f x).getD d)
 | [], _ => rfl
 | a :: l, h => by
  rw [List.mapM_cons, qU d fun x hx => h x (List.mem_cons_of_mem _ hx)]
  grind [Option.isSome_iff_exists, List.mem_cons_self]
theorem bM5 {r : aJ} {i : Nat} (h : i < (aP 32 r).length) (h2 : (unW (aP 32 r)[i]).isSome = false) : unR r = none := by
 unfold unR unL
 rw [oL (List.getElem_mem h) (by simpa using h2)]
theorem bX0 {r : aJ} (h : aL2 r (aP 32 r).length) : unR r = if okL (wsT r (aP 32 r).length) then some (wsT r (aP 32 r).length) else none := by
 unfold aL2 at h
 rw [List.take_length] at h
 unfold unR unL
 rw [qU [] h]
 simp only [wsT, List.take_length]

def DecSt (b rest : aJ) (ls : List (List aJ)) : Prop := fQ b = (fQ rest).map (ls ++ ·) ∧ rest.length ≤ b.length ∧ ls.length + rest.length ≤ b.length
theorem DecSt.init (b : aJ) : DecSt b b [] := ⟨by simp, Nat.le_refl _, by simp⟩
theorem DecSt.bad {b rest li re : aJ} {ls : List (List aJ)} {fd : Bool} (h : DecSt b rest ls) (hc : CutR rest 10 li re fd) (hne : rest ≠ []) (hb : unR li = none) : fQ b = none := by
 rw [h.1, bM4 hc hne hb]; rfl
theorem DecSt.bad0 {b rest li re : aJ} {ls : List (List aJ)} (h : DecSt b rest ls) (hc : CutR rest 10 li re false) (hne : rest ≠ []) : fQ b = none := by
 rw [h.1, wN hc hne]; rfl
theorem DecSt.next {b rest li re : aJ} {ls : List (List aJ)} (h : DecSt b rest ls) (hc : CutR rest 10 li re true) (hne : rest ≠ []) {ws : List aJ} (hb : unR li = some ws) : DecSt b re (ls ++ [ws]) := by
 have hl := hc.lt hne
 obtain ⟨h1, h2, h3⟩ := h
 refine ⟨?_, by omega, by grind⟩
 rw [h1, aL1 hc, hb]
 cases fQ re with
 | none => rfl
 | some l => simp
theorem DecSt.fin {b : aJ} {ls : List (List aJ)} (h : DecSt b [] ls) : fQ b = some ls := by
 rw [h.1]
 simp [fQ]
def eC (b : aJ) : Int := if 262144 < b.length then 3 else match fQ b with | some ls => if 1000 < ls.length then 2 else 0 | none => 2
def eD (b : aJ) : List (List aJ) := if eC b = 0 then (fQ b).getD [] else []
end Go.Pl

namespace Go.Pl
open Go Go.Hl

def kP (w : aJ) : Bool := !(w == []) && (!(w == [46]) && !(w == [46, 46]))
def kQ (s : aJ) : Bool := decide (1 ≤ s.length) && (decide (s.length ≤ 200) && (!s.contains 0 && (aP 47 s).all kP))

structure Pt where
 k : Nat
 c : UInt8
def Pt.cv (x : Pt) : CV := .agg [.int .i64 x.k, .int .u8 x.c.toNat]
theorem Pt.cells (x : Pt) : x.cv.cells = 2 := by simp [Pt.cv, CV.cells, CV.cellsL]
theorem Pt.denil (x : Pt) : x.cv.denil = x.cv := by simp only [Pt.cv, CV.denil, CV.denilL]
theorem denilL_Pt (l : List Pt) : CV.denilL (l.map Pt.cv) = l.map Pt.cv := cE Pt.denil l
theorem Pt.isAgg (x : Pt) : x.cv.isAgg = true := rfl
theorem Pt.getAll (x : Pt) : CV.getAt 0 2 true x.cv = some x.cv := by
 have := Pt.cells x
 simp_all [Pt.cv, CV.cells, CV.getAt, and_self, if_true]
theorem Pt.setAll (x : Pt) (y : HV) : CV.setAt 0 2 y x.cv = some y := by
 have := Pt.cells x
 simp_all [Pt.cv, CV.cells, CV.setAt, and_self, if_true]
theorem Pt.fold (k : Nat) (c : UInt8) : CV.agg [.int .i64 k, .int .u8 c.toNat] = Pt.cv ⟨k, c⟩ := rfl
theorem Pt.get_k (x : Pt) : CV.getAt 0 1 false x.cv = some (.int .i64 x.k) := by simp [Pt.cv, CV.getAt, CV.getAtL, CV.cells, CV.cellsL]
theorem Pt.get_c (x : Pt) : CV.getAt 1 1 false x.cv = some (.int .u8 x.c.toNat) := by simp [Pt.cv, CV.getAt, CV.getAtL, CV.cells, CV.cellsL]
def patP : aJ → Option (List Pt)
 | [] => some []
 | c :: l => if c = 0 then none
  else if c = 92 then match l with
   | [] => none
   | d :: r => if d = 0 then none else (patP r).map (⟨0, d⟩ :: ·)
  else if c = 63 then (patP l).map (⟨1, 0⟩ :: ·)
  else if c = 42 then match l with
   | [] => some [⟨2, 0⟩]
   | d :: r => if d = 42 then (patP r).map (⟨3, 0⟩ :: ·) else (patP (d :: r)).map (⟨2, 0⟩ :: ·)
  else (patP l).map (⟨0, c⟩ :: ·)
def eL (p : aJ) : Option (List Pt) := if p.length < 1 ∨ 200 < p.length then none else patP p
theorem jO : ∀ (n : Nat) (l : aJ), l.length ≤ n → 0 ∈ l → patP l = none
 | _, [], _, h => by grind
 | 0, _ :: _, hn, _ => by grind
 | n + 1, c :: l, hn, h => by
  have hn' : l.length ≤ n := by simpa using hn
  rw [patP.eq_def]
  simp only
  split
  ·
   rfl
  ·
   rename_i hc
   have hl : 0 ∈ l := by
    rcases List.mem_cons.1 h with h | h
    ·
     grind
    ·
     exact h
   split
   ·
    cases l with
    | nil => rfl
    | cons d r =>
     simp only
     split
     ·
      rfl
     ·
      rename_i hd
      have hr : 0 ∈ r := by
       rcases List.mem_cons.1 hl with h | h
       ·
        grind
       ·
        exact h
      rw [jO n r (by grind) hr]; rfl
   ·
    split
    ·
     rw [jO n l hn' hl]; rfl
    ·
     split
     ·
      cases l with
      | nil => grind
      | cons d r =>
       simp only
       split
       ·
        rename_i hd
        have hr : 0 ∈ r := by
         rcases List.mem_cons.1 hl with h | h
         ·
          grind
         ·
          exact h
        rw [jO n r (by grind) hr]; rfl
       ·
        rw [jO n (d :: r) hn' hl]; rfl
     ·
      rw [jO n l hn' hl]; rfl
theorem aY4 : ∀ (n : Nat) (l : aJ) (ps : List Pt), l.length ≤ n → patP l = some ps → ps.length ≤ l.length ∧ ∀ x ∈ ps, x.k ≤ 3
 | _, [], ps, _, h => by grind [patP.eq_def]
 | 0, _ :: _, _, hn, _ => by grind
 | n + 1, c :: l, ps, hn, h => by
  have hn' : l.length ≤ n := by simpa using hn
  have key : ∀ (r : aJ) (x : Pt), r.length ≤ l.length → x.k ≤ 3 → (patP r).map (x :: ·) = some ps → ps.length ≤ (c :: l).length ∧ ∀ x ∈ ps, x.k ≤ 3 := by
   intro r x hr hx h
   cases hp : patP r with
   | none => grind
   | some q =>
    rw [hp] at h
    cases h
    obtain ⟨g1, g2⟩ := aY4 n r q (by omega) hp
    grind
  rw [patP.eq_def] at h
  simp only at h
  split at h
  ·
   cases h
  ·
   split at h
   ·
    grind
   ·
    split at h
    ·
     grind
    ·
     split at h
     ·
      grind
     grind
def PatSt (p : aJ) (i : Nat) (out : List Pt) : Prop := i ≤ p.length ∧ patP p = (patP (p.drop i)).map (out ++ ·) ∧ out.length ≤ i ∧ ∀ x ∈ out, x.k ≤ 3
theorem PatSt.init (p : aJ) : PatSt p 0 [] := ⟨by omega, by simp, by simp, by simp⟩
section
variable {p : aJ} {i : Nat} {out : List Pt}
theorem PatSt.fin (h : PatSt p i out) (hi : i = p.length) : patP p = some out := by
 rw [h.2.1, hi, List.drop_length, patP.eq_def]; simp
theorem PatSt.step (h : PatSt p i out) {k : Nat} {x : Pt} (hk : i + k ≤ p.length) (h0 : 1 ≤ k) (hx : x.k ≤ 3) (he : patP (p.drop i) = (patP (p.drop (i + k))).map (x :: ·)) : PatSt p (i + k) (out ++ [x]) := by
 refine ⟨hk, ?_, by have := h.2.2.1; grind, fun y hy => ?_⟩
 ·
  rw [h.2.1, he, Option.map_map]
  congr 1
  grind
 ·
  rcases List.mem_append.1 hy with hy | hy
  ·
   exact h.2.2.2 y hy
  grind
theorem PatSt.bad (h : PatSt p i out) (he : patP (p.drop i) = none) : patP p = none := by rw [h.2.1, he]; rfl
theorem bM6 {p : aJ} {i : Nat} (h : i + 1 < p.length) : p.drop i = p[i] :: p[i + 1] :: p.drop (i + 2) := by
 rw [List.drop_eq_getElem_cons (by omega), List.drop_eq_getElem_cons h]
theorem aL4 (hi : i + 1 < p.length) (h1 : p[i] = 92) (h2 : p[i + 1] ≠ 0) : patP (p.drop i) = (patP (p.drop (i + 2))).map (⟨0, p[i + 1]⟩ :: ·) := by
 rw [bM6 hi, patP.eq_def]; simp only
 rw [if_neg (by rw [h1]; decide), if_pos h1, if_neg h2]
theorem bE6 (hi : i + 1 < p.length) (h1 : p[i] = 92) (h2 : p[i + 1] = 0) : patP (p.drop i) = none := by
 rw [bM6 hi, patP.eq_def]; simp only
 rw [if_neg (by rw [h1]; decide), if_pos h1, if_pos h2]
theorem zP (hi : i < p.length) (h1 : p[i] = 92) (he : i + 1 = p.length) : patP (p.drop i) = none := by simp_all [List.drop_eq_getElem_cons, List.drop_eq_nil_of_le, patP.eq_def, if_neg, if_pos]
theorem bM7 (hi : i < p.length) (h1 : p[i] = 63) : patP (p.drop i) = (patP (p.drop (i + 1))).map (⟨1, 0⟩ :: ·) := by
 rw [List.drop_eq_getElem_cons hi, patP.eq_def]; grind
theorem aY5 (hi : i + 1 < p.length) (h1 : p[i] = 42) (h2 : p[i + 1] = 42) : patP (p.drop i) = (patP (p.drop (i + 2))).map (⟨3, 0⟩ :: ·) := by
 rw [bM6 hi, patP.eq_def]; simp only
 rw [if_neg (by rw [h1]; decide), if_neg (by rw [h1]; decide), if_neg (by rw [h1]; decide), if_pos h1, if_pos h2]
theorem aE8 (hi : i < p.length) (h1 : p[i] = 42) (h2 : ∀ h : i + 1 < p.length, p[i + 1] ≠ 42) : patP (p.drop i) = (patP (p.drop (i + 1))).map (⟨2, 0⟩ :: ·) := by
 rw [List.drop_eq_getElem_cons hi, patP.eq_def]; simp only
 rw [if_neg (by rw [h1]; decide), if_neg (by rw [h1]; decide), if_neg (by rw [h1]; decide), if_pos h1]
 rcases Nat.lt_or_ge (i + 1) p.length with h | h
 ·
  rw [List.drop_eq_getElem_cons h]; simp only
  rw [if_neg (h2 h)]
 ·
  rw [List.drop_eq_nil_of_le h]
  simp only
  rw [patP.eq_def]; rfl
theorem aL5 (hi : i < p.length) (h1 : p[i] = 0) : patP (p.drop i) = none := by simp_all [List.drop_eq_getElem_cons, patP.eq_def, if_pos]
theorem bM8 (hi : i < p.length) (h0 : p[i] ≠ 0) (h1 : p[i] ≠ 92) (h2 : p[i] ≠ 63) (h3 : p[i] ≠ 42) : patP (p.drop i) = (patP (p.drop (i + 1))).map (⟨0, p[i]⟩ :: ·) := by
 rw [List.drop_eq_getElem_cons hi, patP.eq_def]; grind
end

def Pt.long (x : Pt) : Bool := decide (2 ≤ x.k)
def Pt.takes (x : Pt) (c : UInt8) : Bool := if x.k = 0 then c == x.c else if x.k = 3 then true else !(c == 47)
def mD (ps : List Pt) (s : aJ) : Nat → Nat → Bool
 | 0, 0 => true
 | 0, _ + 1 => false
 | k + 1, 0 => (ps.getD k ⟨0, 0⟩).long && mD ps s k 0
 | k + 1, i + 1 => if (ps.getD k ⟨0, 0⟩).long then mD ps s k (i + 1) || (mD ps s (k + 1) i && (ps.getD k ⟨0, 0⟩).takes (s.getD i 0))
  else mD ps s k i && (ps.getD k ⟨0, 0⟩).takes (s.getD i 0)
termination_by k i => k + i
def mG (p s : aJ) : Bool := match eL p with | some ps => kQ s && mD ps s ps.length s.length | none => false
end Go.Pl

namespace Go.Hl
open Go

section
variable {P : Program} {av : List Nat} {f : FuncId} {ob : Ob} {nid id n : Nat} {K : HV → Ob → Prop} {T e : TypeId} {sz : Nat} {v : CV} {l : List CV}
end
def fR (P : Program) (f : FuncId) (args : List CV) (R : CV → CV → Prop) : Prop :=
 HFn P f (args.map .c) 0 cQ (fun r ob' => ∃ u v, r = .tup [.c u, .c v] ∧ R u v ∧ ob' = cQ)
theorem aR {ob : Ob} {r : HV} {R : CV → CV → Prop} (cl : List Nat) (u v : CV) (h : (r.close ob cl).norm = .tup [.c u, .c v]) (hR : R u v) : mO 0 r ob (fun r ob' => ∃ u v, r = .tup [.c u, .c v] ∧ R u v ∧ ob' = cQ) :=
 ⟨cl, id, .tup [.c u, .c v], cQ, ⟨u, v, rfl, hR, rfl⟩, by rw [h]; rfl, fun _ h => by omega, fun _ _ _ _ h => h, by simp [HV.men, HV.menL], fun j o h => by simp [cQ] at h⟩
theorem wO {P : Program} {av : List Nat} {f : FuncId} {ob : Ob} {nid : Nat} {K : HV → Ob → Prop} {args : List CV} {R : CV → CV → Prop} (h : fR P f args R) (hfree : Free4 ob nid) (hK : ∀ u v, R u v → K (.tup [.c u, .c v]) ob) :
  HCall P av f (args.map .c) ob nid K := by
 refine ⟨[], args.map .c, cQ, _, h, jN args, ⟨List.nodup_nil, by simp⟩, (HV.renL_c _ _).symm, fun j o h => by simp [cQ] at h, fun r lob' hR _ => ?_⟩
 obtain ⟨u, v, rfl, hv, rfl⟩ := hR
 rw [kO hfree.all]
 exact hK u v hv
end Go.Hl

namespace Go.Hl
open Go

section
variable {P : Program} {av : List Nat} {f : FuncId} {ob : Ob} {nid id n : Nat} {K : HV → Ob → Prop} {T e : TypeId} {sz : Nat} {v : CV} {l : List CV} {rest : List HV}
end

def aE9 (P : Program) (f : FuncId) (args : List CV) (R : CV → CV → CV → Prop) : Prop :=
 HFn P f (args.map .c) 0 cQ (fun r ob' => ∃ u v x, r = .tup [.c u, .c v, .c x] ∧ R u v x ∧ ob' = cQ)
theorem jX {ob : Ob} {r : HV} {R : CV → CV → CV → Prop} (cl : List Nat) (u v x : CV) (h : (r.close ob cl).norm = .tup [.c u, .c v, .c x]) (hR : R u v x) : mO 0 r ob (fun r ob' => ∃ u v x, r = .tup [.c u, .c v, .c x] ∧ R u v x ∧ ob' = cQ) :=
 ⟨cl, id, .tup [.c u, .c v, .c x], cQ, ⟨u, v, x, rfl, hR, rfl⟩, by rw [h]; rfl, fun _ h => by omega, fun _ _ _ _ h => h, by simp [HV.men, HV.menL], fun j o h => by simp [cQ] at h⟩
theorem pN {P : Program} {av : List Nat} {f : FuncId} {ob : Ob} {nid : Nat} {K : HV → Ob → Prop} {args : List CV} {R : CV → CV → CV → Prop} (h : aE9 P f args R) (hfree : Free4 ob nid) (hK : ∀ u v x, R u v x → K (.tup [.c u, .c v, .c x]) ob) :
  HCall P av f (args.map .c) ob nid K := by
 refine ⟨[], args.map .c, cQ, _, h, jN args, ⟨List.nodup_nil, by simp⟩, (HV.renL_c _ _).symm, fun j o h => by simp [cQ] at h, fun r lob' hR _ => ?_⟩
 obtain ⟨u, v, x, rfl, hv, rfl⟩ := hR
 rw [kO hfree.all]
 exact hK u v x hv
theorem aS9 {ob : Ob} {r w : HV} {T : TypeId} {R : CV → CV → CV → Prop} (cl : List Nat) (u x v' : CV) (h : (r.close ob cl).norm = .tup [.c u, .c x]) (hb : ob 0 = some (.box T w)) (hw : (w.close ob cl).norm = .c v') (h0 : 0 ∉ cl) (hR : R u x v') :
  mO 1 r ob (fun r ob' => ∃ u x v', r = .tup [.c u, .c x] ∧ ob' = fob [(0, .box T (.c v'))] ∧ R u x v') := by
 refine ⟨cl, id, .tup [.c u, .c x], fob [(0, .box T (.c v'))], ⟨u, x, v', rfl, rfl, hR⟩, by grind [HV.ren, HV.renL], fun _ _ => rfl, fun _ _ _ _ h => h, by simp [HV.men, HV.menL], fun j o ho => ?_⟩
 by_cases e : j = 0
 ·
  subst e
  simp only [fob_at, if_true, Option.some.injEq] at ho
  subst ho
  refine ⟨by omega, by simp [HO.men, HV.men], h0, .box T w, hb, ?_⟩
  simp only [hw]
  rfl
 grind [fob_at, fob_nil]
end Go.Hl

namespace Go.Hl
open Go

def lst (os : List HO) : Ob := fun j => os[j]?
theorem wP (o : HO) (os : List HO) (j : Nat) : lst (o :: os) (j + 1) = lst os j := by simp [lst]
def HGe (P : Program) (f : FuncId) (args : List HV) (os : List HO) (R : HV → List HO → Prop) : Prop :=
 HFn P f args os.length (lst os) (fun r ob' => ∃ os', ob' = lst os' ∧ (os.length ≤ os'.length ∧ os'.length ≤ os.length + 4) ∧ R r os')
def kH (m : Nat → Nat) : Ob → Nat → List HO → Ob
 | ob, _, [] => ob
 | ob, j, o :: os => kH m (upd ob (m j) (some (o.ren m))) (j + 1) os
theorem oM (m : Nat → Nat) (i : Nat) : ∀ (os : List HO) (ob : Ob) (j : Nat), (∀ t, t < os.length → m (j + t) ≠ i) → kH m ob j os i = ob i
 | [], _, _, _ => rfl
 | o :: os, ob, j, h => by
  rw [kH, oM m i os _ (j + 1) fun t ht => by have := h (t + 1) (by grind); grind]
  exact aX _ _ fun e => h 0 (by simp) e.symm
theorem aL6 (m : Nat → Nat) {N : Nat} (inj : ∀ a b, a < N → b < N → m a = m b → a = b) : ∀ (os : List HO) (ob : Ob) (j t : Nat) (ht : t < os.length), j + os.length ≤ N → kH m ob j os (m (j + t)) = some (os[t].ren m)
 | o :: os, ob, j, 0, ht, hN => by
  show kH m (upd ob (m j) (some (o.ren m))) (j + 1) os (m j) = _
  grind [oM, List.length_cons, aS]
 | o :: os, ob, j, t + 1, ht, hN => by
  have := aL6 m inj os (upd ob (m j) (some (o.ren m))) (j + 1) t (by grind) (by grind)
  rw [kH, show j + (t + 1) = j + 1 + t from by omega, this]
  rfl
theorem aT0 {σ : List Nat} {nid j : Nat} (h : j < σ.length) : sub σ nid j = σ[j] := by simp_all [sub, if_pos, List.getD_eq_getElem?_getD, List.getElem?_eq_getElem]
theorem aT1 {σ : List Nat} {nid j : Nat} (h : σ.length ≤ j) : sub σ nid j = nid + (j - σ.length) := by simp_all [sub, if_neg]
theorem bX1 {σ : List Nat} {nid : Nat} (hn : σ.Nodup) (ho : ∀ s ∈ σ, s < nid ∨ nid + 4 ≤ s) : ∀ a b, a < σ.length + 4 → b < σ.length + 4 → sub σ nid a = sub σ nid b → a = b := by grind [Nat.lt_or_ge, aT0, List.getElem_inj, aT1, List.getElem_mem]
theorem uC {ob : Ob} {σ : List Nat} {nid : Nat} {os : List HO} (hn : σ.Nodup) (ho : ∀ s ∈ σ, s < nid ∨ nid + 4 ≤ s) (hfree : Free4 ob nid) (h1 : σ.length ≤ os.length) (h2 : os.length ≤ σ.length + 4) :
  bV ob σ nid (lst os) = kH (sub σ nid) ob 0 os := by
 have inj := bX1 hn ho
 have hit : ∀ t, (ht : t < os.length) → kH (sub σ nid) ob 0 os (sub σ nid t) = some (os[t].ren (sub σ nid)) := fun t ht => by
  have := aL6 (sub σ nid) inj os ob 0 t ht (by omega)
  grind
 funext i
 unfold bV
 split
 ·
  grind [List.findIdx?_eq_some_iff_getElem, sub, aT0, lst, List.getElem?_eq_getElem]
 ·
  rename_i hj
  have hmem : i ∉ σ := fun h => by grind
  split
  ·
   rename_i hr
   have hi : sub σ nid (σ.length + (i - nid)) = i := by rw [aT1 (by omega)]; omega
   by_cases hlt : σ.length + (i - nid) < os.length
   ·
    grind [lst, List.getElem?_eq_getElem]
   ·
    rw [oM, lst, List.getElem?_eq_none (by omega), hfree.all i hr.1 hr.2]; all_goals grind
  ·
   rename_i hr
   rw [oM]
   intro t ht e
   rw [Nat.zero_add] at e
   grind [Nat.lt_or_ge, aT0, List.getElem_mem, aT1]
def aY6 (ob : Ob) (m : Nat → Nat) : List Nat → List HO → Prop
 | [], [] => True
 | s :: σ, o :: os => ob s = some (o.ren m) ∧ aY6 ob m σ os
 | _, _ => False
theorem sW {ob : Ob} {m : Nat → Nat} : ∀ {σ : List Nat} {os : List HO}, aY6 ob m σ os → σ.length = os.length ∧ ∀ j o, lst os j = some o → ob (σ.getD j 0) = some (o.ren m)
 | [], [], _ => ⟨rfl, fun j o h => by simp [lst] at h⟩
 | s :: σ, o :: os, h => by
  obtain ⟨h1, h2⟩ := sW h.2
  refine ⟨by grind, fun j o' hj => ?_⟩
  cases j with
  | zero => cases hj; exact h.1
  | succ j => grind [wP]
 | [], _ :: _, h => h.elim
 | _ :: _, [], h => h.elim
def eO (k : Nat) : List HO → Prop
 | [] => True
 | o :: os => o.men (· < k) ∧ eO k os
theorem zQ {k : Nat} : ∀ {os : List HO}, eO k os → ∀ j o, lst os j = some o → o.men (· < k)
 | [], _, j, o, h => by simp [lst] at h
 | o :: os, h, 0, o', hj => by cases hj; exact h.1
 | o :: os, h, j + 1, o', hj => by rw [wP] at hj; exact zQ h.2 j o' hj
theorem bM9 {os : List HO} {j : Nat} {o : HO} (h : lst os j = some o) : j < os.length := (List.getElem?_eq_some_iff.1 h).1
theorem fX {args : List HV} {os : List HO} {k : Nat} (hk : k = os.length) (h1 : eO k os) (h2 : HV.menL (· < k) args) : LocOk k args (lst os) := by
 subst hk
 exact ⟨fun j hj => ⟨os[j], by rw [lst, List.getElem?_eq_getElem hj]⟩, fun id o h => ⟨bM9 h, zQ h1 id o h⟩, h2⟩
theorem gW {P : Program} {av : List Nat} {f : FuncId} {ob : Ob} {nid : Nat} {K : HV → Ob → Prop} {largs args : List HV} {os : List HO} {R : HV → List HO → Prop} (σ : List Nat) (h : HGe P f largs os R) (ha : args = HV.renL (sub σ nid) largs)
  (hob : aY6 ob (sub σ nid) σ os) (hn : σ.Nodup) (hav : ∀ s ∈ σ, s ∉ av) (hfree : Free4 ob nid) (hm : eO os.length os) (hm2 : HV.menL (· < os.length) largs)
  (hK : ∀ r os', R r os' → K (r.ren (sub σ nid)) (kH (sub σ nid) ob 0 os')) : HCall P av f args ob nid K := by
 obtain ⟨hl, hg⟩ := sW hob
 have ho : ∀ s ∈ σ, s < nid ∨ nid + 4 ≤ s := fun s hs => by
  obtain ⟨j, hj, rfl⟩ := List.getElem_of_mem hs
  have h1 := hg j os[j] (by rw [lst, List.getElem?_eq_getElem])
  rw [List.getD_eq_getElem?_getD, List.getElem?_eq_getElem hj] at h1
  rcases Nat.lt_or_ge σ[j] nid with h2 | h2
  ·
   grind
  ·
   rcases Nat.lt_or_ge σ[j] (nid + 4) with h3 | h3
   ·
    rw [Option.getD_some, hfree.all _ h2 h3] at h1; grind
   grind
 unfold HGe at h
 rw [← hl] at h hm hm2
 refine ⟨σ, largs, lst os, _, h, fX hl hm hm2, ⟨hn, hav⟩, ha, hg, fun r lob' hR _ => ?_⟩
 obtain ⟨os', rfl, ⟨h1, h2⟩, hR⟩ := hR
 grind [uC]
def tau (k : Nat) (new : List Nat) (j : Nat) : Nat := if j < k then j else if j - k < new.length then new.getD (j - k) 0 else k + new.sum + 4 + j
theorem bN0 : ∀ {l : List Nat} {x : Nat}, x ∈ l → x ≤ l.sum
 | y :: l, x, h => by
  rcases List.mem_cons.1 h with rfl | h
  ·
   simp
  ·
   have := bN0 h; grind
theorem bX2 {k : Nat} {new : List Nat} (hn : new.Nodup) (hk : ∀ s ∈ new, k ≤ s) : ∀ i j, tau k new i = tau k new j → i = j := by
 have key : ∀ j, j - k < new.length → ¬ j < k → k ≤ tau k new j ∧ tau k new j ≤ new.sum := fun j h1 h2 => by simp_all [tau, if_neg, if_pos, List.getD_eq_getElem?_getD, List.getElem?_eq_getElem, List.getElem_mem, bN0]
 have lo : ∀ j, j < k → tau k new j = j := fun j h => by unfold tau; grind
 have hi : ∀ j, ¬ j < k → ¬ j - k < new.length → tau k new j = k + new.sum + 4 + j := fun j h1 h2 => by simp_all [tau, if_neg]
 intro i j h
 by_cases i1 : i < k <;> by_cases j1 : j < k
 ·
  rwa [lo i i1, lo j j1] at h
 ·
  grind
 ·
  grind
 ·
  by_cases i2 : i - k < new.length <;> by_cases j2 : j - k < new.length
  ·
   unfold tau at h
   rw [if_neg i1, if_pos i2, if_neg j1, if_pos j2, List.getD_eq_getElem?_getD, List.getElem?_eq_getElem i2, List.getD_eq_getElem?_getD, List.getElem?_eq_getElem j2] at h
   grind [List.getElem_inj]
  all_goals grind
def fY (ob : Ob) (cl : List Nat) : HO → HO
 | .box t v => .box t (v.close ob cl).norm
 | .row e sz l => .row e sz l
 | .mp e sz D => .mp e sz D
 | .dead => .dead
 | .tab T => .tab T
 | .hrow e sz l => .hrow e sz (HV.closeL ob cl l)
def bN1 (ob : Ob) (cl : List Nat) (k : Nat) (τ : Nat → Nat) : Nat → List HO → Prop
 | _, [] => True
 | j, o :: os => (o.men (· < k + 4) ∧ τ j ∉ cl ∧ ∃ o0, ob (τ j) = some o0 ∧ fY ob cl o0 = o.ren τ) ∧ bN1 ob cl k τ (j + 1) os
theorem zR {ob : Ob} {cl : List Nat} {k : Nat} {τ : Nat → Nat} : ∀ {os : List HO} {j : Nat}, bN1 ob cl k τ j os → ∀ t o, lst os t = some o → o.men (· < k + 4) ∧ τ (j + t) ∉ cl ∧ ∃ o0, ob (τ (j + t)) = some o0 ∧ fY ob cl o0 = o.ren τ
 | [], _, _, t, o, h => by simp [lst] at h
 | o :: os, j, h, 0, o', ht => by cases ht; exact h.1
 | o :: os, j, h, t + 1, o', ht => by
  rw [wP] at ht
  have := zR h.2 t o' ht
  grind
theorem eE {k : Nat} {r : HV} {ob : Ob} {R : HV → List HO → Prop} (cl new : List Nat) (r' : HV) (os' : List HO) (hr : (r.close ob cl).norm = r'.ren (tau k new)) (hm : r'.men (· < k + 4)) (ho : bN1 ob cl k (tau k new) 0 os') (hl : os'.length = k + new.length)
  (hn : new.Nodup) (hk : ∀ s ∈ new, k ≤ s) (hl4 : new.length ≤ 4) (hR : R r' os') : mO k r ob (fun r ob' => ∃ os', ob' = lst os' ∧ (k ≤ os'.length ∧ os'.length ≤ k + 4) ∧ R r os') := by
 refine ⟨cl, tau k new, r', lst os', ⟨os', rfl, by omega, hR⟩, hr, fun j hj => by unfold tau; grind, fun i j _ _ h => bX2 hn hk i j h, hm, fun j o hj => ?_⟩
 obtain ⟨h1, h2, o0, h3, h4⟩ := zR ho j o hj
 rw [Nat.zero_add] at h2 h3
 refine ⟨by have := bM9 hj; omega, h1, h2, o0, h3, ?_⟩
 rw [← h4]
 cases o0 <;> rfl
theorem aL7 {P : Program} {av : List Nat} {f : FuncId} {ob : Ob} {nid : Nat} {K : HV → Ob → Prop} {largs args : List HV} {os : List HO} {R : HV → List HO → Prop} (σ : List Nat) (h : HGe P f largs os R) (ha : args = HV.renL (sub σ nid) largs)
  (hob : aY6 ob (sub σ nid) σ os) (hn : σ.Nodup) (hav : ∀ j, j < σ.length → σ.getD j 0 ∉ av ∨ (σ.getD j 0 + 10000 ≤ nid ∧ ∀ r os', R r os' → os'[j]? = os[j]?)) (hfree : Free4 ob nid) (hm : eO os.length os) (hm2 : HV.menL (· < os.length) largs)
  (hK : ∀ r os', R r os' → K (r.ren (sub σ nid)) (kH (sub σ nid) ob 0 os')) : HCallL P av f args ob nid K := by
 obtain ⟨hl, hg⟩ := sW hob
 have ho : ∀ s ∈ σ, s < nid ∨ nid + 4 ≤ s := fun s hs => by
  obtain ⟨j, hj, rfl⟩ := List.getElem_of_mem hs
  have h1 := hg j os[j] (by rw [lst, List.getElem?_eq_getElem])
  rw [List.getD_eq_getElem?_getD, List.getElem?_eq_getElem hj] at h1
  rcases Nat.lt_or_ge σ[j] nid with h2 | h2
  ·
   grind
  ·
   rcases Nat.lt_or_ge σ[j] (nid + 4) with h3 | h3
   ·
    rw [Option.getD_some, hfree.all _ h2 h3] at h1; grind
   grind
 unfold HGe at h
 rw [← hl] at h hm hm2
 refine ⟨σ, largs, lst os, _, h, fX hl hm hm2, ⟨hn, fun j hj => (hav j hj).imp (fun h => h) fun h => ⟨h.1, fun r lob' hR => ?_⟩⟩, ha, hg, fun r lob' hR _ => ?_⟩
 ·
  obtain ⟨os', rfl, _, hR⟩ := hR
  exact h.2 r os' hR
 ·
  obtain ⟨os', rfl, ⟨h1, h2⟩, hR⟩ := hR
  grind [uC]
end Go.Hl

namespace Go.Hl
open Go

def uD (P : Program) (f : FuncId) (T : TypeId) (v : CV) (args : List CV) (R : CV → CV → CV → Prop) : Prop :=
 HFn P f (.ptr 0 0 :: args.map .c) 1 (fob [(0, .box T (.c v))]) (fun r ob' => ∃ u x v', r = .tup [.c u, .c x] ∧ ob' = fob [(0, .box T (.c v'))] ∧ R u x v')
theorem bT {ob : Ob} {r w : HV} {T : TypeId} {R : CV → CV → CV → Prop} (cl : List Nat) (u x v' : CV) (h : (r.close ob cl).norm = .tup [.c u, .c x]) (hb : ob 0 = some (.box T w)) (hw : (w.close ob cl).norm = .c v') (h0 : 0 ∉ cl) (hR : R u x v') :
  mO 1 r ob (fun r ob' => ∃ u x v', r = .tup [.c u, .c x] ∧ ob' = fob [(0, .box T (.c v'))] ∧ R u x v') := aS9 cl u x v' h hb hw h0 hR
theorem eA {P : Program} {av : List Nat} {f : FuncId} {ob : Ob} {nid id : Nat} {K : HV → Ob → Prop} {T : TypeId} {v : CV} {args : List CV} {R : CV → CV → CV → Prop} (h : uD P f T v args R) (hid : ob id = some (.box T (.c v))) (hav : id ∉ av)
  (hfree : Free4 ob nid) (hK : ∀ u x v', R u x v' → K (.tup [.c u, .c x]) (upd ob id (some (.box T (.c v'))))) :
  HCall P av f (.ptr id 0 :: args.map .c) ob nid K := by
 refine ⟨[id], .ptr 0 0 :: args.map .c, _, _, h, cZ T v args, ⟨by simp, by grind⟩, ?_, fun j o hj => ?_, fun r lob' hR _ => ?_⟩
 ·
  simp only [HV.renL, HV.ren, HV.renL_c]
  rfl
 ·
  by_cases e : j = 0
  ·
   subst e
   simp only [fob_at, if_true, Option.some.injEq] at hj
   grind [HO.ren, HV.ren]
  grind [fob_at, fob_nil]
 ·
  obtain ⟨u, x, v', rfl, rfl, hR⟩ := hR
  rw [aK7 hfree]
  exact hK u x v' hR
end Go.Hl

namespace Go.Proofs.YtlldglbooaefhaaGreatDoor
open Go Go.Hl Go.Pl
set_option maxRecDepth 10000
def sP := (And.intro (And.intro (And.intro (And.intro (And.intro @Go.Hl.hlift.eq_def @Go.Hl.hopI.eq_def) (And.intro @Go.Hl.hstep.eq_def @Go.Hl.hop.eq_def)) (And.intro (And.intro @Go.Hl.hint.eq_def @Go.Hl.hstr.eq_def) (And.intro @Go.Hl.hshift.eq_def @Go.Hl.hun.eq_def))) (And.intro (And.intro (And.intro @Go.Hl.hconv.eq_def @Go.Hl.hpick.eq_def) (And.intro @Go.Hl.hclo.eq_def @Go.Hl.hext.eq_def)) (And.intro (And.intro @Go.Hl.hmax.eq_def @Go.Hl.hslice.eq_def) (And.intro @Go.Hl.hindex.eq_def @Go.Hl.hindexAddr.eq_def)))) (And.intro (And.intro (And.intro (And.intro @Go.Hl.hfieldAddr.eq_def @Go.Hl.hfield.eq_def) (And.intro @Go.Hl.hload.eq_def @Go.Hl.hstore.eq_def)) (And.intro (And.intro @Go.Hl.happend.eq_def @Go.Hl.happend2.eq_def) (And.intro @Go.Hl.hslice2.eq_def @Go.Hl.hclear.eq_def))) (And.intro (And.intro (And.intro @Go.Hl.hmakeMap.eq_def @Go.Hl.hlookup.eq_def) (And.intro @Go.Hl.hmapUpdate.eq_def @Go.Pl.hbuildDig.eq_def)) (And.intro (And.intro @Go.Hl.hcopy.eq_def @Go.Hl.hmkIface.eq_def) (And.intro @Go.Hl.hassert.eq_def (And.intro @Go.Hl.hmakeSlice.eq_def @Go.Hl.happends.eq_def))))))
def sA := (And.intro (And.intro (And.intro (And.intro (And.intro (And.intro (And.intro (And.intro @Go.Hl.HV.toC.eq_1 @Go.Hl.HV.toC.eq_2) (And.intro @Go.Hl.HV.toC.eq_3 @Go.Hl.HV.toCL.eq_1)) (And.intro (And.intro @Go.Hl.HV.toCL.eq_2 @Go.Hl.cells_mem_str) (And.intro @List.length_singleton.{0} (And.intro @beq_true @beq_false)))) (And.intro (And.intro (And.intro @decide_eq_true_eq @Go.Hl.denilL_str) (And.intro @Go.Hl.denilL_int @Go.Hl.hwalk2.eq_1)) (And.intro (And.intro @Go.Hl.hwalk2.eq_2 @Go.Hl.ids4.eq_1) (And.intro @Go.Hl.getF.eq_1 (And.intro @Go.Hl.isEff.eq_1 @Go.Hl.isEff.eq_2))))) (And.intro (And.intro (And.intro (And.intro @Go.Hl.isEff.eq_3 @Go.Hl.isEff.eq_4) (And.intro @Bool.or_false @List.append_nil.{0})) (And.intro (And.intro @Go.Hl.hlex.eq_1 @Go.Hl.hlex.eq_2) (And.intro @Go.Hl.hguard.eq_1 (And.intro @Go.Hl.hcallOf.eq_1 @Go.Hl.hcallOf.eq_2)))) (And.intro (And.intro (And.intro @Go.Hl.touch.eq_1 @Go.Hl.touch.eq_2) (And.intro @Go.Hl.touch.eq_3 @Go.Hl.touch.eq_4)) (And.intro (And.intro @Go.Hl.touch.eq_5 @Go.Hl.touch.eq_6) (And.intro @Go.Hl.touch.eq_7 (And.intro @Go.Hl.touch.eq_8 @Go.Hl.touch.eq_9)))))) (And.intro (And.intro (And.intro (And.intro (And.intro @Go.Hl.touch.eq_10 @Go.Hl.HV.ids.eq_1) (And.intro @Go.Hl.HV.ids.eq_2 @Go.Hl.HV.ids.eq_3)) (And.intro (And.intro @Go.Hl.HV.ids.eq_4 @Go.Hl.HV.ids.eq_5) (And.intro @Go.Hl.HV.ids.eq_6 (And.intro @Go.Hl.HV.ids.eq_7 @Go.Hl.ev.eq_1)))) (And.intro (And.intro (And.intro @Go.Hl.ev.eq_2 @Go.Hl.ev.eq_3) (And.intro @Go.Hl.ev.eq_4 @Go.Hl.cvC.eq_1)) (And.intro (And.intro @Go.Hl.cvC.eq_2 @Go.Hl.cvC1.eq_1) (And.intro @Go.Hl.cvC1.eq_2 (And.intro @Go.Hl.cvC1.eq_3 @Go.Hl.cvC1.eq_4))))) (And.intro (And.intro (And.intro (And.intro @Go.Hl.cvC1.eq_5 @Go.Hl.cvC1.eq_6) (And.intro @Go.Hl.cvC1.eq_7 @Go.Hl.cvC1.eq_8)) (And.intro (And.intro @Go.Hl.cvC1.eq_9 @Go.Hl.updo_at) (And.intro @Go.Hl.updo_none (And.intro @Go.Hl.updo.eq_1 @Go.Hl.updo.eq_2)))) (And.intro (And.intro (And.intro @Go.Hl.upd_at @Go.Hl.fin_at) (And.intro @Go.Hl.fin_nil @Go.Hl.finA_at)) (And.intro (And.intro @Go.Hl.finA_nil @Go.Hl.fob_at) (And.intro @Go.Hl.fob_nil (And.intro @Go.Hl.none0_at @Go.Hl.hlift_some))))))) (And.intro (And.intro (And.intro (And.intro (And.intro (And.intro @Go.Hl.hlift_none @Go.Hl.hthen.eq_1) (And.intro @Go.Hl.hthen.eq_2 @Go.Hl.hblk.eq_1)) (And.intro (And.intro @Go.Hl.hblk.eq_2 @Go.Hl.hbin_int) (And.intro @Go.Hl.hbin_str (And.intro @Go.Hl.hbin_bool @Go.Hl.isShift.eq_1)))) (And.intro (And.intro (And.intro @Go.Hl.isShift.eq_2 @Go.Hl.isShift.eq_3) (And.intro @Go.Pl.hbuild_agg @Go.Hl.hfill.eq_1)) (And.intro (And.intro @Go.Hl.hfill.eq_2 @Go.Hl.HV.norm.eq_1) (And.intro @List.set_cons_zero.{0} (And.intro @List.set_cons_succ.{0} @Go.Hl.hclosed.eq_1))))) (And.intro (And.intro (And.intro (And.intro @Go.Hl.hclosed.eq_2 @Go.Hl.hread.eq_1) (And.intro @Go.Hl.hread.eq_2 @Go.Hl.hread.eq_3)) (And.intro (And.intro @Go.Hl.hread.eq_4 @Go.Hl.hlo.eq_1) (And.intro @Go.Hl.hlo.eq_2 (And.intro @Go.Hl.hlo.eq_3 @Go.Hl.live.eq_1)))) (And.intro (And.intro (And.intro @Go.Hl.live.eq_2 @Go.Hl.live.eq_3) (And.intro @Go.Hl.live.eq_4 @Go.Hl.live.eq_5)) (And.intro (And.intro @Go.Hl.live.eq_6 @Go.Hl.HO.isBox.eq_1) (And.intro @Go.Hl.HO.isBox.eq_2 (And.intro @Go.Hl.HO.isRow.eq_1 @Go.Hl.HO.isRow.eq_2)))))) (And.intro (And.intro (And.intro (And.intro (And.intro @Go.Hl.TyD.isAgg.eq_1 @Go.Hl.TyD.isAgg.eq_2) (And.intro @Go.Hl.TyD.isAgg.eq_3 @Go.Hl.HV.sto.eq_1)) (And.intro (And.intro @Go.Hl.HV.sto.eq_2 @Go.Hl.HV.sto.eq_3) (And.intro @Go.Hl.HV.sto.eq_4 (And.intro @Go.Hl.HV.stoL.eq_1 @Go.Hl.HV.stoL.eq_2)))) (And.intro (And.intro (And.intro @Go.Hl.HV.isAgg.eq_1 @Go.Hl.HV.isAgg.eq_2) (And.intro @Go.Hl.HV.isAgg.eq_3 @Go.Hl.CV.isAgg.eq_1)) (And.intro (And.intro @Go.Hl.CV.isAgg.eq_2 @Go.Hl.HV.cells.eq_1) (And.intro @Go.Hl.HV.cells.eq_2 (And.intro @Go.Hl.HV.cells.eq_3 @Go.Hl.HV.cellsL.eq_1))))) (And.intro (And.intro (And.intro (And.intro @Go.Hl.HV.cellsL.eq_2 @Go.Hl.CV.cells.eq_1) (And.intro @Go.Hl.CV.cells.eq_2 @Go.Hl.CV.cellsL.eq_1)) (And.intro (And.intro @Go.Hl.CV.cellsL.eq_2 @Go.Hl.HV.getAt.eq_1) (And.intro @Go.Hl.HV.getAt.eq_2 (And.intro @Go.Hl.HV.getAt.eq_3 @Go.Hl.HV.getAtL.eq_1)))) (And.intro (And.intro (And.intro @Go.Hl.HV.getAtL.eq_2 @Go.Hl.CV.getAt.eq_1) (And.intro @Go.Hl.CV.getAt.eq_2 (And.intro @Go.Hl.CV.getAtL.eq_1 @Go.Hl.CV.getAtL.eq_2))) (And.intro (And.intro @Go.Hl.HV.setAt.eq_1 @Go.Hl.HV.setAt.eq_2) (And.intro @Go.Hl.HV.setAt.eq_3 (And.intro @Go.Hl.HV.setAtL.eq_1 @Go.Hl.HV.setAtL.eq_2)))))))) (And.intro (And.intro (And.intro (And.intro (And.intro (And.intro (And.intro @Go.Hl.CV.setAt.eq_1 @Go.Hl.CV.setAt.eq_2) (And.intro @Go.Hl.CV.setAtL.eq_1 @Go.Hl.CV.setAtL.eq_2)) (And.intro (And.intro @Go.Hl.HV.den.eq_1 @Go.Hl.HV.den.eq_2) (And.intro @Go.Hl.CV.denil.eq_1 (And.intro @Go.Hl.CV.denil.eq_2 @Go.Hl.CV.denil.eq_3)))) (And.intro (And.intro (And.intro @Go.Hl.CV.denil.eq_4 @Go.Hl.CV.denilL.eq_1) (And.intro @Go.Hl.CV.denilL.eq_2 @List.range.eq_1)) (And.intro (And.intro @List.range.loop.eq_1 @List.range.loop.eq_2) (And.intro @List.size_toArray.{0} (And.intro @List.length_cons.{0} @List.length_nil.{0}))))) (And.intro (And.intro (And.intro (And.intro @List.length_map.{0,0} @List.getElem?_toArray.{0}) (And.intro @List.getElem?_cons_zero.{0} @List.getElem?_cons_succ.{0})) (And.intro (And.intro @List.map_cons.{0,0} @List.map_nil.{0,0}) (And.intro @List.flatMap_cons.{0,0} (And.intro @List.flatMap_nil.{0,0} @List.toList_toArray.{0})))) (And.intro (And.intro (And.intro @List.not_mem_nil.{0} @List.mem_cons.{0}) (And.intro @List.nil_append.{0} @List.cons_append.{0})) (And.intro (And.intro @false_implies @implies_true.{0}) (And.intro @implies_true.{1} (And.intro @true_and @and_true)))))) (And.intro (And.intro (And.intro (And.intro (And.intro @and_self @ne_eq.{0}) (And.intro @ne_eq.{1} @not_false_eq_true)) (And.intro (And.intro @not_true_eq_false @Nat.lt_irrefl) (And.intro @Nat.zero_add (And.intro @Nat.add_zero @Nat.succ_ne_self)))) (And.intro (And.intro (And.intro @Option.map_some.{0,0} @Option.map_none.{0,0}) (And.intro @Option.bind_some.{0,0} @Option.isSome_some.{0})) (And.intro (And.intro @Bool.false_eq_true @Bool.true_eq_false) (And.intro @Int.toNat_natCast (And.intro @forall_eq_or_imp.{0} @forall_eq_or_imp.{1}))))) (And.intro (And.intro (And.intro (And.intro @forall_eq.{0} @forall_eq.{1}) (And.intro @decide_true @decide_false)) (And.intro (And.intro @Bool.not_true @Bool.not_false) (And.intro @beq_self_eq_true.{0} (And.intro @bne_self_eq_false.{0} @Go.Pl.hbuild_dig)))) (And.intro (And.intro (And.intro @Go.Pl.dg_cells @Go.Pl.dg_isAgg) (And.intro @Go.Pl.dg_denil @Go.Pl.dg_getAt)) (And.intro (And.intro @Go.Pl.dg_setAt @Go.Pl.denilL_dg) (And.intro @Go.Pl.us_cells (And.intro @Go.Hl.TyD.plain.eq_1 @Go.Hl.TyD.plain.eq_2))))))) (And.intro (And.intro (And.intro (And.intro (And.intro (And.intro @Go.Hl.TyD.plain.eq_3 @Go.Hl.TyD.plain.eq_4) (And.intro @Go.Hl.TyD.plain.eq_5 @Go.Hl.bytesC_map)) (And.intro (And.intro @Go.Pl.Rq.cells @Go.Pl.Rq.denil) (And.intro @Go.Pl.Rq.isAgg (And.intro @Go.Pl.Rq.getAll @Go.Pl.Rq.setAll)))) (And.intro (And.intro (And.intro @Go.Pl.Rq.fold @Go.Pl.denilL_Rq) (And.intro @Go.Pl.Rq.get_k @Go.Pl.Rq.set_k)) (And.intro (And.intro @Go.Pl.Rq.get_n @Go.Pl.Rq.set_n) (And.intro @Go.Pl.Rq.get_m (And.intro @Go.Pl.Rq.set_m @Go.Pl.Rq.get_t))))) (And.intro (And.intro (And.intro (And.intro @Go.Pl.Rq.set_t @Go.Pl.Nd.cells) (And.intro @Go.Pl.Nd.denil @Go.Pl.Nd.isAgg)) (And.intro (And.intro @Go.Pl.Nd.getAll @Go.Pl.Nd.setAll) (And.intro @Go.Pl.Nd.fold (And.intro @Go.Pl.denilL_Nd @Go.Pl.Nd.get_k)))) (And.intro (And.intro (And.intro @Go.Pl.Nd.set_k @Go.Pl.Nd.get_n) (And.intro @Go.Pl.Nd.set_n @Go.Pl.Nd.get_c)) (And.intro (And.intro @Go.Pl.Nd.set_c @Go.Pl.Nd.get_q) (And.intro @Go.Pl.Nd.set_q (And.intro @Go.Pl.Pr.cells @Go.Pl.Pr.denil)))))) (And.intro (And.intro (And.intro (And.intro (And.intro @Go.Pl.Pr.isAgg @Go.Pl.Pr.getAll) (And.intro @Go.Pl.Pr.setAll @Go.Pl.Pr.fold)) (And.intro (And.intro @Go.Pl.denilL_Pr @Go.Pl.Pr.get_a) (And.intro @Go.Pl.Pr.set_a (And.intro @Go.Pl.Pr.get_b @Go.Pl.Pr.set_b)))) (And.intro (And.intro (And.intro @Go.Pl.Pr.get_c @Go.Pl.Pr.set_c) (And.intro @Go.Pl.Pr.get_g @Go.Pl.Pr.set_g)) (And.intro (And.intro @Go.Pl.Pr.get_t @Go.Pl.Pr.set_t) (And.intro @Go.Pl.Po.cells (And.intro @Go.Pl.Po.denil @Go.Pl.Po.isAgg))))) (And.intro (And.intro (And.intro (And.intro @Go.Pl.Po.getAll @Go.Pl.Po.setAll) (And.intro @Go.Pl.Po.fold @Go.Pl.denilL_Po)) (And.intro (And.intro @Go.Pl.Po.get_n @Go.Pl.Po.set_n) (And.intro @Go.Pl.Po.get_v (And.intro @Go.Pl.Po.set_v @Go.Pl.Po.get_r)))) (And.intro (And.intro (And.intro @Go.Pl.Po.set_r @Go.Pl.Pt.cells) (And.intro @Go.Pl.Pt.denil (And.intro @Go.Pl.Pt.isAgg @Go.Pl.Pt.getAll))) (And.intro (And.intro @Go.Pl.Pt.setAll @Go.Pl.Pt.fold) (And.intro @Go.Pl.denilL_Pt (And.intro @Go.Pl.Pt.get_k @Go.Pl.Pt.get_c)))))))))
def sE := (And.intro (And.intro (And.intro (And.intro @Go.Hl.hlex.eq_1 @Go.Hl.hlex.eq_2) (And.intro @Go.Hl.hwalk2.eq_1 @Go.Hl.hwalk2.eq_2)) (And.intro (And.intro @Go.Hl.hlexG.eq_1 @Go.Hl.hlexG.eq_2) (And.intro @Go.Hl.hwalk2G.eq_1 @Go.Hl.hwalk2G.eq_2))) (And.intro (And.intro (And.intro @Go.Hl.hthen.eq_1 @Go.Hl.hthen.eq_2) (And.intro @Go.Hl.hblk.eq_1 @Go.Hl.hblk.eq_2)) (And.intro (And.intro @List.size_toArray.{0} @List.length_cons.{0}) (And.intro @List.length_nil.{0} @Nat.zero_add))))
def sR := (And.intro (And.intro (And.intro @List.range.eq_1 @List.range.loop.eq_1) (And.intro @List.range.loop.eq_2 @List.size_toArray.{0})) (And.intro (And.intro @List.length_cons.{0} @List.length_nil.{0}) (And.intro @Nat.zero_add @Nat.add_zero)))
def sH := (And.intro (And.intro @Go.Hl.hop1.eq_1 (And.intro @Go.Hl.hgd.eq_1 @Go.Hl.hgd.eq_2)) (And.intro @List.getElem_toArray.{0} (And.intro @List.getElem_cons_zero.{0} @List.getElem_cons_succ.{0})))
def sN := (And.intro (And.intro (And.intro @Go.Hl.hop1H.eq_1 @Go.Hl.hop1N.eq_1) (And.intro @Go.Hl.hop1L.eq_1 (And.intro @Go.Hl.hreadH.eq_def @Go.Hl.hreadA.eq_def))) (And.intro (And.intro @Go.Hl.hparts.eq_1 @Go.Hl.hparts.eq_2) (And.intro @Go.Hl.HO.isH.eq_def (And.intro @Go.Hl.nthH_zero @Go.Hl.nthH_succ))))
def tyS := (And.intro (And.intro (And.intro (And.intro (And.intro (And.intro (And.intro @ty1 @ty2) (And.intro @ty3 (And.intro @ty4 @ty5))) (And.intro (And.intro @ty6 (And.intro @ty7 @ty8)) (And.intro @ty9 (And.intro @ty10 @ty11)))) (And.intro (And.intro (And.intro @ty12 @ty13) (And.intro @ty14 (And.intro @ty15 @ty16))) (And.intro (And.intro @ty17 (And.intro @ty18 @ty19)) (And.intro @ty20 (And.intro @ty21 @ty22))))) (And.intro (And.intro (And.intro (And.intro @ty23 @ty24) (And.intro @ty25 (And.intro @ty26 @ty27))) (And.intro (And.intro @ty28 (And.intro @ty29 @ty30)) (And.intro @ty31 (And.intro @ty32 @ty33)))) (And.intro (And.intro (And.intro @ty34 (And.intro @ty35 @ty36)) (And.intro @ty37 (And.intro @ty38 @ty39))) (And.intro (And.intro @ty40 (And.intro @ty41 @ty42)) (And.intro @ty43 (And.intro @ty44 @ty45)))))) (And.intro (And.intro (And.intro (And.intro (And.intro @ty46 @ty47) (And.intro @ty48 (And.intro @ty50 @ty51))) (And.intro (And.intro @ty52 (And.intro @ty53 @ty54)) (And.intro @ty55 (And.intro @ty57 @ty58)))) (And.intro (And.intro (And.intro @ty59 @ty60) (And.intro @ty61 (And.intro @ty62 @ty63))) (And.intro (And.intro @ty64 (And.intro @ty65 @ty67)) (And.intro @ty68 (And.intro @ty69 @ty70))))) (And.intro (And.intro (And.intro (And.intro @ty71 @ty72) (And.intro @ty73 (And.intro @ty74 @ty75))) (And.intro (And.intro @ty76 (And.intro @ty77 @ty78)) (And.intro @ty79 (And.intro @ty80 @ty81)))) (And.intro (And.intro (And.intro @ty82 (And.intro @ty83 @ty84)) (And.intro @ty86 (And.intro @ty87 @ty88))) (And.intro (And.intro @ty89 (And.intro @ty90 @ty91)) (And.intro @ty92 (And.intro @ty93 @ty94))))))) (And.intro (And.intro (And.intro (And.intro (And.intro (And.intro @ty96 @ty97) (And.intro @ty98 (And.intro @ty99 @ty100))) (And.intro (And.intro @ty101 (And.intro @ty102 @ty103)) (And.intro @ty104 (And.intro @ty106 @ty107)))) (And.intro (And.intro (And.intro @ty108 @ty109) (And.intro @ty110 (And.intro @ty111 @ty112))) (And.intro (And.intro @ty113 (And.intro @ty114 @ty115)) (And.intro @ty116 (And.intro @ty117 @ty119))))) (And.intro (And.intro (And.intro (And.intro @ty120 @ty122) (And.intro @ty124 (And.intro @ty125 @ty126))) (And.intro (And.intro @ty127 (And.intro @ty128 @ty130)) (And.intro @ty132 (And.intro @ty133 @ty135)))) (And.intro (And.intro (And.intro @ty136 (And.intro @ty137 @ty138)) (And.intro @ty139 (And.intro @ty140 @ty141))) (And.intro (And.intro @ty142 (And.intro @ty143 @ty144)) (And.intro @ty145 (And.intro @ty146 @ty147)))))) (And.intro (And.intro (And.intro (And.intro (And.intro @ty149 @ty150) (And.intro @ty151 (And.intro @ty153 @ty154))) (And.intro (And.intro @ty155 (And.intro @ty156 @ty157)) (And.intro @ty159 (And.intro @ty160 @ty162)))) (And.intro (And.intro (And.intro @ty164 @ty165) (And.intro @ty166 (And.intro @ty167 @ty168))) (And.intro (And.intro @ty169 (And.intro @ty170 @ty171)) (And.intro @ty172 (And.intro @ty173 @ty175))))) (And.intro (And.intro (And.intro (And.intro @ty176 @ty177) (And.intro @ty178 (And.intro @ty180 @ty181))) (And.intro (And.intro @ty182 (And.intro @ty183 @ty184)) (And.intro @ty185 (And.intro @ty186 @ty187)))) (And.intro (And.intro (And.intro @ty188 (And.intro @ty192 @ty193)) (And.intro @ty194 (And.intro @ty195 @ty196))) (And.intro (And.intro @ty197 (And.intro @ty198 @ty199)) (And.intro @ty200 (And.intro @eqdg184 @nedg184))))))))
theorem AI {p q : Prop} (h : q) (hp : p := by first | omega | (simp only [maxLen]; omega) | assumption | (simp [CV.cells]; done) | (simp [CV.cells, maxLen]; omega)) : p ∧ q := ⟨hp, h⟩
section
variable {P : Program} {ops : Array Oper} {nx : Nat} {Q : Fr → Ob → Prop} {fr : Fr} {ob : Ob} {c : Bool}
theorem aE {l : List Nat} (d : Nat) (h : fr d = .c (.bool c)) (hT : c = true → hlex P ops nx Q l fr ob) (hF : c = false → hlex P ops nx Q l fr ob) : hlex P ops nx Q l fr ob := by
  cases c
  · exact hF rfl
  · exact hT rfl
theorem aF0 {l : nH} {C : jS} (d : Nat) (h : fr d = .c (.bool c)) (hT : c = true → hwalk2 P ops nx Q l C fr ob) (hF : c = false → hwalk2 P ops nx Q l C fr ob) : hwalk2 P ops nx Q l C fr ob := by
  cases c
  · exact hF rfl
  · exact hT rfl
end
end Go.Proofs.YtlldglbooaefhaaGreatDoor
