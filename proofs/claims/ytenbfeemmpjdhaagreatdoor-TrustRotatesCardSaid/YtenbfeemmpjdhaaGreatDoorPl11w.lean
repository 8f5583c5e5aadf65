/- Digests and root documents out of words (1.4, 11.2), in plain Lean. By an AI agent. -/
import Derived.Test.YtenbfeemmpjdhaaGreatDoorPl18e
import Derived.Test.YtenbfeemmpjdhaaGreatDoorHlK
import Derived.Test.YtenbfeemmpjdhaaGreatDoorHyT4
import Derived.Test.YtenbfeemmpjdhaaGreatDoorHySb
import Derived.Test.YtenbfeemmpjdhaaGreatDoorPl11m
import Derived.Test.YtenbfeemmpjdhaaGreatDoorHlIt
import Derived.Test.YtenbfeemmpjdhaaGreatDoorHyTz
import Derived.Lib.ItoaLen
set_option linter.unusedSimpArgs false
set_option linter.unusedVariables false
set_option linter.defProp false
namespace Go.Pl
open Go Go.Hl

def cN (c : UInt8) : Bool := decide ((33 : Int) ≤ c.toNat) && decide ((c.toNat : Int) ≤ 125) && ((c.toNat : Int) != 37)
def bP1 (n : Nat) : UInt8 := ([48, 49, 50, 51, 52, 53, 54, 55, 56, 57, 65, 66, 67, 68, 69, 70] : List UInt8).getD n 0
def pN (c : UInt8) : List UInt8 := if cN c then [c] else [37, bP1 (c.toNat / 16), bP1 (c.toNat % 16)]
def dY (w : aK) : aK := w.flatMap pN
def mG (w : aK) : aK := if w = [] then [126] else dY w
def uW (w : aK) : Nat := max (dY w).length 1

@[simp] theorem cA2 : dY [] = [] := rfl
theorem bP2 (c : UInt8) : (pN c).length ≤ 3 := by unfold pN; split <;> simp
theorem bH2 (c : UInt8) : 1 ≤ (pN c).length := by unfold pN; split <;> simp
theorem aG8 (w : aK) : (dY w).length ≤ 3 * w.length := by
 induction w with
 | nil => simp [dY]
 | cons c w ih =>
  have := bP2 c
  simp only [dY, List.flatMap_cons, List.length_append, List.length_cons] at *
  omega
theorem bH3 (w : aK) : w.length ≤ (dY w).length := by
 induction w with
 | nil => simp [dY]
 | cons c w ih =>
  have := bH2 c
  simp only [dY, List.flatMap_cons, List.length_append, List.length_cons] at *
  omega
theorem aN8 {w : aK} {i : Nat} (h : i < w.length) : dY (w.take (i + 1)) = dY (w.take i) ++ pN w[i] := by
 simp only [List.take_succ_eq_append_getElem h, dY, List.flatMap_append, List.flatMap_cons, List.flatMap_nil, List.append_nil]
theorem wG (w : aK) (i : Nat) : (dY (w.take i)).length ≤ (dY w).length := by
 have : dY w = dY (w.take i) ++ dY (w.drop i) := by simp [dY, ← List.flatMap_append]
 rw [this, List.length_append]; omega
theorem uX (w : aK) : (mG w).length = uW w := by
 unfold mG uW
 split
 ·
  subst_vars; rfl
 ·
  rename_i h
  have := bH3 w
  have : 0 < w.length := List.length_pos_iff.2 h
  omega
theorem uY (w : aK) : uW w ≤ 3 * w.length + 1 := by have := aG8 w; unfold uW; omega
theorem aX9 (w : aK) : 1 ≤ uW w := by unfold uW; omega
theorem cB8 (c : UInt8) : Int.fdiv (c.toNat : Int) (2 ^ (min 4 IntKind.u8.bits)) = ((c.toNat / 16 : Nat) : Int) := by
 rw [show min 4 IntKind.u8.bits = 4 from rfl, Int.fdiv_eq_ediv_of_nonneg _ (by omega)]
 rfl
theorem bU5 (c : UInt8) : IntKind.u8.wrap ((BitVec.ofInt IntKind.u8.bits (c.toNat : Int) &&& BitVec.ofInt IntKind.u8.bits 15).toNat : Int) = ((c.toNat % 16 : Nat) : Int) := by
 have h := c.toNat_lt
 have : (BitVec.ofInt IntKind.u8.bits (c.toNat : Int) &&& BitVec.ofInt IntKind.u8.bits 15).toNat = c.toNat % 16 := by
  rw [BitVec.toNat_and]
  have e1 : (BitVec.ofInt IntKind.u8.bits (c.toNat : Int)).toNat = c.toNat := by
   simp [IntKind.bits]
  have e2 : (BitVec.ofInt IntKind.u8.bits 15).toNat = 15 := rfl
  rw [e1, e2]
  exact Nat.and_two_pow_sub_one_eq_mod _ 4
 rw [this]
 exact IntWalk.u8_in _ (by omega)

theorem fN : ∀ bs : List UInt8, CV.denilL (bs.map dN) = bs.map dN
 | [] => rfl
 | b :: bs => by simp only [List.map_cons, CV.denilL, fN bs]; rfl

def jA : List aK → aK
 | [] => []
 | w :: l => mG w ++ l.flatMap fun v => 32 :: mG v
theorem aY0 (l : List aK) (w : aK) : jA (l ++ [w]) = jA l ++ ((if l = [] then [] else [32]) ++ mG w) := by
 cases l with
 | nil => simp [jA]
 | cons a l => simp [jA]
theorem aY1 {l : List aK} {i : Nat} (h : i < l.length) : jA (l.take (i + 1)) = jA (l.take i) ++ ((if i = 0 then [] else [32]) ++ mG l[i]) := by
 rw [List.take_succ_eq_append_getElem h, aY0]
 congr 2
 have : l.take i = [] ↔ i = 0 := by
  rw [List.take_eq_nil_iff]
  constructor
  ·
   rintro (h1 | h1)
   ·
    exact h1
   ·
    subst h1; simp at h
  ·
   exact Or.inl
 simp only [this]
def aY2 (l : List aK) : aK := jA l ++ [10]
def jY (ls : List (List aK)) : aK := ls.flatMap aY2
def pO (l : List aK) : Nat := (l.map fun w => uW w + 1).sum
def aY3 (ls : List (List aK)) : Nat := (ls.map pO).sum
theorem aG9 : ∀ (l : List aK), l ≠ [] → (jA l).length + 1 = pO l
 | [], h => absurd rfl h
 | w :: l, _ => by
  have : ∀ l : List aK, (l.flatMap fun v => 32 :: mG v).length = pO l := by
   intro l
   induction l with
   | nil => rfl
   | cons v l ih => simp only [List.flatMap_cons, List.length_append, List.length_cons, uX, ih, pO, List.map_cons, List.sum_cons]
  simp only [jA, List.length_append, uX, this, pO, List.map_cons, List.sum_cons]
  omega
theorem bH4 {l : List aK} (h : l ≠ []) : (aY2 l).length = pO l := by
 rw [aY2, List.length_append, ← aG9 l h]; rfl
theorem bP3 (l : List aK) : (jA l).length ≤ pO l := by
 cases l with
 | nil => simp [jA]
 | cons w l => have := aG9 (w :: l) (by simp); omega
theorem aH0 : ∀ {ls : List (List aK)}, (∀ l ∈ ls, l ≠ []) → (jY ls).length = aY3 ls
 | [], _ => rfl
 | l :: ls, h => by
  have ih := aH0 (ls := ls) fun x hx => h x (List.mem_cons_of_mem _ hx)
  have h1 := bH4 (h l List.mem_cons_self)
  simp only [jY, aY3, List.flatMap_cons, List.length_append, List.map_cons, List.sum_cons] at *
  omega
theorem aY4 {ls : List (List aK)} {i : Nat} (h : i < ls.length) : jY (ls.take (i + 1)) = jY (ls.take i) ++ aY2 ls[i] := by
 simp only [List.take_succ_eq_append_getElem h, jY, List.flatMap_append, List.flatMap_cons, List.flatMap_nil, List.append_nil]
@[simp] theorem cB9 : jY [] = [] := rfl
@[simp] theorem cC0 : jA [] = [] := rfl
@[simp] theorem cC1 : pO [] = 0 := rfl
@[simp] theorem cC2 : aY3 [] = 0 := rfl
def mH (l : List aK) : Int :=
 if l.length = 0 then 1 else if 120 < l.length then 3 else if l.any (fun w => decide (32768 < w.length)) then 3 else 0
def okL (l : List aK) : Bool := mH l == 0
theorem sK (l : List aK) : okL l = true ↔ l ≠ [] ∧ l.length ≤ 120 ∧ ∀ w ∈ l, w.length ≤ 32768 := by
 unfold okL mH
 constructor
 ·
  intro h
  split at h
  ·
   simp at h
  ·
   split at h
   ·
    simp at h
   ·
    split at h
    ·
     simp at h
    ·
     rename_i h1 h2 h3
     refine ⟨fun h => h1 (by rw [h]; rfl), by omega, fun w hw => ?_⟩
     simp only [List.any_eq_true, not_exists, not_and, decide_eq_true_eq, Nat.not_lt] at h3
     exact h3 w hw
 ·
  rintro ⟨h1, h2, h3⟩
  rw [if_neg (fun h => h1 (List.eq_nil_of_length_eq_zero h)), if_neg (by omega), if_neg (by simpa using h3)]
  rfl
theorem bP4 {l : List aK} (h : okL l = true) : pO l ≤ 11796720 := by
 obtain ⟨-, h1, h2⟩ := (sK l).1 h
 have key : ∀ l : List aK, (∀ w ∈ l, w.length ≤ 32768) → pO l ≤ 98306 * l.length := by
  intro l
  induction l with
  | nil => intro _; simp [pO]
  | cons w l ih =>
   intro h
   have := ih fun x hx => h x (List.mem_cons_of_mem _ hx)
   have h3 := h w List.mem_cons_self
   have h4 := uY w
   simp only [pO, List.map_cons, List.sum_cons, List.length_cons] at *
   omega
 have := key l h2
 omega
theorem bP5 {ls : List (List aK)} (h : ∀ l ∈ ls, okL l = true) : aY3 ls ≤ 11796720 * ls.length := by
 induction ls with
 | nil => simp [aY3]
 | cons l ls ih =>
  have := ih fun x hx => h x (List.mem_cons_of_mem _ hx)
  have h3 := bP4 (h l List.mem_cons_self)
  simp only [aY3, List.map_cons, List.sum_cons, List.length_cons] at *
  omega
theorem bH5 (l : List aK) (h : ∀ w ∈ l, w.length ≤ 32768) : (jA l).length ≤ 98306 * l.length := by
 have h1 := bP3 l
 have key : ∀ l : List aK, (∀ w ∈ l, w.length ≤ 32768) → pO l ≤ 98306 * l.length := by
  intro l
  induction l with
  | nil => intro _; simp
  | cons w l ih =>
   intro h
   have := ih fun x hx => h x (List.mem_cons_of_mem _ hx)
   have h3 := h w List.mem_cons_self
   have h4 := uY w
   simp only [pO, List.map_cons, List.sum_cons, List.length_cons] at *
   omega
 have := key l h
 omega
theorem qO {α : Type} {p : α → Prop} {l : List α} {i : Nat} (h : i < l.length) (h1 : p l[i]) (h0 : ∀ x ∈ l.take i, p x) : ∀ x ∈ l.take (i + 1), p x := by
 intro x hx
 rw [List.take_succ_eq_append_getElem h, List.mem_append, List.mem_singleton] at hx
 rcases hx with hx | rfl
 ·
  exact h0 x hx
 ·
  exact h1
def lG (ls : List (List aK)) : Int :=
 if 1000 < ls.length then 3 else match ls.find? (fun l => !okL l) with
  | some l => mH l
  | none => if 262144 < (jY ls).length then 3 else 0
def aH1 (ls : List (List aK)) : aK := if lG ls = 0 then jY ls else []
theorem xU {ls : List (List aK)} (h : 1000 < ls.length) : lG ls = 3 := by unfold lG; rw [if_pos h]
theorem uZ {ls : List (List aK)} {i : Nat} (h : ls.length ≤ 1000) (hi : i < ls.length) (h0 : ∀ l ∈ ls.take i, okL l = true) (h1 : okL ls[i] = false) : lG ls = mH ls[i] := by
 unfold lG
 rw [if_neg (by omega)]
 have : ls.find? (fun l => !okL l) = some ls[i] := by
  rw [List.find?_eq_some_iff_append]
  refine ⟨by simp [h1], ls.take i, ls.drop (i + 1), ?_, fun l hl => by simp [h0 l hl]⟩
  rw [List.getElem_cons_drop, List.take_append_drop]
 rw [this]
theorem aS7 {ls : List (List aK)} (h : ls.length ≤ 1000) (h0 : ∀ l ∈ ls, okL l = true) : lG ls = if 262144 < (jY ls).length then 3 else 0 := by
 unfold lG
 rw [if_neg (by omega)]
 have : ls.find? (fun l => !okL l) = none := by
  rw [List.find?_eq_none]
  intro l hl
  simp [h0 l hl]
 rw [this]
theorem bP6 {l : List aK} (h : okL l = false) : mH l ≠ 0 := by unfold okL at h; simpa using h
theorem mI {ls : List (List aK)} (h : lG ls ≠ 0) : aH1 ls = [] := by unfold aH1; rw [if_neg h]
theorem bP7 {ls : List (List aK)} (h : lG ls = 0) : aH1 ls = jY ls := by unfold aH1; rw [if_pos h]

def bU6 (n : Nat) : UInt8 := ([48, 49, 50, 51, 52, 53, 54, 55, 56, 57, 97, 98, 99, 100, 101, 102] : List UInt8).getD n 0
def bH6 (c : UInt8) : List UInt8 := [bU6 (c.toNat / 16), bU6 (c.toNat % 16)]
def pP (bs : List UInt8) : List UInt8 := bs.flatMap bH6
@[simp] theorem cC3 : pP [] = [] := rfl
theorem aH2 (bs : List UInt8) : (pP bs).length = 2 * bs.length := by
 induction bs with
 | nil => rfl
 | cons c bs ih => simp only [pP, List.flatMap_cons, List.length_append, List.length_cons, bH6, List.length_nil] at *; omega
theorem aY5 {bs : List UInt8} {i : Nat} (h : i < bs.length) : pP (bs.take (i + 1)) = pP (bs.take i) ++ bH6 bs[i] := by
 simp only [List.take_succ_eq_append_getElem h, pP, List.flatMap_append, List.flatMap_cons, List.flatMap_nil, List.append_nil]
end Go.Pl

namespace Go.Proofs.YtenbfeemmpjdhaaGreatDoor
open Go Go.Hl Go.Pl
set_option maxRecDepth 10000
set_option maxHeartbeats 16000000

theorem aH3 (c : UInt8) : aW Tryz.prog 111 [.int .u8 c.toNat] (fun v => v = .bool (cN c)) := by
 refine FW Tryz.func111 ?_
 refine R0 ?_
 refine aB fun K hK => Rg ?_
 iterate 3 refine S0 ?_
 refine aE 4 rfl (fun h1_4 => ?_) (fun h1_4 => ?_)
 ·
  have F := h1_4
  iterate 4 refine SF ?_
  refine aE 7 rfl (fun h1_7 => ?_) (fun h1_7 => ?_)
  ·
   have F := aI h1_4 h1_7
   iterate 4 refine SF ?_
   refine T2 (hK _ _ _ ?_)
   clear hK K
   refine aD (RT Tryz.results111 ?_)
   refine aC [] (.bool _) rfl ?_
   simp [h1_4, h1_7, cN]
   all_goals first | rfl | simp_all | omega
  have F := aI h1_4 h1_7
  iterate 4 refine SF ?_
  refine T2 (hK _ _ _ ?_)
  clear hK K
  refine aD (RT Tryz.results111 ?_)
  refine aC [] (.bool _) rfl ?_
  simp [h1_4, h1_7, cN]
  all_goals first | rfl | simp_all | omega
 have F := h1_4
 iterate 8 refine SF ?_
 refine T2 (hK _ _ _ ?_)
 clear hK K
 refine aD (RT Tryz.results111 ?_)
 refine aC [] (.bool _) rfl ?_
 simp [h1_4, cN]
 all_goals first | rfl | simp_all | omega


theorem qP (c : UInt8) : aW Tryz.prog 112 [.int .u8 c.toNat] (fun v => v = .bool (cN c)) := by
 refine FW Tryz.func112 ?_
 refine R0 ?_
 refine aB fun K hK => Rg ?_
 iterate 3 refine S0 ?_
 refine aE 4 rfl (fun h1_4 => ?_) (fun h1_4 => ?_)
 ·
  have F := h1_4
  iterate 4 refine SF ?_
  refine aE 7 rfl (fun h1_7 => ?_) (fun h1_7 => ?_)
  ·
   have F := aI h1_4 h1_7
   iterate 4 refine SF ?_
   refine T2 (hK _ _ _ ?_)
   clear hK K
   refine aD (RT Tryz.results112 ?_)
   refine aC [] (.bool _) rfl ?_
   simp [h1_4, h1_7, cN]
   all_goals first | rfl | simp_all | omega
  have F := aI h1_4 h1_7
  iterate 4 refine SF ?_
  refine T2 (hK _ _ _ ?_)
  clear hK K
  refine aD (RT Tryz.results112 ?_)
  refine aC [] (.bool _) rfl ?_
  simp [h1_4, h1_7, cN]
  all_goals first | rfl | simp_all | omega
 have F := h1_4
 iterate 8 refine SF ?_
 refine T2 (hK _ _ _ ?_)
 clear hK K
 refine aD (RT Tryz.results112 ?_)
 refine aC [] (.bool _) rfl ?_
 simp [h1_4, cN]
 all_goals first | rfl | simp_all | omega


end Go.Proofs.YtenbfeemmpjdhaaGreatDoor

namespace Go.Proofs.YtenbfeemmpjdhaaGreatDoor
open Go Go.Hl Go.Pl
set_option maxRecDepth 10000
set_option maxHeartbeats 16000000

theorem bH7 (l : List aK) (hl : l.length < 2 ^ 40) : aW Tryz.prog 71 [.slc (l.map .str)] (fun v => v = .int .i64 (mH l)) := by
 refine FW Tryz.func71 ?_
 refine R0 ?_
 refine aB fun K hK => ?_
 refine aH ?_
 refine aB fun K hK => Rg ?_
 iterate 4 refine S0 ?_
 refine T2 (hK _ _ _ ?_)
 clear hK K
 refine aJ (b := (l.length : Int) == 0) rfl (fun hb => ?_) (fun hb => ?_)
 ·
  refine R0 ?_
  refine aD (RT Tryz.results71 ?_)
  exact aC [] (.int .i64 1) rfl (by rw [mH, if_pos (by simp at hb; simp [hb])])
 have hn0 : l.length ≠ 0 := by simp at hb; simp [hb]
 clear hb
 refine aB fun K hK => Rg ?_
 iterate 4 refine S0 ?_
 refine T2 (hK _ _ _ ?_)
 clear hK K
 refine aJ (b := decide ((120 : Int) < l.length)) rfl (fun hb => ?_) (fun hb => ?_)
 ·
  refine R0 ?_
  refine aD (RT Tryz.results71 ?_)
  exact aC [] (.int .i64 3) rfl (by rw [mH, if_neg hn0, if_pos (by simp at hb; omega)])
 refine aG ?_
 refine T0 (hK _ _ _ ?_)
 clear hK K
 refine aB fun K hK => ?_
 have hn1 : l.length ≤ 120 := by simp at hb; omega
 clear hb
 refine R0 ?_
 refine aH ?_
 refine aT (α := {i : Nat // i ≤ l.length ∧ ∀ x ∈ l.take i, decide (32768 < x.length) = false}) (fun i => (fin [(13, .c (.slc (l.map .str))), (14, .c (.int .i64 l.length)), (15, .c (.int .i64 i.1))], fob [])) 100 (fun i => l.length - i.1) ⟨0, by omega, by simp⟩ (fF) ?_
 rintro ⟨i, hi, h0⟩
 refine R0 ?_
 refine aB fun K hK => ?_
 refine aJ (b := decide ((i : Int) < l.length)) rfl (fun hb => ?_) (fun hb => ?_)
 ·
  have hlt : i < l.length := by simpa using hb
  clear hb
  refine aG ?_
  refine T0 (hK _ _ _ ?_)
  clear hK K
  refine aB fun K hK => ?_
  refine aH ?_
  have F := aI @Int.natCast_nonneg (aI @Int.ofNat_lt (aI hlt (nM hlt)))
  refine RF ?_
  refine R0 ?_
  refine aJ (b := decide ((32768 : Int) < l[i].length)) rfl (fun hb => ?_) (fun hb => ?_)
  ·
   refine R0 ?_
   refine aD (RT Tryz.results71 ?_)
   exact aC [] (.int .i64 3) rfl (by rw [mH, if_neg hn0, if_neg (by omega), if_pos]; simp only [List.any_eq_true, decide_eq_true_eq]; exact ⟨_, List.getElem_mem hlt, by simp at hb; omega⟩)
  refine aG ?_
  refine T0 (hK _ _ _ ?_)
  clear hK K
  refine aM (by kernel_rfl) ?_
  refine TQ (bK i) ?_
  have hb2 : decide (32768 < l[i].length) = false := by simp at hb ⊢; omega
  refine ⟨⟨i + 1, hlt, dO (p := fun x => decide (32768 < x.length)) hlt hb2 h0⟩, fF, ?_⟩
  show l.length - (i + 1) < l.length - i
  omega
 refine aS (T3 ?_)
 clear hK K
 refine AX (hK _ _ _ ?_)
 clear hK K
 refine R0 ?_
 refine aD (RT Tryz.results71 ?_)
 have hei : i = l.length := by simp at hb; omega
 subst hei
 rw [List.take_length] at h0
 exact aC [] (.int .i64 0) rfl (by rw [mH, if_neg hn0, if_neg (by omega), if_neg]; simp only [List.any_eq_true, not_exists, not_and]; intro x hx; simp [h0 x hx])


end Go.Proofs.YtenbfeemmpjdhaaGreatDoor

namespace Go.Hl
open Go Go.Pl

def dQ (l : List UInt8) (c : UInt8) : Int := match l.findIdx? (· == c) with | some i => (i : Int) | none => -1
theorem aH4 {α : Type} {p : α → Bool} (d : α) : ∀ (l : List α), (List.range l.length).find? (fun i => p (l.getD i d)) = l.findIdx? p
 | [] => rfl
 | a :: l => by
  rw [List.length_cons, uD, List.findIdx?_cons]
  simp only [List.getD_cons_zero, List.getD_cons_succ]
  rw [aH4 d l]
theorem aS8 {P : Program} {w : World} {l : List UInt8} {x y : Value} {c : UInt8} (hx : (Extern.Bytes.bytesOf x).run P w = .ok ⟨l.toArray⟩ w) (hy : (Extern.Bytes.asByte y).run P w = .ok c w) :
  (Extern.BytealgIndexByte.indexByte #[x, y]).run P w = .ok (.int .i64 (dQ l c)) w := by
 change (Sem.run P (do
  let b ← Extern.Bytes.bytesOf x
  let c ← Extern.Bytes.asByte y
  match (List.range b.size).find? fun i => b[i]! == c with
  | some i => pure (goInt i)
  | none => pure (goInt (-1))) w) = _
 simp only [Sem.run_bind, hx, hy, Result.andThen_ok]
 have h1 : (⟨l.toArray⟩ : ByteArray).size = l.length := by simp [ByteArray.size]
 have h2 : ∀ i : Nat, (⟨l.toArray⟩ : ByteArray)[i]! = l.getD i 0 := fun i => by exact Go.Lib.get!_eq l i
 simp only [h1, h2, aH4 (p := fun b => b == c)]
 unfold dQ
 cases l.findIdx? fun b => b == c <;> rfl
theorem vA {P : Program} {w : World} {ρ : Env} {O : Nat → Prop} {c : UInt8} {y : Value} (h : RepV w ρ O (.c (u8 c)) y) : (Extern.Bytes.asByte y).run P w = .ok c w := by
 have h1 := h.single rfl
 simp only [u8, RepC, List.cons.injEq, and_true] at h1
 subst h1
 simp [Extern.Bytes.asByte]
theorem bX9 {P : Program} {f : FuncId} {fn : Func} (hf : P.funcs[f]? = some fn) (hname : (fn.name == "runtime.NumGoroutine") = false) (hb : fn.body.isNone = true) (hn : Extern.findNext fn = none)
  (he : Extern.find fn = some Extern.BytealgIndexByte.indexByte) (l : List UInt8) (c : UInt8) : aW P f [.slc (l.map u8), u8 c] (fun v => v = .int .i64 (dQ l c)) :=
 nC hf hname hb hn he fun w ρ O xs h => by
  simp only [List.map_cons, List.map_nil, aY, RepHV] at h
  obtain ⟨x, l1, rfl, hx, y, l2, rfl, hy, rfl⟩ := h
  exact ⟨_, _, rfl, dC _ _ _ _ _, aS8 (qJ hx) (vA hy)⟩
theorem bP8 {P : Program} {f : FuncId} {fn : Func} (hf : P.funcs[f]? = some fn) (hname : (fn.name == "runtime.NumGoroutine") = false) (hb : fn.body.isNone = true) (hn : Extern.findNext fn = none)
  (he : Extern.find fn = some Extern.BytealgIndexByte.indexByte) (l : List UInt8) (c : UInt8) : aW P f [.str l, u8 c] (fun v => v = .int .i64 (dQ l c)) :=
 nC hf hname hb hn he fun w ρ O xs h => by
  simp only [List.map_cons, List.map_nil, aY, RepHV] at h
  obtain ⟨x, l1, rfl, hx, y, l2, rfl, hy, rfl⟩ := h
  have hx' : (Extern.Bytes.bytesOf x).run P w = .ok ⟨l.toArray⟩ w := by
   have h1 := hx.single rfl
   simp only [RepC, List.cons.injEq, and_true] at h1
   subst h1
   rfl
  exact ⟨_, _, rfl, dC _ _ _ _ _, aS8 hx' (vA hy)⟩
end Go.Hl

namespace Go.Hl
open Go

section
variable {P : Program} {av : List Nat} {f : FuncId} {ob : Ob} {nid id n : Nat} {K : HV → Ob → Prop} {T e : TypeId} {sz : Nat} {v : CV} {l : List CV} {rest : List HV}
end

def bH8 (P : Program) (f : FuncId) (args : List CV) (R : CV → CV → CV → Prop) : Prop :=
 HFn P f (args.map .c) 0 bQ (fun r ob' => ∃ u v x, r = .tup [.c u, .c v, .c x] ∧ R u v x ∧ ob' = bQ)
theorem vB {ob : Ob} {r : HV} {R : CV → CV → CV → Prop} (cl : List Nat) (u v x : CV) (h : (r.close ob cl).norm = .tup [.c u, .c v, .c x]) (hR : R u v x) : rW 0 r ob (fun r ob' => ∃ u v x, r = .tup [.c u, .c v, .c x] ∧ R u v x ∧ ob' = bQ) :=
 ⟨cl, id, .tup [.c u, .c v, .c x], bQ, ⟨u, v, x, rfl, hR, rfl⟩, by rw [h]; rfl, fun _ h => by omega, fun _ _ _ _ h => h, by simp [HV.men, HV.menL], fun j o h => by simp [bQ] at h⟩
theorem aN9 {P : Program} {av : List Nat} {f : FuncId} {ob : Ob} {nid : Nat} {K : HV → Ob → Prop} {args : List CV} {R : CV → CV → CV → Prop} (h : bH8 P f args R) (hfree : Free4 ob nid) (hK : ∀ u v x, R u v x → K (.tup [.c u, .c v, .c x]) ob) :
  HCall P av f (args.map .c) ob nid K := by
 refine ⟨[], args.map .c, bQ, _, h, cS args, ⟨List.nodup_nil, by simp⟩, (HV.renL_c _ _).symm, fun j o h => by simp [bQ] at h, fun r lob' hR _ => ?_⟩
 obtain ⟨u, v, x, rfl, hv, rfl⟩ := hR
 rw [iN hfree.all]
 exact hK u v x hv
def bH9 (P : Program) (f : FuncId) (T : TypeId) (v : CV) (args : List CV) (R : CV → CV → CV → Prop) : Prop :=
 HFn P f (args.map .c ++ [.ptr 0 0]) 1 (fob [(0, .box T (.c v))]) (fun r ob' => ∃ u x v', r = .tup [.c u, .c x] ∧ ob' = fob [(0, .box T (.c v'))] ∧ R u x v')
theorem aO0 {ob : Ob} {r w : HV} {T : TypeId} {R : CV → CV → CV → Prop} (cl : List Nat) (u x v' : CV) (h : (r.close ob cl).norm = .tup [.c u, .c x]) (hb : ob 0 = some (.box T w)) (hw : (w.close ob cl).norm = .c v') (h0 : 0 ∉ cl) (hR : R u x v') :
  rW 1 r ob (fun r ob' => ∃ u x v', r = .tup [.c u, .c x] ∧ ob' = fob [(0, .box T (.c v'))] ∧ R u x v') := by
 refine ⟨cl, id, .tup [.c u, .c x], fob [(0, .box T (.c v'))], ⟨u, x, v', rfl, rfl, hR⟩, by rw [h]; simp only [HV.ren, HV.renL], fun _ _ => rfl, fun _ _ _ _ h => h, by simp [HV.men, HV.menL], fun j o ho => ?_⟩
 by_cases e : j = 0
 ·
  subst e
  simp only [fob_at, if_true, Option.some.injEq] at ho
  subst ho
  refine ⟨by omega, by simp [HO.men, HV.men], h0, .box T w, hb, ?_⟩
  simp only [hw]
  rfl
 ·
  simp [fob_at, fob_nil, e] at ho
theorem aO1 {P : Program} {av : List Nat} {f : FuncId} {ob : Ob} {nid id : Nat} {K : HV → Ob → Prop} {T : TypeId} {v : CV} {args : List CV} {R : CV → CV → CV → Prop} (h : bH9 P f T v args R) (hid : ob id = some (.box T (.c v))) (hav : id ∉ av)
  (hfree : Free4 ob nid) (hK : ∀ u x v', R u x v' → K (.tup [.c u, .c x]) (upd ob id (some (.box T (.c v'))))) :
  HCall P av f (args.map .c ++ [.ptr id 0]) ob nid K := by
 refine ⟨[id], args.map HV.c ++ [HV.ptr 0 0], _, _, h, nA T v args, ⟨by simp, by simpa using hav⟩, ?_, fun j o hj => ?_, fun r lob' hR _ => ?_⟩
 ·
  simp only [iP, sF, HV.renL, HV.ren]
  rfl
 ·
  by_cases e : j = 0
  ·
   subst e
   simp only [fob_at, if_true, Option.some.injEq] at hj
   subst hj
   simpa [HO.ren, HV.ren] using hid
  ·
   simp [fob_at, fob_nil, e] at hj
 ·
  obtain ⟨u, x, v', rfl, rfl, hR⟩ := hR
  rw [aD5 hfree]
  exact hK u x v' hR
end Go.Hl

namespace Go.Pl
open Go Go.Hl

def aU (c : UInt8) : List UInt8 → List (List UInt8)
 | [] => [[]]
 | b :: l => if b = c then [] :: aU c l else match aU c l with
  | x :: xs => (b :: x) :: xs
  | [] => [[b]]
theorem bZ (c : UInt8) (l : List UInt8) : aU c l ≠ [] := by
 cases l with
 | nil => simp [aU]
 | cons b l => unfold aU; split <;> (try split) <;> simp
theorem oG (c : UInt8) : ∀ l : List UInt8, match l.findIdx? (· == c) with
  | some i => i < l.length ∧ aU c l = l.take i :: aU c (l.drop (i + 1))
  | none => aU c l = [l]
 | [] => rfl
 | b :: l => by
  have ih := oG c l
  rw [List.findIdx?_cons]
  by_cases h : b = c
  ·
   subst h
   simp [aU]
  ·
   have hb : (b == c) = false := by simpa using h
   simp only [hb, Bool.false_eq_true, if_false]
   cases hf : l.findIdx? (· == c) with
   | none =>
    rw [hf] at ih
    simp only at ih
    simp only [Option.map_none, aU, if_neg h, ih]
   | some i =>
    rw [hf] at ih
    simp only at ih
    simp only [Option.map_some, aU, if_neg h, ih.2, List.length_cons, List.take_succ_cons, List.drop_succ_cons]
    exact ⟨by omega, trivial⟩
theorem pQ {l : List UInt8} {c : UInt8} (h : dQ l c < 0) : aU c l = [l] := by
 have := oG c l
 unfold dQ at h
 split at h
 ·
  omega
 ·
  rename_i hf; rw [hf] at this; exact this
theorem fO {l : List UInt8} {c : UInt8} (h : ¬ dQ l c < 0) : ∃ i : Nat, dQ l c = (i : Int) ∧ i < l.length ∧ aU c l = l.take i :: aU c (l.drop (i + 1)) := by
 have := oG c l
 unfold dQ at h ⊢
 split at h
 ·
  rename_i i hf
  rw [hf] at this
  exact ⟨i, rfl, this⟩
 ·
  omega
theorem dL (c : UInt8) : ∀ l : List UInt8, (aU c l).length ≤ l.length + 1
 | [] => by simp [aU]
 | b :: l => by
  have ih := dL c l
  unfold aU
  split
  ·
   simp; omega
  ·
   split
   ·
    rename_i h; rw [h] at ih; simp only [List.length_cons] at ih ⊢; omega
   ·
    simp
theorem lC (c : UInt8) : ∀ (l : List UInt8), ∀ p ∈ aU c l, p.length ≤ l.length
 | [], p, hp => by simp [aU] at hp; simp [hp]
 | b :: l, p, hp => by
  have ih := lC c l
  unfold aU at hp
  split at hp
  ·
   rcases List.mem_cons.1 hp with rfl | hp
   ·
    simp
   ·
    have := ih p hp; simp only [List.length_cons]; omega
  ·
   split at hp
   ·
    rename_i x xs h
    rw [h] at ih
    rcases List.mem_cons.1 hp with rfl | hp
    ·
     have := ih x List.mem_cons_self; simp only [List.length_cons]; omega
    ·
     have := ih p (List.mem_cons_of_mem _ hp); simp only [List.length_cons]; omega
   ·
    simp only [List.mem_singleton] at hp; subst hp; simp

def valH (c : UInt8) : Nat := if 48 ≤ c.toNat ∧ c.toNat ≤ 57 then c.toNat - 48 else if 65 ≤ c.toNat ∧ c.toNat ≤ 70 then c.toNat - 55 else 16
theorem aS9 (c : UInt8) : valH c ≤ 16 := by unfold valH; split <;> (try split) <;> omega
def byteH (x y : UInt8) : UInt8 := UInt8.ofNat (16 * valH x + valH y)
def okH (x y : UInt8) : Bool := decide (valH x < 16) && decide (valH y < 16) && !cN (byteH x y)
def unB : List UInt8 → Option aK
 | [] => some []
 | c :: l => if cN c then (unB l).map (c :: ·) else if c = 37 then match l with
   | x :: y :: l' => if okH x y then (unB l').map (byteH x y :: ·) else none
   | _ => none
  else none
def unW (s : aK) : Option aK := if s = [126] then some [] else if s = [] then none else unB s

theorem qQ {c : UInt8} {l : aK} (h : cN c = true) : unB (c :: l) = (unB l).map (c :: ·) := by
 rw [unB.eq_def]; simp only [h, if_true]
theorem sL {c : UInt8} {l : aK} (h : cN c = false) (h1 : c ≠ 37 ∨ l.length < 2) : unB (c :: l) = none := by
 rw [unB.eq_def]
 simp only [h, Bool.false_eq_true, if_false]
 split
 ·
  rename_i hc
  have h2 := h1.resolve_left fun h => h hc
  split
  ·
   simp only [List.length_cons] at h2; omega
  ·
   rfl
 ·
  rfl
theorem aT0 {x y : UInt8} {l : aK} (h : okH x y = true) : unB (37 :: x :: y :: l) = (unB l).map (byteH x y :: ·) := by
 rw [unB.eq_def]
 have : cN 37 = false := by rfl
 simp only [this, Bool.false_eq_true, if_false, if_true, h]
theorem rN {x y : UInt8} {l : aK} (h : okH x y = false) : unB (37 :: x :: y :: l) = none := by
 rw [unB.eq_def]
 have : cN 37 = false := by rfl
 simp only [this, Bool.false_eq_true, if_false, if_true, h]
theorem bY0 {s : aK} {w : aK} (hs : s ≠ []) (h : unB s = some w) : w ≠ [] := by
 cases s with
 | nil => exact absurd rfl hs
 | cons c l =>
  by_cases hp : cN c = true
  ·
   rw [qQ hp, Option.map_eq_some_iff] at h
   obtain ⟨a, _, rfl⟩ := h
   simp
  ·
   have hp : cN c = false := by simpa using hp
   rw [unB.eq_def] at h
   simp only [hp, Bool.false_eq_true, if_false] at h
   split at h
   ·
    split at h
    ·
     split at h
     ·
      rw [Option.map_eq_some_iff] at h; obtain ⟨a, _, rfl⟩ := h; simp
     ·
      cases h
    ·
     cases h
   ·
    cases h


def bP9 : List UInt8 := [48, 49, 50, 51, 52, 53, 54, 55, 56, 57, 65, 66, 67, 68, 69, 70]
set_option maxRecDepth 20000 in
theorem pR (c : UInt8) : dQ bP9 c = if valH c < 16 then (valH c : Int) else -1 := by
 have h : ∀ n : Fin 256, dQ bP9 (UInt8.ofNat n.1) = if valH (UInt8.ofNat n.1) < 16 then (valH (UInt8.ofNat n.1) : Int) else -1 := by decide
 have := h ⟨c.toNat, c.toNat_lt⟩
 simpa only [UInt8.ofNat_toNat] using this
theorem qR {x y : UInt8} (hx : valH x < 16) (hy : valH y < 16) : (byteH x y).toNat = 16 * valH x + valH y := by
 unfold byteH
 rw [UInt8.toNat_ofNat']
 omega

def UnSt (s : aK) (i : Nat) (out : aK) : Prop := i ≤ s.length ∧ unB s = (unB (s.drop i)).map (out ++ ·) ∧ (out = [] → i = 0) ∧ out.length ≤ i
section
variable {s : aK} {i : Nat} {out : aK}
theorem UnSt.init (s : aK) : UnSt s 0 [] := ⟨Nat.zero_le _, by simp, fun _ => rfl, Nat.le_refl _⟩
theorem UnSt.plain (h : UnSt s i out) (hi : i < s.length) (hp : cN s[i] = true) : UnSt s (i + 1) (out ++ [s[i]]) := by
 obtain ⟨_, h2, _, h4⟩ := h
 refine ⟨hi, ?_, by simp, by simp; omega⟩
 rw [h2, List.drop_eq_getElem_cons hi, qQ hp, Option.map_map]
 congr 1
 funext l
 simp
theorem UnSt.bad1 (h : UnSt s i out) (hi : i < s.length) (hp : cN s[i] = false) (h1 : s[i] ≠ 37 ∨ s.length ≤ i + 2) : unB s = none := by
 rw [h.2.1, List.drop_eq_getElem_cons hi, sL hp (h1.imp id fun h => by rw [List.length_drop]; omega)]
 rfl
theorem bU7 {s : aK} {i : Nat} (hi : i + 2 < s.length) : s.drop i = s[i] :: s[i + 1] :: s[i + 2] :: s.drop (i + 3) := by
 rw [List.drop_eq_getElem_cons (show i < s.length by omega), List.drop_eq_getElem_cons (show i + 1 < s.length by omega), List.drop_eq_getElem_cons hi]
theorem UnSt.esc (h : UnSt s i out) (hi : i + 2 < s.length) (h37 : s[i] = 37) (hok : okH s[i + 1] s[i + 2] = true) : UnSt s (i + 3) (out ++ [byteH s[i + 1] s[i + 2]]) := by
 obtain ⟨_, h2, _, h4⟩ := h
 refine ⟨hi, ?_, by simp, by simp; omega⟩
 rw [h2, bU7 hi, h37, aT0 hok, Option.map_map]
 congr 1
 funext l
 simp
theorem UnSt.bad2 (h : UnSt s i out) (hi : i + 2 < s.length) (h37 : s[i] = 37) (hok : okH s[i + 1] s[i + 2] = false) : unB s = none := by
 rw [h.2.1, bU7 hi, h37, rN hok]
 rfl
theorem eV (h : unB s = none) (h1 : s ≠ [126]) : unW s = none := by
 unfold unW
 rw [if_neg h1]
 split <;> first | rfl | exact h
theorem UnSt.fin (h : UnSt s i out) (hi : i = s.length) (h1 : s ≠ [126]) : unW s = if out = [] then none else some out := by
 subst hi
 obtain ⟨_, h2, h3, h4⟩ := h
 rw [List.drop_length] at h2
 unfold unW
 rw [if_neg h1]
 by_cases ho : out = []
 ·
  have := List.eq_nil_of_length_eq_zero (h3 ho)
  rw [if_pos this, if_pos ho]
 ·
  have hs : s ≠ [] := by
   rintro rfl
   simp only [List.length_nil, Nat.le_zero] at h4
   exact ho (List.eq_nil_of_length_eq_zero h4)
  rw [if_neg hs, if_neg ho, h2]
  simp [unB]
end

def CutR (l : List UInt8) (c : UInt8) (li re : List UInt8) (fd : Bool) : Prop :=
 (fd = false ∧ dQ l c < 0 ∧ li = l ∧ re = []) ∨ (fd = true ∧ ∃ i : Nat, dQ l c = (i : Int) ∧ i < l.length ∧ li = l.take i ∧ re = l.drop (i + 1))

def unL (r : aK) : Option (List aK) := (aU 32 r).mapM unW
def unR (r : aK) : Option (List aK) := match unL r with | some ws => if okL ws then some ws else none | none => none
def fZ (b : aK) : Option (List (List aK)) :=
 if b = [] then some [] else if (aU 10 b).getLast (bZ 10 b) = [] then (aU 10 b).dropLast.mapM unR else none
theorem aH5 {l li re : aK} (hc : CutR l 10 li re true) : fZ l = (unR li).bind fun ws => (fZ re).map (ws :: ·) := by
 rcases hc with ⟨h, _⟩ | ⟨_, i, h1, h2, rfl, rfl⟩
 ·
  cases h
 ·
  obtain ⟨i', h3, _, hsp⟩ := fO (l := l) (c := 10) (by omega)
  have : i' = i := by omega
  subst this
  have hne : l ≠ [] := by rintro rfl; simp at h2
  have hd : fZ l = if (aU 10 (l.drop (i' + 1))).getLast (bZ 10 _) = [] then (l.take i' :: (aU 10 (l.drop (i' + 1))).dropLast).mapM unR else none := by
   unfold fZ
   rw [if_neg hne]
   simp only [hsp]
   rw [List.getLast_cons (bZ 10 _), List.dropLast_cons_of_ne_nil (bZ 10 _)]
  rw [hd]
  have he : fZ (l.drop (i' + 1)) = if (aU 10 (l.drop (i' + 1))).getLast (bZ 10 _) = [] then (aU 10 (l.drop (i' + 1))).dropLast.mapM unR else none := by
   unfold fZ
   split
   ·
    rename_i h
    rw [h]; rfl
   ·
    rfl
  rw [he]
  split
  ·
   rw [List.mapM_cons]
   cases unR (l.take i') with
   | none => rfl
   | some ws => cases (aU 10 (l.drop (i' + 1))).dropLast.mapM unR <;> rfl
  ·
   cases unR (l.take i') <;> rfl
theorem vC {l li re : aK} (hc : CutR l 10 li re false) (hne : l ≠ []) : fZ l = none := by
 rcases hc with ⟨_, h, _⟩ | ⟨h, _⟩
 ·
  unfold fZ
  rw [if_neg hne]
  have hsp := pQ h
  rw [if_neg]
  simp only [hsp, List.getLast_singleton]
  exact hne
 ·
  cases h
theorem bI0 {l li re : aK} {fd : Bool} (hc : CutR l 10 li re fd) (hne : l ≠ []) (h : unR li = none) : fZ l = none := by
 cases fd with
 | false => exact vC hc hne
 | true => rw [aH5 hc, h]; rfl
theorem CutR.lt {l li re : aK} {c : UInt8} {fd : Bool} (hc : CutR l c li re fd) (hne : l ≠ []) : re.length < l.length ∧ li.length ≤ l.length := by
 have : 0 < l.length := List.length_pos_iff.2 hne
 rcases hc with ⟨_, _, rfl, rfl⟩ | ⟨_, i, _, h, rfl, rfl⟩
 ·
  exact ⟨this, Nat.le_refl _⟩
 ·
  exact ⟨by rw [List.length_drop]; omega, by rw [List.length_take]; omega⟩

def wsT (r : aK) (i : Nat) : List aK := ((aU 32 r).take i).map fun p => (unW p).getD []
def aH6 (r : aK) (i : Nat) : Prop := ∀ p ∈ (aU 32 r).take i, (unW p).isSome = true
theorem aH7 {r : aK} {i : Nat} (h : i < (aU 32 r).length) : wsT r (i + 1) = wsT r i ++ [(unW (aU 32 r)[i]).getD []] := by
 simp only [wsT, List.take_succ_eq_append_getElem h, List.map_append, List.map_cons, List.map_nil]
theorem oH {r : aK} {i : Nat} (h : i ≤ (aU 32 r).length) : (wsT r i).length = i := by
 simp only [wsT, List.length_map, List.length_take]; omega
theorem xV {r : aK} {i : Nat} (h : i < (aU 32 r).length) (h1 : aH6 r i) (h2 : (unW (aU 32 r)[i]).isSome = true) : aH6 r (i + 1) := by
 intro p hp
 rw [List.take_succ_eq_append_getElem h, List.mem_append, List.mem_singleton] at hp
 rcases hp with hp | rfl
 ·
  exact h1 p hp
 ·
  exact h2
theorem nG {α β : Type} {f : α → Option β} : ∀ {l : List α} {x : α}, x ∈ l → f x = none → l.mapM f = none
 | a :: l, x, hx, h => by
  rw [List.mapM_cons]
  rcases List.mem_cons.1 hx with rfl | hx
  ·
   rw [h]; rfl
  ·
   rw [nG hx h]
   cases f a <;> rfl
theorem pS {α β : Type} {f : α → Option β} (d : β) : ∀ {l : List α}, (∀ x ∈ l, (f x).isSome = true) → l.mapM f = some (l.map fun x => (f x).getD d)
 | [], _ => rfl
 | a :: l, h => by
  rw [List.mapM_cons, pS d fun x hx => h x (List.mem_cons_of_mem _ hx)]
  obtain ⟨y, hy⟩ := Option.isSome_iff_exists.1 (h a List.mem_cons_self)
  rw [hy]
  simp [hy]
theorem bI1 {r : aK} {i : Nat} (h : i < (aU 32 r).length) (h2 : (unW (aU 32 r)[i]).isSome = false) : unR r = none := by
 unfold unR unL
 rw [nG (List.getElem_mem h) (by simpa using h2)]
theorem bQ0 {r : aK} (h : aH6 r (aU 32 r).length) : unR r = if okL (wsT r (aU 32 r).length) then some (wsT r (aU 32 r).length) else none := by
 unfold aH6 at h
 rw [List.take_length] at h
 unfold unR unL
 rw [pS [] h]
 simp only [wsT, List.take_length]

def DecSt (b rest : aK) (ls : List (List aK)) : Prop := fZ b = (fZ rest).map (ls ++ ·) ∧ rest.length ≤ b.length ∧ ls.length + rest.length ≤ b.length
theorem DecSt.init (b : aK) : DecSt b b [] := ⟨by simp, Nat.le_refl _, by simp⟩
theorem DecSt.bad {b rest li re : aK} {ls : List (List aK)} {fd : Bool} (h : DecSt b rest ls) (hc : CutR rest 10 li re fd) (hne : rest ≠ []) (hb : unR li = none) : fZ b = none := by
 rw [h.1, bI0 hc hne hb]; rfl
theorem DecSt.bad0 {b rest li re : aK} {ls : List (List aK)} (h : DecSt b rest ls) (hc : CutR rest 10 li re false) (hne : rest ≠ []) : fZ b = none := by
 rw [h.1, vC hc hne]; rfl
theorem DecSt.next {b rest li re : aK} {ls : List (List aK)} (h : DecSt b rest ls) (hc : CutR rest 10 li re true) (hne : rest ≠ []) {ws : List aK} (hb : unR li = some ws) : DecSt b re (ls ++ [ws]) := by
 have hl := hc.lt hne
 obtain ⟨h1, h2, h3⟩ := h
 refine ⟨?_, by omega, by simp only [List.length_append, List.length_singleton]; omega⟩
 rw [h1, aH5 hc, hb]
 cases fZ re with
 | none => rfl
 | some l => simp
theorem DecSt.fin {b : aK} {ls : List (List aK)} (h : DecSt b [] ls) : fZ b = some ls := by
 rw [h.1]
 simp [fZ]
def eF (b : aK) : Int := if 262144 < b.length then 3 else match fZ b with | some ls => if 1000 < ls.length then 2 else 0 | none => 2
def iK (b : aK) : List (List aK) := if eF b = 0 then (fZ b).getD [] else []
end Go.Pl

namespace Go.Proofs.YtenbfeemmpjdhaaGreatDoor
open Go Go.Hl Go.Pl
set_option maxRecDepth 10000
set_option maxHeartbeats 16000000

theorem bQ1 (v : CV) : nth [v] 0 = v := rfl
theorem vD (c : UInt8) : (u8 c).denil = u8 c := rfl
theorem denilL_u8 : ∀ bs : List UInt8, CV.denilL (bs.map u8) = bs.map u8
 | [] => rfl
 | b :: bs => by simp only [List.map_cons, CV.denilL, denilL_u8 bs]; rfl
theorem bQ2 (l : List UInt8) (c : UInt8) : aW Tryz.prog 175 [.slc (l.map u8), u8 c] (fun v => v = .int .i64 (dQ l c)) :=
 bX9 (f := 175) (fn := Tryz.f175) Tryz.func175 (by kernel_rfl) (by kernel_rfl) (by kernel_rfl) (by kernel_rfl) l c
theorem bI2 (l : List UInt8) (c : UInt8) : aW Tryz.prog 178 [.str l, u8 c] (fun v => v = .int .i64 (dQ l c)) :=
 bP8 (f := 178) (fn := Tryz.f178) Tryz.func178 (by kernel_rfl) (by kernel_rfl) (by kernel_rfl) (by kernel_rfl) l c

theorem bY1 (l : List UInt8) (c : UInt8) : aW Tryz.prog 152 [.slc (l.map u8), u8 c] (fun v => v = .int .i64 (dQ l c)) := by
 refine FW Tryz.func152 ?_
 have F := rI
 refine RF ?_
 refine aB fun K hK => Rg ?_
 have F := aI rI (aI @denilL_u8 @vD)
 iterate 2 refine SF ?_
 refine HS rfl rfl fun K' hK' => T6 ?_
 refine C2 (bQ2 l c) ?_
 rintro u rfl
 refine AX (hK' _ _ ?_)
 clear hK' K'
 refine SF ?_
 simp only [sE, ↓reduceIte, simprocAttr, rI]
 refine AX (hK _ _ _ ?_)
 clear hK K
 refine aD ?_
 simp only [cJ, Tryz.results152, cC, cI, bW, ↓sP, sA, tyS, simprocAttr, rI]
 exact aC [] (.int .i64 (dQ l c)) rfl rfl


theorem bI3 (l : List UInt8) (c : UInt8) : aW Tryz.prog 159 [.str l, u8 c] (fun v => v = .int .i64 (dQ l c)) := by
 refine FW Tryz.func159 ?_
 have F := rI
 refine RF ?_
 refine aB fun K hK => Rg ?_
 have F := aI rI (aI @denilL_u8 @vD)
 iterate 2 refine SF ?_
 refine HS rfl rfl fun K' hK' => T6 ?_
 refine C2 (bI2 l c) ?_
 rintro u rfl
 refine AX (hK' _ _ ?_)
 clear hK' K'
 refine SF ?_
 simp only [sE, ↓reduceIte, simprocAttr, rI]
 refine AX (hK _ _ _ ?_)
 clear hK K
 refine aD ?_
 simp only [cJ, Tryz.results159, cC, cI, bW, ↓sP, sA, tyS, simprocAttr, rI]
 exact aC [] (.int .i64 (dQ l c)) rfl rfl


theorem pT (l : List UInt8) (c : UInt8) : aW Tryz.prog 127 [.str l, u8 c] (fun v => v = .int .i64 (dQ l c)) := by
 refine FW Tryz.func127 ?_
 have F := rI
 refine RF ?_
 refine aB fun K hK => Rg ?_
 have F := aI rI (aI @denilL_u8 @vD)
 iterate 2 refine SF ?_
 refine HS rfl rfl fun K' hK' => T6 ?_
 refine C2 (bI3 l c) ?_
 rintro u rfl
 refine AX (hK' _ _ ?_)
 clear hK' K'
 refine SF ?_
 simp only [sE, ↓reduceIte, simprocAttr, rI]
 refine AX (hK _ _ _ ?_)
 clear hK K
 refine aD ?_
 simp only [cJ, Tryz.results127, cC, cI, bW, ↓sP, sA, tyS, simprocAttr, rI]
 exact aC [] (.int .i64 (dQ l c)) rfl rfl


theorem xW (l : List UInt8) (c : UInt8) : aW Tryz.prog 125 [.slc (l.map u8), .slc [u8 c]] (fun v => v = .int .i64 (dQ l c)) := by
 refine FW Tryz.func125 ?_
 have F := rI
 refine RF ?_
 refine RF ?_
 refine aB fun K hK => ?_
 refine aH ?_
 refine RF ?_
 refine aJ (b := (1 : Int) == 0) rfl (fun hb => ?_) (fun hb => ?_)
 ·
  exact absurd hb (by decide)
 refine RF ?_
 refine aJ (b := (1 : Int) == 1) rfl (fun hb => ?_) (fun hb => ?_)
 ·
  refine aB fun K hK => Rg ?_
  have F := aI rI (aI @u8.eq_1 (aI @bQ1 @denilL_u8))
  iterate 4 refine SF ?_
  refine HS rfl rfl fun K' hK' => T6 ?_
  refine C2 (bY1 l c) ?_
  rintro u rfl
  refine AX (hK' _ _ ?_)
  clear hK' K'
  refine SF ?_
  simp only [sE, ↓reduceIte, simprocAttr, rI]
  refine AX (hK _ _ _ ?_)
  clear hK K
  refine aD ?_
  simp only [cJ, Tryz.results125, cC, cI, bW, ↓sP, sA, tyS, simprocAttr, rI]
  exact aC [] (.int .i64 (dQ l c)) rfl rfl
 exact absurd hb (by decide)


theorem bQ3 (l : List UInt8) (c : UInt8) (hl : l.length < 2 ^ 40) : bH8 Tryz.prog 98 [.slc (l.map u8), .slc [u8 c]] (fun x y f => ∃ (li re : List UInt8) (fd : Bool), x = .slc (li.map u8) ∧ y = .slc (re.map u8) ∧ f = .bool fd ∧ CutR l c li re fd) := by
 refine FW Tryz.func98 ?_
 have F := rI
 refine RF ?_
 refine aB fun K hK => ?_
 refine aB fun K hK => Rg ?_
 have F := aI rI @denilL_u8
 iterate 2 refine SF ?_
 refine HS rfl rfl fun K' hK' => T6 ?_
 refine C2 (xW l c) ?_
 rintro u rfl
 refine AX (hK' _ _ ?_)
 clear hK' K'
 refine SF ?_
 simp only [sE, ↓reduceIte, simprocAttr, rI]
 refine AX (hK _ _ _ ?_)
 clear hK K
 have F := rI
 refine RF ?_
 refine aJ (b := decide ((0 : Int) ≤ dQ l c)) rfl (fun hb => ?_) (fun hb => ?_)
 ·
  have hn : ¬ dQ l c < 0 := by simp at hb; omega
  obtain ⟨i, hi, hil, hsp⟩ := fO hn
  have hi' := hi
  rw [hi]
  refine aB fun K hK => QR ?_
  have F := aI rI (aI @Int.natCast_nonneg (aI @Int.ofNat_le (aI @Int.sub_zero (aI @Nat.sub_zero (aI @List.drop_zero.{0} (aI @bO (aI @denilL_u8 (aI @List.length_map.{0,0} (show IntKind.i64.wrap ((i : Int) + 1) = ((i + 1 : Nat) : Int) from by rw [IntWalk.i64_in _ (by omega)]; rfl)))))))))
  iterate 12 refine SF ?_
  simp only [sE, ↓reduceIte, simprocAttr, rI]
  refine AX (hK _ _ _ ?_)
  clear hK K
  refine aD ?_
  simp only [cJ, Tryz.results98, cC, cI, bW, ↓sP, sA, tyS, simprocAttr, rI]
  refine vB [] (.slc ((l.take i).map u8)) (.slc ((l.drop (i + 1)).map u8)) (.bool true) ?_ ⟨_, _, _, rfl, rfl, rfl, .inr ⟨rfl, i, hi, hil, rfl, rfl⟩⟩
  simp [HV.close, HV.closeL, HV.norm, HV.toC, HV.toCL, CV.denil, denilL_u8]
  exact ⟨by rw [← List.map_take, denilL_u8], by rw [← List.map_drop, ← List.map_take, denilL_u8, List.take_of_length_le (by simp)]⟩
 have hn : dQ l c < 0 := by simp at hb; omega
 refine aG ?_
 refine TQ rI ?_
 refine AX (hK _ _ _ ?_)
 clear hK K
 refine aB fun K hK => Rg ?_
 iterate 4 refine SF ?_
 simp only [sE, ↓reduceIte, simprocAttr, rI]
 refine AX (hK _ _ _ ?_)
 clear hK K
 refine aD ?_
 simp only [cJ, Tryz.results98, cC, cI, bW, ↓sP, sA, tyS, simprocAttr, rI]
 refine vB [] (.slc (l.map u8)) (.slc []) (.bool false) ?_ ⟨l, [], false, rfl, rfl, rfl, .inl ⟨rfl, hn, rfl, rfl⟩⟩
 simp [HV.close, HV.closeL, HV.norm, HV.toC, HV.toCL, CV.denil, denilL_u8]


theorem bQ4 (l : List UInt8) (c : UInt8) : bG8 Tryz.prog 126 157 [.slc (l.map u8), .slc [u8 c], .int .i64 0] [(30, .slc [u8 c]), (30, .slc (l.map u8)), (3, .int .i64 0)] := by
 refine FW Tryz.func126 ?_
 refine aB fun K hK => Rg ?_
 have F := rI
 iterate 4 refine SF ?_
 simp only [sE, ↓reduceIte, simprocAttr, rI]
 refine AX (hK _ _ _ ?_)
 clear hK K
 refine RF ?_
 refine aD ?_
 simp only [cJ, Tryz.results126, cC, cI, bW, ↓sP, sA, tyS, simprocAttr, rI]
 refine xT (gf := 157) (bs := [(30, .slc [u8 c]), (30, .slc (l.map u8)), (3, .int .i64 0)]) (ids := [4, 0, 8]) rfl (by simp) (by decide) ?_ ?_
 ·
  intro j x hx
  match j, hx with
  | 0, hx => cases hx; rfl
  | 1, hx => cases hx; rfl
  | 2, hx => cases hx; rfl
 intro x hx
 simp only [List.mem_cons, List.not_mem_nil, or_false] at hx
 rcases hx with rfl | rfl | rfl
 ·
  rfl
 ·
  exact congrArg CV.slc (denilL_u8 l)
 rfl


theorem aY6 (l : List UInt8) (c : UInt8) : bG8 Tryz.prog 99 157 [.slc (l.map u8), .slc [u8 c]] [(30, .slc [u8 c]), (30, .slc (l.map u8)), (3, .int .i64 0)] := by
 refine FW Tryz.func99 ?_
 have F := rI
 refine RF ?_
 refine aB fun K hK => Rg ?_
 iterate 2 refine S0 ?_ (e := fun _ h_ => by simp only [sH, ↓sP, sA, tyS, simprocAttr, rI, denilL_u8, pK, gH, List.range', List.map_cons, List.map_nil]; exact AX h_)
 refine HS rfl rfl fun K' hK' => ?_
 simp only [sH, ↓sP, sA, tyS, simprocAttr, rI, denilL_u8, pK, gH, List.range', List.map_cons, List.map_nil]
 refine xS (args := [_, _, _]) (bQ4 l c) (by simp) ⟨rfl, rfl, rfl, rfl⟩ ?_
 refine AX (hK' _ _ ?_)
 clear hK' K'
 refine S0 ?_ (e := fun _ h_ => by simp only [sH, ↓sP, sA, tyS, simprocAttr, rI, denilL_u8, pK, gH, List.range', List.map_cons, List.map_nil]; exact AX h_)
 simp only [sE, ↓reduceIte, simprocAttr, rI]
 refine AX (hK _ _ _ ?_)
 clear hK K
 refine aD ?_
 simp only [cJ, Tryz.results99, cC, cI, bW, ↓sP, sA, tyS, simprocAttr, rI]
 refine xT (gf := 157) (bs := [(30, .slc [u8 c]), (30, .slc (l.map u8)), (3, .int .i64 0)]) (ids := [12, 13, 14]) rfl (by simp) (by decide) ?_ ?_
 ·
  intro j x hx
  match j, hx with
  | 0, hx => cases hx; rfl
  | 1, hx => cases hx; rfl
  | 2, hx => cases hx; rfl
 intro x hx
 simp only [List.mem_cons, List.not_mem_nil, or_false] at hx
 rcases hx with rfl | rfl | rfl
 ·
  rfl
 ·
  exact congrArg CV.slc (denilL_u8 l)
 rfl

end Go.Proofs.YtenbfeemmpjdhaaGreatDoor

namespace Go.Pl
open Go Go.Hl

theorem pU (c : UInt8) : ∀ l : List UInt8, (aU c l).length = Lib.countByte l c + 1
 | [] => rfl
 | b :: l => by
  have ih := pU c l
  unfold Lib.countByte at ih ⊢
  rw [List.count_cons]
  unfold aU
  by_cases h : b = c
  ·
   rw [if_pos h]
   simp only [List.length_cons, ih, h, beq_self_eq_true, if_true]
  ·
   have hb : (b == c) = false := by simpa using h
   rw [if_neg h]
   simp only [hb, Bool.false_eq_true, if_false, Nat.add_zero]
   split
   ·
    rename_i x xs hx
    rw [hx] at ih
    simpa using ih
   ·
    rename_i hx
    exact absurd hx (bZ c l)
theorem aO2 {c : UInt8} {l : List UInt8} (h : (aU c l).length = 1) : aU c l = [l] := by
 by_cases hn : dQ l c < 0
 ·
  exact pQ hn
 ·
  obtain ⟨i, _, _, hsp⟩ := fO hn
  rw [hsp] at h
  have := List.length_pos_iff.2 (bZ c (l.drop (i + 1)))
  simp only [List.length_cons] at h
  omega

def SplSt (l : aK) (c : UInt8) (i : Nat) (rest : aK) (a : List aK) : Prop :=
 a.length = (aU c l).length ∧ a.take i = (aU c l).take i ∧ (aU c l).drop i = aU c rest ∧ i < (aU c l).length ∧ rest.length ≤ l.length
section
variable {l rest : aK} {c : UInt8} {i k : Nat} {a : List aK}
theorem SplSt.init (l : aK) (c : UInt8) : SplSt l c 0 l (List.replicate (aU c l).length []) :=
 ⟨by simp, by simp, rfl, List.length_pos_iff.2 (bZ c l), Nat.le_refl _⟩
theorem SplSt.next (h : SplSt l c i rest a) (hk : dQ rest c = (k : Int)) : k < rest.length ∧ SplSt l c (i + 1) (rest.drop (k + 1)) (a.set i (rest.take k)) := by
 obtain ⟨h1, h2, h3, h4, h5⟩ := h
 obtain ⟨k', e1, e2, e3⟩ := fO (l := rest) (c := c) (by omega)
 have : k' = k := by omega
 subst this
 rw [e3] at h3
 have h6 := List.drop_eq_getElem_cons h4
 rw [h6] at h3
 have h7 := List.head_eq_of_cons_eq h3
 have h8 := List.tail_eq_of_cons_eq h3
 refine ⟨e2, by simpa using h1, ?_, h8, ?_, by rw [List.length_drop]; omega⟩
 ·
  rw [List.take_succ_eq_append_getElem (by rw [List.length_set]; omega), List.take_succ_eq_append_getElem h4, List.getElem_set_self, List.take_set_of_le (Nat.le_refl _), h2, h7]
 ·
  rcases Nat.lt_or_ge (i + 1) (aU c l).length with h' | h'
  ·
   exact h'
  ·
   rw [List.drop_eq_nil_of_le h'] at h8
   exact absurd h8.symm (bZ _ _)
theorem SplSt.last (h : SplSt l c i rest a) (hk : dQ rest c < 0) : i + 1 = (aU c l).length := by
 obtain ⟨h1, h2, h3, h4, h5⟩ := h
 rw [pQ hk] at h3
 have := congrArg List.length h3
 simp only [List.length_drop, List.length_singleton] at this
 omega
theorem SplSt.fin (h : SplSt l c i rest a) (hi : i + 1 = (aU c l).length) : a.set i rest = aU c l := by
 obtain ⟨h1, h2, h3, h4, h5⟩ := h
 have h6 : (aU c rest).length = 1 := by rw [← h3, List.length_drop]; omega
 rw [aO2 h6] at h3
 have e1 : a.set i rest = (a.set i rest).take (i + 1) := (List.take_of_length_le (by rw [List.length_set]; omega)).symm
 rw [e1, List.take_succ_eq_append_getElem (by rw [List.length_set]; omega), List.getElem_set_self, List.take_set_of_le (Nat.le_refl _), h2]
 conv => rhs; rw [← List.take_append_drop i (aU c l), h3]
end

def jZ (c : UInt8) : Bool := decide (48 ≤ c.toNat) && decide (c.toNat ≤ 57)
def iC : aK → Nat → Option Nat
 | [], n => some n
 | c :: l, n => if jZ c then iC l (10 * n + (c.toNat - 48)) else none
def eP (s : aK) : Bool := decide (s.length < 1) || decide (13 < s.length) || (decide (1 < s.length) && s.getD 0 0 == 48)
def bL (s : aK) : Option Int := if eP s then none else match iC s 0 with | some n => if 1099511627776 < n then none else some (n : Int) | none => none
def DgSt (s : aK) (i n : Nat) : Prop := i ≤ s.length ∧ iC s 0 = iC (s.drop i) n ∧ n < 10 ^ i
theorem DgSt.init (s : aK) : DgSt s 0 0 := ⟨Nat.zero_le _, rfl, by omega⟩
theorem DgSt.next {s : aK} {i n : Nat} (h : DgSt s i n) (hi : i < s.length) (hd : jZ s[i] = true) : DgSt s (i + 1) (10 * n + (s[i].toNat - 48)) := by
 obtain ⟨h1, h2, h3⟩ := h
 refine ⟨hi, ?_, ?_⟩
 ·
  rw [h2, List.drop_eq_getElem_cons hi, iC, if_pos hd]
 ·
  simp only [jZ, Bool.and_eq_true, decide_eq_true_eq] at hd
  rw [Nat.pow_succ]
  omega
theorem DgSt.bad {s : aK} {i n : Nat} (h : DgSt s i n) (hi : i < s.length) (hd : jZ s[i] = false) : iC s 0 = none := by
 rw [h.2.1, List.drop_eq_getElem_cons hi, iC, if_neg (by rw [hd]; simp)]
theorem DgSt.fin {s : aK} {i n : Nat} (h : DgSt s i n) (hi : i = s.length) : iC s 0 = some n := by
 rw [h.2.1, hi, List.drop_length]; rfl
theorem DgSt.lt {s : aK} {i n : Nat} (h : DgSt s i n) (hs : s.length ≤ 13) : n < 10000000000000 := by
 have : 10 ^ i ≤ 10 ^ 13 := Nat.pow_le_pow_right (by omega) (Nat.le_trans h.1 hs)
 have := h.2.2
 omega
theorem mJ {s : aK} (h : eP s = true) : bL s = none := by unfold bL; rw [if_pos h]
theorem nH {s : aK} (h : iC s 0 = none) : bL s = none := by unfold bL; split <;> first | rfl | (rw [h])
theorem aH8 {s : aK} {n : Nat} (h : iC s 0 = some n) (h1 : 1099511627776 < n) : bL s = none := by
 unfold bL; split
 ·
  rfl
 ·
  rw [h]; simp only; rw [if_pos h1]
theorem aT1 {s : aK} {n : Nat} (h0 : eP s = false) (h : iC s 0 = some n) (h1 : ¬ 1099511627776 < n) : bL s = some (n : Int) := by
 unfold bL
 rw [if_neg (by rw [h0]; simp), h]; simp only; rw [if_neg h1]
theorem aH9 (c : UInt8) : jZ c = (decide ((48 : Int) ≤ (c.toNat : Int)) && decide ((c.toNat : Int) ≤ 57)) := by
 unfold jZ
 have h1 : decide ((48 : Int) ≤ (c.toNat : Int)) = decide (48 ≤ c.toNat) := by rw [decide_eq_decide]; omega
 have h2 : decide ((c.toNat : Int) ≤ 57) = decide (c.toNat ≤ 57) := by rw [decide_eq_decide]; omega
 rw [h1, h2]
end Go.Pl

namespace Go.Pl
open Go Go.Hl

theorem rO (c : UInt8) : ∀ m : aK, aU c (m ++ [c]) = aU c m ++ [[]]
 | [] => by simp [aU]
 | b :: m => by
  have ih := rO c m
  simp only [List.cons_append]
  rw [aU, aU]
  by_cases h : b = c
  ·
   rw [if_pos h, if_pos h, ih]; rfl
  ·
   rw [if_neg h, if_neg h, ih]
   cases hs : aU c m with
   | nil => exact absurd hs (bZ c m)
   | cons x xs => rfl
theorem mK {c : UInt8} : ∀ {l : aK}, l ≠ [] → (aU c l).getLast (bZ c l) = [] → ∃ m, l = m ++ [c]
 | [], h, _ => absurd rfl h
 | b :: l, _, hl => by
  by_cases h : b = c
  ·
   subst h
   have hs : aU b (b :: l) = [] :: aU b l := by rw [aU, if_pos rfl]
   cases l with
   | nil => exact ⟨[], rfl⟩
   | cons d l =>
    have : (aU b (d :: l)).getLast (bZ b _) = [] := by
     simp only [hs] at hl
     rw [List.getLast_cons (bZ b _)] at hl
     exact hl
    obtain ⟨m, hm⟩ := mK (l := d :: l) (by simp) this
    exact ⟨b :: m, by rw [hm]; rfl⟩
  ·
   cases hs : aU c l with
   | nil => exact absurd hs (bZ c l)
   | cons x xs =>
    have hs2 : aU c (b :: l) = (b :: x) :: xs := by rw [aU, if_neg h, hs]
    simp only [hs2] at hl
    cases xs with
    | nil => simp at hl
    | cons y ys =>
     have hne : l ≠ [] := by rintro rfl; simp [aU] at hs
     have : (aU c l).getLast (bZ c l) = [] := by
      simp only [hs]
      rw [List.getLast_cons (by simp)] at hl ⊢
      exact hl
     obtain ⟨m, hm⟩ := mK hne this
     exact ⟨b :: m, by rw [hm]; rfl⟩
def vE (c : UInt8) : List aK → aK
 | [] => []
 | w :: l => w ++ l.flatMap fun v => c :: v
theorem mL (c : UInt8) : ∀ l : aK, vE c (aU c l) = l
 | [] => rfl
 | b :: l => by
  have ih := mL c l
  rw [aU]
  cases hs : aU c l with
  | nil => exact absurd hs (bZ c l)
  | cons x xs =>
   rw [hs] at ih
   simp only [vE] at ih
   split
   ·
    rename_i h
    subst h
    simp only [vE, List.nil_append, List.flatMap_cons, List.cons_append]
    rw [ih]
   ·
    simp only [vE, List.cons_append]
    rw [ih]
theorem aO3 (c : UInt8) (m : aK) : ((aU c m).flatMap fun r => r ++ [c]) = m ++ [c] := by
 have h := mL c m
 cases hs : aU c m with
 | nil => exact absurd hs (bZ c m)
 | cons x xs =>
  rw [hs] at h
  simp only [vE] at h
  rw [← h]
  have key : ∀ (x : aK) (xs : List aK), (List.flatMap (fun r => r ++ [c]) (x :: xs)) = (x ++ xs.flatMap fun v => c :: v) ++ [c] := by
   intro x xs
   induction xs generalizing x with
   | nil => simp
   | cons y ys ih =>
    rw [List.flatMap_cons, ih y]
    simp
  exact key x xs

set_option maxRecDepth 20000 in
theorem aI0 {c : UInt8} (h : valH c < 16) : bP1 (valH c) = c := by
 have key : ∀ n : Fin 256, valH (UInt8.ofNat n.1) < 16 → bP1 (valH (UInt8.ofNat n.1)) = UInt8.ofNat n.1 := by decide
 have := key ⟨c.toNat, c.toNat_lt⟩
 simp only [UInt8.ofNat_toNat] at this
 exact this h
theorem bI4 {x y : UInt8} (h : okH x y = true) : pN (byteH x y) = [37, x, y] := by
 simp only [okH, Bool.and_eq_true, decide_eq_true_eq, Bool.not_eq_true'] at h
 obtain ⟨⟨h1, h2⟩, h3⟩ := h
 unfold pN
 rw [h3, qR h1 h2]
 have e1 : (16 * valH x + valH y) / 16 = valH x := by omega
 have e2 : (16 * valH x + valH y) % 16 = valH y := by omega
 simp only [Bool.false_eq_true, if_false, e1, e2, aI0 h1, aI0 h2]
theorem aO4 {c : UInt8} (h : cN c = true) : pN c = [c] := by unfold pN; rw [h]; rfl
theorem aA0 : ∀ (n : Nat) {s w : aK}, s.length ≤ n → unB s = some w → dY w = s
 | 0, s, w, hn, h => by
  have : s = [] := List.eq_nil_of_length_eq_zero (by omega)
  subst this
  simp only [unB, Option.some.injEq] at h
  subst h; rfl
 | n + 1, [], w, _, h => by
  simp only [unB, Option.some.injEq] at h
  subst h; rfl
 | n + 1, c :: l, w, hn, h => by
  simp only [List.length_cons] at hn
  by_cases hp : cN c = true
  ·
   rw [qQ hp, Option.map_eq_some_iff] at h
   obtain ⟨w', h', rfl⟩ := h
   have ih := aA0 n (by omega) h'
   simp only [dY, List.flatMap_cons] at ih ⊢
   rw [aO4 hp, ih]; rfl
  ·
   have hp : cN c = false := by simpa using hp
   by_cases hc : c = 37
   ·
    subst hc
    match l, h with
    | [], h => rw [sL hp (.inr (by simp))] at h; cases h
    | [x], h => rw [sL hp (.inr (by simp))] at h; cases h
    | x :: y :: l', h =>
     by_cases ho : okH x y = true
     ·
      rw [aT0 ho, Option.map_eq_some_iff] at h
      obtain ⟨w', h', rfl⟩ := h
      have ih := aA0 n (by simp only [List.length_cons] at hn; omega) h'
      simp only [dY, List.flatMap_cons] at ih ⊢
      rw [bI4 ho, ih]; rfl
     ·
      rw [rN (by simpa using ho)] at h; cases h
   ·
    rw [sL hp (.inl hc)] at h; cases h
theorem bQ5 {s w : aK} (h : unW s = some w) : mG w = s := by
 unfold unW at h
 split at h
 ·
  rename_i hs; cases h; rw [hs]; rfl
 ·
  split at h
  ·
   cases h
  ·
   rename_i h1 h2
   have := aA0 _ (Nat.le_refl _) h
   unfold mG
   rw [if_neg (bY0 h2 h), this]
theorem nI {α β : Type} {f : α → Option β} : ∀ {l : List α} {m : List β}, l.mapM f = some m → (∀ {g : β → α}, (∀ x y, f x = some y → g y = x) → m.map g = l) ∧ m.length = l.length
 | [], m, h => by
  simp only [List.mapM_nil] at h
  cases h
  exact ⟨fun _ => rfl, rfl⟩
 | a :: l, m, h => by
  rw [List.mapM_cons] at h
  cases ha : f a with
  | none => rw [ha] at h; cases h
  | some b =>
   rw [ha] at h
   cases hl : l.mapM f with
   | none => rw [hl] at h; cases h
   | some m' =>
    rw [hl] at h
    cases h
    obtain ⟨h1, h2⟩ := nI hl
    exact ⟨fun hg => by rw [List.map_cons, hg _ _ ha, h1 hg], by simp [h2]⟩
theorem aY7 (l : List aK) : jA l = vE 32 (l.map mG) := by
 cases l with
 | nil => rfl
 | cons w l => simp [jA, vE, List.flatMap_map]
theorem bQ6 {r : aK} {ws : List aK} (h : unL r = some ws) : jA ws = r := by
 have := (nI h).1 (g := mG) fun x y h => bQ5 h
 rw [aY7, this, mL]
theorem xX (m : aK) : fZ (m ++ [10]) = (aU 10 m).mapM unR := by
 have hs := rO 10 m
 unfold fZ
 rw [if_neg (by simp), if_pos]
 ·
  simp only [hs, List.dropLast_concat]
 ·
  simp only [hs]
  simp
theorem bI5 {rs : List aK} {ls : List (List aK)} (h : rs.mapM unL = some ls) : rs.mapM unR = if ls.all okL then some ls else none := by
 induction rs generalizing ls with
 | nil => simp only [List.mapM_nil] at h; cases h; rfl
 | cons r rs ih =>
  rw [List.mapM_cons] at h
  cases hr : unL r with
  | none => rw [hr] at h; cases h
  | some l =>
   rw [hr] at h
   cases hl : rs.mapM unL with
   | none => rw [hl] at h; cases h
   | some m =>
    rw [hl] at h
    cases h
    rw [List.mapM_cons, ih hl]
    unfold unR
    rw [hr]
    simp only [List.all_cons]
    by_cases h1 : okL l = true
    ·
     simp only [h1, if_true, Bool.true_and]
     by_cases h2 : m.all okL = true
     ·
      simp only [h2, if_true]; rfl
     ·
      simp only [h2]; rfl
    ·
     have h1 : okL l = false := by simpa using h1
     simp only [h1, Bool.false_and, Bool.false_eq_true, if_false]; rfl
theorem wH {rs : List aK} (h : rs.mapM unL = none) : rs.mapM unR = none := by
 induction rs with
 | nil => simp at h
 | cons r rs ih =>
  rw [List.mapM_cons] at h ⊢
  cases hr : unL r with
  | none => unfold unR; rw [hr]; rfl
  | some l =>
   rw [hr] at h
   have : rs.mapM unL = none := by
    cases hl : rs.mapM unL with
    | none => rfl
    | some m => rw [hl] at h; cases h
   rw [ih this]
   cases unR r <;> rfl
theorem aY8 {m : aK} {ls : List (List aK)} (h : (aU 10 m).mapM unL = some ls) : jY ls = m ++ [10] := by
 have h1 := (nI h).1 (g := jA) fun x y h => bQ6 h
 have h2 := aO3 10 m
 rw [← h1] at h2
 rw [← h2]
 simp only [jY, List.flatMap_map]
 rfl
theorem aY9 {b : aK} (hb : ¬ 262144 < b.length) (hne : b ≠ []) (h : b.getD (b.length - 1) 0 ≠ 10) : eF b = 2 := by
 have : fZ b = none := by
  unfold fZ
  rw [if_neg hne, if_neg]
  intro hl
  obtain ⟨m, rfl⟩ := mK hne hl
  simp at h
 unfold eF
 rw [if_neg hb, this]
theorem aZ0 {m : aK} (hb : ¬ 262144 < (m ++ [10]).length) (h : (aU 10 m).mapM unL = none) : eF (m ++ [10]) = 2 := by
 unfold eF
 rw [if_neg hb, xX, wH h]
theorem bI6 {m : aK} {ls : List (List aK)} (hb : ¬ 262144 < (m ++ [10]).length) (h : (aU 10 m).mapM unL = some ls) : (lG ls = 0 → eF (m ++ [10]) = 0 ∧ iK (m ++ [10]) = ls) ∧ (lG ls ≠ 0 → eF (m ++ [10]) = 2) := by
 have hd := aY8 h
 have hv := bI5 h
 rw [← xX] at hv
 by_cases hk : ls.all okL = true
 ·
  rw [if_pos hk] at hv
  have hE : eF (m ++ [10]) = if 1000 < ls.length then 2 else 0 := by unfold eF; rw [if_neg hb, hv]
  by_cases hl : 1000 < ls.length
  ·
   rw [if_pos hl] at hE
   exact ⟨fun he => absurd (he.symm.trans (xU hl)) (by decide), fun _ => hE⟩
  ·
   rw [if_neg hl] at hE
   have he : lG ls = 0 := by
    rw [aS7 (by omega) (by simpa using hk), hd, if_neg hb]
   exact ⟨fun _ => ⟨hE, by unfold iK; rw [if_pos hE, hv]; rfl⟩, fun hn => absurd he hn⟩
 ·
  rw [if_neg hk] at hv
  have hE : eF (m ++ [10]) = 2 := by unfold eF; rw [if_neg hb, hv]
  refine ⟨fun he => ?_, fun _ => hE⟩
  exfalso
  apply hk
  unfold lG at he
  split at he
  ·
   cases he
  ·
   split at he
   ·
    rename_i l hf
    have := List.find?_some hf
    exact absurd he (bP6 (by simpa using this))
   ·
    rename_i hf
    rw [List.find?_eq_none] at hf
    rw [List.all_eq_true]
    intro l hl
    simpa using hf l hl
def lsT (rows : List aK) (i : Nat) : List (List aK) := (rows.take i).map fun r => (unL r).getD []
theorem bI7 {rows : List aK} {i : Nat} (h : i < rows.length) : lsT rows (i + 1) = lsT rows i ++ [(unL rows[i]).getD []] := by
 simp only [lsT, List.take_succ_eq_append_getElem h, List.map_append, List.map_cons, List.map_nil]
theorem aO5 {rows : List aK} {i : Nat} (h : i ≤ rows.length) : (lsT rows i).length = i := by
 simp only [lsT, List.length_map, List.length_take]; omega
theorem bI8 {r : aK} {i : Nat} (h : i < (aU 32 r).length) (h2 : (unW (aU 32 r)[i]).isSome = false) : unL r = none :=
 nG (List.getElem_mem h) (by simpa using h2)
theorem bQ7 {r : aK} (h : aH6 r (aU 32 r).length) : unL r = some (wsT r (aU 32 r).length) := by
 unfold aH6 at h
 rw [List.take_length] at h
 unfold unL
 rw [pS [] h]
 simp only [wsT, List.take_length]
theorem bQ8 {rows : List aK} (h : ∀ r ∈ rows.take rows.length, (unL r).isSome = true) : rows.mapM unL = some (lsT rows rows.length) := by
 rw [List.take_length] at h
 rw [pS [] h]
 simp only [lsT, List.take_length]
theorem bI9 {rows : List aK} {n : Nat} (h : ∀ r ∈ rows, r.length < n) : ∀ l ∈ lsT rows rows.length, l.length < n + 1 := by
 intro l hl
 simp only [lsT, List.take_length, List.mem_map] at hl
 obtain ⟨r, hr, rfl⟩ := hl
 have h1 := h r hr
 cases hu : unL r with
 | none => simp
 | some ws =>
  have := (nI hu).2
  have h2 := dL 32 r
  simp only [Option.getD_some]
  omega
end Go.Pl

namespace Go.Pl
open Go Go.Hl

theorem bY2 {d : iS} {i : Nat} (h : i < 16) : CV.getAt i 1 false (hf d) = some (u8 (d.1[i]'(by rw [d.2]; exact h))) := bD2 (l := d.1) (by rw [d.2]; exact h)
def bY3 (h : iS) : aK := pP h.1
def bY4 (d : Dig) : aK := [115, 104, 97, 50, 53, 54, 58] ++ pP d.1
theorem aZ1 (l : List UInt8) : fQ (l.map u8) = some l := bytesC_map l
theorem oI (b : UInt8) : fQ [CV.int .u8 b.toNat] = some [b] := bytesC_map [b]

def lH (n : Int) : aK := Lib.itoa n
theorem aZ2 : lH 0 = [48] := by unfold lH Lib.itoa; rw [if_neg (by omega)]; simp [Lib.decDigits]
theorem aI1 {n : Int} (h : 0 ≤ n) : lH n = Lib.decDigits n.natAbs := by unfold lH Lib.itoa; rw [if_neg (by omega)]; congr 1; omega
theorem aI2 {n : Int} (h : n < 0) : lH n = 45 :: Lib.decDigits n.natAbs := by unfold lH Lib.itoa; rw [if_pos h]
theorem bJ0 {v : Nat} (h : v ≠ 0) : Lib.decDigits v = (if v / 10 = 0 then [] else Lib.decDigits (v / 10)) ++ [UInt8.ofNat (48 + v % 10)] := by
 by_cases h1 : v < 10
 ·
  rw [Lib.decDigits, dif_pos h1, if_pos (by omega), show v % 10 = v by omega]; rfl
 ·
  rw [Lib.decDigits, dif_neg h1, if_neg (by omega)]
theorem aA1 {n : Int} (h : n < 0) (h1 : -9223372036854775808 ≤ n) : IntKind.u64.wrap (-(IntKind.u64.wrap n)) = (n.natAbs : Int) := by
 have e : IntKind.u64.wrap n = n + 18446744073709551616 := by
  have : IntKind.u64.wrap n = n % 18446744073709551616 := by simp [IntKind.wrap, IntKind.bits, IntKind.signed]
  rw [this]; omega
 rw [e]
 have : ∀ m : Int, IntKind.u64.wrap m = m % 18446744073709551616 := fun m => by simp [IntKind.wrap, IntKind.bits, IntKind.signed]
 rw [this]; omega
theorem aT2 {n : Int} (h : 0 ≤ n) (h1 : n ≤ 9223372036854775807) : IntKind.u64.wrap n = (n.natAbs : Int) := by
 have : IntKind.u64.wrap n = n % 18446744073709551616 := by simp [IntKind.wrap, IntKind.bits, IntKind.signed]
 rw [this]; omega
theorem vF (v : Nat) : IntKind.u8.wrap (IntKind.u64.wrap (48 + Int.tmod (v : Int) 10)) = ((UInt8.ofNat (48 + v % 10)).toNat : Int) := by
 have h1 : Int.tmod (v : Int) 10 = ((v % 10 : Nat) : Int) := rfl
 have h2 : v % 10 < 10 := Nat.mod_lt _ (by omega)
 rw [h1]
 generalize v % 10 = r at h2
 rw [IntWalk.u64_in _ (by omega), IntWalk.u8_in _ (by omega), UInt8.toNat_ofNat', Nat.mod_eq_of_lt (by omega)]
 omega
theorem bQ9 {v : Nat} (h : v < 18446744073709551616) : IntKind.u64.wrap (Int.tdiv (v : Int) 10) = ((v / 10 : Nat) : Int) := by
 rw [show Int.tdiv (v : Int) 10 = ((v / 10 : Nat) : Int) from rfl, IntWalk.u64_in _ (by omega)]
theorem bJ1 {u : Nat} (h : u < 18446744073709551616) : (Lib.decDigits u).length ≤ 20 := by rw [Lib.decDigits_length]; exact Lib.nDigits_le20 u h

inductive Av where
 | i (n : Int)
 | l (n : Int)
 | h (x : iS)
 | d (x : Dig)
 | s (w : aK)
def Av.w : Av → aK
 | .i n => lH n
 | .l n => lH n
 | .h x => bY3 x
 | .d x => bY4 x
 | .s w => w
def Av.ok : Av → Prop
 | .i n => -9223372036854775808 ≤ n ∧ n ≤ 9223372036854775807
 | .l n => -9223372036854775808 ≤ n ∧ n ≤ 9223372036854775807
 | _ => True
end Go.Pl

namespace Go.Pl
open Go Go.Hl

def valL (c : UInt8) : Nat := if 48 ≤ c.toNat ∧ c.toNat ≤ 57 then c.toNat - 48 else if 97 ≤ c.toNat ∧ c.toNat ≤ 102 then c.toNat - 87 else 16
theorem aT3 (c : UInt8) : valL c ≤ 16 := by unfold valL; split <;> (try split) <;> omega
def aT4 : List UInt8 := [48, 49, 50, 51, 52, 53, 54, 55, 56, 57, 97, 98, 99, 100, 101, 102]
set_option maxRecDepth 20000 in
theorem mM (c : UInt8) : dQ aT4 c = if valL c < 16 then (valL c : Int) else -1 := by
 have h : ∀ n : Fin 256, dQ aT4 (UInt8.ofNat n.1) = if valL (UInt8.ofNat n.1) < 16 then (valL (UInt8.ofNat n.1) : Int) else -1 := by decide
 have := h ⟨c.toNat, c.toNat_lt⟩
 simpa only [UInt8.ofNat_toNat] using this
def hX (s : aK) (i : Nat) : UInt8 := s.getD (2 * i) 0
def hY (s : aK) (i : Nat) : UInt8 := s.getD (2 * i + 1) 0
def hB (s : aK) (i : Nat) : UInt8 := UInt8.ofNat (16 * valL (hX s i) + valL (hY s i))
def hOk (s : aK) (i : Nat) : Bool := decide (valL (hX s i) < 16) && decide (valL (hY s i) < 16)
theorem bJ2 {s : aK} {i : Nat} (hx : valL (hX s i) < 16) (hy : valL (hY s i) < 16) : (hB s i).toNat = 16 * valL (hX s i) + valL (hY s i) := by
 unfold hB
 rw [UInt8.toNat_ofNat']
 omega
def bR (s : aK) (n : Nat) : Option (List UInt8) := if s.length = 2 * n ∧ (List.range n).all (hOk s) = true then some ((List.range n).map (hB s)) else none
def UhSt (s : aK) (n i : Nat) (l : List UInt8) : Prop := l.length = n ∧ i ≤ n ∧ l.take i = (List.range i).map (hB s) ∧ ∀ j, j < i → hOk s j = true
theorem UhSt.init (s : aK) {n : Nat} {l : List UInt8} (h : l.length = n) : UhSt s n 0 l := ⟨h, Nat.zero_le _, by simp, fun j hj => by omega⟩
theorem UhSt.next {s : aK} {n i : Nat} {l : List UInt8} (h : UhSt s n i l) (hi : i < n) (hk : hOk s i = true) : UhSt s n (i + 1) (l.set i (hB s i)) := by
 obtain ⟨h1, h2, h3, h4⟩ := h
 refine ⟨by simpa using h1, hi, ?_, fun j hj => ?_⟩
 ·
  rw [List.take_succ_eq_append_getElem (by rw [List.length_set]; omega), List.getElem_set_self, List.take_set_of_le (Nat.le_refl _), h3, List.range_succ, List.map_append]
  rfl
 ·
  rcases Nat.lt_or_ge j i with h' | h'
  ·
   exact h4 j h'
  ·
   have : j = i := by omega
   rw [this]; exact hk
theorem UhSt.fin {s : aK} {n : Nat} {l : List UInt8} (h : UhSt s n n l) (hs : s.length = 2 * n) : bR s n = some l := by
 obtain ⟨h1, h2, h3, h4⟩ := h
 unfold bR
 rw [if_pos ⟨hs, by rw [List.all_eq_true]; intro j hj; exact h4 j (List.mem_range.1 hj)⟩, ← h3, List.take_of_length_le (by omega)]
theorem UhSt.bad {s : aK} {n i : Nat} {l : List UInt8} (_ : UhSt s n i l) (hi : i < n) (hk : hOk s i = false) : bR s n = none := by
 unfold bR
 rw [if_neg]
 rintro ⟨_, h⟩
 have := List.all_eq_true.1 h i (List.mem_range.2 hi)
 rw [hk] at this; cases this
theorem oJ {s : aK} {n : Nat} (h : s.length ≠ 2 * n) : bR s n = none := by unfold bR; rw [if_neg fun h' => h h'.1]
theorem eW {s : aK} {n : Nat} {l : List UInt8} (h : bR s n = some l) : l.length = n := by
 unfold bR at h
 split at h
 ·
  cases h; simp
 ·
  cases h
theorem bJ3 (l : List UInt8) : (l.map u8).all (fun v => v.cells == 1) = true := by simp [List.all_eq_true, u8, CV.cells]
theorem kC (l : List UInt8) : CV.cellsL (l.map u8) = l.length := gY (fun _ => rfl) l
theorem aZ3 {l : List UInt8} {i : Nat} (y : UInt8) (h : i < l.length) : CV.setAtL i 1 (.c (.int .u8 (y.toNat : Int))) (l.map u8) = some (((l.set i y).map u8).map .c) := oA (f := u8) (fun _ => rfl) (fun _ _ => rfl) y l i h
def prefB (s p : aK) : Bool := decide (p.length ≤ s.length) && (s.take p.length == p)
def eN (s : aK) : Option iS := match h : bR s 16 with | some l => some ⟨l, eW h⟩ | none => none
def shaW : aK := [115, 104, 97, 50, 53, 54, 58]
def lI (s : aK) : Option Dig := if prefB s shaW then match h : bR (s.drop 7) 32 with | some l => some ⟨l, eW h⟩ | none => none else none
theorem vG {s : aK} {l : List UInt8} (h : bR s 16 = some l) (hl : l.length = 16) : eN s = some ⟨l, hl⟩ := by
 unfold eN
 split
 ·
  rename_i l' h'
  rw [h] at h'; cases h'; rfl
 ·
  rename_i h'
  rw [h] at h'; cases h'
theorem vH {s : aK} (h : bR s 16 = none) : eN s = none := by
 unfold eN
 split
 ·
  rename_i l' h'
  rw [h] at h'; cases h'
 ·
  rfl
theorem xY {s : aK} {l : List UInt8} (hp : prefB s shaW = true) (h : bR (s.drop 7) 32 = some l) (hl : l.length = 32) : lI s = some ⟨l, hl⟩ := by
 unfold lI
 rw [if_pos hp]
 split
 ·
  rename_i l' h'
  rw [h] at h'; cases h'; rfl
 ·
  rename_i h'
  rw [h] at h'; cases h'
theorem kD {s : aK} (h : prefB s shaW = true → bR (s.drop 7) 32 = none) : lI s = none := by
 unfold lI
 split
 ·
  rename_i hp
  split
  ·
   rename_i l' h'
   rw [h hp] at h'; cases h'
  ·
   rfl
 ·
  rfl
theorem aZ4 {e : Operand → HV} {K : HV → Prop} {n b : Nat} {d : TyD} : cV { size := n, bytes := b, d := d, z := hf zh } [] e K = K (.c (hf zh)) := by
 simp only [cV, hf, hfill, hlift_some]
 rw [sC]
theorem xZ {e : Operand → HV} {K : HV → Prop} {n b : Nat} {d : TyD} : cV { size := n, bytes := b, d := d, z := zd } [] e K = K (.c zd) := by
 simp only [cV, zd, dg, hfill, hlift_some]
 rw [sC]
end Go.Pl
