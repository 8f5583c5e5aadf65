/- Part of a proof: walks of functions of the program, by contracts, and the rules they use. By an AI agent. -/
import Derived.Test.YtenbfeemmpjdhaaGreatDoorPl11h
import Derived.Sort.Grow
import Derived.Sort.EncStr
import Derived.Test.YtenbfeemmpjdhaaGreatDoorHySb
import Derived.Test.YtenbfeemmpjdhaaGreatDoorRows
set_option linter.unusedSimpArgs false
set_option linter.unusedVariables false
set_option linter.defProp false
namespace Go.Pl
open Go Go.Hl

theorem oB (a b : aK) : ∀ p : List aK, bV (p ++ [a, b]) = if a == b then bV (p ++ [a]) else bV (p ++ [a]) ++ [b]
 | [] => by
  simp only [List.nil_append, bV]
  split
  ·
   rename_i h
   rw [eq_of_beq h]
  ·
   rfl
 | [x] => by
  have ih := oB a b []
  simp only [List.nil_append] at ih
  simp only [List.cons_append, List.nil_append]
  have e1 : bV (x :: a :: [b]) = if x == a then bV [a, b] else x :: bV [a, b] := by rw [bV]
  have e2 : bV (x :: a :: []) = if x == a then bV [a] else x :: bV [a] := by rw [bV]
  rw [e1, e2, ih]
  by_cases h1 : (x == a) = true <;> by_cases h2 : (a == b) = true <;> simp [h1, h2]
 | x :: y :: p => by
  have ih := oB a b (y :: p)
  simp only [List.cons_append] at ih ⊢
  have e1 : bV (x :: y :: (p ++ [a, b])) = if x == y then bV (y :: (p ++ [a, b])) else x :: bV (y :: (p ++ [a, b])) := by rw [bV]
  have e2 : bV (x :: y :: (p ++ [a])) = if x == y then bV (y :: (p ++ [a])) else x :: bV (y :: (p ++ [a])) := by rw [bV]
  rw [e1, e2, ih]
  by_cases h1 : (x == y) = true <;> by_cases h2 : (a == b) = true <;> simp [h1, h2]
theorem oC {l : List aK} {j : Nat} (h0 : 1 ≤ j) (h : j < l.length) : bV (l.take (j + 1)) = if l[j] == l[j - 1] then bV (l.take j) else bV (l.take j) ++ [l[j]] := by
 have e1 : l.take j = l.take (j - 1) ++ [l[j - 1]] := by
  have := List.take_succ_eq_append_getElem (show j - 1 < l.length by omega)
  rwa [show j - 1 + 1 = j by omega] at this
 rw [List.take_succ_eq_append_getElem h, e1, List.append_assoc]
 have := oB l[j - 1] l[j] (l.take (j - 1))
 simp only [List.singleton_append]
 rw [this]
 have e2 : (l[j - 1] == l[j]) = (l[j] == l[j - 1]) := by rw [Bool.eq_iff_iff]; simp only [beq_iff_eq]; exact eq_comm
 rw [e2]
theorem sC : ∀ {l : List aK}, l.length < 2 → bV l = l
 | [], _ => rfl
 | [_], _ => rfl
 | _ :: _ :: _, h => by simp at h; omega
theorem aO3 {l : List aK} {k : Nat} (h0 : 1 ≤ k) (h : k < l.length) (hne : (l[k] == l[k - 1]) = false) (hd : bV (l.take k) = l.take k) : bV (l.take (k + 1)) = l.take (k + 1) := by
 rw [oC h0 h, hne, hd, List.take_succ_eq_append_getElem h]; rfl
theorem uT {l : List aK} {k : Nat} (h0 : 1 ≤ k) (h : k < l.length) (he : (l[k] == l[k - 1]) = true) : bV (l.take (k + 1)) = bV (l.take k) := by
 rw [oC h0 h, he]; rfl
theorem aY5 {l : List aK} {k : Nat} (h0 : 1 ≤ k) (h : k < l.length) (hne : (l[k] == l[k - 1]) = false) : bV (l.take (k + 1)) = bV (l.take k) ++ [l[k]] := by
 rw [oC h0 h, hne]; rfl
end Go.Pl

namespace Go.Pl
open Go Go.Hl

theorem jQ {l : List Ky} {role : aK} {p : Ky → Bool} {i : Nat} (h : i < l.length) : gH (l.take (i + 1)) role p = gH (l.take i) role p ++ (if l[i].rs.contains role && p l[i] then [l[i].o] else []) := by
 unfold gH
 rw [List.take_succ_eq_append_getElem h, List.filter_append, List.map_append]
 congr 1
 cases hc : (l[i].rs.contains role && p l[i])
 ·
  simp only [List.filter_cons, hc, List.filter_nil]; rfl
 ·
  simp only [List.filter_cons, hc, List.filter_nil]; rfl
theorem uU (l : List Ky) (role : aK) (p : Ky → Bool) : (gH l role p).length ≤ l.length := by
 unfold gH; rw [List.length_map]; exact List.length_filter_le _ _
theorem aY6 (l : List aK) : (l.mergeSort leW).Pairwise (· ≤ ·) := by
 have tot : ∀ x y : List UInt8, (leW x y || leW y x) = true := fun x y => by
  simp only [leW, Bool.or_eq_true, decide_eq_true_eq]
  exact List.le_total x y
 have tr : ∀ x y z : List UInt8, leW x y = true → leW y z = true → leW x z = true := fun x y z => by
  simp only [leW, decide_eq_true_eq]
  exact List.le_trans
 exact (List.pairwise_mergeSort tr tot l).imp (fun h => by simpa [leW] using h)
theorem bG9 (l : List aK) : bV (l.mergeSort leW) = lZ l := aN9 (aY6 l) fun w => (List.mergeSort_perm l leW).mem_iff
theorem gA (r : Rt) (k : Ky) (t : Int) : rY r k t = (decide (k.fr ≤ t) && (decide (t < k.un) && (decide (t < r.e) && !(sQ r.x (pid k.p) && decide (qS r.x (pid k.p) ≤ t))))) := by
 unfold rY; rw [bG4]; rfl
theorem eP (r : Rt) : bQ r = ((decide (1 ≤ r.v) && decide (r.v ≤ eD)) && ((decide (0 ≤ r.e) && decide (r.e ≤ eD)) && (eJ r.q && (lG r.k && (gO r.x && (decide (0 < pC r.q wRoot) && decide (pC r.q wRoot ≤ (wM r.k wRoot fun _ => true).length))))))) := rfl
theorem aY7 {P : Program} {f g : FuncId} {a b : HV} {R : CV → Prop} (h : aB2 P f [a, b, .clo g []] R) : aB2 P f [a, b, .c (.fn g)] R := by
 refine ⟨h.1, fun w ρ X xs hS hA hX => h.2 w ρ X xs hS ?_ hX⟩
 rw [aX] at hA ⊢
 obtain ⟨y1, z1, rfl, hy1, hA⟩ := hA
 refine ⟨y1, z1, rfl, hy1, ?_⟩
 rw [aX] at hA ⊢
 obtain ⟨y2, z2, rfl, hy2, hA⟩ := hA
 refine ⟨y2, z2, rfl, hy2, ?_⟩
 rw [aX] at hA ⊢
 obtain ⟨y3, z3, rfl, hy3, hA⟩ := hA
 refine ⟨y3, z3, rfl, ?_, hA⟩
 obtain ⟨h1, h2⟩ := hy3
 refine ⟨?_, by rw [← h2]; rfl⟩
 simp only [RepH, RepC] at h1 ⊢
 exact ⟨[], h1, by simp [RepHV]⟩
end Go.Pl

namespace Go.Pl
open Go Go.Hl

theorem cE (r : Rt) : bQ r = ((!decide (r.v < 1) && !decide ((1099511627776 : Int) < r.v)) && (inN r.e && (eJ r.q && (lG r.k && (gO r.x && (decide (0 < pC r.q wRoot) && decide (pC r.q wRoot ≤ ((wM r.k wRoot fun _ => true).length : Int)))))))) := by
 unfold bQ; rw [nlt 1 r.v, nlt r.v eD]; rfl
theorem fN {l : List Qt} (h : decide (12 < (l.length : Int)) = true) : eJ l = false := by
 rw [dC, Bool.and_eq_false_iff]; right
 simp at h ⊢; omega
theorem gW {l : List Ky} (h : decide (32 < (l.length : Int)) = true) : lG l = false := by
 rw [dK, Bool.and_eq_false_iff]; right
 simp at h ⊢; omega
theorem gX {l : List Rv} (h : decide (64 < (l.length : Int)) = true) : gO l = false := by
 rw [iH, Bool.and_eq_false_iff]; right
 simp at h ⊢; omega
theorem aO4 {l : List Qt} (h : decide (12 < (l.length : Int)) = false) (h0 : GoodTo kU (fun a b => slt a.r b.r) l l.length) : eJ l = true := by
 rw [dC, h0.all, Bool.true_and, decide_eq_true_eq]
 simp at h; omega
theorem bH0 {l : List Ky} (h : decide (32 < (l.length : Int)) = false) (h0 : GoodTo uH (fun a b => dlt (kid a) (kid b)) l l.length) : lG l = true := by
 rw [dK, h0.all, Bool.true_and, decide_eq_true_eq]
 simp at h; omega
theorem bH1 {l : List Rv} (h : decide (64 < (l.length : Int)) = false) (h0 : GoodTo (fun x : Rv => inN x.t) (fun a b => dlt a.k b.k) l l.length) : gO l = true := by
 rw [iH, h0.all, Bool.true_and, decide_eq_true_eq]
 simp at h; omega
theorem bH2 (l : List aK) : (lZ l).length ≤ l.length := qP _ _ (aY2 (aH2 l)) fun w hw => aH3.1 hw
theorem aY8 (l : List aK) (w : aK) : lZ (l ++ [w]) = oW (lZ l) w := by unfold lZ; rw [List.foldl_append]; rfl
end Go.Pl

namespace Go.Pl
open Go Go.Hl

theorem eZ (l : List W32) : (ws l).denil = ws l := by simp only [ws, CV.denil]; rw [cB (f := w32) (fun _ => rfl)]
theorem uV (l : List UInt8) : (us l).denil = us l := by simp only [us, CV.denil]; rw [cB (f := u8) (fun _ => rfl)]
theorem cF (l : List W32) : (ws l).isAgg = true := rfl
theorem iY {l : List W32} {n : Nat} (h : l.length = n) : CV.getAt 0 n true (ws l) = some (ws l) := by
 have := ws_cells l
 simp only [ws, CV.cells] at this
 simp only [ws, CV.getAt, this, h, and_self, if_true]
theorem qU {l : List UInt8} {n : Nat} (h : l.length = n) : CV.getAt 0 n true (us l) = some (us l) := by
 have := us_cells l
 simp only [us, CV.cells] at this
 simp only [us, CV.getAt, this, h, and_self, if_true]
theorem cJ {l : List W32} {n : Nat} (h : l.length = n) (x : HV) : CV.setAt 0 n x (ws l) = some x := by
 have := ws_cells l
 simp only [ws, CV.cells] at this
 simp only [ws, CV.setAt, this, h, and_self, if_true]
theorem dD {l : List W32} {i : Nat} (h : i < l.length) : CV.getAt i 1 false (ws l) = some (.int .u32 ((gw l i).toNat : Int)) := by rw [bY5 h, cD4 h]; rfl
theorem nA {l : List W32} {i : Nat} (y : W32) (h : i < l.length) (h2 : l.length ≠ 1) : CV.setAt i 1 (.c (.int .u32 (y.toNat : Int))) (ws l) = some (.agg (((l.set i y).map w32).map .c)) := bY7 y h h2
theorem nB {l : List UInt8} {i : Nat} (y : UInt8) (h : i < l.length) (h2 : l.length ≠ 1) : CV.setAt i 1 (.c (.int .u8 (y.toNat : Int))) (us l) = some (.agg (((l.set i y).map u8).map .c)) := bY8 y h h2
theorem bH3 {b : List UInt8} {i : Nat} (h : i < b.length) : nth (b.map u8) i = .int .u8 ((gb b i).toNat : Int) := by rw [aN h, cD5 h]; rfl
theorem cD9 (x : W32) (n : Nat) : (x <<< (32 - n)) ||| (x >>> n) = fS x n := by unfold fS; exact BitVec.or_comm _ _
theorem bP6 : ∀ n : Fin 32, 0 < n.1 → IntKind.u64.wrap ((BitVec.ofInt IntKind.u64.bits (IntKind.u64.wrap (-((n.1 : Nat) : Int))) &&& BitVec.ofInt IntKind.u64.bits 31).toNat : Int) = ((32 - n.1 : Nat) : Int) := by decide +kernel
theorem xY {e : Operand → HV} : ∀ (ps : List (Nat × Operand)) (vs : List CV) (pre old : List HV), ps.map (fun p => (p.1, e p.2)) = (vs.zipIdx pre.length).map (fun p => (p.2, HV.c p.1)) → (∀ v ∈ vs, v.cells = 1) → (∀ o ∈ old, HV.cells o = 1) → old.length = vs.length → hfill e ps (pre ++ old) = some (pre ++ vs.map .c)
 | [], [], pre, old, _, _, _, hl => by
  have : old = [] := List.eq_nil_of_length_eq_zero hl
  subst this; rfl
 | [], v :: vs, _, _, h, _, _, _ => by simp at h
 | p :: ps, [], _, _, h, _, _, _ => by simp at h
 | (i, x) :: ps, v :: vs, pre, [], _, _, _, hl => by simp at hl
 | (i, x) :: ps, v :: vs, pre, o :: old, h, hv, ho, hl => by
  simp only [List.map_cons, List.zipIdx_cons, List.cons.injEq, Prod.mk.injEq] at h
  obtain ⟨⟨h1, h2⟩, h3⟩ := h
  have e1 : (pre ++ o :: old)[i]? = some o := by rw [h1]; simp
  have e2 : (pre ++ o :: old).set i (e x) = (pre ++ [HV.c v]) ++ old := by rw [h1, h2]; simp
  have e3 : (e x).cells = o.cells := by rw [h2, ho o (by simp)]; exact hv v (by simp)
  simp only [hfill, e1]
  rw [if_pos ⟨by rw [h2]; rfl, e3⟩, e2, xY (e := e) ps vs (pre ++ [HV.c v]) old (by rw [h3]; simp) (fun v hv' => hv v (by simp [hv'])) (fun o ho' => ho o (by simp [ho'])) (by simpa using hl)]
  simp
theorem gY {n bytes : Nat} {d : TyD} {ps : List (Nat × Operand)} {e : Operand → HV} {K : HV → Prop} (vs : List W32) (hn : vs.length = n) (h : ps.map (fun p => (p.1, e p.2)) = ((vs.map w32).zipIdx).map (fun p => (p.2, HV.c p.1))) : cP ⟨n, bytes, d, ws (wz n)⟩ ps e K = K (.c (ws vs)) := by
 have := xY (e := e) ps (vs.map w32) [] (((wz n).map w32).map .c) h (by simp [w32, CV.cells]) (by simp [w32, HV.cells, CV.cells]) (by simp [iG, hn])
 simp only [List.nil_append] at this
 simp only [cP, ws, this, hlift_some]
 rw [sU]
@[simp] theorem cC1 (l : List W32) (i : Nat) (x : W32) : CV.agg ((l.map w32).set i (w32 x)) = ws (l.set i x) := by rw [← List.map_set]; rfl
@[simp] theorem cC2 (l : List UInt8) (i : Nat) (x : UInt8) : CV.agg ((l.map u8).set i (u8 x)) = us (l.set i x) := by rw [← List.map_set]; rfl
theorem eT {ob : Ob} {cl : List Nat} {v : CV} (h : v.denil = v) : (HV.close ob cl (.c v)).norm = .c v := by
 rw [show HV.close ob cl (.c v) = .c v.denil from rfl, h]; rfl
@[simp] theorem cF4 (b : List UInt8) : wA b 0 = wz 64 := rfl
@[simp] theorem cF5 (w : List W32) : wB w 0 = w := rfl
theorem xZ (b : List UInt8) : wB (wA b 16) 48 = eU b := by unfold eU; rfl
theorem cI (s : St) : s.l.length = 8 := by simp [St.l]
theorem aT7 : K256.length = 64 := by decide
theorem jR (s : St) : gw s.l 0 = s.a := rfl
theorem jS (s : St) : gw s.l 1 = s.b := rfl
theorem jT (s : St) : gw s.l 2 = s.c := rfl
theorem jU (s : St) : gw s.l 3 = s.d := rfl
theorem jV (s : St) : gw s.l 4 = s.e := rfl
theorem jW (s : St) : gw s.l 5 = s.f := rfl
theorem jX (s : St) : gw s.l 6 = s.g := rfl
theorem jY (s : St) : gw s.l 7 = s.h := rfl
theorem bP7 (s : St) (k w : W32) : ((((s.h + k) + w) + ((s.e &&& s.f) ^^^ (~~~ s.e &&& s.g))) + ((fS s.e 6 ^^^ fS s.e 11) ^^^ fS s.e 25)) = t1 s k w := by
 unfold t1
 generalize (s.e &&& s.f) ^^^ (~~~ s.e &&& s.g) = x
 generalize (fS s.e 6 ^^^ fS s.e 11) ^^^ fS s.e 25 = y
 ac_rfl
theorem bP8 (s : St) : (((s.a &&& s.b) ^^^ (s.a &&& s.c)) ^^^ (s.b &&& s.c)) + ((fS s.a 2 ^^^ fS s.a 13) ^^^ fS s.a 22) = t2 s := BitVec.add_comm _ _
theorem bZ2 (s : St) (k w : W32) : (((s.h + ((fS s.e 6 ^^^ fS s.e 11) ^^^ fS s.e 25)) + ((s.e &&& s.f) ^^^ (~~~ s.e &&& s.g))) + k) + w = t1 s k w := rfl
theorem bZ3 (s : St) : ((fS s.a 2 ^^^ fS s.a 13) ^^^ fS s.a 22) + (((s.a &&& s.b) ^^^ (s.a &&& s.c)) ^^^ (s.b &&& s.c)) = t2 s := rfl
def uW (s r : St) (j : Nat) : List W32 := (s.l.zipWith (fun x y => x + y) r.l).take j ++ s.l.drop j
theorem aI0 (s r : St) : ∀ j, j < 9 → (uW s r j).length = 8
 | 0, _ => rfl | 1, _ => rfl | 2, _ => rfl | 3, _ => rfl | 4, _ => rfl | 5, _ => rfl | 6, _ => rfl | 7, _ => rfl | 8, _ => rfl
 | j + 9, h => by omega
theorem aT8 (s r : St) : ∀ j, j < 8 → gw (uW s r j) j = gw s.l j
 | 0, _ => rfl | 1, _ => rfl | 2, _ => rfl | 3, _ => rfl | 4, _ => rfl | 5, _ => rfl | 6, _ => rfl | 7, _ => rfl
 | j + 8, h => by omega
theorem yA (s r : St) : ∀ j, j < 8 → (uW s r j).set j (gw s.l j + gw r.l j) = uW s r (j + 1)
 | 0, _ => rfl | 1, _ => rfl | 2, _ => rfl | 3, _ => rfl | 4, _ => rfl | 5, _ => rfl | 6, _ => rfl | 7, _ => rfl
 | j + 8, h => by omega
@[simp] theorem cC3 (s r : St) : uW s r 0 = s.l := rfl
theorem aT9 {α : Type} (f : Nat → α) (l : List α) : ∀ n, n ≤ l.length → itN (fun i l => l.set i (f i)) n l = (List.range n).map f ++ l.drop n
 | 0, _ => by simp [itN]
 | n + 1, h => by
  rw [aG7, aT9 f l n (by omega), List.set_append_right _ _ (by simp), List.drop_eq_getElem_cons (show n < l.length by omega), List.length_map, List.length_range, Nat.sub_self, List.set_cons_zero, List.range_succ, List.map_append]
  simp
end Go.Pl

namespace Go.Pl
open Go Go.Hl

theorem bH4 (p : List UInt8) (n : Nat) (s : St) : blk p (n + 1) s = comp (blk p n s) ((p.drop (64 * n)).take 64) := rfl
theorem jZ (n : Nat) : (uC n).length = 8 := by simp [uC]
theorem sY (b : List UInt8) : (pad b).length = b.length + 1 + zs b.length + 8 := by simp [pad, jZ]; omega
theorem bP9 (b : List UInt8) : (pad b).length % 64 = 0 := by
 rw [sY]; unfold zs; omega
theorem bQ0 {b : List UInt8} {j : Nat} (h : 64 * (j + 1) ≤ b.length) : ((pad b).drop (64 * j)).take 64 = (b.drop (64 * j)).take 64 := by
 unfold pad
 rw [List.append_assoc, List.append_assoc, List.drop_append_of_le_length (by omega), List.take_append_of_le_length (by rw [List.length_drop]; omega)]
def aI1 (b : List UInt8) (j : Nat) : List UInt8 := b.drop (64 * j) ++ [0x80] ++ List.replicate (zs b.length) 0
theorem aI2 {b : List UInt8} {j : Nat} (h : 64 * j ≤ b.length) : (pad b).drop (64 * j) = aI1 b j ++ uC b.length := by
 unfold pad aI1
 rw [List.append_assoc, List.append_assoc, List.drop_append_of_le_length h]
 simp
def lastM (b : List UInt8) (j : Nat) : Nat := if b.length - 64 * j < 56 then 64 else 128
section
variable {b : List UInt8} {j : Nat} (h0 : 64 * j ≤ b.length) (h1 : b.length < 64 * j + 64)
include h0 h1
theorem pJ : (aI1 b j).length + 8 = lastM b j := by
 simp only [aI1, lastM, List.length_append, List.length_drop, List.length_singleton, List.length_replicate]
 unfold zs
 split <;> omega
theorem uX : (pad b).length = 64 * j + lastM b j := by
 have e := congrArg List.length (aI2 h0)
 rw [List.length_drop, List.length_append, jZ, pJ h0 h1] at e
 have : 64 * j ≤ (pad b).length := by rw [sY]; omega
 omega
theorem cF9 : ((b.drop (64 * j) ++ (uz 128).drop (b.length - 64 * j)).set (b.length - 64 * j) 0x80) = aI1 b j ++ (List.replicate 8 0 ++ List.replicate (128 - lastM b j) 0) := by
 have hl : (b.drop (64 * j)).length = b.length - 64 * j := List.length_drop
 have e : (uz 128).drop (b.length - 64 * j) = 0 :: List.replicate (127 - (b.length - 64 * j)) 0 := by
  unfold uz
  rw [List.drop_replicate, ← List.replicate_succ]
  congr 1; omega
 rw [List.set_append_right _ _ (by omega), hl, Nat.sub_self, e, List.set_cons_zero, List.replicate_append_replicate]
 have e2 : 127 - (b.length - 64 * j) = zs b.length + (8 + (128 - lastM b j)) := by
  unfold zs lastM; split <;> omega
 rw [e2, ← List.replicate_append_replicate, ← List.replicate_append_replicate]
 simp only [aI1, List.append_assoc, List.singleton_append, List.cons_append, List.nil_append, List.replicate_append_replicate]
end
def aO5 (n i : Nat) : List UInt8 := (List.range 8).map fun q => if 7 - q < i then UInt8.ofNat (8 * n / 2 ^ (8 * (7 - q))) else 0
theorem aY9 (n : Nat) : List.replicate 8 0 = aO5 n 0 := rfl
theorem aZ0 (n : Nat) : ∀ i, i < 8 → (aO5 n i).set (7 - i) (UInt8.ofNat (8 * n / 2 ^ (8 * i))) = aO5 n (i + 1)
 | 0, _ => rfl | 1, _ => rfl | 2, _ => rfl | 3, _ => rfl | 4, _ => rfl | 5, _ => rfl | 6, _ => rfl | 7, _ => rfl
 | j + 8, h => by omega
theorem bH5 (n : Nat) : aO5 n 8 = uC n := rfl
theorem aI3 (n i : Nat) : (aO5 n i).length = 8 := by simp [aO5]
def nJ (b : List UInt8) (j i : Nat) : List UInt8 := aI1 b j ++ (aO5 b.length i ++ List.replicate (128 - lastM b j) 0)
section
variable {b : List UInt8} {j : Nat} (h0 : 64 * j ≤ b.length) (h1 : b.length < 64 * j + 64)
include h0 h1
theorem aZ1 : ((b.drop (64 * j) ++ (uz 128).drop (b.length - 64 * j)).set (b.length - 64 * j) 0x80) = nJ b j 0 := by rw [cF9 h0 h1, aY9 b.length]; rfl
theorem bH6 (i : Nat) : (nJ b j i).length = 128 := by
 have := pJ h0 h1
 simp only [nJ, List.length_append, aI3, List.length_replicate]
 have : lastM b j ≤ 128 := by unfold lastM; split <;> omega
 omega
theorem aZ2 {i : Nat} (hi : i < 8) : (nJ b j i).set (lastM b j - 1 - i) (UInt8.ofNat (8 * b.length / 2 ^ (8 * i))) = nJ b j (i + 1) := by
 have hp := pJ h0 h1
 unfold nJ
 rw [List.set_append_right _ _ (by omega), List.set_append_left _ _ (by rw [aI3]; omega)]
 have : lastM b j - 1 - i - (aI1 b j).length = 7 - i := by omega
 rw [this, aZ0 _ _ hi]
theorem bH7 {q : Nat} (hq : 64 * (q + 1) ≤ lastM b j) : ((nJ b j 8).drop (64 * q)).take 64 = ((pad b).drop (64 * (j + q))).take 64 := by
 have hp := pJ h0 h1
 have e : (nJ b j 8) = (pad b).drop (64 * j) ++ List.replicate (128 - lastM b j) 0 := by rw [aI2 h0]; unfold nJ; rw [bH5]; simp
 have hl : ((pad b).drop (64 * j)).length = lastM b j := by rw [List.length_drop, uX h0 h1]; omega
 rw [e, List.drop_append_of_le_length (by omega), List.take_append_of_le_length (by rw [List.length_drop]; omega), List.drop_drop]
 congr 2; omega
end
theorem bQ1 {r : List UInt8} {n : Nat} (h : r.length ≤ n) : aW4 ((uz n).map u8) ((r.map u8).take n) 0 = (r ++ (uz n).drop r.length).map u8 := by
 have e : (r.map u8).take n = r.map u8 := List.take_of_length_le (by rw [List.length_map]; exact h)
 simp [aW4, e]
@[simp] theorem cF6 (l : List UInt8) : CV.agg (l.map u8) = us l := rfl
theorem aI4 (v i : Nat) (h : 8 * i ≤ 64) : IntKind.u8.wrap (Int.fdiv (v : Int) (2 ^ (min (8 * i) IntKind.u64.bits))) = ((UInt8.ofNat (v / 2 ^ (8 * i))).toNat : Int) := by
 have : min (8 * i) IntKind.u64.bits = 8 * i := Nat.min_eq_left h
 rw [this, Int.fdiv_eq_ediv_of_nonneg _ (Int.pow_nonneg (by omega))]
 have e : (v : Int) / 2 ^ (8 * i) = ((v / 2 ^ (8 * i) : Nat) : Int) := by norm_cast
 rw [e, IntKind.wrap_u8, UInt8.toNat_ofNat']
 omega
def ob8 (s : St) (i : Nat) : UInt8 := UInt8.ofNat ((gw s.l (i / 4)) >>> (24 - 8 * (i % 4))).toNat
def aB9 (s : St) (n : Nat) : List UInt8 := itN (fun i l => l.set i (ob8 s i)) n (uz 32)
@[simp] theorem cC4 (s : St) : aB9 s 0 = uz 32 := rfl
theorem aI5 (s : St) (n : Nat) : (aB9 s n).length = 32 := by unfold aB9; rw [sV (fun i l => by simp)]; simp [uz]
theorem aI6 (s : St) : aB9 s 32 = bF1 s := by
 unfold aB9
 rw [aT9 _ _ _ (by simp [uz])]
 simp [uz, bF1, ob8]
theorem aZ3 {n i : Nat} (h : i < 8) : (uC n).take (i + 1) = (uC n).take i ++ [UInt8.ofNat (8 * n / 2 ^ (8 * (7 - i)))] := by
 rw [List.take_succ_eq_append_getElem (by rw [jZ]; exact h)]
 simp [uC]
theorem bZ4 {b : List UInt8} : b ++ [0x80] ++ List.replicate (zs b.length) 0 ++ (uC b.length).take 8 = pad b := by
 rw [List.take_of_length_le (by rw [jZ]; exact Nat.le_refl _)]; rfl
theorem gR (h : iM) : (h.1.map u8).take 16 = h.1.map u8 := List.take_of_length_le (by rw [List.length_map, h.2]; exact Nat.le_refl _)
theorem aU0 (b : List UInt8) : us (bF1 (blk (pad b) ((pad b).length / 64) St0)) = dg (sha b) := rfl
end Go.Pl

namespace Go.Pl
open Go Go.Hl

theorem aU1 {l : List Ky} {k : Ky} {i : Nat} (hi : i ≤ l.length) (h0 : ∀ x ∈ l.take i, dlt (kid x) (kid k) = true) (h1 : ∀ h : i < l.length, dlt (kid l[i]) (kid k) = false) : l.take i ++ k :: l.drop i = uP l k := by
 have key : ∀ (l : List Ky) (i : Nat), i ≤ l.length → (∀ x ∈ l.take i, dlt (kid x) (kid k) = true) → (∀ h : i < l.length, dlt (kid l[i]) (kid k) = false) → (l.takeWhile fun x => dlt (kid x) (kid k)) = l.take i ∧ (l.dropWhile fun x => dlt (kid x) (kid k)) = l.drop i := by
  intro l
  induction l with
  | nil => intro i hi _ _; simp at hi; subst hi; exact ⟨rfl, rfl⟩
  | cons a l ih =>
   intro i hi h0 h1
   cases i with
   | zero =>
    have := h1 (by simp)
    simp only [List.getElem_cons_zero] at this
    simp [List.takeWhile_cons, List.dropWhile_cons, this]
   | succ i =>
    have ha := h0 a (by simp)
    obtain ⟨e1, e2⟩ := ih i (by simpa using hi) (fun x hx => h0 x (by simp [hx])) (fun h => h1 (by simpa using h))
    simp [List.takeWhile_cons, List.dropWhile_cons, ha, e1, e2]
 obtain ⟨e1, e2⟩ := key l i hi h0 h1
 unfold uP
 rw [e1, e2]
theorem aI7 (l : List Ky) (k : Ky) : (uP l k).length = l.length + 1 := by
 unfold uP
 have := congrArg List.length (List.takeWhile_append_dropWhile (p := fun x => dlt (kid x) (kid k)) (l := l))
 simp only [List.length_append, List.length_cons] at this ⊢
 omega
theorem aI8 {l : List Ky} {k x : Ky} (h : x ∈ uP l k) : x ∈ l ∨ x = k := by
 unfold uP at h
 simp only [List.mem_append, List.mem_cons] at h
 rcases h with h | h | h
 ·
  exact .inl ((List.takeWhile_sublist _).subset h)
 ·
  exact .inr h
 ·
  exact .inl ((List.dropWhile_sublist _).subset h)
theorem bZ5 (n : Nat) : IntKind.u8.wrap (n : Int) = ((UInt8.ofNat n).toNat : Int) := by
 rw [IntKind.wrap_u8, UInt8.toNat_ofNat']; omega
theorem aO6 {n bytes : Nat} {d : TyD} {a b : Operand} {e : Operand → HV} {K : HV → Prop} (x y : UInt8) (ha : e a = .c (.int .u8 (x.toNat : Int))) (hb : e b = .c (.int .u8 (y.toNat : Int))) : cP ⟨n, bytes, d, hf zh⟩ [(0, a), (1, b)] e K = K (.c (hf ⟨[x, y] ++ List.replicate 14 0, by simp⟩)) := by
 have e1 : hfill e [(0, a), (1, b)] (((List.replicate 16 (0 : UInt8)).map u8).map .c) = some ((([x, y] ++ List.replicate 14 0).map u8).map .c) := by
  simp only [hfill, ha, hb]
  rfl
 simp only [cP, hf, zh, e1, hlift_some]
 rw [sU]
theorem qV {n bytes : Nat} {d : TyD} {a b : Operand} {e : Operand → HV} {K : HV → Prop} (h : Int) (r : iM) (ha : e a = .c (.int .i64 h)) (hb : e b = .c (hf r)) : cP ⟨n, bytes, d, Pk.cv ⟨0, zh⟩⟩ [(0, a), (1, b)] e K = K (.c (Pk.cv ⟨h, r⟩)) := by
 have e1 : hfill e [(0, a), (1, b)] ([CV.int .i64 0, hf zh].map .c) = some [.c (.int .i64 h), .c (hf r)] := by
  simp [hfill, ha, hb, HV.sto, HV.cells, CV.cells, hf_cells]
 simp only [cP, Pk.cv, e1, hlift_some]
 rfl
theorem qW {n bytes : Nat} {d : TyD} {a b : Operand} {e : Operand → HV} {K : HV → Prop} (w : aK) (k : Int) (ha : e a = .c (.str w)) (hb : e b = .c (.int .i64 k)) : cP ⟨n, bytes, d, Qt.cv ⟨[], 0⟩⟩ [(0, a), (1, b)] e K = K (.c (Qt.cv ⟨w, k⟩)) := by
 have e1 : hfill e [(0, a), (1, b)] ([CV.str [], CV.int .i64 0].map .c) = some [.c (.str w), .c (.int .i64 k)] := by
  simp [hfill, ha, hb, HV.sto, HV.cells, CV.cells]
 simp only [cP, Qt.cv, e1, hlift_some]
 rfl
theorem uY {l : List Ky} : (∀ v ∈ l.map Ky.cv, v.cells = 21) ↔ True := iff_true_intro fun v h => by obtain ⟨d, _, rfl⟩ := List.mem_map.1 h; exact Ky.cells d
theorem bH8 {l : List Rv} : (∀ v ∈ l.map Rv.cv, v.cells = 33) ↔ True := iff_true_intro fun v h => by obtain ⟨d, _, rfl⟩ := List.mem_map.1 h; exact Rv.cells d
theorem bH9 {l : List Qt} : (∀ v ∈ l.map Qt.cv, v.cells = 2) ↔ True := iff_true_intro fun v h => by obtain ⟨d, _, rfl⟩ := List.mem_map.1 h; exact Qt.cells d
theorem mB : ∀ w ∈ roles10, w.length ≤ 20 := by decide
theorem aC0 : ∀ w ∈ owners4, w.length ≤ 20 := by decide
theorem aO7 (i : Nat) : kW i ∈ owners4 := by
 unfold kW
 have : i % 4 < 4 := Nat.mod_lt _ (by omega)
 rw [List.getD_eq_getElem?_getD, List.getElem?_eq_getElem (show i % 4 < owners4.length from this)]
 exact List.getElem_mem _
theorem bI0 : uO ∈ roles10 := by decide
end Go.Pl

namespace Go.Pl
open Go Go.Hl

def zR : CV := .agg [.int .i64 0, .int .i64 0, .nils, .nils, .nils]
def kOk (k : Ky) : Prop := kSz k ∧ k.o ∈ owners4
def rOk (r : Rt) : Prop := rSz r ∧ ∀ k ∈ r.k, k.o ∈ owners4
theorem aU2 (i : Nat) (ws : List aK) (a b : Int) (hl : ws.length ≤ 11) (hm : ∀ w ∈ ws, w ∈ roles10) : kOk ⟨aH4 i, kW i, ws, a, b⟩ := by
 have ho := aO7 i
 refine ⟨⟨?_, by show ws.length < _; omega, fun w hw => ?_⟩, ho⟩
 ·
  have := aC0 _ ho
  show (kW i).length < _
  omega
 ·
  have := mB _ (hm w hw)
  omega
def qz (i : Nat) : List Qt := (roles10.take i).map fun w => ⟨w, 1⟩
theorem bQ2 {i : Nat} (h : i < roles10.length) : qz (i + 1) = qz i ++ [⟨roles10[i], 1⟩] := by
 unfold qz; rw [List.take_succ_eq_append_getElem h, List.map_append]; rfl
theorem bI1 {i : Nat} (h : i ≤ 10) : (qz i).length = i := by
 unfold qz
 rw [List.length_map, List.length_take, show roles10.length = 10 from rfl]; omega
theorem bI2 : qz 10 = full.q := rfl
def kz (i : Nat) : List Ky := (List.range i).foldl (fun l i => uP l (bP4 i)) []
theorem aC1 (i : Nat) : kz (i + 1) = uP (kz i) (bP4 i) := by unfold kz; rw [List.range_succ, List.foldl_append]; rfl
theorem aO8 : ∀ i, (kz i).length = i
 | 0 => rfl
 | i + 1 => by rw [aC1, aI7, aO8 i]
theorem bW2 : ∀ i, ∀ k ∈ kz i, kOk k
 | 0, k, h => by simp [kz] at h
 | i + 1, k, h => by
  rw [aC1] at h
  rcases aI8 h with h | rfl
  ·
   exact bW2 i k h
  ·
   exact aU2 i roles10 0 eD (by decide) (fun w hw => hw)
theorem aO9 : kz 5 = full.k := rfl
theorem sZ (v : Int) : rOk ⟨v, full.e, full.q, full.k, full.x⟩ := by
 have hk := bW2 5
 rw [aO9] at hk
 refine ⟨⟨⟨by rw [← bI2, bI1 (by omega)]; omega, fun q hq => ?_⟩, ⟨by show full.k.length < _; rw [← aO9, aO8]; omega, fun k h => (hk k h).1⟩, by show (0 : Nat) < 2 ^ 40; omega⟩, fun k h => (hk k h).2⟩
 have : q ∈ roles10.map fun w => (⟨w, 1⟩ : Qt) := hq
 obtain ⟨w, hw, rfl⟩ := List.mem_map.1 this
 have := mB w hw
 show w.length < _
 omega
theorem aP0 {v e : Int} {qs : List Qt} {ks : List Ky} {xs : List Rv} (hq : qs.length ≤ 10) (hqr : ∀ q ∈ qs, q.r ∈ roles10) (hk : ks.length ≤ 6) (hkk : ∀ k ∈ ks, kOk k) (hx : xs.length ≤ 1) : rOk ⟨v, e, qs, ks, xs⟩ := by
 refine ⟨⟨⟨by show qs.length < _; omega, fun q h => ?_⟩, ⟨by show ks.length < _; omega, fun k h => (hkk k h).1⟩, by show xs.length < _; omega⟩, fun k h => (hkk k h).2⟩
 have := mB _ (hqr q h)
 omega
end Go.Pl

namespace Go.Hl
open Go Go.RowKit Go.Sort Go.Proofs

end Go.Hl

namespace Go.Pl
open Go Go.Hl

def k0 : Ky := ⟨⟨0, zh⟩, [], [], 0, 0⟩
theorem aI9 : ∀ {l : List aK}, oV l = true → Asc l
 | [], _ => List.Pairwise.nil
 | [a], _ => by simp [Asc]
 | a :: b :: l, h => by
  simp only [oV, Bool.and_eq_true] at h
  have ih := aI9 h.2
  have hab := aB7.1 h.1
  refine List.pairwise_cons.2 ⟨fun w hw => ?_, ih⟩
  rcases List.mem_cons.1 hw with rfl | hw
  ·
   exact hab
  ·
   exact List.lt_trans hab ((List.pairwise_cons.1 ih).1 w hw)
theorem aC2 {v : Int} (h1 : 1 ≤ v) (h2 : v ≤ eD) : bQ ⟨v, full.e, full.q, full.k, full.x⟩ = true := by
 have h := uQ
 unfold bQ at h ⊢
 simp only [Bool.and_eq_true, decide_eq_true_eq] at h ⊢
 exact ⟨⟨h1, h2⟩, h.2⟩
end Go.Pl

namespace Go.Pl
open Go Go.Hl

def rMid (r : Rt) : Prop := (r.q.length ≤ 12 ∧ ∀ q ∈ r.q, q.r.length ≤ 300) ∧ (r.k.length ≤ 32 ∧ ∀ k ∈ r.k, k.o.length ≤ 300 ∧ k.rs.length ≤ 30 ∧ ∀ w ∈ k.rs, w.length ≤ 300) ∧ r.x.length ≤ 65
theorem rMid.sz {r : Rt} (h : rMid r) : rSz r := by
 obtain ⟨⟨h1, h2⟩, ⟨h3, h4⟩, h5⟩ := h
 refine ⟨⟨by omega, fun q hq => by have := h2 q hq; omega⟩, ⟨by omega, fun k hk => ?_⟩, by omega⟩
 obtain ⟨k1, k2, k3⟩ := h4 k hk
 exact ⟨by omega, by omega, fun w hw => by have := k3 w hw; omega⟩
theorem uZ {α : Type} {l : List α} {i : Nat} {x y : α} (h : y ∈ l.set i x) : y ∈ l ∨ y = x := by
 rcases List.mem_or_eq_of_mem_set h with h | h
 ·
  exact .inl h
 ·
  exact .inr h
theorem rMid.setK {r : Rt} (h : rMid r) (i : Nat) (k' : Ky) (h1 : k'.o.length ≤ 300) (h2 : k'.rs.length ≤ 30) (h3 : ∀ w ∈ k'.rs, w.length ≤ 300) : rMid ⟨r.v, r.e, r.q, r.k.set i k', r.x⟩ := by
 refine ⟨h.1, ⟨by show (r.k.set i k').length ≤ 32; rw [List.length_set]; exact h.2.1.1, fun k hk => ?_⟩, h.2.2⟩
 rcases uZ hk with hk | rfl
 ·
  exact h.2.1.2 k hk
 ·
  exact ⟨h1, h2, h3⟩
theorem rMid.setQ {r : Rt} (h : rMid r) (i : Nat) (q' : Qt) (h1 : q'.r.length ≤ 300) : rMid ⟨r.v, r.e, r.q.set i q', r.k, r.x⟩ := by
 refine ⟨⟨by show (r.q.set i q').length ≤ 12; rw [List.length_set]; exact h.1.1, fun q hq => ?_⟩, h.2.1, h.2.2⟩
 rcases uZ hq with hq | rfl
 ·
  exact h.1.2 q hq
 ·
  exact h1
theorem Ky.set_ph (x : Ky) (y : HV) : CV.setAt 0 1 y x.cv = some (.agg [.agg [y, .c (hf x.p.r)], .c (.str x.o), .c (.slc (x.rs.map .str)), .c (.int .i64 x.fr), .c (.int .i64 x.un)]) := by
 simp [Ky.cv, Pk.cv, CV.setAt, CV.setAtL, CV.cells, CV.cellsL, hf_cells]
end Go.Pl

namespace Go.Pl
open Go Go.Hl

def mC (k : Ky) : Bool := decide (k.rs.length ≤ 30) && decide (k.o.length ≤ 300)
def iZ (r : Rt) : Bool := decide (r.q.length ≤ 30) && (decide (r.k.length ≤ 50) && (decide (r.x.length ≤ 100) && r.k.all mC))
theorem pK (a b : Nat) : decide (a ≤ b) = !decide ((b : Int) < a) := by rw [Bool.eq_iff_iff]; simp
theorem kZ (r : Rt) : iZ r = (!decide ((30 : Int) < r.q.length) && (!decide ((50 : Int) < r.k.length) && (!decide ((100 : Int) < r.x.length) && r.k.all mC))) := by
 unfold iZ; rw [pK, pK, pK]; rfl
theorem mD (k : Ky) : mC k = (!decide ((30 : Int) < k.rs.length) && !decide ((300 : Int) < k.o.length)) := by
 unfold mC; rw [pK, pK]; rfl
theorem yB {r : Rt} {i : Nat} (hi : i < r.k.length) (h : mC r.k[i] = false) : iZ r = false := by
 unfold iZ
 have : r.k.all mC = false := List.all_eq_false.2 ⟨_, List.getElem_mem hi, by rw [h]; simp⟩
 rw [this]; simp
def bQ3 (r : Rt) : Prop := (r.q.length ≤ maxLen ∧ ∀ q ∈ r.q, q.r.length ≤ maxLen) ∧ (r.k.length ≤ maxLen ∧ ∀ k ∈ r.k, k.o.length ≤ maxLen ∧ k.rs.length ≤ maxLen ∧ ∀ w ∈ k.rs, w.length ≤ maxLen) ∧ r.x.length ≤ maxLen
theorem bI3 {r : Rt} (h : bQ3 r) (hl : iZ r = true) : rSz r := by
 unfold iZ at hl
 simp only [Bool.and_eq_true, decide_eq_true_eq, List.all_eq_true] at hl
 obtain ⟨h1, h2, h3, h4⟩ := hl
 simp only [mC, Bool.and_eq_true, decide_eq_true_eq] at h4
 have e : maxLen = 9223372036854775807 := rfl
 refine ⟨⟨by omega, fun q hq => ?_⟩, ⟨by omega, fun k hk => ?_⟩, by omega⟩
 ·
  have := h.1.2 q hq; omega
 ·
  obtain ⟨k1, k2⟩ := h4 k hk
  exact ⟨by omega, by omega, fun w hw => by have := (h.2.1.2 k hk).2.2 w hw; omega⟩
theorem mE {w : aK} (h : dV w = true) : w.length ≤ 64 := by
 cases w with
 | nil => simp
 | cons c s =>
  unfold dV at h
  simp only [Bool.and_eq_true, decide_eq_true_eq] at h
  exact h.1
theorem jA {r : Rt} (h : bQ r = true) : rMid r ∧ 0 < r.k.length ∧ 0 < r.q.length ∧ r.x.length ≤ 64 := by
 unfold bQ eJ lG gO at h
 simp only [Bool.and_eq_true, decide_eq_true_eq, List.all_eq_true] at h
 obtain ⟨-, -, ⟨hq1, -, hq2⟩, ⟨hk1, -, hk2⟩, ⟨-, -, hx⟩, hn1, hn2⟩ := h
 refine ⟨⟨⟨hq2, fun q hq => ?_⟩, ⟨hk2, fun k hk => ?_⟩, by omega⟩, ?_, ?_, hx⟩
 ·
  have := hq1 q hq
  unfold kU at this
  simp only [Bool.and_eq_true] at this
  have := mE this.1
  omega
 ·
  have := hk1 k hk
  unfold uH kT at this
  simp only [Bool.and_eq_true, decide_eq_true_eq, List.all_eq_true] at this
  obtain ⟨-, h1, ⟨-, h2⟩, ⟨h3, -⟩, -⟩ := this
  have := mE h1
  exact ⟨by omega, by omega, fun w hw => by have := mE (h3 w hw); omega⟩
 ·
  rcases Nat.eq_zero_or_pos r.k.length with e | e
  ·
   have e2 : r.k = [] := List.length_eq_zero_iff.1 e
   rw [e2] at hn2
   simp [wM, gH, lZ] at hn2
   omega
  ·
   exact e
 ·
  rcases Nat.eq_zero_or_pos r.q.length with e | e
  ·
   have e2 : r.q = [] := List.length_eq_zero_iff.1 e
   rw [e2] at hn1
   simp [pC] at hn1
  ·
   exact e

theorem aJ0 {l : List Rt} : (∀ v ∈ l.map Rt.cv, v.cells = 5) ↔ True := iff_true_intro fun v h => by obtain ⟨d, _, rfl⟩ := List.mem_map.1 h; exact Rt.cells d

def bI4 (r : Rt) (d : Dig) (t : Int) : Bool := match uI r.k d with | some k => rY r k t | none => false
theorem aZ4 {l : List Ky} {d : Dig} {k : Ky} (h : uI l d = some k) : kid k = d ∧ k ∈ l := by
 unfold uI at h
 have h1 := List.find?_some (p := fun k => kid k == d) h
 exact ⟨eq_of_beq h1, List.mem_of_find?_eq_some h⟩
theorem aP1 (r : Rt) (d : Dig) (t : Int) : bI4 r d t = ((uI r.k d).isSome && (decide (((uI r.k d).getD k0).fr ≤ t) && (decide (t < ((uI r.k d).getD k0).un) && (decide (t < r.e) && !(sQ r.x d && decide (qS r.x d ≤ t)))))) := by
 unfold bI4
 cases h : uI r.k d with
 | none => rfl
 | some k =>
  obtain ⟨rfl, -⟩ := aZ4 h
  simp only [Option.getD_some, Option.isSome_some, Bool.true_and, gA]
  rfl
def aU3 (r : Rt) (d : Dig) (t : Int) : Bool := bQ r && bI4 r d t
def aZ5 (x y : Pk) : Bool := x.h == y.h && x.r.1 == y.r.1
theorem aZ6 (x : Pk) : aZ5 x x = true := by simp [aZ5]
theorem bZ6 (x y : Pk) : CV.eqv x.cv y.cv = aZ5 x y := by
 have e : CV.eqvL (x.r.1.map u8) (y.r.1.map u8) = (x.r.1 == y.r.1) := mV x.r.1 y.r.1
 simp only [Pk.cv, hf, CV.eqv, CV.eqvL, e, aZ5, Bool.and_true]
theorem aU4 {P : Program} {n : Nat} {t ti tr e : TypeId} {z z1 z2 z3 : CV} {s b s1 b1 s2 b2 s3 b3 o1 o2 : Nat} (ht : aP P t = some ⟨s, b, .struct [(o1, ti), (o2, tr)], z⟩) (hi : aP P ti = some ⟨s1, b1, .int .i64, z1⟩) (hr : aP P tr = some ⟨s2, b2, .array 16 e, z2⟩) (he : aP P e = some ⟨s3, b3, .int .u8, z3⟩)
  (ci : P.cellsOf ti = 1) (cr : P.cellsOf tr = 16) (ce : P.cellsOf e = 1) (x : Pk) : CV.ofTy P (n + 3) t x.cv = true := by
 have h1 : (x.r.1.map u8).length = 16 := by rw [List.length_map, x.r.2]
 have h2 : (x.r.1.map u8).all (fun v => v.cells == P.cellsOf e) = true := by
  rw [ce]
  simp only [List.all_map, List.all_eq_true, Function.comp, u8, CV.cells, beq_self_eq_true, implies_true]
 have h3 : CV.ofTyA P (n + 1) e (x.r.1.map u8) = true := uB he x.r.1
 have h4 := hf_cells x.r
 simp only [hf] at h4
 have h5 : CV.ofTy P (n + 2) ti (.int .i64 x.h) = true := by unfold CV.ofTy; rw [hi]; rfl
 have h6 : CV.ofTy P (n + 2) tr (.agg (x.r.1.map u8)) = true := by
  unfold CV.ofTy; rw [hr]
  show (((x.r.1.map u8).length == 16 && (x.r.1.map u8).all (fun v => v.cells == P.cellsOf e)) && CV.ofTyA P (n + 1) e (x.r.1.map u8)) = true
  rw [h1, h2, h3]; rfl
 unfold CV.ofTy; rw [ht]
 show CV.ofTyF P (n + 2) [(o1, ti), (o2, tr)] [.int .i64 x.h, .agg (x.r.1.map u8)] = true
 simp only [CV.ofTyF, h5, h6, ci, cr, CV.cells, beq_self_eq_true, Bool.and_self]
 rw [CV.cells] at h4
 simp [h4]
theorem bQ4 {P : Program} {t ti tr e : TypeId} {z z1 z2 z3 : CV} {s b s1 b1 s2 b2 s3 b3 o1 o2 : Nat} (ha : wZ P t = true) (ht : aP P t = some ⟨s, b, .struct [(o1, ti), (o2, tr)], z⟩) (hi : aP P ti = some ⟨s1, b1, .int .i64, z1⟩) (hr : aP P tr = some ⟨s2, b2, .array 16 e, z2⟩) (he : aP P e = some ⟨s3, b3, .int .u8, z3⟩)
  (ci : P.cellsOf ti = 1) (cr : P.cellsOf tr = 16) (ce : P.cellsOf e = 1) (x y : Pk) (K : CV → Prop) : eV P .eql t (.c x.cv) (.c y.cv) K = K (.bool (aZ5 x y)) := by
 have h1 := aU4 (n := 5) ht hi hr he ci cr ce x
 have h2 := aU4 (n := 5) ht hi hr he ci cr ce y
 have h3 := bZ6 x y
 simp only [Pk.cv] at h1 h2 h3
 simp only [Pk.cv, eV, ha, h1, h2, h3, and_self, true_and]
end Go.Pl

namespace Go.Pl
open Go Go.Hl
set_option linter.unusedSimpArgs false

structure Ak where
 r : aK
 k : List Dig
 t : Int
def Ak.cv (x : Ak) : CV := .agg [.str x.r, .slc (x.k.map dg), .int .i64 x.t]
theorem Ak.cells (x : Ak) : x.cv.cells = 3 := by simp [Ak.cv, CV.cells, CV.cellsL, dg_cells, hf_cells]
theorem Ak.denil (x : Ak) : x.cv.denil = x.cv := by simp only [Ak.cv, CV.denil, CV.denilL, dg_denil, hf_denil, denilL_str, denilL_dg]
theorem Ak.isAgg (x : Ak) : x.cv.isAgg = true := rfl
theorem Ak.getAll (x : Ak) : CV.getAt 0 3 true x.cv = some x.cv := by
 have := Ak.cells x
 simp only [Ak.cv, CV.cells] at this
 simp only [Ak.cv, CV.getAt, this, and_self, if_true]
theorem Ak.setAll (x : Ak) (y : HV) : CV.setAt 0 3 y x.cv = some y := by
 have := Ak.cells x
 simp only [Ak.cv, CV.cells] at this
 simp only [Ak.cv, CV.setAt, this, and_self, if_true]
theorem Ak.fold (r : aK) (k : List Dig) (t : Int) : CV.agg [.str r, .slc (k.map dg), .int .i64 t] = Ak.cv ⟨r, k, t⟩ := rfl
theorem Ak.get_r (x : Ak) : CV.getAt 0 1 false x.cv = some (.str x.r) := by simp [Ak.cv, CV.getAt, CV.getAtL, CV.cells, CV.cellsL, dg_cells, hf_cells]
theorem Ak.set_r (x : Ak) (y : HV) : CV.setAt 0 1 y x.cv = some (.agg [y, .c (.slc (x.k.map dg)), .c (.int .i64 x.t)]) := by simp [Ak.cv, CV.setAt, CV.setAtL, CV.cells, CV.cellsL, dg_cells, hf_cells]
theorem Ak.get_k (x : Ak) : CV.getAt 1 1 false x.cv = some (.slc (x.k.map dg)) := by simp [Ak.cv, CV.getAt, CV.getAtL, CV.cells, CV.cellsL, dg_cells, hf_cells]
theorem Ak.set_k (x : Ak) (y : HV) : CV.setAt 1 1 y x.cv = some (.agg [.c (.str x.r), y, .c (.int .i64 x.t)]) := by simp [Ak.cv, CV.setAt, CV.setAtL, CV.cells, CV.cellsL, dg_cells, hf_cells]
theorem Ak.get_t (x : Ak) : CV.getAt 2 1 false x.cv = some (.int .i64 x.t) := by simp [Ak.cv, CV.getAt, CV.getAtL, CV.cells, CV.cellsL, dg_cells, hf_cells]
theorem Ak.set_t (x : Ak) (y : HV) : CV.setAt 2 1 y x.cv = some (.agg [.c (.str x.r), .c (.slc (x.k.map dg)), y]) := by simp [Ak.cv, CV.setAt, CV.setAtL, CV.cells, CV.cellsL, dg_cells, hf_cells]

end Go.Pl

namespace Go.Proofs.YtenbfeemmpjdhaaGreatDoor
open Go Go.Hl Go.Pl

theorem eQ {α : Type} {f : α → CV} {Q : α → Prop} : ∀ (l : List CV), (∀ x ∈ l, ∃ y, x = f y ∧ Q y) → ∃ m : List α, l = m.map f ∧ ∀ y ∈ m, Q y
 | [], _ => ⟨[], rfl, by simp⟩
 | x :: l, h => by
  obtain ⟨y, rfl, hy⟩ := h x (by simp)
  obtain ⟨m, rfl, hm⟩ := eQ l (fun x hx => h x (by simp [hx]))
  exact ⟨y :: m, rfl, fun z hz => by rcases List.mem_cons.1 hz with rfl | hz; exact hy; exact hm z hz⟩
theorem bQ5 {c : CV} (h : HasTy Tryz.prog 27 c) : ∃ L : List Int, c = .slc (L.map (.int .i64)) ∧ (∀ n ∈ L, (Lit.int .i64 n).wf = true) ∧ L.length ≤ maxLen := by
 obtain ⟨l, rfl, hl, hn⟩ := h.of_slc Tryz.underlying27
 obtain ⟨m, rfl, hm⟩ := eQ (f := CV.int .i64) (Q := fun n => (Lit.int .i64 n).wf = true) l (fun x hx => (hl x hx).of_int Tryz.underlying3)
 exact ⟨m, rfl, hm, by simpa using hn⟩
theorem vA {m : Nat} {l : List CV} (hl : ∀ x ∈ l, HasTy Tryz.prog 5 x) (hn : l.length = m) : ∃ d : { l : List UInt8 // l.length = m }, l = d.1.map u8 := by
 obtain ⟨q, rfl, _⟩ := eQ (f := u8) (Q := fun _ => True) l (fun x hx => by
  obtain ⟨n, rfl, hw⟩ := (hl x hx).of_int Tryz.underlying5
  have hb : 0 ≤ n ∧ n ≤ 255 := by simpa [Lit.wf, IntKind.min, IntKind.max, IntKind.signed, IntKind.bits] using hw
  refine ⟨UInt8.ofNat n.toNat, ?_, trivial⟩
  show CV.int .u8 n = CV.int .u8 _
  congr 1
  have : (UInt8.ofNat n.toNat).toNat = n.toNat := by rw [UInt8.toNat_ofNat']; exact Nat.mod_eq_of_lt (by omega)
  rw [this]; omega)
 exact ⟨⟨q, by simpa using hn⟩, rfl⟩
theorem bZ7 {c : CV} (h : HasTy Tryz.prog 49 c) : ∃ d : Dig, c = dg d := by
 obtain ⟨l, rfl, hl, hn⟩ := h.of_arr Tryz.underlying49
 obtain ⟨d, rfl⟩ := vA hl hn
 exact ⟨d, rfl⟩
theorem bQ6 {c : CV} (h : HasTy Tryz.prog 66 c) : ∃ d : iM, c = hf d := by
 obtain ⟨l, rfl, hl, hn⟩ := h.of_arr Tryz.underlying66
 obtain ⟨d, rfl⟩ := vA hl hn
 exact ⟨d, rfl⟩
theorem bQ7 {c : CV} (h : HasTy Tryz.prog 60 c) : ∃ l : List aK, c = .slc (l.map .str) ∧ (∀ w ∈ l, w.length ≤ maxLen) ∧ l.length ≤ maxLen := by
 obtain ⟨l, rfl, hl, hn⟩ := h.of_slc Tryz.underlying60
 obtain ⟨m, rfl, hm⟩ := eQ (f := CV.str) (Q := fun w => w.length ≤ maxLen) l (fun x hx => (hl x hx).of_str Tryz.underlying9)
 exact ⟨m, rfl, hm, by simpa using hn⟩
theorem aZ7 {c : CV} (h : HasTy Tryz.prog 68 c) : ∃ x : Pk, c = x.cv := by
 obtain ⟨l, rfl, hn, hl⟩ := h.of_struct Tryz.underlying68
 match l, hn, hl with
 | [a, b], _, hl =>
  obtain ⟨n, rfl, _⟩ := (hl 0 _ a rfl rfl).of_int Tryz.underlying3
  obtain ⟨r, rfl⟩ := bQ6 (hl 1 _ b rfl rfl)
  exact ⟨⟨n, r⟩, rfl⟩
theorem bI5 {c : CV} (h : HasTy Tryz.prog 64 c) : ∃ x : Qt, c = x.cv ∧ x.r.length ≤ maxLen := by
 obtain ⟨l, rfl, hn, hl⟩ := h.of_struct Tryz.underlying64
 match l, hn, hl with
 | [a, b], _, hl =>
  obtain ⟨w, rfl, hw⟩ := (hl 0 _ a rfl rfl).of_str Tryz.underlying9
  obtain ⟨n, rfl, _⟩ := (hl 1 _ b rfl rfl).of_int Tryz.underlying3
  exact ⟨⟨w, n⟩, rfl, hw⟩
theorem bZ8 {c : CV} (h : HasTy Tryz.prog 51 c) : ∃ x : Rv, c = x.cv := by
 obtain ⟨l, rfl, hn, hl⟩ := h.of_struct Tryz.underlying51
 match l, hn, hl with
 | [a, b], _, hl =>
  obtain ⟨d, rfl⟩ := bZ7 (hl 0 _ a rfl rfl)
  obtain ⟨n, rfl, _⟩ := (hl 1 _ b rfl rfl).of_int Tryz.underlying2
  exact ⟨⟨d, n⟩, rfl⟩
theorem bZ9 {c : CV} (h : HasTy Tryz.prog 70 c) : ∃ x : Ky, c = x.cv ∧ x.o.length ≤ maxLen ∧ x.rs.length ≤ maxLen ∧ ∀ w ∈ x.rs, w.length ≤ maxLen := by
 obtain ⟨l, rfl, hn, hl⟩ := h.of_struct Tryz.underlying70
 match l, hn, hl with
 | [a, b, c, d, e], _, hl =>
  obtain ⟨p, rfl⟩ := aZ7 (hl 0 _ a rfl rfl)
  obtain ⟨o, rfl, ho⟩ := (hl 1 _ b rfl rfl).of_str Tryz.underlying9
  obtain ⟨rs, rfl, h1, h2⟩ := bQ7 (hl 2 _ c rfl rfl)
  obtain ⟨x, rfl, _⟩ := (hl 3 _ d rfl rfl).of_int Tryz.underlying2
  obtain ⟨y, rfl, _⟩ := (hl 4 _ e rfl rfl).of_int Tryz.underlying2
  exact ⟨⟨p, o, rs, x, y⟩, rfl, ho, h2, h1⟩
theorem bQ8 {c : CV} (h : HasTy Tryz.prog 26 c) : ∃ r : Rt, c = r.cv ∧ bQ3 r := by
 obtain ⟨l, rfl, hn, hl⟩ := h.of_struct Tryz.underlying26
 match l, hn, hl with
 | [a, b, c, d, e], _, hl =>
  obtain ⟨v, rfl, _⟩ := (hl 0 _ a rfl rfl).of_int Tryz.underlying2
  obtain ⟨x, rfl, _⟩ := (hl 1 _ b rfl rfl).of_int Tryz.underlying2
  obtain ⟨q, rfl, hq, n1⟩ := (hl 2 _ c rfl rfl).of_slc Tryz.underlying22
  obtain ⟨k, rfl, hk, n2⟩ := (hl 3 _ d rfl rfl).of_slc Tryz.underlying23
  obtain ⟨z, rfl, hz, n3⟩ := (hl 4 _ e rfl rfl).of_slc Tryz.underlying24
  obtain ⟨q, rfl, hq2⟩ := eQ (f := Qt.cv) (Q := fun x => x.r.length ≤ maxLen) q (fun x hx => bI5 (hq x hx))
  obtain ⟨k, rfl, hk2⟩ := eQ (f := Ky.cv) (Q := fun x => x.o.length ≤ maxLen ∧ x.rs.length ≤ maxLen ∧ ∀ w ∈ x.rs, w.length ≤ maxLen) k (fun x hx => bZ9 (hk x hx))
  obtain ⟨z, rfl, _⟩ := eQ (f := Rv.cv) (Q := fun _ => True) z (fun x hx => by obtain ⟨d, rfl⟩ := bZ8 (hz x hx); exact ⟨d, rfl, trivial⟩)
  exact ⟨⟨v, x, q, k, z⟩, rfl, ⟨by simpa using n1, hq2⟩, ⟨by simpa using n2, hk2⟩, by simpa using n3⟩
theorem own : ownKnob Tryz.prog.godebug = none := by kernel_rfl
theorem cG0 : Kids Tryz.prog (· < Tryz.prog.types.size) := kids_rows (by kernel_rfl) (by kernel_rfl)
theorem aP2 : ∀ t e, t < Tryz.prog.types.size → Tryz.prog.underlying t = some (.slice e) → 0 < Tryz.prog.cellsOf e := slices_full_of Tryz.prog (by kernel_rfl)
end Go.Proofs.YtenbfeemmpjdhaaGreatDoor
