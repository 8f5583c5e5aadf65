/- Part of a proof: walks of functions of the program, by contracts, and the rules they use. By an AI agent. -/
import Derived.Test.YtenbfeemmpjdhaaGreatDoorPl11m
import Derived.Sort.Grow
import Derived.Sort.EncStr
import Derived.Test.YtenbfeemmpjdhaaGreatDoorHySb
import Derived.Test.YtenbfeemmpjdhaaGreatDoorRows
set_option linter.unusedSimpArgs false
set_option linter.unusedVariables false
set_option linter.defProp false
namespace Go.Pl
open Go Go.Hl

theorem eU (l : List W32) : (ws l).denil = ws l := by simp only [ws, CV.denil]; rw [cF (f := w32) (fun _ => rfl)]
theorem uG (l : List UInt8) : (us l).denil = us l := by simp only [us, CV.denil]; rw [cF (f := u8) (fun _ => rfl)]
theorem cL (l : List W32) : (ws l).isAgg = true := rfl
theorem iW {l : List W32} {n : Nat} (h : l.length = n) : CV.getAt 0 n true (ws l) = some (ws l) := by
 have := ws_cells l
 simp only [ws, CV.cells] at this
 simp only [ws, CV.getAt, this, h, and_self, if_true]
theorem qK {l : List UInt8} {n : Nat} (h : l.length = n) : CV.getAt 0 n true (us l) = some (us l) := by
 have := us_cells l
 simp only [us, CV.cells] at this
 simp only [us, CV.getAt, this, h, and_self, if_true]
theorem cO {l : List W32} {n : Nat} (h : l.length = n) (x : HV) : CV.setAt 0 n x (ws l) = some x := by
 have := ws_cells l
 simp only [ws, CV.cells] at this
 simp only [ws, CV.setAt, this, h, and_self, if_true]
theorem dE {l : List W32} {i : Nat} (h : i < l.length) : CV.getAt i 1 false (ws l) = some (.int .u32 ((gw l i).toNat : Int)) := by rw [bW4 h, cB1 h]; rfl
theorem nD {l : List W32} {i : Nat} (y : W32) (h : i < l.length) (h2 : l.length ≠ 1) : CV.setAt i 1 (.c (.int .u32 (y.toNat : Int))) (ws l) = some (.agg (((l.set i y).map w32).map .c)) := bW5 y h h2
theorem nE {l : List UInt8} {i : Nat} (y : UInt8) (h : i < l.length) (h2 : l.length ≠ 1) : CV.setAt i 1 (.c (.int .u8 (y.toNat : Int))) (us l) = some (.agg (((l.set i y).map u8).map .c)) := bW6 y h h2
theorem bE9 {b : List UInt8} {i : Nat} (h : i < b.length) : nth (b.map u8) i = .int .u8 ((gb b i).toNat : Int) := by rw [aO h, cB2 h]; rfl
theorem cB6 (x : W32) (n : Nat) : (x <<< (32 - n)) ||| (x >>> n) = fR x n := by unfold fR; exact BitVec.or_comm _ _
theorem bN2 : ∀ n : Fin 32, 0 < n.1 → IntKind.u64.wrap ((BitVec.ofInt IntKind.u64.bits (IntKind.u64.wrap (-((n.1 : Nat) : Int))) &&& BitVec.ofInt IntKind.u64.bits 31).toNat : Int) = ((32 - n.1 : Nat) : Int) := by decide +kernel
theorem xK {e : Operand → HV} : ∀ (ps : List (Nat × Operand)) (vs : List CV) (pre old : List HV), ps.map (fun p => (p.1, e p.2)) = (vs.zipIdx pre.length).map (fun p => (p.2, HV.c p.1)) → (∀ v ∈ vs, v.cells = 1) → (∀ o ∈ old, HV.cells o = 1) → old.length = vs.length → hfill e ps (pre ++ old) = some (pre ++ vs.map .c)
 | [], [], pre, old, _, _, _, hl => by
  have : old = [] := List.eq_nil_of_length_eq_zero hl
  subst this; rfl
 | [], v :: vs, _, _, h, _, _, _ => by simp at h
 | p :: ps, [], _, _, h, _, _, _ => by simp at h
 | (i, x) :: ps, v :: vs, pre, [], _, _, _, hl => by simp at hl
 | (i, x) :: ps, v :: vs, pre, o :: old, h, hv, ho, hl => by
  simp only [List.map_cons, List.zipIdx_cons, List.cons.injEq, Prod.mk.injEq] at h
  obtain ⟨⟨h1, h2⟩, h3⟩ := h
  have e1 : (pre ++ o :: old)[i]? = some o := by rw [h1]; simp
  have e2 : (pre ++ o :: old).set i (e x) = (pre ++ [HV.c v]) ++ old := by rw [h1, h2]; simp
  have e3 : (e x).cells = o.cells := by rw [h2, ho o (by simp)]; exact hv v (by simp)
  simp only [hfill, e1]
  rw [if_pos ⟨by rw [h2]; rfl, e3⟩, e2, xK (e := e) ps vs (pre ++ [HV.c v]) old (by rw [h3]; simp) (fun v hv' => hv v (by simp [hv'])) (fun o ho' => ho o (by simp [ho'])) (by simpa using hl)]
  simp
theorem gQ {n bytes : Nat} {d : TyD} {ps : List (Nat × Operand)} {e : Operand → HV} {K : HV → Prop} (vs : List W32) (hn : vs.length = n) (h : ps.map (fun p => (p.1, e p.2)) = ((vs.map w32).zipIdx).map (fun p => (p.2, HV.c p.1))) : cV ⟨n, bytes, d, ws (wz n)⟩ ps e K = K (.c (ws vs)) := by
 have := xK (e := e) ps (vs.map w32) [] (((wz n).map w32).map .c) h (by simp [w32, CV.cells]) (by simp [w32, HV.cells, CV.cells]) (by simp [gZ, hn])
 simp only [List.nil_append] at this
 simp only [cV, ws, this, hlift_some]
 rw [sC]
@[simp] theorem bZ8 (l : List W32) (i : Nat) (x : W32) : CV.agg ((l.map w32).set i (w32 x)) = ws (l.set i x) := by rw [← List.map_set]; rfl
@[simp] theorem bZ9 (l : List UInt8) (i : Nat) (x : UInt8) : CV.agg ((l.map u8).set i (u8 x)) = us (l.set i x) := by rw [← List.map_set]; rfl
theorem eD {ob : Ob} {cl : List Nat} {v : CV} (h : v.denil = v) : (HV.close ob cl (.c v)).norm = .c v := by
 rw [show HV.close ob cl (.c v) = .c v.denil from rfl, h]; rfl
@[simp] theorem cD1 (b : List UInt8) : wA b 0 = wz 64 := rfl
@[simp] theorem cD2 (w : List W32) : wB w 0 = w := rfl
theorem xL (b : List UInt8) : wB (wA b 16) 48 = eO b := by unfold eO; rfl
theorem cM (s : St) : s.l.length = 8 := by simp [St.l]
theorem aR7 : K256.length = 64 := by decide
theorem jO (s : St) : gw s.l 0 = s.a := rfl
theorem jP (s : St) : gw s.l 1 = s.b := rfl
theorem jQ (s : St) : gw s.l 2 = s.c := rfl
theorem jR (s : St) : gw s.l 3 = s.d := rfl
theorem jS (s : St) : gw s.l 4 = s.e := rfl
theorem jT (s : St) : gw s.l 5 = s.f := rfl
theorem jU (s : St) : gw s.l 6 = s.g := rfl
theorem jV (s : St) : gw s.l 7 = s.h := rfl
theorem bN3 (s : St) (k w : W32) : ((((s.h + k) + w) + ((s.e &&& s.f) ^^^ (~~~ s.e &&& s.g))) + ((fR s.e 6 ^^^ fR s.e 11) ^^^ fR s.e 25)) = t1 s k w := by
 unfold t1
 generalize (s.e &&& s.f) ^^^ (~~~ s.e &&& s.g) = x
 generalize (fR s.e 6 ^^^ fR s.e 11) ^^^ fR s.e 25 = y
 ac_rfl
theorem bN4 (s : St) : (((s.a &&& s.b) ^^^ (s.a &&& s.c)) ^^^ (s.b &&& s.c)) + ((fR s.a 2 ^^^ fR s.a 13) ^^^ fR s.a 22) = t2 s := BitVec.add_comm _ _
theorem bX0 (s : St) (k w : W32) : (((s.h + ((fR s.e 6 ^^^ fR s.e 11) ^^^ fR s.e 25)) + ((s.e &&& s.f) ^^^ (~~~ s.e &&& s.g))) + k) + w = t1 s k w := rfl
theorem bX1 (s : St) : ((fR s.a 2 ^^^ fR s.a 13) ^^^ fR s.a 22) + (((s.a &&& s.b) ^^^ (s.a &&& s.c)) ^^^ (s.b &&& s.c)) = t2 s := rfl
def uH (s r : St) (j : Nat) : List W32 := (s.l.zipWith (fun x y => x + y) r.l).take j ++ s.l.drop j
theorem aF0 (s r : St) : ∀ j, j < 9 → (uH s r j).length = 8
 | 0, _ => rfl | 1, _ => rfl | 2, _ => rfl | 3, _ => rfl | 4, _ => rfl | 5, _ => rfl | 6, _ => rfl | 7, _ => rfl | 8, _ => rfl
 | j + 9, h => by omega
theorem aR8 (s r : St) : ∀ j, j < 8 → gw (uH s r j) j = gw s.l j
 | 0, _ => rfl | 1, _ => rfl | 2, _ => rfl | 3, _ => rfl | 4, _ => rfl | 5, _ => rfl | 6, _ => rfl | 7, _ => rfl
 | j + 8, h => by omega
theorem xM (s r : St) : ∀ j, j < 8 → (uH s r j).set j (gw s.l j + gw r.l j) = uH s r (j + 1)
 | 0, _ => rfl | 1, _ => rfl | 2, _ => rfl | 3, _ => rfl | 4, _ => rfl | 5, _ => rfl | 6, _ => rfl | 7, _ => rfl
 | j + 8, h => by omega
@[simp] theorem cA0 (s r : St) : uH s r 0 = s.l := rfl
theorem aR9 {α : Type} (f : Nat → α) (l : List α) : ∀ n, n ≤ l.length → itN (fun i l => l.set i (f i)) n l = (List.range n).map f ++ l.drop n
 | 0, _ => by simp [itN]
 | n + 1, h => by
  rw [aD4, aR9 f l n (by omega), List.set_append_right _ _ (by simp), List.drop_eq_getElem_cons (show n < l.length by omega), List.length_map, List.length_range, Nat.sub_self, List.set_cons_zero, List.range_succ, List.map_append]
  simp
end Go.Pl

namespace Go.Pl
open Go Go.Hl

theorem bF0 (p : List UInt8) (n : Nat) (s : St) : blk p (n + 1) s = comp (blk p n s) ((p.drop (64 * n)).take 64) := rfl
theorem jW (n : Nat) : (tO n).length = 8 := by simp [tO]
theorem sI (b : List UInt8) : (pad b).length = b.length + 1 + zs b.length + 8 := by simp [pad, jW]; omega
theorem bN5 (b : List UInt8) : (pad b).length % 64 = 0 := by
 rw [sI]; unfold zs; omega
theorem bN6 {b : List UInt8} {j : Nat} (h : 64 * (j + 1) ≤ b.length) : ((pad b).drop (64 * j)).take 64 = (b.drop (64 * j)).take 64 := by
 unfold pad
 rw [List.append_assoc, List.append_assoc, List.drop_append_of_le_length (by omega), List.take_append_of_le_length (by rw [List.length_drop]; omega)]
def aF1 (b : List UInt8) (j : Nat) : List UInt8 := b.drop (64 * j) ++ [0x80] ++ List.replicate (zs b.length) 0
theorem aF2 {b : List UInt8} {j : Nat} (h : 64 * j ≤ b.length) : (pad b).drop (64 * j) = aF1 b j ++ tO b.length := by
 unfold pad aF1
 rw [List.append_assoc, List.append_assoc, List.drop_append_of_le_length h]
 simp
def lastM (b : List UInt8) (j : Nat) : Nat := if b.length - 64 * j < 56 then 64 else 128
section
variable {b : List UInt8} {j : Nat} (h0 : 64 * j ≤ b.length) (h1 : b.length < 64 * j + 64)
include h0 h1
theorem pE : (aF1 b j).length + 8 = lastM b j := by
 simp only [aF1, lastM, List.length_append, List.length_drop, List.length_singleton, List.length_replicate]
 unfold zs
 split <;> omega
theorem uI : (pad b).length = 64 * j + lastM b j := by
 have e := congrArg List.length (aF2 h0)
 rw [List.length_drop, List.length_append, jW, pE h0 h1] at e
 have : 64 * j ≤ (pad b).length := by rw [sI]; omega
 omega
theorem cD6 : ((b.drop (64 * j) ++ (uz 128).drop (b.length - 64 * j)).set (b.length - 64 * j) 0x80) = aF1 b j ++ (List.replicate 8 0 ++ List.replicate (128 - lastM b j) 0) := by
 have hl : (b.drop (64 * j)).length = b.length - 64 * j := List.length_drop
 have e : (uz 128).drop (b.length - 64 * j) = 0 :: List.replicate (127 - (b.length - 64 * j)) 0 := by
  unfold uz
  rw [List.drop_replicate, ← List.replicate_succ]
  congr 1; omega
 rw [List.set_append_right _ _ (by omega), hl, Nat.sub_self, e, List.set_cons_zero, List.replicate_append_replicate]
 have e2 : 127 - (b.length - 64 * j) = zs b.length + (8 + (128 - lastM b j)) := by
  unfold zs lastM; split <;> omega
 rw [e2, ← List.replicate_append_replicate, ← List.replicate_append_replicate]
 simp only [aF1, List.append_assoc, List.singleton_append, List.cons_append, List.nil_append, List.replicate_append_replicate]
end
def aM4 (n i : Nat) : List UInt8 := (List.range 8).map fun q => if 7 - q < i then UInt8.ofNat (8 * n / 2 ^ (8 * (7 - q))) else 0
theorem aW3 (n : Nat) : List.replicate 8 0 = aM4 n 0 := rfl
theorem aW4 (n : Nat) : ∀ i, i < 8 → (aM4 n i).set (7 - i) (UInt8.ofNat (8 * n / 2 ^ (8 * i))) = aM4 n (i + 1)
 | 0, _ => rfl | 1, _ => rfl | 2, _ => rfl | 3, _ => rfl | 4, _ => rfl | 5, _ => rfl | 6, _ => rfl | 7, _ => rfl
 | j + 8, h => by omega
theorem bF1 (n : Nat) : aM4 n 8 = tO n := rfl
theorem aF3 (n i : Nat) : (aM4 n i).length = 8 := by simp [aM4]
def nN (b : List UInt8) (j i : Nat) : List UInt8 := aF1 b j ++ (aM4 b.length i ++ List.replicate (128 - lastM b j) 0)
section
variable {b : List UInt8} {j : Nat} (h0 : 64 * j ≤ b.length) (h1 : b.length < 64 * j + 64)
include h0 h1
theorem aW5 : ((b.drop (64 * j) ++ (uz 128).drop (b.length - 64 * j)).set (b.length - 64 * j) 0x80) = nN b j 0 := by rw [cD6 h0 h1, aW3 b.length]; rfl
theorem bF2 (i : Nat) : (nN b j i).length = 128 := by
 have := pE h0 h1
 simp only [nN, List.length_append, aF3, List.length_replicate]
 have : lastM b j ≤ 128 := by unfold lastM; split <;> omega
 omega
theorem aW6 {i : Nat} (hi : i < 8) : (nN b j i).set (lastM b j - 1 - i) (UInt8.ofNat (8 * b.length / 2 ^ (8 * i))) = nN b j (i + 1) := by
 have hp := pE h0 h1
 unfold nN
 rw [List.set_append_right _ _ (by omega), List.set_append_left _ _ (by rw [aF3]; omega)]
 have : lastM b j - 1 - i - (aF1 b j).length = 7 - i := by omega
 rw [this, aW4 _ _ hi]
theorem bF3 {q : Nat} (hq : 64 * (q + 1) ≤ lastM b j) : ((nN b j 8).drop (64 * q)).take 64 = ((pad b).drop (64 * (j + q))).take 64 := by
 have hp := pE h0 h1
 have e : (nN b j 8) = (pad b).drop (64 * j) ++ List.replicate (128 - lastM b j) 0 := by rw [aF2 h0]; unfold nN; rw [bF1]; simp
 have hl : ((pad b).drop (64 * j)).length = lastM b j := by rw [List.length_drop, uI h0 h1]; omega
 rw [e, List.drop_append_of_le_length (by omega), List.take_append_of_le_length (by rw [List.length_drop]; omega), List.drop_drop]
 congr 2; omega
end
theorem bN7 {r : List UInt8} {n : Nat} (h : r.length ≤ n) : aU2 ((uz n).map u8) ((r.map u8).take n) 0 = (r ++ (uz n).drop r.length).map u8 := by
 have e : (r.map u8).take n = r.map u8 := List.take_of_length_le (by rw [List.length_map]; exact h)
 simp [aU2, e]
@[simp] theorem cD3 (l : List UInt8) : CV.agg (l.map u8) = us l := rfl
theorem aF4 (v i : Nat) (h : 8 * i ≤ 64) : IntKind.u8.wrap (Int.fdiv (v : Int) (2 ^ (min (8 * i) IntKind.u64.bits))) = ((UInt8.ofNat (v / 2 ^ (8 * i))).toNat : Int) := by
 have : min (8 * i) IntKind.u64.bits = 8 * i := Nat.min_eq_left h
 rw [this, Int.fdiv_eq_ediv_of_nonneg _ (Int.pow_nonneg (by omega))]
 have e : (v : Int) / 2 ^ (8 * i) = ((v / 2 ^ (8 * i) : Nat) : Int) := by norm_cast
 rw [e, IntKind.wrap_u8, UInt8.toNat_ofNat']
 omega
def ob8 (s : St) (i : Nat) : UInt8 := UInt8.ofNat ((gw s.l (i / 4)) >>> (24 - 8 * (i % 4))).toNat
def zS (s : St) (n : Nat) : List UInt8 := itN (fun i l => l.set i (ob8 s i)) n (uz 32)
@[simp] theorem cA1 (s : St) : zS s 0 = uz 32 := rfl
theorem aF5 (s : St) (n : Nat) : (zS s n).length = 32 := by unfold zS; rw [sD (fun i l => by simp)]; simp [uz]
theorem aF6 (s : St) : zS s 32 = bC8 s := by
 unfold zS
 rw [aR9 _ _ _ (by simp [uz])]
 simp [uz, bC8, ob8]
theorem aW7 {n i : Nat} (h : i < 8) : (tO n).take (i + 1) = (tO n).take i ++ [UInt8.ofNat (8 * n / 2 ^ (8 * (7 - i)))] := by
 rw [List.take_succ_eq_append_getElem (by rw [jW]; exact h)]
 simp [tO]
theorem bX2 {b : List UInt8} : b ++ [0x80] ++ List.replicate (zs b.length) 0 ++ (tO b.length).take 8 = pad b := by
 rw [List.take_of_length_le (by rw [jW]; exact Nat.le_refl _)]; rfl
theorem nF (h : iS) : (h.1.map u8).take 16 = h.1.map u8 := List.take_of_length_le (by rw [List.length_map, h.2]; exact Nat.le_refl _)
theorem aS0 (b : List UInt8) : us (bC8 (blk (pad b) ((pad b).length / 64) St0)) = dg (sha b) := rfl
end Go.Pl

namespace Go.Pl
open Go Go.Hl

theorem aS1 {l : List Ky} {k : Ky} {i : Nat} (hi : i ≤ l.length) (h0 : ∀ x ∈ l.take i, dlt (kid x) (kid k) = true) (h1 : ∀ h : i < l.length, dlt (kid l[i]) (kid k) = false) : l.take i ++ k :: l.drop i = uA l k := by
 have key : ∀ (l : List Ky) (i : Nat), i ≤ l.length → (∀ x ∈ l.take i, dlt (kid x) (kid k) = true) → (∀ h : i < l.length, dlt (kid l[i]) (kid k) = false) → (l.takeWhile fun x => dlt (kid x) (kid k)) = l.take i ∧ (l.dropWhile fun x => dlt (kid x) (kid k)) = l.drop i := by
  intro l
  induction l with
  | nil => intro i hi _ _; simp at hi; subst hi; exact ⟨rfl, rfl⟩
  | cons a l ih =>
   intro i hi h0 h1
   cases i with
   | zero =>
    have := h1 (by simp)
    simp only [List.getElem_cons_zero] at this
    simp [List.takeWhile_cons, List.dropWhile_cons, this]
   | succ i =>
    have ha := h0 a (by simp)
    obtain ⟨e1, e2⟩ := ih i (by simpa using hi) (fun x hx => h0 x (by simp [hx])) (fun h => h1 (by simpa using h))
    simp [List.takeWhile_cons, List.dropWhile_cons, ha, e1, e2]
 obtain ⟨e1, e2⟩ := key l i hi h0 h1
 unfold uA
 rw [e1, e2]
theorem aF7 (l : List Ky) (k : Ky) : (uA l k).length = l.length + 1 := by
 unfold uA
 have := congrArg List.length (List.takeWhile_append_dropWhile (p := fun x => dlt (kid x) (kid k)) (l := l))
 simp only [List.length_append, List.length_cons] at this ⊢
 omega
theorem aF8 {l : List Ky} {k x : Ky} (h : x ∈ uA l k) : x ∈ l ∨ x = k := by
 unfold uA at h
 simp only [List.mem_append, List.mem_cons] at h
 rcases h with h | h | h
 ·
  exact .inl ((List.takeWhile_sublist _).subset h)
 ·
  exact .inr h
 ·
  exact .inl ((List.dropWhile_sublist _).subset h)
theorem bX3 (n : Nat) : IntKind.u8.wrap (n : Int) = ((UInt8.ofNat n).toNat : Int) := by
 rw [IntKind.wrap_u8, UInt8.toNat_ofNat']; omega
theorem aM5 {n bytes : Nat} {d : TyD} {a b : Operand} {e : Operand → HV} {K : HV → Prop} (x y : UInt8) (ha : e a = .c (.int .u8 (x.toNat : Int))) (hb : e b = .c (.int .u8 (y.toNat : Int))) : cV ⟨n, bytes, d, hf zh⟩ [(0, a), (1, b)] e K = K (.c (hf ⟨[x, y] ++ List.replicate 14 0, by simp⟩)) := by
 have e1 : hfill e [(0, a), (1, b)] (((List.replicate 16 (0 : UInt8)).map u8).map .c) = some ((([x, y] ++ List.replicate 14 0).map u8).map .c) := by
  simp only [hfill, ha, hb]
  rfl
 simp only [cV, hf, zh, e1, hlift_some]
 rw [sC]
theorem qL {n bytes : Nat} {d : TyD} {a b : Operand} {e : Operand → HV} {K : HV → Prop} (h : Int) (r : iS) (ha : e a = .c (.int .i64 h)) (hb : e b = .c (hf r)) : cV ⟨n, bytes, d, Pk.cv ⟨0, zh⟩⟩ [(0, a), (1, b)] e K = K (.c (Pk.cv ⟨h, r⟩)) := by
 have e1 : hfill e [(0, a), (1, b)] ([CV.int .i64 0, hf zh].map .c) = some [.c (.int .i64 h), .c (hf r)] := by
  simp [hfill, ha, hb, HV.sto, HV.cells, CV.cells, hf_cells]
 simp only [cV, Pk.cv, e1, hlift_some]
 rfl
theorem qM {n bytes : Nat} {d : TyD} {a b : Operand} {e : Operand → HV} {K : HV → Prop} (w : aK) (k : Int) (ha : e a = .c (.str w)) (hb : e b = .c (.int .i64 k)) : cV ⟨n, bytes, d, Qt.cv ⟨[], 0⟩⟩ [(0, a), (1, b)] e K = K (.c (Qt.cv ⟨w, k⟩)) := by
 have e1 : hfill e [(0, a), (1, b)] ([CV.str [], CV.int .i64 0].map .c) = some [.c (.str w), .c (.int .i64 k)] := by
  simp [hfill, ha, hb, HV.sto, HV.cells, CV.cells]
 simp only [cV, Qt.cv, e1, hlift_some]
 rfl
theorem uJ {l : List Ky} : (∀ v ∈ l.map Ky.cv, v.cells = 21) ↔ True := iff_true_intro fun v h => by obtain ⟨d, _, rfl⟩ := List.mem_map.1 h; exact Ky.cells d
theorem bF4 {l : List Rv} : (∀ v ∈ l.map Rv.cv, v.cells = 33) ↔ True := iff_true_intro fun v h => by obtain ⟨d, _, rfl⟩ := List.mem_map.1 h; exact Rv.cells d
theorem bF5 {l : List Qt} : (∀ v ∈ l.map Qt.cv, v.cells = 2) ↔ True := iff_true_intro fun v h => by obtain ⟨d, _, rfl⟩ := List.mem_map.1 h; exact Qt.cells d
theorem mC : ∀ w ∈ roles10, w.length ≤ 20 := by decide
theorem zT : ∀ w ∈ owners4, w.length ≤ 20 := by decide
theorem aM6 (i : Nat) : kY i ∈ owners4 := by
 unfold kY
 have : i % 4 < 4 := Nat.mod_lt _ (by omega)
 rw [List.getD_eq_getElem?_getD, List.getElem?_eq_getElem (show i % 4 < owners4.length from this)]
 exact List.getElem_mem _
theorem bF6 : tZ ∈ roles10 := by decide
end Go.Pl

namespace Go.Pl
open Go Go.Hl

def zR : CV := .agg [.int .i64 0, .int .i64 0, .nils, .nils, .nils]
def kOk (k : Ky) : Prop := kSz k ∧ k.o ∈ owners4
def rOk (r : Rt) : Prop := rSz r ∧ ∀ k ∈ r.k, k.o ∈ owners4
theorem aS2 (i : Nat) (ws : List aK) (a b : Int) (hl : ws.length ≤ 11) (hm : ∀ w ∈ ws, w ∈ roles10) : kOk ⟨aE3 i, kY i, ws, a, b⟩ := by
 have ho := aM6 i
 refine ⟨⟨?_, by show ws.length < _; omega, fun w hw => ?_⟩, ho⟩
 ·
  have := zT _ ho
  show (kY i).length < _
  omega
 ·
  have := mC _ (hm w hw)
  omega
def qz (i : Nat) : List Qt := (roles10.take i).map fun w => ⟨w, 1⟩
theorem bN8 {i : Nat} (h : i < roles10.length) : qz (i + 1) = qz i ++ [⟨roles10[i], 1⟩] := by
 unfold qz; rw [List.take_succ_eq_append_getElem h, List.map_append]; rfl
theorem bF7 {i : Nat} (h : i ≤ 10) : (qz i).length = i := by
 unfold qz
 rw [List.length_map, List.length_take, show roles10.length = 10 from rfl]; omega
theorem bF8 : qz 10 = full.q := rfl
def kz (i : Nat) : List Ky := (List.range i).foldl (fun l i => uA l (bN0 i)) []
theorem zU (i : Nat) : kz (i + 1) = uA (kz i) (bN0 i) := by unfold kz; rw [List.range_succ, List.foldl_append]; rfl
theorem aM7 : ∀ i, (kz i).length = i
 | 0 => rfl
 | i + 1 => by rw [zU, aF7, aM7 i]
theorem bU4 : ∀ i, ∀ k ∈ kz i, kOk k
 | 0, k, h => by simp [kz] at h
 | i + 1, k, h => by
  rw [zU] at h
  rcases aF8 h with h | rfl
  ·
   exact bU4 i k h
  ·
   exact aS2 i roles10 0 dX (by decide) (fun w hw => hw)
theorem aM8 : kz 5 = full.k := rfl
theorem sJ (v : Int) : rOk ⟨v, full.e, full.q, full.k, full.x⟩ := by
 have hk := bU4 5
 rw [aM8] at hk
 refine ⟨⟨⟨by rw [← bF8, bF7 (by omega)]; omega, fun q hq => ?_⟩, ⟨by show full.k.length < _; rw [← aM8, aM7]; omega, fun k h => (hk k h).1⟩, by show (0 : Nat) < 2 ^ 40; omega⟩, fun k h => (hk k h).2⟩
 have : q ∈ roles10.map fun w => (⟨w, 1⟩ : Qt) := hq
 obtain ⟨w, hw, rfl⟩ := List.mem_map.1 this
 have := mC w hw
 show w.length < _
 omega
theorem aM9 {v e : Int} {qs : List Qt} {ks : List Ky} {xs : List Rv} (hq : qs.length ≤ 10) (hqr : ∀ q ∈ qs, q.r ∈ roles10) (hk : ks.length ≤ 6) (hkk : ∀ k ∈ ks, kOk k) (hx : xs.length ≤ 1) : rOk ⟨v, e, qs, ks, xs⟩ := by
 refine ⟨⟨⟨by show qs.length < _; omega, fun q h => ?_⟩, ⟨by show ks.length < _; omega, fun k h => (hkk k h).1⟩, by show xs.length < _; omega⟩, fun k h => (hkk k h).2⟩
 have := mC _ (hqr q h)
 omega
end Go.Pl

namespace Go.Hl
open Go Go.RowKit Go.Sort Go.Proofs

end Go.Hl

namespace Go.Pl
open Go Go.Hl

def k0 : Ky := ⟨⟨0, zh⟩, [], [], 0, 0⟩
theorem uK : ∀ {l : List aK}, nZ l = true → Asc l
 | [], _ => List.Pairwise.nil
 | [a], _ => by simp [Asc]
 | a :: b :: l, h => by
  simp only [nZ, Bool.and_eq_true] at h
  have ih := uK h.2
  have hab := zP.1 h.1
  refine List.pairwise_cons.2 ⟨fun w hw => ?_, ih⟩
  rcases List.mem_cons.1 hw with rfl | hw
  ·
   exact hab
  ·
   exact List.lt_trans hab ((List.pairwise_cons.1 ih).1 w hw)
theorem aN0 {l : List Ky} (h : gJ l = true) {i j : Nat} (hj : j < l.length) (hij : i < j) : kid (l[i]'(by omega)) ≠ kid l[j] := by
 have h1 : aL5 (l.map kid) = true := by
  unfold gJ at h
  simp only [Bool.and_eq_true] at h
  exact h.2.1
 have h2 : nZ (l.map fun k => (kid k).1) = true := by
  rw [mA, gG]
  rw [mB, gG] at h1
  exact h1
 have h3 : Asc (l.map fun k => (kid k).1) := uK h2
 have h4 := List.pairwise_iff_getElem.1 h3 i j (by simp; omega) (by simpa using hj) hij
 simp only [List.getElem_map] at h4
 intro e
 rw [e] at h4
 exact List.lt_irrefl _ h4
theorem aN1 {l : List Ky} (h : gJ l = true) {i : Nat} (hi : i < l.length) : fJ l (kid l[i]) = some l[i] := by
 unfold fJ
 refine pA (p := fun k => kid k == kid l[i]) hi (by simp) fun x hx => ?_
 obtain ⟨j, hj, rfl⟩ := List.mem_take_iff_getElem.1 hx
 have : j < i := by omega
 show (kid l[j] == kid l[i]) = false
 exact beq_eq_false_iff_ne.2 (aN0 h hi this)
theorem zV {v : Int} (h1 : 1 ≤ v) (h2 : v ≤ dX) : bJ ⟨v, full.e, full.q, full.k, full.x⟩ = true := by
 have h := uB
 unfold bJ at h ⊢
 simp only [Bool.and_eq_true, decide_eq_true_eq] at h ⊢
 exact ⟨⟨h1, h2⟩, h.2⟩
end Go.Pl

namespace Go.Pl
open Go Go.Hl

def rMid (r : Rt) : Prop := (r.q.length ≤ 12 ∧ ∀ q ∈ r.q, q.r.length ≤ 300) ∧ (r.k.length ≤ 32 ∧ ∀ k ∈ r.k, k.o.length ≤ 300 ∧ k.rs.length ≤ 30 ∧ ∀ w ∈ k.rs, w.length ≤ 300) ∧ r.x.length ≤ 65
theorem rMid.sz {r : Rt} (h : rMid r) : rSz r := by
 obtain ⟨⟨h1, h2⟩, ⟨h3, h4⟩, h5⟩ := h
 refine ⟨⟨by omega, fun q hq => by have := h2 q hq; omega⟩, ⟨by omega, fun k hk => ?_⟩, by omega⟩
 obtain ⟨k1, k2, k3⟩ := h4 k hk
 exact ⟨by omega, by omega, fun w hw => by have := k3 w hw; omega⟩
theorem uL {α : Type} {l : List α} {i : Nat} {x y : α} (h : y ∈ l.set i x) : y ∈ l ∨ y = x := by
 rcases List.mem_or_eq_of_mem_set h with h | h
 ·
  exact .inl h
 ·
  exact .inr h
theorem rMid.setK {r : Rt} (h : rMid r) (i : Nat) (k' : Ky) (h1 : k'.o.length ≤ 300) (h2 : k'.rs.length ≤ 30) (h3 : ∀ w ∈ k'.rs, w.length ≤ 300) : rMid ⟨r.v, r.e, r.q, r.k.set i k', r.x⟩ := by
 refine ⟨h.1, ⟨by show (r.k.set i k').length ≤ 32; rw [List.length_set]; exact h.2.1.1, fun k hk => ?_⟩, h.2.2⟩
 rcases uL hk with hk | rfl
 ·
  exact h.2.1.2 k hk
 ·
  exact ⟨h1, h2, h3⟩
theorem rMid.setQ {r : Rt} (h : rMid r) (i : Nat) (q' : Qt) (h1 : q'.r.length ≤ 300) : rMid ⟨r.v, r.e, r.q.set i q', r.k, r.x⟩ := by
 refine ⟨⟨by show (r.q.set i q').length ≤ 12; rw [List.length_set]; exact h.1.1, fun q hq => ?_⟩, h.2.1, h.2.2⟩
 rcases uL hq with hq | rfl
 ·
  exact h.1.2 q hq
 ·
  exact h1
theorem Ky.set_ph (x : Ky) (y : HV) : CV.setAt 0 1 y x.cv = some (.agg [.agg [y, .c (hf x.p.r)], .c (.str x.o), .c (.slc (x.rs.map .str)), .c (.int .i64 x.fr), .c (.int .i64 x.un)]) := by
 simp [Ky.cv, Pk.cv, CV.setAt, CV.setAtL, CV.cells, CV.cellsL, hf_cells]
end Go.Pl

namespace Go.Pl
open Go Go.Hl

def mD (k : Ky) : Bool := decide (k.rs.length ≤ 30) && decide (k.o.length ≤ 300)
def iX (r : Rt) : Bool := decide (r.q.length ≤ 30) && (decide (r.k.length ≤ 50) && (decide (r.x.length ≤ 100) && r.k.all mD))
theorem pF (a b : Nat) : decide (a ≤ b) = !decide ((b : Int) < a) := by rw [Bool.eq_iff_iff]; simp
theorem lB (r : Rt) : iX r = (!decide ((30 : Int) < r.q.length) && (!decide ((50 : Int) < r.k.length) && (!decide ((100 : Int) < r.x.length) && r.k.all mD))) := by
 unfold iX; rw [pF, pF, pF]; rfl
theorem mE (k : Ky) : mD k = (!decide ((30 : Int) < k.rs.length) && !decide ((300 : Int) < k.o.length)) := by
 unfold mD; rw [pF, pF]; rfl
theorem xN {r : Rt} {i : Nat} (hi : i < r.k.length) (h : mD r.k[i] = false) : iX r = false := by
 unfold iX
 have : r.k.all mD = false := List.all_eq_false.2 ⟨_, List.getElem_mem hi, by rw [h]; simp⟩
 rw [this]; simp
def bN9 (r : Rt) : Prop := (r.q.length ≤ maxLen ∧ ∀ q ∈ r.q, q.r.length ≤ maxLen) ∧ (r.k.length ≤ maxLen ∧ ∀ k ∈ r.k, k.o.length ≤ maxLen ∧ k.rs.length ≤ maxLen ∧ ∀ w ∈ k.rs, w.length ≤ maxLen) ∧ r.x.length ≤ maxLen
theorem bF9 {r : Rt} (h : bN9 r) (hl : iX r = true) : rSz r := by
 unfold iX at hl
 simp only [Bool.and_eq_true, decide_eq_true_eq, List.all_eq_true] at hl
 obtain ⟨h1, h2, h3, h4⟩ := hl
 simp only [mD, Bool.and_eq_true, decide_eq_true_eq] at h4
 have e : maxLen = 9223372036854775807 := rfl
 refine ⟨⟨by omega, fun q hq => ?_⟩, ⟨by omega, fun k hk => ?_⟩, by omega⟩
 ·
  have := h.1.2 q hq; omega
 ·
  obtain ⟨k1, k2⟩ := h4 k hk
  exact ⟨by omega, by omega, fun w hw => by have := (h.2.1.2 k hk).2.2 w hw; omega⟩
theorem mF {w : aK} (h : dT w = true) : w.length ≤ 64 := by
 cases w with
 | nil => simp
 | cons c s =>
  unfold dT at h
  simp only [Bool.and_eq_true, decide_eq_true_eq] at h
  exact h.1
theorem iY {r : Rt} (h : bJ r = true) : rMid r ∧ 0 < r.k.length ∧ 0 < r.q.length ∧ r.x.length ≤ 64 := by
 unfold bJ eC gJ gK at h
 simp only [Bool.and_eq_true, decide_eq_true_eq, List.all_eq_true] at h
 obtain ⟨-, -, ⟨hq1, -, hq2⟩, ⟨hk1, -, hk2⟩, ⟨-, -, hx⟩, hn1, hn2⟩ := h
 refine ⟨⟨⟨hq2, fun q hq => ?_⟩, ⟨hk2, fun k hk => ?_⟩, by omega⟩, ?_, ?_, hx⟩
 ·
  have := hq1 q hq
  unfold kV at this
  simp only [Bool.and_eq_true] at this
  have := mF this.1
  omega
 ·
  have := hk1 k hk
  unfold tT kU at this
  simp only [Bool.and_eq_true, decide_eq_true_eq, List.all_eq_true] at this
  obtain ⟨-, h1, ⟨-, h2⟩, ⟨h3, -⟩, -⟩ := this
  have := mF h1
  exact ⟨by omega, by omega, fun w hw => by have := mF (h3 w hw); omega⟩
 ·
  rcases Nat.eq_zero_or_pos r.k.length with e | e
  ·
   have e2 : r.k = [] := List.length_eq_zero_iff.1 e
   rw [e2] at hn2
   simp [rX, fX, lY] at hn2
   omega
  ·
   exact e
 ·
  rcases Nat.eq_zero_or_pos r.q.length with e | e
  ·
   have e2 : r.q = [] := List.length_eq_zero_iff.1 e
   rw [e2] at hn1
   simp [oV] at hn1
  ·
   exact e

theorem aF9 {l : List Rt} : (∀ v ∈ l.map Rt.cv, v.cells = 5) ↔ True := iff_true_intro fun v h => by obtain ⟨d, _, rfl⟩ := List.mem_map.1 h; exact Rt.cells d

def fK (r : Rt) (d : Dig) : Ky := (fJ r.k d).getD k0
def pG (r : Rt) (d : Dig) (t : Int) : Bool := match fJ r.k d with | some k => oW r k t | none => false
theorem qN {l : List Ky} {d : Dig} {k : Ky} (h : fJ l d = some k) : kid k = d ∧ k ∈ l := by
 unfold fJ at h
 have h1 := List.find?_some (p := fun k => kid k == d) h
 exact ⟨eq_of_beq h1, List.mem_of_find?_eq_some h⟩
theorem eJ (r : Rt) (d : Dig) (t : Int) : pG r d t = ((fJ r.k d).isSome && (decide (((fJ r.k d).getD k0).fr ≤ t) && (decide (t < ((fJ r.k d).getD k0).un) && (decide (t < r.e) && !(iU r.x d && decide (iJ r.x d ≤ t)))))) := by
 unfold pG
 cases h : fJ r.k d with
 | none => rfl
 | some k =>
  obtain ⟨rfl, -⟩ := qN h
  simp only [Option.getD_some, Option.isSome_some, Bool.true_and, fY]
  rfl
theorem cB7 {r : Rt} (hr : rSz r) (d : Dig) : ((fJ r.k d).getD k0).rs.length < 2 ^ 40 := by
 cases h : fJ r.k d with
 | none => simp [k0]
 | some k => exact (hr.2.1.2 k (qN h).2).2.1
def fB (r : Rt) (role : aK) (t : Int) (a : List aK) (d : Dig) : List aK := if (fK r d).rs.contains role && pG r d t then lF a (fK r d).o else a
def rvL (r : Rt) (role : aK) (t : Int) (l : List Dig) : List aK := l.foldl (fB r role t) []
theorem uM {r : Rt} {role : aK} {t : Int} {l : List Dig} {i : Nat} (h : i < l.length) : rvL r role t (l.take (i + 1)) = fB r role t (rvL r role t (l.take i)) l[i] := by
 unfold rvL
 rw [List.take_succ_eq_append_getElem h, List.foldl_append]
 rfl
theorem uN (r : Rt) (role : aK) (t : Int) : ∀ (l : List Dig) (a : List aK), Asc a → Asc (l.foldl (fB r role t) a) ∧ ∀ w, w ∈ l.foldl (fB r role t) a ↔ w ∈ a ∨ ∃ d ∈ l, ((fK r d).rs.contains role && pG r d t) = true ∧ (fK r d).o = w
 | [], a, h => ⟨h, fun w => by simp⟩
 | d :: l, a, h => by
  have h1 : Asc (fB r role t a d) := by
   unfold fB
   split
   ·
    exact aD8 h _
   ·
    exact h
  have h2 : ∀ w, w ∈ fB r role t a d ↔ w ∈ a ∨ (((fK r d).rs.contains role && pG r d t) = true ∧ (fK r d).o = w) := by
   intro w
   unfold fB
   split
   ·
    rename_i hc
    rw [aD7]
    simp only [hc, true_and]
    constructor
    ·
     rintro (h | h)
     ·
      exact .inl h
     ·
      exact .inr h.symm
    ·
     rintro (h | h)
     ·
      exact .inl h
     ·
      exact .inr h.symm
   ·
    rename_i hc
    constructor
    ·
     exact .inl
    ·
     rintro (h | h)
     ·
      exact h
     ·
      exact absurd h.1 hc
  obtain ⟨h3, h4⟩ := uN r role t l _ h1
  refine ⟨h3, fun w => ?_⟩
  rw [List.foldl_cons, h4, h2]
  simp only [List.mem_cons, exists_eq_or_imp, or_assoc]
theorem bO0 (r : Rt) (role : aK) (t : Int) : ∀ (l : List Dig), (rvL r role t l).length ≤ l.length := by
 have key : ∀ (l : List Dig) (a : List aK), (l.foldl (fB r role t) a).length ≤ a.length + l.length := by
  intro l
  induction l with
  | nil => intro a; simp
  | cons d l ih =>
   intro a
   rw [List.foldl_cons]
   have h1 := ih (fB r role t a d)
   have h2 : (fB r role t a d).length ≤ a.length + 1 := by
    unfold fB
    split
    ·
     exact bC7 _ _
    ·
     omega
   rw [List.length_cons]
   omega
 intro l
 have := key l []
 simpa [rvL] using this
theorem bX4 {r : Rt} {role : aK} {t : Int} {l : List Dig} (hv : bJ r = true) : rvL r role t l = fS r role l t := by
 have hk : gJ r.k = true := by
  unfold bJ at hv
  simp only [Bool.and_eq_true] at hv
  exact hv.2.2.2.1
 refine aR4 (uN r role t l [] List.Pairwise.nil).1 aE2 fun w => ?_
 have h1 := (uN r role t l [] List.Pairwise.nil).2 w
 unfold rvL
 rw [h1, aE1]
 simp only [List.not_mem_nil, false_or, hv, true_and, Bool.and_eq_true]
 constructor
 ·
  rintro ⟨d, hd, ⟨h2, h3⟩, rfl⟩
  unfold pG at h3
  cases hf : fJ r.k d with
  | none => rw [hf] at h3; cases h3
  | some k =>
   obtain ⟨rfl, hm⟩ := qN hf
   rw [hf] at h3
   have e : fK r (kid k) = k := by unfold fK; rw [hf]; rfl
   rw [e] at h2 ⊢
   exact ⟨k, hm, ⟨h2, by simpa using hd, h3⟩, rfl⟩
 ·
  rintro ⟨k, hm, ⟨h2, h3, h4⟩, rfl⟩
  obtain ⟨i, hi, rfl⟩ := List.mem_iff_getElem.1 hm
  have hf := aN1 hk hi
  have e : fK r (kid r.k[i]) = r.k[i] := by unfold fK; rw [hf]; rfl
  refine ⟨kid r.k[i], by simpa using h3, ⟨by rw [e]; exact h2, by unfold pG; rw [hf]; exact h4⟩, by rw [e]⟩
def aS3 (r : Rt) (d : Dig) (t : Int) : Bool := bJ r && pG r d t
def aW8 (x y : Pk) : Bool := x.h == y.h && x.r.1 == y.r.1
theorem aW9 (x : Pk) : aW8 x x = true := by simp [aW8]
theorem bX5 (x y : Pk) : CV.eqv x.cv y.cv = aW8 x y := by
 have e : CV.eqvL (x.r.1.map u8) (y.r.1.map u8) = (x.r.1 == y.r.1) := mY x.r.1 y.r.1
 simp only [Pk.cv, hf, CV.eqv, CV.eqvL, e, aW8, Bool.and_true]
theorem aS4 {P : Program} {n : Nat} {t ti tr e : TypeId} {z z1 z2 z3 : CV} {s b s1 b1 s2 b2 s3 b3 o1 o2 : Nat} (ht : aP P t = some ⟨s, b, .struct [(o1, ti), (o2, tr)], z⟩) (hi : aP P ti = some ⟨s1, b1, .int .i64, z1⟩) (hr : aP P tr = some ⟨s2, b2, .array 16 e, z2⟩) (he : aP P e = some ⟨s3, b3, .int .u8, z3⟩)
  (ci : P.cellsOf ti = 1) (cr : P.cellsOf tr = 16) (ce : P.cellsOf e = 1) (x : Pk) : CV.ofTy P (n + 3) t x.cv = true := by
 have h1 : (x.r.1.map u8).length = 16 := by rw [List.length_map, x.r.2]
 have h2 : (x.r.1.map u8).all (fun v => v.cells == P.cellsOf e) = true := by
  rw [ce]
  simp only [List.all_map, List.all_eq_true, Function.comp, u8, CV.cells, beq_self_eq_true, implies_true]
 have h3 : CV.ofTyA P (n + 1) e (x.r.1.map u8) = true := tN he x.r.1
 have h4 := hf_cells x.r
 simp only [hf] at h4
 have h5 : CV.ofTy P (n + 2) ti (.int .i64 x.h) = true := by unfold CV.ofTy; rw [hi]; rfl
 have h6 : CV.ofTy P (n + 2) tr (.agg (x.r.1.map u8)) = true := by
  unfold CV.ofTy; rw [hr]
  show (((x.r.1.map u8).length == 16 && (x.r.1.map u8).all (fun v => v.cells == P.cellsOf e)) && CV.ofTyA P (n + 1) e (x.r.1.map u8)) = true
  rw [h1, h2, h3]; rfl
 unfold CV.ofTy; rw [ht]
 show CV.ofTyF P (n + 2) [(o1, ti), (o2, tr)] [.int .i64 x.h, .agg (x.r.1.map u8)] = true
 simp only [CV.ofTyF, h5, h6, ci, cr, CV.cells, beq_self_eq_true, Bool.and_self]
 rw [CV.cells] at h4
 simp [h4]
theorem bO1 {P : Program} {t ti tr e : TypeId} {z z1 z2 z3 : CV} {s b s1 b1 s2 b2 s3 b3 o1 o2 : Nat} (ha : wO P t = true) (ht : aP P t = some ⟨s, b, .struct [(o1, ti), (o2, tr)], z⟩) (hi : aP P ti = some ⟨s1, b1, .int .i64, z1⟩) (hr : aP P tr = some ⟨s2, b2, .array 16 e, z2⟩) (he : aP P e = some ⟨s3, b3, .int .u8, z3⟩)
  (ci : P.cellsOf ti = 1) (cr : P.cellsOf tr = 16) (ce : P.cellsOf e = 1) (x y : Pk) (K : CV → Prop) : eR P .eql t (.c x.cv) (.c y.cv) K = K (.bool (aW8 x y)) := by
 have h1 := aS4 (n := 5) ht hi hr he ci cr ce x
 have h2 := aS4 (n := 5) ht hi hr he ci cr ce y
 have h3 := bX5 x y
 simp only [Pk.cv] at h1 h2 h3
 simp only [Pk.cv, eR, ha, h1, h2, h3, and_self, true_and]
end Go.Pl

namespace Go.Pl
open Go Go.Hl
set_option linter.unusedSimpArgs false

structure Ak where
 r : aK
 k : List Dig
 t : Int
def Ak.cv (x : Ak) : CV := .agg [.str x.r, .slc (x.k.map dg), .int .i64 x.t]
theorem Ak.cells (x : Ak) : x.cv.cells = 3 := by simp [Ak.cv, CV.cells, CV.cellsL, dg_cells, hf_cells]
theorem Ak.denil (x : Ak) : x.cv.denil = x.cv := by simp only [Ak.cv, CV.denil, CV.denilL, dg_denil, hf_denil, denilL_str, denilL_dg]
theorem Ak.isAgg (x : Ak) : x.cv.isAgg = true := rfl
theorem Ak.getAll (x : Ak) : CV.getAt 0 3 true x.cv = some x.cv := by
 have := Ak.cells x
 simp only [Ak.cv, CV.cells] at this
 simp only [Ak.cv, CV.getAt, this, and_self, if_true]
theorem Ak.setAll (x : Ak) (y : HV) : CV.setAt 0 3 y x.cv = some y := by
 have := Ak.cells x
 simp only [Ak.cv, CV.cells] at this
 simp only [Ak.cv, CV.setAt, this, and_self, if_true]
theorem Ak.fold (r : aK) (k : List Dig) (t : Int) : CV.agg [.str r, .slc (k.map dg), .int .i64 t] = Ak.cv ⟨r, k, t⟩ := rfl
theorem Ak.get_r (x : Ak) : CV.getAt 0 1 false x.cv = some (.str x.r) := by simp [Ak.cv, CV.getAt, CV.getAtL, CV.cells, CV.cellsL, dg_cells, hf_cells]
theorem Ak.set_r (x : Ak) (y : HV) : CV.setAt 0 1 y x.cv = some (.agg [y, .c (.slc (x.k.map dg)), .c (.int .i64 x.t)]) := by simp [Ak.cv, CV.setAt, CV.setAtL, CV.cells, CV.cellsL, dg_cells, hf_cells]
theorem Ak.get_k (x : Ak) : CV.getAt 1 1 false x.cv = some (.slc (x.k.map dg)) := by simp [Ak.cv, CV.getAt, CV.getAtL, CV.cells, CV.cellsL, dg_cells, hf_cells]
theorem Ak.set_k (x : Ak) (y : HV) : CV.setAt 1 1 y x.cv = some (.agg [.c (.str x.r), y, .c (.int .i64 x.t)]) := by simp [Ak.cv, CV.setAt, CV.setAtL, CV.cells, CV.cellsL, dg_cells, hf_cells]
theorem Ak.get_t (x : Ak) : CV.getAt 2 1 false x.cv = some (.int .i64 x.t) := by simp [Ak.cv, CV.getAt, CV.getAtL, CV.cells, CV.cellsL, dg_cells, hf_cells]
theorem Ak.set_t (x : Ak) (y : HV) : CV.setAt 2 1 y x.cv = some (.agg [.c (.str x.r), .c (.slc (x.k.map dg)), y]) := by simp [Ak.cv, CV.setAt, CV.setAtL, CV.cells, CV.cellsL, dg_cells, hf_cells]

end Go.Pl

namespace Go.Proofs.YtenbfeemmpjdhaaGreatDoor
open Go Go.Hl Go.Pl

theorem eK {α : Type} {f : α → CV} {Q : α → Prop} : ∀ (l : List CV), (∀ x ∈ l, ∃ y, x = f y ∧ Q y) → ∃ m : List α, l = m.map f ∧ ∀ y ∈ m, Q y
 | [], _ => ⟨[], rfl, by simp⟩
 | x :: l, h => by
  obtain ⟨y, rfl, hy⟩ := h x (by simp)
  obtain ⟨m, rfl, hm⟩ := eK l (fun x hx => h x (by simp [hx]))
  exact ⟨y :: m, rfl, fun z hz => by rcases List.mem_cons.1 hz with rfl | hz; exact hy; exact hm z hz⟩
theorem bO2 {c : CV} (h : HasTy Tryz.prog 27 c) : ∃ L : List Int, c = .slc (L.map (.int .i64)) ∧ (∀ n ∈ L, (Lit.int .i64 n).wf = true) ∧ L.length ≤ maxLen := by
 obtain ⟨l, rfl, hl, hn⟩ := h.of_slc Tryz.underlying27
 obtain ⟨m, rfl, hm⟩ := eK (f := CV.int .i64) (Q := fun n => (Lit.int .i64 n).wf = true) l (fun x hx => (hl x hx).of_int Tryz.underlying3)
 exact ⟨m, rfl, hm, by simpa using hn⟩
theorem uO {m : Nat} {l : List CV} (hl : ∀ x ∈ l, HasTy Tryz.prog 5 x) (hn : l.length = m) : ∃ d : { l : List UInt8 // l.length = m }, l = d.1.map u8 := by
 obtain ⟨q, rfl, _⟩ := eK (f := u8) (Q := fun _ => True) l (fun x hx => by
  obtain ⟨n, rfl, hw⟩ := (hl x hx).of_int Tryz.underlying5
  have hb : 0 ≤ n ∧ n ≤ 255 := by simpa [Lit.wf, IntKind.min, IntKind.max, IntKind.signed, IntKind.bits] using hw
  refine ⟨UInt8.ofNat n.toNat, ?_, trivial⟩
  show CV.int .u8 n = CV.int .u8 _
  congr 1
  have : (UInt8.ofNat n.toNat).toNat = n.toNat := by rw [UInt8.toNat_ofNat']; exact Nat.mod_eq_of_lt (by omega)
  rw [this]; omega)
 exact ⟨⟨q, by simpa using hn⟩, rfl⟩
theorem bX6 {c : CV} (h : HasTy Tryz.prog 49 c) : ∃ d : Dig, c = dg d := by
 obtain ⟨l, rfl, hl, hn⟩ := h.of_arr Tryz.underlying49
 obtain ⟨d, rfl⟩ := uO hl hn
 exact ⟨d, rfl⟩
theorem bO3 {c : CV} (h : HasTy Tryz.prog 66 c) : ∃ d : iS, c = hf d := by
 obtain ⟨l, rfl, hl, hn⟩ := h.of_arr Tryz.underlying66
 obtain ⟨d, rfl⟩ := uO hl hn
 exact ⟨d, rfl⟩
theorem bO4 {c : CV} (h : HasTy Tryz.prog 60 c) : ∃ l : List aK, c = .slc (l.map .str) ∧ (∀ w ∈ l, w.length ≤ maxLen) ∧ l.length ≤ maxLen := by
 obtain ⟨l, rfl, hl, hn⟩ := h.of_slc Tryz.underlying60
 obtain ⟨m, rfl, hm⟩ := eK (f := CV.str) (Q := fun w => w.length ≤ maxLen) l (fun x hx => (hl x hx).of_str Tryz.underlying9)
 exact ⟨m, rfl, hm, by simpa using hn⟩
theorem aX0 {c : CV} (h : HasTy Tryz.prog 68 c) : ∃ x : Pk, c = x.cv := by
 obtain ⟨l, rfl, hn, hl⟩ := h.of_struct Tryz.underlying68
 match l, hn, hl with
 | [a, b], _, hl =>
  obtain ⟨n, rfl, _⟩ := (hl 0 _ a rfl rfl).of_int Tryz.underlying3
  obtain ⟨r, rfl⟩ := bO3 (hl 1 _ b rfl rfl)
  exact ⟨⟨n, r⟩, rfl⟩
theorem bG0 {c : CV} (h : HasTy Tryz.prog 64 c) : ∃ x : Qt, c = x.cv ∧ x.r.length ≤ maxLen := by
 obtain ⟨l, rfl, hn, hl⟩ := h.of_struct Tryz.underlying64
 match l, hn, hl with
 | [a, b], _, hl =>
  obtain ⟨w, rfl, hw⟩ := (hl 0 _ a rfl rfl).of_str Tryz.underlying9
  obtain ⟨n, rfl, _⟩ := (hl 1 _ b rfl rfl).of_int Tryz.underlying3
  exact ⟨⟨w, n⟩, rfl, hw⟩
theorem bX7 {c : CV} (h : HasTy Tryz.prog 51 c) : ∃ x : Rv, c = x.cv := by
 obtain ⟨l, rfl, hn, hl⟩ := h.of_struct Tryz.underlying51
 match l, hn, hl with
 | [a, b], _, hl =>
  obtain ⟨d, rfl⟩ := bX6 (hl 0 _ a rfl rfl)
  obtain ⟨n, rfl, _⟩ := (hl 1 _ b rfl rfl).of_int Tryz.underlying2
  exact ⟨⟨d, n⟩, rfl⟩
theorem bX8 {c : CV} (h : HasTy Tryz.prog 70 c) : ∃ x : Ky, c = x.cv ∧ x.o.length ≤ maxLen ∧ x.rs.length ≤ maxLen ∧ ∀ w ∈ x.rs, w.length ≤ maxLen := by
 obtain ⟨l, rfl, hn, hl⟩ := h.of_struct Tryz.underlying70
 match l, hn, hl with
 | [a, b, c, d, e], _, hl =>
  obtain ⟨p, rfl⟩ := aX0 (hl 0 _ a rfl rfl)
  obtain ⟨o, rfl, ho⟩ := (hl 1 _ b rfl rfl).of_str Tryz.underlying9
  obtain ⟨rs, rfl, h1, h2⟩ := bO4 (hl 2 _ c rfl rfl)
  obtain ⟨x, rfl, _⟩ := (hl 3 _ d rfl rfl).of_int Tryz.underlying2
  obtain ⟨y, rfl, _⟩ := (hl 4 _ e rfl rfl).of_int Tryz.underlying2
  exact ⟨⟨p, o, rs, x, y⟩, rfl, ho, h2, h1⟩
theorem bO5 {c : CV} (h : HasTy Tryz.prog 26 c) : ∃ r : Rt, c = r.cv ∧ bN9 r := by
 obtain ⟨l, rfl, hn, hl⟩ := h.of_struct Tryz.underlying26
 match l, hn, hl with
 | [a, b, c, d, e], _, hl =>
  obtain ⟨v, rfl, _⟩ := (hl 0 _ a rfl rfl).of_int Tryz.underlying2
  obtain ⟨x, rfl, _⟩ := (hl 1 _ b rfl rfl).of_int Tryz.underlying2
  obtain ⟨q, rfl, hq, n1⟩ := (hl 2 _ c rfl rfl).of_slc Tryz.underlying22
  obtain ⟨k, rfl, hk, n2⟩ := (hl 3 _ d rfl rfl).of_slc Tryz.underlying23
  obtain ⟨z, rfl, hz, n3⟩ := (hl 4 _ e rfl rfl).of_slc Tryz.underlying24
  obtain ⟨q, rfl, hq2⟩ := eK (f := Qt.cv) (Q := fun x => x.r.length ≤ maxLen) q (fun x hx => bG0 (hq x hx))
  obtain ⟨k, rfl, hk2⟩ := eK (f := Ky.cv) (Q := fun x => x.o.length ≤ maxLen ∧ x.rs.length ≤ maxLen ∧ ∀ w ∈ x.rs, w.length ≤ maxLen) k (fun x hx => bX8 (hk x hx))
  obtain ⟨z, rfl, _⟩ := eK (f := Rv.cv) (Q := fun _ => True) z (fun x hx => by obtain ⟨d, rfl⟩ := bX7 (hz x hx); exact ⟨d, rfl, trivial⟩)
  exact ⟨⟨v, x, q, k, z⟩, rfl, ⟨by simpa using n1, hq2⟩, ⟨by simpa using n2, hk2⟩, by simpa using n3⟩
theorem own : ownKnob Tryz.prog.godebug = none := by kernel_rfl
theorem cD7 : Kids Tryz.prog (· < Tryz.prog.types.size) := kids_rows (by kernel_rfl) (by kernel_rfl)
theorem aN2 : ∀ t e, t < Tryz.prog.types.size → Tryz.prog.underlying t = some (.slice e) → 0 < Tryz.prog.cellsOf e := slices_full_of Tryz.prog (by kernel_rfl)
end Go.Proofs.YtenbfeemmpjdhaaGreatDoor
