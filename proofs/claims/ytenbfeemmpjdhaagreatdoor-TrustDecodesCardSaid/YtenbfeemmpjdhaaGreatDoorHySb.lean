/- The rules that a step of a walk uses, in bundles. Printed by gen/bund.py. By an AI agent. -/
import Derived.Test.YtenbfeemmpjdhaaGreatDoorPl18e
import Derived.Test.YtenbfeemmpjdhaaGreatDoorChecked
set_option linter.unusedSimpArgs false
set_option linter.unusedVariables false
set_option linter.defProp false
namespace Go.Pl
open Go Go.Hl

abbrev iM := {l : List UInt8 // l.length = 16}
def hf (h : iM) : CV := .agg (h.1.map u8)
theorem hf_cells (h : iM) : (hf h).cells = 16 := by rw [← h.2]; exact us_cells h.1
theorem hf_denil (h : iM) : (hf h).denil = hf h := by simp only [hf, CV.denil]; rw [cB (f := u8) (fun _ => rfl)]
theorem hf_isAgg (h : iM) : (hf h).isAgg = true := rfl
theorem hf_getAt (h : iM) : CV.getAt 0 16 true (hf h) = some (hf h) := by
 have := hf_cells h
 simp only [hf, CV.cells] at this
 simp only [hf, CV.getAt, this, and_self, if_true]
theorem hf_setAt (h : iM) (x : HV) : CV.setAt 0 16 x (hf h) = some x := by
 have := hf_cells h
 simp only [hf, CV.cells] at this
 simp only [hf, CV.setAt, this, and_self, if_true]
def zh : iM := ⟨List.replicate 16 0, by simp⟩
def zhf : CV := hf zh
theorem zhf_eq : zhf = hf zh := rfl
theorem denilL_dg (l : List Dig) : CV.denilL (l.map dg) = l.map dg := cB dg_denil l
theorem xQ (d : Dig) : dg d = .agg (d.1.map u8) := rfl
theorem pB (h : iM) : hf h = .agg (h.1.map u8) := rfl
theorem bG {l : List UInt8} : (∀ v ∈ l.map u8, v.cells = 1) ↔ True := by simp [u8, CV.cells]

structure Pk where
 h : Int
 r : iM
def Pk.cv (x : Pk) : CV := .agg [.int .i64 x.h, hf x.r]
theorem Pk.cells (x : Pk) : x.cv.cells = 17 := by simp [Pk.cv, CV.cells, CV.cellsL, dg_cells, hf_cells]
theorem Pk.denil (x : Pk) : x.cv.denil = x.cv := by simp only [Pk.cv, CV.denil, CV.denilL, dg_denil, hf_denil, denilL_str, denilL_dg]
theorem denilL_Pk (l : List Pk) : CV.denilL (l.map Pk.cv) = l.map Pk.cv := cB Pk.denil l
theorem Pk.isAgg (x : Pk) : x.cv.isAgg = true := rfl
theorem Pk.getAll (x : Pk) : CV.getAt 0 17 true x.cv = some x.cv := by
 have := Pk.cells x
 simp only [Pk.cv, CV.cells] at this
 simp only [Pk.cv, CV.getAt, this, and_self, if_true]
theorem Pk.setAll (x : Pk) (y : HV) : CV.setAt 0 17 y x.cv = some y := by
 have := Pk.cells x
 simp only [Pk.cv, CV.cells] at this
 simp only [Pk.cv, CV.setAt, this, and_self, if_true]
theorem Pk.fold (h : Int) (r : iM) : CV.agg [.int .i64 h, hf r] = Pk.cv ⟨h, r⟩ := rfl
theorem Pk.get_h (x : Pk) : CV.getAt 0 1 false x.cv = some (.int .i64 x.h) := by simp [Pk.cv, CV.getAt, CV.getAtL, CV.cells, CV.cellsL, dg_cells, hf_cells]
theorem Pk.set_h (x : Pk) (y : HV) : CV.setAt 0 1 y x.cv = some (.agg [y, .c (hf x.r)]) := by simp [Pk.cv, CV.setAt, CV.setAtL, CV.cells, CV.cellsL, dg_cells, hf_cells]
theorem Pk.get_r (x : Pk) : CV.getAt 1 16 true x.cv = some (hf x.r) := by simp [Pk.cv, CV.getAt, CV.getAtL, CV.cells, CV.cellsL, dg_cells, hf_cells, hf_getAt]
theorem Pk.set_r (x : Pk) (y : HV) : CV.setAt 1 16 y x.cv = some (.agg [.c (.int .i64 x.h), y]) := by simp [Pk.cv, CV.setAt, CV.setAtL, CV.cells, CV.cellsL, dg_cells, hf_cells, hf_setAt]

structure Ky where
 p : Pk
 o : aK
 rs : List aK
 fr : Int
 un : Int
def Ky.cv (x : Ky) : CV := .agg [x.p.cv, .str x.o, .slc (x.rs.map .str), .int .i64 x.fr, .int .i64 x.un]
theorem Ky.cells (x : Ky) : x.cv.cells = 21 := by simp [Ky.cv, CV.cells, CV.cellsL, dg_cells, hf_cells, Pk.cells]
theorem Ky.denil (x : Ky) : x.cv.denil = x.cv := by simp only [Ky.cv, CV.denil, CV.denilL, dg_denil, hf_denil, denilL_str, denilL_dg, Pk.denil]
theorem denilL_Ky (l : List Ky) : CV.denilL (l.map Ky.cv) = l.map Ky.cv := cB Ky.denil l
theorem Ky.isAgg (x : Ky) : x.cv.isAgg = true := rfl
theorem Ky.getAll (x : Ky) : CV.getAt 0 21 true x.cv = some x.cv := by
 have := Ky.cells x
 simp only [Ky.cv, CV.cells] at this
 simp only [Ky.cv, CV.getAt, this, and_self, if_true]
theorem Ky.setAll (x : Ky) (y : HV) : CV.setAt 0 21 y x.cv = some y := by
 have := Ky.cells x
 simp only [Ky.cv, CV.cells] at this
 simp only [Ky.cv, CV.setAt, this, and_self, if_true]
theorem Ky.fold (p : Pk) (o : aK) (rs : List aK) (fr : Int) (un : Int) : CV.agg [p.cv, .str o, .slc (rs.map .str), .int .i64 fr, .int .i64 un] = Ky.cv ⟨p, o, rs, fr, un⟩ := rfl
theorem Ky.get_p (x : Ky) : CV.getAt 0 17 true x.cv = some (x.p.cv) := by simp [Ky.cv, CV.getAt, CV.getAtL, CV.cells, CV.cellsL, dg_cells, hf_cells, Pk.cells, Pk.getAll]
theorem Ky.set_p (x : Ky) (y : HV) : CV.setAt 0 17 y x.cv = some (.agg [y, .c (.str x.o), .c (.slc (x.rs.map .str)), .c (.int .i64 x.fr), .c (.int .i64 x.un)]) := by simp [Ky.cv, CV.setAt, CV.setAtL, CV.cells, CV.cellsL, dg_cells, hf_cells, Pk.cells, Pk.setAll]
theorem Ky.get_o (x : Ky) : CV.getAt 17 1 false x.cv = some (.str x.o) := by simp [Ky.cv, CV.getAt, CV.getAtL, CV.cells, CV.cellsL, dg_cells, hf_cells, Pk.cells]
theorem Ky.set_o (x : Ky) (y : HV) : CV.setAt 17 1 y x.cv = some (.agg [.c (x.p.cv), y, .c (.slc (x.rs.map .str)), .c (.int .i64 x.fr), .c (.int .i64 x.un)]) := by simp [Ky.cv, CV.setAt, CV.setAtL, CV.cells, CV.cellsL, dg_cells, hf_cells, Pk.cells]
theorem Ky.get_rs (x : Ky) : CV.getAt 18 1 false x.cv = some (.slc (x.rs.map .str)) := by simp [Ky.cv, CV.getAt, CV.getAtL, CV.cells, CV.cellsL, dg_cells, hf_cells, Pk.cells]
theorem Ky.set_rs (x : Ky) (y : HV) : CV.setAt 18 1 y x.cv = some (.agg [.c (x.p.cv), .c (.str x.o), y, .c (.int .i64 x.fr), .c (.int .i64 x.un)]) := by simp [Ky.cv, CV.setAt, CV.setAtL, CV.cells, CV.cellsL, dg_cells, hf_cells, Pk.cells]
theorem Ky.get_fr (x : Ky) : CV.getAt 19 1 false x.cv = some (.int .i64 x.fr) := by simp [Ky.cv, CV.getAt, CV.getAtL, CV.cells, CV.cellsL, dg_cells, hf_cells, Pk.cells]
theorem Ky.set_fr (x : Ky) (y : HV) : CV.setAt 19 1 y x.cv = some (.agg [.c (x.p.cv), .c (.str x.o), .c (.slc (x.rs.map .str)), y, .c (.int .i64 x.un)]) := by simp [Ky.cv, CV.setAt, CV.setAtL, CV.cells, CV.cellsL, dg_cells, hf_cells, Pk.cells]
theorem Ky.get_un (x : Ky) : CV.getAt 20 1 false x.cv = some (.int .i64 x.un) := by simp [Ky.cv, CV.getAt, CV.getAtL, CV.cells, CV.cellsL, dg_cells, hf_cells, Pk.cells]
theorem Ky.set_un (x : Ky) (y : HV) : CV.setAt 20 1 y x.cv = some (.agg [.c (x.p.cv), .c (.str x.o), .c (.slc (x.rs.map .str)), .c (.int .i64 x.fr), y]) := by simp [Ky.cv, CV.setAt, CV.setAtL, CV.cells, CV.cellsL, dg_cells, hf_cells, Pk.cells]

structure Qt where
 r : aK
 n : Int
def Qt.cv (x : Qt) : CV := .agg [.str x.r, .int .i64 x.n]
theorem Qt.cells (x : Qt) : x.cv.cells = 2 := by simp [Qt.cv, CV.cells, CV.cellsL, dg_cells, hf_cells]
theorem Qt.denil (x : Qt) : x.cv.denil = x.cv := by simp only [Qt.cv, CV.denil, CV.denilL, dg_denil, hf_denil, denilL_str, denilL_dg]
theorem denilL_Qt (l : List Qt) : CV.denilL (l.map Qt.cv) = l.map Qt.cv := cB Qt.denil l
theorem Qt.isAgg (x : Qt) : x.cv.isAgg = true := rfl
theorem Qt.getAll (x : Qt) : CV.getAt 0 2 true x.cv = some x.cv := by
 have := Qt.cells x
 simp only [Qt.cv, CV.cells] at this
 simp only [Qt.cv, CV.getAt, this, and_self, if_true]
theorem Qt.setAll (x : Qt) (y : HV) : CV.setAt 0 2 y x.cv = some y := by
 have := Qt.cells x
 simp only [Qt.cv, CV.cells] at this
 simp only [Qt.cv, CV.setAt, this, and_self, if_true]
theorem Qt.fold (r : aK) (n : Int) : CV.agg [.str r, .int .i64 n] = Qt.cv ⟨r, n⟩ := rfl
theorem Qt.get_r (x : Qt) : CV.getAt 0 1 false x.cv = some (.str x.r) := by simp [Qt.cv, CV.getAt, CV.getAtL, CV.cells, CV.cellsL, dg_cells, hf_cells]
theorem Qt.set_r (x : Qt) (y : HV) : CV.setAt 0 1 y x.cv = some (.agg [y, .c (.int .i64 x.n)]) := by simp [Qt.cv, CV.setAt, CV.setAtL, CV.cells, CV.cellsL, dg_cells, hf_cells]
theorem Qt.get_n (x : Qt) : CV.getAt 1 1 false x.cv = some (.int .i64 x.n) := by simp [Qt.cv, CV.getAt, CV.getAtL, CV.cells, CV.cellsL, dg_cells, hf_cells]
theorem Qt.set_n (x : Qt) (y : HV) : CV.setAt 1 1 y x.cv = some (.agg [.c (.str x.r), y]) := by simp [Qt.cv, CV.setAt, CV.setAtL, CV.cells, CV.cellsL, dg_cells, hf_cells]

structure Rv where
 k : Dig
 t : Int
def Rv.cv (x : Rv) : CV := .agg [dg x.k, .int .i64 x.t]
theorem Rv.cells (x : Rv) : x.cv.cells = 33 := by simp [Rv.cv, CV.cells, CV.cellsL, dg_cells, hf_cells]
theorem Rv.denil (x : Rv) : x.cv.denil = x.cv := by simp only [Rv.cv, CV.denil, CV.denilL, dg_denil, hf_denil, denilL_str, denilL_dg]
theorem denilL_Rv (l : List Rv) : CV.denilL (l.map Rv.cv) = l.map Rv.cv := cB Rv.denil l
theorem Rv.isAgg (x : Rv) : x.cv.isAgg = true := rfl
theorem Rv.getAll (x : Rv) : CV.getAt 0 33 true x.cv = some x.cv := by
 have := Rv.cells x
 simp only [Rv.cv, CV.cells] at this
 simp only [Rv.cv, CV.getAt, this, and_self, if_true]
theorem Rv.setAll (x : Rv) (y : HV) : CV.setAt 0 33 y x.cv = some y := by
 have := Rv.cells x
 simp only [Rv.cv, CV.cells] at this
 simp only [Rv.cv, CV.setAt, this, and_self, if_true]
theorem Rv.fold (k : Dig) (t : Int) : CV.agg [dg k, .int .i64 t] = Rv.cv ⟨k, t⟩ := rfl
theorem Rv.get_k (x : Rv) : CV.getAt 0 32 true x.cv = some (dg x.k) := by simp [Rv.cv, CV.getAt, CV.getAtL, CV.cells, CV.cellsL, dg_cells, hf_cells, dg_getAt]
theorem Rv.set_k (x : Rv) (y : HV) : CV.setAt 0 32 y x.cv = some (.agg [y, .c (.int .i64 x.t)]) := by simp [Rv.cv, CV.setAt, CV.setAtL, CV.cells, CV.cellsL, dg_cells, hf_cells, dg_setAt]
theorem Rv.get_t (x : Rv) : CV.getAt 32 1 false x.cv = some (.int .i64 x.t) := by simp [Rv.cv, CV.getAt, CV.getAtL, CV.cells, CV.cellsL, dg_cells, hf_cells]
theorem Rv.set_t (x : Rv) (y : HV) : CV.setAt 32 1 y x.cv = some (.agg [.c (dg x.k), y]) := by simp [Rv.cv, CV.setAt, CV.setAtL, CV.cells, CV.cellsL, dg_cells, hf_cells]

structure Rt where
 v : Int
 e : Int
 q : List Qt
 k : List Ky
 x : List Rv
def Rt.cv (x : Rt) : CV := .agg [.int .i64 x.v, .int .i64 x.e, .slc (x.q.map Qt.cv), .slc (x.k.map Ky.cv), .slc (x.x.map Rv.cv)]
theorem Rt.cells (x : Rt) : x.cv.cells = 5 := by simp [Rt.cv, CV.cells, CV.cellsL, dg_cells, hf_cells]
theorem Rt.denil (x : Rt) : x.cv.denil = x.cv := by simp only [Rt.cv, CV.denil, CV.denilL, dg_denil, hf_denil, denilL_str, denilL_dg, denilL_Qt, denilL_Ky, denilL_Rv]
theorem denilL_Rt (l : List Rt) : CV.denilL (l.map Rt.cv) = l.map Rt.cv := cB Rt.denil l
theorem Rt.isAgg (x : Rt) : x.cv.isAgg = true := rfl
theorem Rt.getAll (x : Rt) : CV.getAt 0 5 true x.cv = some x.cv := by
 have := Rt.cells x
 simp only [Rt.cv, CV.cells] at this
 simp only [Rt.cv, CV.getAt, this, and_self, if_true]
theorem Rt.setAll (x : Rt) (y : HV) : CV.setAt 0 5 y x.cv = some y := by
 have := Rt.cells x
 simp only [Rt.cv, CV.cells] at this
 simp only [Rt.cv, CV.setAt, this, and_self, if_true]
theorem Rt.fold (v : Int) (e : Int) (q : List Qt) (k : List Ky) (x : List Rv) : CV.agg [.int .i64 v, .int .i64 e, .slc (q.map Qt.cv), .slc (k.map Ky.cv), .slc (x.map Rv.cv)] = Rt.cv ⟨v, e, q, k, x⟩ := rfl
theorem Rt.get_v (x : Rt) : CV.getAt 0 1 false x.cv = some (.int .i64 x.v) := by simp [Rt.cv, CV.getAt, CV.getAtL, CV.cells, CV.cellsL, dg_cells, hf_cells]
theorem Rt.set_v (x : Rt) (y : HV) : CV.setAt 0 1 y x.cv = some (.agg [y, .c (.int .i64 x.e), .c (.slc (x.q.map Qt.cv)), .c (.slc (x.k.map Ky.cv)), .c (.slc (x.x.map Rv.cv))]) := by simp [Rt.cv, CV.setAt, CV.setAtL, CV.cells, CV.cellsL, dg_cells, hf_cells]
theorem Rt.get_e (x : Rt) : CV.getAt 1 1 false x.cv = some (.int .i64 x.e) := by simp [Rt.cv, CV.getAt, CV.getAtL, CV.cells, CV.cellsL, dg_cells, hf_cells]
theorem Rt.set_e (x : Rt) (y : HV) : CV.setAt 1 1 y x.cv = some (.agg [.c (.int .i64 x.v), y, .c (.slc (x.q.map Qt.cv)), .c (.slc (x.k.map Ky.cv)), .c (.slc (x.x.map Rv.cv))]) := by simp [Rt.cv, CV.setAt, CV.setAtL, CV.cells, CV.cellsL, dg_cells, hf_cells]
theorem Rt.get_q (x : Rt) : CV.getAt 2 1 false x.cv = some (.slc (x.q.map Qt.cv)) := by simp [Rt.cv, CV.getAt, CV.getAtL, CV.cells, CV.cellsL, dg_cells, hf_cells]
theorem Rt.set_q (x : Rt) (y : HV) : CV.setAt 2 1 y x.cv = some (.agg [.c (.int .i64 x.v), .c (.int .i64 x.e), y, .c (.slc (x.k.map Ky.cv)), .c (.slc (x.x.map Rv.cv))]) := by simp [Rt.cv, CV.setAt, CV.setAtL, CV.cells, CV.cellsL, dg_cells, hf_cells]
theorem Rt.get_k (x : Rt) : CV.getAt 3 1 false x.cv = some (.slc (x.k.map Ky.cv)) := by simp [Rt.cv, CV.getAt, CV.getAtL, CV.cells, CV.cellsL, dg_cells, hf_cells]
theorem Rt.set_k (x : Rt) (y : HV) : CV.setAt 3 1 y x.cv = some (.agg [.c (.int .i64 x.v), .c (.int .i64 x.e), .c (.slc (x.q.map Qt.cv)), y, .c (.slc (x.x.map Rv.cv))]) := by simp [Rt.cv, CV.setAt, CV.setAtL, CV.cells, CV.cellsL, dg_cells, hf_cells]
theorem Rt.get_x (x : Rt) : CV.getAt 4 1 false x.cv = some (.slc (x.x.map Rv.cv)) := by simp [Rt.cv, CV.getAt, CV.getAtL, CV.cells, CV.cellsL, dg_cells, hf_cells]
theorem Rt.set_x (x : Rt) (y : HV) : CV.setAt 4 1 y x.cv = some (.agg [.c (.int .i64 x.v), .c (.int .i64 x.e), .c (.slc (x.q.map Qt.cv)), .c (.slc (x.k.map Ky.cv)), y]) := by simp [Rt.cv, CV.setAt, CV.setAtL, CV.cells, CV.cellsL, dg_cells, hf_cells]

def eD : Int := 1099511627776
def al (c : UInt8) : Bool := (decide (97 ≤ c) && decide (c ≤ 122)) || (decide (48 ≤ c) && decide (c ≤ 57))
def nc (c : UInt8) : Bool := al c || (c == 46 || (c == 95 || c == 45))
def dV : aK → Bool
 | [] => false
 | c :: r => decide ((c :: r).length ≤ 64) && (al c && r.all nc)
def kT (l : List aK) : Bool := l.all dV && oV l
def inN (t : Int) : Bool := decide (0 ≤ t) && decide (t ≤ eD)
def dlt (a b : Dig) : Bool := slt a.1 b.1
def aX6 : List Dig → Bool
 | a :: b :: l => dlt a b && aX6 (b :: l)
 | _ => true
def kU (q : Qt) : Bool := dV q.r && (decide (1 ≤ q.n) && decide (q.n ≤ 32))
def eJ (l : List Qt) : Bool := l.all kU && (oV (l.map Qt.r) && decide (l.length ≤ 12))
def pid (p : Pk) : Dig := sha (oX (UInt8.ofNat (p.h.emod 256).toNat) p.r.1)
def kid (k : Ky) : Dig := pid k.p
def uH (k : Ky) : Bool := (decide (0 ≤ k.p.h) && decide (k.p.h ≤ 6)) && (dV k.o && ((decide (1 ≤ k.rs.length) && decide (k.rs.length ≤ 12)) && (kT k.rs && (inN k.fr && (inN k.un && decide (k.fr < k.un))))))
def lG (l : List Ky) : Bool := l.all uH && (aX6 (l.map kid) && decide (l.length ≤ 32))
def gO (l : List Rv) : Bool := l.all (fun x => inN x.t) && (aX6 (l.map Rv.k) && decide (l.length ≤ 64))
def pC (l : List Qt) (role : aK) : Int := match l.find? (fun q => q.r == role) with | some q => q.n | none => 0
def lZ (l : List aK) : List aK := l.foldl oW []
def gH (l : List Ky) (role : aK) (p : Ky → Bool) : List aK := (l.filter fun k => k.rs.contains role && p k).map Ky.o
def wM (l : List Ky) (role : aK) (p : Ky → Bool) : List aK := lZ (gH l role p)
def wRoot : aK := [114, 111, 111, 116]
def bQ (r : Rt) : Bool :=
 (decide (1 ≤ r.v) && decide (r.v ≤ eD)) && (inN r.e && (eJ r.q && (lG r.k && (gO r.x && (decide (0 < pC r.q wRoot) && decide (pC r.q wRoot ≤ (wM r.k wRoot fun _ => true).length))))))
def gF (l : List Rv) (d : Dig) : Option Int := (l.find? fun x => x.k == d).map Rv.t
def uI (l : List Ky) (d : Dig) : Option Ky := l.find? fun k => kid k == d
def bF9 (l : List Rv) (d : Dig) (t : Int) : Bool := match gF l d with | some a => decide (a ≤ t) | none => false
def rY (r : Rt) (k : Ky) (t : Int) : Bool := decide (k.fr ≤ t) && (decide (t < k.un) && (decide (t < r.e) && !bF9 r.x (kid k) t))
def sW (r : Rt) (role : aK) (l : List Dig) (t : Int) : List aK := if bQ r then wM r.k role fun k => l.contains (kid k) && rY r k t else []
def xR (r : Rt) (role : aK) : Int := if bQ r then pC r.q role else 0
def uJ (r : Rt) (role : aK) (l : List Dig) (t : Int) : Bool := decide (0 < xR r role) && decide (xR r role ≤ (sW r role l t).length)
end Go.Pl

namespace Go.Proofs
namespace YtenbfeemmpjdhaaGreatDoor
open Go Go.Hl Go.Pl

theorem ty1 : aP Tryz.prog 1 = some ⟨1, 8, .func, .nilf⟩ := by kernel_rfl
theorem ty2 : aP Tryz.prog 2 = some ⟨1, 8, .int .i64, .int .i64 0⟩ := by kernel_rfl
theorem ty3 : aP Tryz.prog 3 = some ⟨1, 8, .int .i64, .int .i64 0⟩ := by kernel_rfl
theorem ty4 : aP Tryz.prog 4 = some ⟨1, 1, .bool, .bool false⟩ := by kernel_rfl
theorem ty5 : aP Tryz.prog 5 = some ⟨1, 1, .int .u8, .int .u8 0⟩ := by kernel_rfl
theorem ty6 : aP Tryz.prog 6 = some ⟨1, 1, .int .u8, .int .u8 0⟩ := by kernel_rfl
theorem ty7 : aP Tryz.prog 7 = some ⟨4, 24, .struct [(0, 2), (1, 3), (2, 4), (3, 6)], .agg [.int .i64 0, .int .i64 0, .bool false, .int .u8 0]⟩ := by kernel_rfl
theorem ty8 : aP Tryz.prog 8 = some ⟨4, 24, .struct [(0, 2), (1, 3), (2, 4), (3, 6)], .agg [.int .i64 0, .int .i64 0, .bool false, .int .u8 0]⟩ := by kernel_rfl
theorem ty9 : aP Tryz.prog 9 = some ⟨1, 16, .string, .str []⟩ := by kernel_rfl
theorem ty10 : aP Tryz.prog 10 = some ⟨1, 16, .string, .str []⟩ := by kernel_rfl
theorem ty11 : aP Tryz.prog 11 = some ⟨1, 16, .string, .str []⟩ := by kernel_rfl
theorem ty12 : aP Tryz.prog 12 = some ⟨1, 8, .int .u64, .int .u64 0⟩ := by kernel_rfl
theorem ty13 : aP Tryz.prog 13 = some ⟨2, 24, .struct [(0, 9), (1, 12)], .agg [.str [], .int .u64 0]⟩ := by kernel_rfl
theorem ty14 : aP Tryz.prog 14 = some ⟨2, 24, .struct [(0, 9), (1, 12)], .agg [.str [], .int .u64 0]⟩ := by kernel_rfl
theorem ty15 : aP Tryz.prog 15 = some ⟨1, 8, .pointer 224, .nilp⟩ := by kernel_rfl
theorem ty16 : aP Tryz.prog 16 = some ⟨1, 8, .pointer 227, .nilp⟩ := by kernel_rfl
theorem ty17 : aP Tryz.prog 17 = some ⟨1, 8, .pointer 235, .nilp⟩ := by kernel_rfl
theorem ty18 : aP Tryz.prog 18 = some ⟨1, 8, .struct [(0, 17)], .agg [.nilp]⟩ := by kernel_rfl
theorem ty19 : aP Tryz.prog 19 = some ⟨1, 8, .struct [(0, 17)], .agg [.nilp]⟩ := by kernel_rfl
theorem ty20 : aP Tryz.prog 20 = some ⟨1, 16, .iface true, .nili⟩ := by kernel_rfl
theorem ty21 : aP Tryz.prog 21 = some ⟨1, 4, .int .i32, .int .i32 0⟩ := by kernel_rfl
theorem ty22 : aP Tryz.prog 22 = some ⟨1, 24, .slice 64, .nils⟩ := by kernel_rfl
theorem ty23 : aP Tryz.prog 23 = some ⟨1, 24, .slice 70, .nils⟩ := by kernel_rfl
theorem ty24 : aP Tryz.prog 24 = some ⟨1, 24, .slice 51, .nils⟩ := by kernel_rfl
theorem ty25 : aP Tryz.prog 25 = some ⟨5, 88, .struct [(0, 2), (1, 2), (2, 22), (3, 23), (4, 24)], .agg [.int .i64 0, .int .i64 0, .nils, .nils, .nils]⟩ := by kernel_rfl
theorem ty26 : aP Tryz.prog 26 = some ⟨5, 88, .struct [(0, 2), (1, 2), (2, 22), (3, 23), (4, 24)], .agg [.int .i64 0, .int .i64 0, .nils, .nils, .nils]⟩ := by kernel_rfl
theorem ty27 : aP Tryz.prog 27 = some ⟨1, 24, .slice 3, .nils⟩ := by kernel_rfl
theorem ty28 : aP Tryz.prog 28 = some ⟨1, 24, .slice 26, .nils⟩ := by kernel_rfl
theorem ty29 : aP Tryz.prog 29 = some ⟨1, 8, .func, .nilf⟩ := by kernel_rfl
theorem ty30 : aP Tryz.prog 30 = some ⟨1, 24, .slice 5, .nils⟩ := by kernel_rfl
theorem ty31 : aP Tryz.prog 31 = some ⟨1, 8, .int .i64, .int .i64 0⟩ := by kernel_rfl
theorem ty33 : aP Tryz.prog 33 = some ⟨1, 8, .func, .nilf⟩ := by kernel_rfl
theorem ty34 : aP Tryz.prog 34 = some ⟨1, 8, .func, .nilf⟩ := by kernel_rfl
theorem ty35 : aP Tryz.prog 35 = some ⟨1, 8, .func, .nilf⟩ := by kernel_rfl
theorem ty36 : aP Tryz.prog 36 = some ⟨1, 8, .func, .nilf⟩ := by kernel_rfl
theorem ty37 : aP Tryz.prog 37 = some ⟨1, 8, .pointer 39, .nilp⟩ := by kernel_rfl
theorem ty38 : aP Tryz.prog 38 = some ⟨2, 32, .struct [(0, 27), (1, 3)], .agg [.nils, .int .i64 0]⟩ := by kernel_rfl
theorem ty39 : aP Tryz.prog 39 = some ⟨2, 32, .struct [(0, 27), (1, 3)], .agg [.nils, .int .i64 0]⟩ := by kernel_rfl
theorem ty40 : aP Tryz.prog 40 = some ⟨1, 8, .func, .nilf⟩ := by kernel_rfl
theorem ty41 : aP Tryz.prog 41 = some ⟨1, 24, .slice 49, .nils⟩ := by kernel_rfl
theorem ty43 : aP Tryz.prog 43 = some ⟨1, 8, .func, .nilf⟩ := by kernel_rfl
theorem ty45 : aP Tryz.prog 45 = some ⟨1, 8, .func, .nilf⟩ := by kernel_rfl
theorem ty46 : aP Tryz.prog 46 = some ⟨1, 8, .func, .nilf⟩ := by kernel_rfl
theorem ty47 : aP Tryz.prog 47 = some ⟨1, 8, .func, .nilf⟩ := by kernel_rfl
theorem ty48 : aP Tryz.prog 48 = some ⟨32, 32, .array 32 5, zd⟩ := by kernel_rfl
theorem ty49 : aP Tryz.prog 49 = some ⟨32, 32, .array 32 5, zd⟩ := by kernel_rfl
theorem ty50 : aP Tryz.prog 50 = some ⟨33, 40, .struct [(0, 49), (32, 2)], .agg [zd, .int .i64 0]⟩ := by kernel_rfl
theorem ty51 : aP Tryz.prog 51 = some ⟨33, 40, .struct [(0, 49), (32, 2)], .agg [zd, .int .i64 0]⟩ := by kernel_rfl
theorem ty52 : aP Tryz.prog 52 = some ⟨1, 8, .func, .nilf⟩ := by kernel_rfl
theorem ty53 : aP Tryz.prog 53 = some ⟨1, 24, .slice 30, .nils⟩ := by kernel_rfl
theorem ty54 : aP Tryz.prog 54 = some ⟨1, 8, .func, .nilf⟩ := by kernel_rfl
theorem ty55 : aP Tryz.prog 55 = some ⟨1, 8, .func, .nilf⟩ := by kernel_rfl
theorem ty56 : aP Tryz.prog 56 = some ⟨1, 8, .func, .nilf⟩ := by kernel_rfl
theorem ty57 : aP Tryz.prog 57 = some ⟨1, 8, .func, .nilf⟩ := by kernel_rfl
theorem ty58 : aP Tryz.prog 58 = some ⟨1, 8, .func, .nilf⟩ := by kernel_rfl
theorem ty59 : aP Tryz.prog 59 = some ⟨1, 8, .func, .nilf⟩ := by kernel_rfl
theorem ty60 : aP Tryz.prog 60 = some ⟨1, 24, .slice 9, .nils⟩ := by kernel_rfl
theorem ty61 : aP Tryz.prog 61 = some ⟨1, 8, .func, .nilf⟩ := by kernel_rfl
theorem ty62 : aP Tryz.prog 62 = some ⟨1, 24, .slice 60, .nils⟩ := by kernel_rfl
theorem ty63 : aP Tryz.prog 63 = some ⟨2, 24, .struct [(0, 9), (1, 3)], .agg [.str [], .int .i64 0]⟩ := by kernel_rfl
theorem ty64 : aP Tryz.prog 64 = some ⟨2, 24, .struct [(0, 9), (1, 3)], .agg [.str [], .int .i64 0]⟩ := by kernel_rfl
theorem ty65 : aP Tryz.prog 65 = some ⟨16, 16, .array 16 5, zhf⟩ := by kernel_rfl
theorem ty66 : aP Tryz.prog 66 = some ⟨16, 16, .array 16 5, zhf⟩ := by kernel_rfl
theorem ty67 : aP Tryz.prog 67 = some ⟨17, 24, .struct [(0, 3), (1, 66)], .agg [.int .i64 0, zhf]⟩ := by kernel_rfl
theorem ty68 : aP Tryz.prog 68 = some ⟨17, 24, .struct [(0, 3), (1, 66)], .agg [.int .i64 0, zhf]⟩ := by kernel_rfl
theorem ty69 : aP Tryz.prog 69 = some ⟨21, 80, .struct [(0, 68), (17, 9), (18, 60), (19, 2), (20, 2)], .agg [.agg [.int .i64 0, zhf], .str [], .nils, .int .i64 0, .int .i64 0]⟩ := by kernel_rfl
theorem ty70 : aP Tryz.prog 70 = some ⟨21, 80, .struct [(0, 68), (17, 9), (18, 60), (19, 2), (20, 2)], .agg [.agg [.int .i64 0, zhf], .str [], .nils, .int .i64 0, .int .i64 0]⟩ := by kernel_rfl
theorem ty71 : aP Tryz.prog 71 = some ⟨1, 8, .func, .nilf⟩ := by kernel_rfl
theorem ty72 : aP Tryz.prog 72 = some ⟨1, 8, .func, .nilf⟩ := by kernel_rfl
theorem ty73 : aP Tryz.prog 73 = some ⟨1, 8, .func, .nilf⟩ := by kernel_rfl
theorem ty74 : aP Tryz.prog 74 = some ⟨1, 8, .func, .nilf⟩ := by kernel_rfl
theorem ty75 : aP Tryz.prog 75 = some ⟨1, 8, .func, .nilf⟩ := by kernel_rfl
theorem ty76 : aP Tryz.prog 76 = some ⟨1, 8, .func, .nilf⟩ := by kernel_rfl
theorem ty77 : aP Tryz.prog 77 = some ⟨1, 8, .func, .nilf⟩ := by kernel_rfl
theorem ty78 : aP Tryz.prog 78 = some ⟨1, 8, .func, .nilf⟩ := by kernel_rfl
theorem ty79 : aP Tryz.prog 79 = some ⟨1, 8, .func, .nilf⟩ := by kernel_rfl
theorem ty80 : aP Tryz.prog 80 = some ⟨1, 8, .func, .nilf⟩ := by kernel_rfl
theorem ty81 : aP Tryz.prog 81 = some ⟨1, 8, .func, .nilf⟩ := by kernel_rfl
theorem ty82 : aP Tryz.prog 82 = some ⟨1, 8, .func, .nilf⟩ := by kernel_rfl
theorem ty83 : aP Tryz.prog 83 = some ⟨1, 8, .func, .nilf⟩ := by kernel_rfl
theorem ty84 : aP Tryz.prog 84 = some ⟨1, 8, .func, .nilf⟩ := by kernel_rfl
theorem ty85 : aP Tryz.prog 85 = some ⟨1, 8, .func, .nilf⟩ := by kernel_rfl
theorem ty86 : aP Tryz.prog 86 = some ⟨1, 8, .func, .nilf⟩ := by kernel_rfl
theorem ty87 : aP Tryz.prog 87 = some ⟨1, 8, .func, .nilf⟩ := by kernel_rfl
theorem ty88 : aP Tryz.prog 88 = some ⟨1, 8, .func, .nilf⟩ := by kernel_rfl
theorem ty89 : aP Tryz.prog 89 = some ⟨1, 8, .func, .nilf⟩ := by kernel_rfl
theorem ty90 : aP Tryz.prog 90 = some ⟨1, 8, .func, .nilf⟩ := by kernel_rfl
theorem ty91 : aP Tryz.prog 91 = some ⟨1, 8, .func, .nilf⟩ := by kernel_rfl
theorem ty92 : aP Tryz.prog 92 = some ⟨1, 8, .func, .nilf⟩ := by kernel_rfl
theorem ty93 : aP Tryz.prog 93 = some ⟨1, 8, .func, .nilf⟩ := by kernel_rfl
theorem ty94 : aP Tryz.prog 94 = some ⟨1, 8, .func, .nilf⟩ := by kernel_rfl
theorem ty96 : aP Tryz.prog 96 = some ⟨1, 8, .func, .nilf⟩ := by kernel_rfl
theorem ty97 : aP Tryz.prog 97 = some ⟨1, 8, .func, .nilf⟩ := by kernel_rfl
theorem ty99 : aP Tryz.prog 99 = some ⟨1, 8, .func, .nilf⟩ := by kernel_rfl
theorem ty100 : aP Tryz.prog 100 = some ⟨1, 8, .func, .nilf⟩ := by kernel_rfl
theorem ty102 : aP Tryz.prog 102 = some ⟨1, 8, .func, .nilf⟩ := by kernel_rfl
theorem ty103 : aP Tryz.prog 103 = some ⟨5, 88, .struct [(0, 26)], .agg [.agg [.int .i64 0, .int .i64 0, .nils, .nils, .nils]]⟩ := by kernel_rfl
theorem ty104 : aP Tryz.prog 104 = some ⟨5, 88, .struct [(0, 26)], .agg [.agg [.int .i64 0, .int .i64 0, .nils, .nils, .nils]]⟩ := by kernel_rfl
theorem ty105 : aP Tryz.prog 105 = some ⟨1, 8, .func, .nilf⟩ := by kernel_rfl
theorem ty106 : aP Tryz.prog 106 = some ⟨1, 8, .func, .nilf⟩ := by kernel_rfl
theorem ty107 : aP Tryz.prog 107 = some ⟨1, 8, .pointer 104, .nilp⟩ := by kernel_rfl
theorem ty108 : aP Tryz.prog 108 = some ⟨2, 24, .struct [(0, 9), (1, 106)], .agg [.str [], .nilf]⟩ := by kernel_rfl
theorem ty109 : aP Tryz.prog 109 = some ⟨2, 24, .struct [(0, 9), (1, 106)], .agg [.str [], .nilf]⟩ := by kernel_rfl
theorem ty110 : aP Tryz.prog 110 = some ⟨1, 24, .slice 109, .nils⟩ := by kernel_rfl
theorem ty111 : aP Tryz.prog 111 = some ⟨1, 8, .func, .nilf⟩ := by kernel_rfl
theorem ty112 : aP Tryz.prog 112 = some ⟨1, 8, .func, .nilf⟩ := by kernel_rfl
theorem ty114 : aP Tryz.prog 114 = some ⟨1, 8, .func, .nilf⟩ := by kernel_rfl
theorem ty115 : aP Tryz.prog 115 = some ⟨1, 24, .slice 20, .nils⟩ := by kernel_rfl
theorem ty116 : aP Tryz.prog 116 = some ⟨1, 8, .func, .nilf⟩ := by kernel_rfl
theorem ty117 : aP Tryz.prog 117 = some ⟨1, 8, .func, .nilf⟩ := by kernel_rfl
theorem ty118 : aP Tryz.prog 118 = some ⟨1, 8, .func, .nilf⟩ := by kernel_rfl
theorem ty119 : aP Tryz.prog 119 = some ⟨1, 8, .func, .nilf⟩ := by kernel_rfl
theorem ty120 : aP Tryz.prog 120 = some ⟨1, 8, .func, .nilf⟩ := by kernel_rfl
theorem ty121 : aP Tryz.prog 121 = some ⟨1, 8, .func, .nilf⟩ := by kernel_rfl
theorem ty122 : aP Tryz.prog 122 = some ⟨1, 8, .func, .nilf⟩ := by kernel_rfl
theorem ty123 : aP Tryz.prog 123 = some ⟨1, 8, .func, .nilf⟩ := by kernel_rfl
theorem ty124 : aP Tryz.prog 124 = some ⟨1, 8, .func, .nilf⟩ := by kernel_rfl
theorem ty125 : aP Tryz.prog 125 = some ⟨1, 8, .func, .nilf⟩ := by kernel_rfl
theorem ty126 : aP Tryz.prog 126 = some ⟨1, 8, .func, .nilf⟩ := by kernel_rfl
theorem ty127 : aP Tryz.prog 127 = some ⟨1, 8, .func, .nilf⟩ := by kernel_rfl
theorem ty128 : aP Tryz.prog 128 = some ⟨1, 8, .func, .nilf⟩ := by kernel_rfl
theorem ty129 : aP Tryz.prog 129 = some ⟨1, 8, .func, .nilf⟩ := by kernel_rfl
theorem ty130 : aP Tryz.prog 130 = some ⟨1, 8, .func, .nilf⟩ := by kernel_rfl
theorem ty132 : aP Tryz.prog 132 = some ⟨1, 8, .func, .nilf⟩ := by kernel_rfl
theorem ty133 : aP Tryz.prog 133 = some ⟨1, 8, .func, .nilf⟩ := by kernel_rfl
theorem ty134 : aP Tryz.prog 134 = some ⟨1, 8, .func, .nilf⟩ := by kernel_rfl
theorem ty135 : aP Tryz.prog 135 = some ⟨1, 8, .func, .nilf⟩ := by kernel_rfl
theorem ty137 : aP Tryz.prog 137 = some ⟨1, 8, .func, .nilf⟩ := by kernel_rfl
theorem ty139 : aP Tryz.prog 139 = some ⟨1, 8, .func, .nilf⟩ := by kernel_rfl
theorem ty140 : aP Tryz.prog 140 = some ⟨1, 8, .func, .nilf⟩ := by kernel_rfl
theorem ty142 : aP Tryz.prog 142 = some ⟨1, 8, .func, .nilf⟩ := by kernel_rfl
theorem ty143 : aP Tryz.prog 143 = some ⟨1, 8, .func, .nilf⟩ := by kernel_rfl
theorem ty144 : aP Tryz.prog 144 = some ⟨1, 8, .int .u64, .int .u64 0⟩ := by kernel_rfl
theorem ty145 : aP Tryz.prog 145 = some ⟨1, 8, .int .u64, .int .u64 0⟩ := by kernel_rfl
theorem ty146 : aP Tryz.prog 146 = some ⟨1, 8, .func, .nilf⟩ := by kernel_rfl
theorem ty147 : aP Tryz.prog 147 = some ⟨1, 8, .func, .nilf⟩ := by kernel_rfl
theorem ty148 : aP Tryz.prog 148 = some ⟨1, 8, .func, .nilf⟩ := by kernel_rfl
theorem ty149 : aP Tryz.prog 149 = some ⟨1, 8, .func, .nilf⟩ := by kernel_rfl
theorem ty150 : aP Tryz.prog 150 = some ⟨1, 8, .func, .nilf⟩ := by kernel_rfl
theorem ty151 : aP Tryz.prog 151 = some ⟨1, 4, .int .u32, .int .u32 0⟩ := by kernel_rfl
theorem ty152 : aP Tryz.prog 152 = some ⟨8, 32, .array 8 151, ws (wz 8)⟩ := by kernel_rfl
theorem ty153 : aP Tryz.prog 153 = some ⟨1, 8, .func, .nilf⟩ := by kernel_rfl
theorem ty154 : aP Tryz.prog 154 = some ⟨1, 8, .func, .nilf⟩ := by kernel_rfl
theorem ty155 : aP Tryz.prog 155 = some ⟨1, 8, .func, .nilf⟩ := by kernel_rfl
theorem ty156 : aP Tryz.prog 156 = some ⟨1, 8, .func, .nilf⟩ := by kernel_rfl
theorem ty157 : aP Tryz.prog 157 = some ⟨1, 8, .func, .nilf⟩ := by kernel_rfl
theorem ty158 : aP Tryz.prog 158 = some ⟨1, 8, .func, .nilf⟩ := by kernel_rfl
theorem ty159 : aP Tryz.prog 159 = some ⟨1, 8, .func, .nilf⟩ := by kernel_rfl
theorem ty160 : aP Tryz.prog 160 = some ⟨1, 8, .func, .nilf⟩ := by kernel_rfl
theorem ty161 : aP Tryz.prog 161 = some ⟨64, 256, .array 64 151, ws (wz 64)⟩ := by kernel_rfl
theorem ty162 : aP Tryz.prog 162 = some ⟨1, 8, .func, .nilf⟩ := by kernel_rfl
theorem ty163 : aP Tryz.prog 163 = some ⟨1, 8, .func, .nilf⟩ := by kernel_rfl
theorem ty164 : aP Tryz.prog 164 = some ⟨1, 8, .pointer 152, .nilp⟩ := by kernel_rfl
theorem ty165 : aP Tryz.prog 165 = some ⟨1, 8, .pointer 161, .nilp⟩ := by kernel_rfl
theorem ty166 : aP Tryz.prog 166 = some ⟨128, 128, .array 128 5, us (uz 128)⟩ := by kernel_rfl
theorem ty167 : aP Tryz.prog 167 = some ⟨1, 8, .func, .nilf⟩ := by kernel_rfl
theorem ty168 : aP Tryz.prog 168 = some ⟨1, 8, .int .i64, .int .i64 0⟩ := by kernel_rfl
theorem ty170 : aP Tryz.prog 170 = some ⟨1, 8, .func, .nilf⟩ := by kernel_rfl
theorem ty171 : aP Tryz.prog 171 = some ⟨1, 8, .func, .nilf⟩ := by kernel_rfl
theorem ty172 : aP Tryz.prog 172 = some ⟨1, 8, .func, .nilf⟩ := by kernel_rfl
theorem ty173 : aP Tryz.prog 173 = some ⟨1, 8, .func, .nilf⟩ := by kernel_rfl
theorem ty175 : aP Tryz.prog 175 = some ⟨1, 8, .func, .nilf⟩ := by kernel_rfl
theorem ty176 : aP Tryz.prog 176 = some ⟨1, 8, .func, .nilf⟩ := by kernel_rfl
theorem ty177 : aP Tryz.prog 177 = some ⟨1, 8, .func, .nilf⟩ := by kernel_rfl
theorem ty178 : aP Tryz.prog 178 = some ⟨1, 8, .func, .nilf⟩ := by kernel_rfl
theorem ty179 : aP Tryz.prog 179 = some ⟨1, 8, .func, .nilf⟩ := by kernel_rfl
theorem ty180 : aP Tryz.prog 180 = some ⟨1, 8, .func, .nilf⟩ := by kernel_rfl
theorem ty181 : aP Tryz.prog 181 = some ⟨1, 8, .func, .nilf⟩ := by kernel_rfl
theorem ty182 : aP Tryz.prog 182 = some ⟨1, 8, .func, .nilf⟩ := by kernel_rfl
theorem ty184 : aP Tryz.prog 184 = some ⟨1, 8, .func, .nilf⟩ := by kernel_rfl
theorem ty185 : aP Tryz.prog 185 = some ⟨1, 8, .func, .nilf⟩ := by kernel_rfl
theorem ty186 : aP Tryz.prog 186 = some ⟨1, 8, .func, .nilf⟩ := by kernel_rfl
theorem ty187 : aP Tryz.prog 187 = some ⟨1, 8, .pointer 189, .nilp⟩ := by kernel_rfl
theorem ty188 : aP Tryz.prog 188 = some ⟨2, 32, .struct [(0, 187), (1, 30)], .agg [.nilp, .nils]⟩ := by kernel_rfl
theorem ty189 : aP Tryz.prog 189 = some ⟨2, 32, .struct [(0, 187), (1, 30)], .agg [.nilp, .nils]⟩ := by kernel_rfl
theorem ty190 : aP Tryz.prog 190 = some ⟨1, 16, .iface false, .nili⟩ := by kernel_rfl
theorem ty191 : aP Tryz.prog 191 = some ⟨1, 16, .iface false, .nili⟩ := by kernel_rfl
theorem ty192 : aP Tryz.prog 192 = some ⟨1, 8, .func, .nilf⟩ := by kernel_rfl
theorem ty193 : aP Tryz.prog 193 = some ⟨1, 8, .func, .nilf⟩ := by kernel_rfl
theorem ty194 : aP Tryz.prog 194 = some ⟨1, 8, .func, .nilf⟩ := by kernel_rfl
theorem ty195 : aP Tryz.prog 195 = some ⟨1, 8, .int .u64, .int .u64 0⟩ := by kernel_rfl
theorem ty196 : aP Tryz.prog 196 = some ⟨1, 8, .func, .nilf⟩ := by kernel_rfl
theorem ty197 : aP Tryz.prog 197 = some ⟨1, 8, .func, .nilf⟩ := by kernel_rfl
theorem ty198 : aP Tryz.prog 198 = some ⟨1, 8, .func, .nilf⟩ := by kernel_rfl
theorem ty199 : aP Tryz.prog 199 = some ⟨1, 8, .pointer 3, .nilp⟩ := by kernel_rfl
theorem ty200 : aP Tryz.prog 200 = some ⟨1, 8, .func, .nilf⟩ := by kernel_rfl
theorem ty202 : aP Tryz.prog 202 = some ⟨1, 8, .func, .nilf⟩ := by kernel_rfl
theorem ty203 : aP Tryz.prog 203 = some ⟨1, 8, .func, .nilf⟩ := by kernel_rfl
theorem ty204 : aP Tryz.prog 204 = some ⟨24, 24, .array 24 5, .agg [.int .u8 0, .int .u8 0, .int .u8 0, .int .u8 0, .int .u8 0, .int .u8 0, .int .u8 0, .int .u8 0, .int .u8 0, .int .u8 0, .int .u8 0, .int .u8 0, .int .u8 0, .int .u8 0, .int .u8 0, .int .u8 0, .int .u8 0, .int .u8 0, .int .u8 0, .int .u8 0, .int .u8 0, .int .u8 0, .int .u8 0, .int .u8 0]⟩ := by kernel_rfl
theorem ty205 : aP Tryz.prog 205 = some ⟨1, 8, .func, .nilf⟩ := by kernel_rfl
theorem ty207 : aP Tryz.prog 207 = some ⟨1, 8, .func, .nilf⟩ := by kernel_rfl
theorem ty208 : aP Tryz.prog 208 = some ⟨1, 8, .pointer 5, .nilp⟩ := by kernel_rfl
theorem ty209 : aP Tryz.prog 209 = some ⟨1, 8, .pointer 195, .nilp⟩ := by kernel_rfl
theorem ty211 : aP Tryz.prog 211 = some ⟨1, 8, .func, .nilf⟩ := by kernel_rfl
theorem ty213 : aP Tryz.prog 213 = some ⟨2, 2, .struct [(0, 5), (1, 5)], .agg [.int .u8 0, .int .u8 0]⟩ := by kernel_rfl
theorem ty214 : aP Tryz.prog 214 = some ⟨2, 2, .struct [(0, 5), (1, 5)], .agg [.int .u8 0, .int .u8 0]⟩ := by kernel_rfl
theorem ty215 : aP Tryz.prog 215 = some ⟨32, 32, .array 16 214, .agg [.agg [.int .u8 0, .int .u8 0], .agg [.int .u8 0, .int .u8 0], .agg [.int .u8 0, .int .u8 0], .agg [.int .u8 0, .int .u8 0], .agg [.int .u8 0, .int .u8 0], .agg [.int .u8 0, .int .u8 0], .agg [.int .u8 0, .int .u8 0], .agg [.int .u8 0, .int .u8 0], .agg [.int .u8 0, .int .u8 0], .agg [.int .u8 0, .int .u8 0], .agg [.int .u8 0, .int .u8 0], .agg [.int .u8 0, .int .u8 0], .agg [.int .u8 0, .int .u8 0], .agg [.int .u8 0, .int .u8 0], .agg [.int .u8 0, .int .u8 0], .agg [.int .u8 0, .int .u8 0]]⟩ := by kernel_rfl
theorem ty216 : aP Tryz.prog 216 = some ⟨1, 8, .func, .nilf⟩ := by kernel_rfl
theorem ty217 : aP Tryz.prog 217 = some ⟨20, 160, .array 20 145, .agg [.int .u64 0, .int .u64 0, .int .u64 0, .int .u64 0, .int .u64 0, .int .u64 0, .int .u64 0, .int .u64 0, .int .u64 0, .int .u64 0, .int .u64 0, .int .u64 0, .int .u64 0, .int .u64 0, .int .u64 0, .int .u64 0, .int .u64 0, .int .u64 0, .int .u64 0, .int .u64 0]⟩ := by kernel_rfl
theorem ty218 : aP Tryz.prog 218 = some ⟨65, 65, .array 65 5, .agg [.int .u8 0, .int .u8 0, .int .u8 0, .int .u8 0, .int .u8 0, .int .u8 0, .int .u8 0, .int .u8 0, .int .u8 0, .int .u8 0, .int .u8 0, .int .u8 0, .int .u8 0, .int .u8 0, .int .u8 0, .int .u8 0, .int .u8 0, .int .u8 0, .int .u8 0, .int .u8 0, .int .u8 0, .int .u8 0, .int .u8 0, .int .u8 0, .int .u8 0, .int .u8 0, .int .u8 0, .int .u8 0, .int .u8 0, .int .u8 0, .int .u8 0, .int .u8 0, .int .u8 0, .int .u8 0, .int .u8 0, .int .u8 0, .int .u8 0, .int .u8 0, .int .u8 0, .int .u8 0, .int .u8 0, .int .u8 0, .int .u8 0, .int .u8 0, .int .u8 0, .int .u8 0, .int .u8 0, .int .u8 0, .int .u8 0, .int .u8 0, .int .u8 0, .int .u8 0, .int .u8 0, .int .u8 0, .int .u8 0, .int .u8 0, .int .u8 0, .int .u8 0, .int .u8 0, .int .u8 0, .int .u8 0, .int .u8 0, .int .u8 0, .int .u8 0, .int .u8 0]⟩ := by kernel_rfl
theorem ty220 : aP Tryz.prog 220 = some ⟨1, 8, .func, .nilf⟩ := by kernel_rfl
theorem ty221 : aP Tryz.prog 221 = some ⟨1, 8, .func, .nilf⟩ := by kernel_rfl
theorem ty222 : aP Tryz.prog 222 = some ⟨64, 64, .array 64 5, us (uz 64)⟩ := by kernel_rfl
theorem ty223 : aP Tryz.prog 223 = some ⟨4, 40, .struct [(0, 17), (1, 17), (2, 17), (3, 9)], .agg [.nilp, .nilp, .nilp, .str []]⟩ := by kernel_rfl
theorem ty224 : aP Tryz.prog 224 = some ⟨4, 40, .struct [(0, 17), (1, 17), (2, 17), (3, 9)], .agg [.nilp, .nilp, .nilp, .str []]⟩ := by kernel_rfl
theorem ty228 : aP Tryz.prog 228 = some ⟨1, 8, .func, .nilf⟩ := by kernel_rfl
theorem ty229 : aP Tryz.prog 229 = some ⟨1, 1, .int .u8, .int .u8 0⟩ := by kernel_rfl
theorem ty230 : aP Tryz.prog 230 = some ⟨1, 1, .int .u8, .int .u8 0⟩ := by kernel_rfl
theorem ty231 : aP Tryz.prog 231 = some ⟨1, 8, .func, .nilf⟩ := by kernel_rfl
theorem ty232 : aP Tryz.prog 232 = some ⟨1, 4, .int .i32, .int .i32 0⟩ := by kernel_rfl
theorem ty233 : aP Tryz.prog 233 = some ⟨1, 4, .int .i32, .int .i32 0⟩ := by kernel_rfl
theorem ty234 : aP Tryz.prog 234 = some ⟨11, 48, .struct [(0, 12), (1, 12), (2, 151), (3, 229), (4, 5), (5, 5), (6, 230), (7, 231), (8, 208), (9, 232), (10, 233)], .agg [.int .u64 0, .int .u64 0, .int .u32 0, .int .u8 0, .int .u8 0, .int .u8 0, .int .u8 0, .nilf, .nilp, .int .i32 0, .int .i32 0]⟩ := by kernel_rfl
theorem ty235 : aP Tryz.prog 235 = some ⟨11, 48, .struct [(0, 12), (1, 12), (2, 151), (3, 229), (4, 5), (5, 5), (6, 230), (7, 231), (8, 208), (9, 232), (10, 233)], .agg [.int .u64 0, .int .u64 0, .int .u32 0, .int .u8 0, .int .u8 0, .int .u8 0, .int .u8 0, .nilf, .nilp, .int .i32 0, .int .i32 0]⟩ := by kernel_rfl
theorem eqdg48 (x y : Dig) (K : CV → Prop) : eV Tryz.prog .eql 48 (.c (dg x)) (.c (dg y)) K = K (.bool (x == y)) := (sT (by kernel_rfl) ty48 ty5 (by kernel_rfl) x y K).1
theorem nedg48 (x y : Dig) (K : CV → Prop) : eV Tryz.prog .neq 48 (.c (dg x)) (.c (dg y)) K = K (.bool (!(x == y))) := (sT (by kernel_rfl) ty48 ty5 (by kernel_rfl) x y K).2
theorem eqdg49 (x y : Dig) (K : CV → Prop) : eV Tryz.prog .eql 49 (.c (dg x)) (.c (dg y)) K = K (.bool (x == y)) := (sT (by kernel_rfl) ty49 ty5 (by kernel_rfl) x y K).1
theorem nedg49 (x y : Dig) (K : CV → Prop) : eV Tryz.prog .neq 49 (.c (dg x)) (.c (dg y)) K = K (.bool (!(x == y))) := (sT (by kernel_rfl) ty49 ty5 (by kernel_rfl) x y K).2
theorem mixed : Tryz.prog.follows .mixedOrders = true := by kernel_rfl
end YtenbfeemmpjdhaaGreatDoor
end Go.Proofs

namespace Go.Proofs.YtenbfeemmpjdhaaGreatDoor
open Go Go.Hl Go.Pl
set_option maxRecDepth 10000
def sP := (And.intro (And.intro (And.intro (And.intro (And.intro @Go.Hl.hlift.eq_def @Go.Hl.hopI.eq_def) (And.intro @Go.Hl.hstep.eq_def @Go.Hl.hop.eq_def)) (And.intro (And.intro @Go.Hl.hint.eq_def @Go.Hl.hstr.eq_def) (And.intro @Go.Hl.hshift.eq_def @Go.Hl.hun.eq_def))) (And.intro (And.intro (And.intro @Go.Hl.hconv.eq_def @Go.Hl.hpick.eq_def) (And.intro @Go.Hl.hclo.eq_def @Go.Hl.hext.eq_def)) (And.intro (And.intro @Go.Hl.hmax.eq_def @Go.Hl.hslice.eq_def) (And.intro @Go.Hl.hindex.eq_def @Go.Hl.hindexAddr.eq_def)))) (And.intro (And.intro (And.intro (And.intro @Go.Hl.hfieldAddr.eq_def @Go.Hl.hfield.eq_def) (And.intro @Go.Hl.hload.eq_def @Go.Hl.hstore.eq_def)) (And.intro (And.intro @Go.Hl.happend.eq_def @Go.Hl.happend2.eq_def) (And.intro @Go.Hl.hslice2.eq_def @Go.Hl.hclear.eq_def))) (And.intro (And.intro (And.intro @Go.Hl.hmakeMap.eq_def @Go.Hl.hlookup.eq_def) (And.intro @Go.Hl.hmapUpdate.eq_def @Go.Pl.hbuildDig.eq_def)) (And.intro (And.intro @Go.Hl.hcopy.eq_def @Go.Hl.hmkIface.eq_def) (And.intro @Go.Hl.hassert.eq_def (And.intro @Go.Hl.hmakeSlice.eq_def @Go.Hl.happends.eq_def))))))
def sA := (And.intro (And.intro (And.intro (And.intro (And.intro (And.intro (And.intro (And.intro @Go.Hl.HV.toC.eq_1 @Go.Hl.HV.toC.eq_2) (And.intro @Go.Hl.HV.toC.eq_3 @Go.Hl.HV.toCL.eq_1)) (And.intro (And.intro @Go.Hl.HV.toCL.eq_2 @Go.Hl.cells_mem_str) (And.intro @List.length_singleton.{0} (And.intro @beq_true @beq_false)))) (And.intro (And.intro (And.intro @decide_eq_true_eq @Go.Hl.denilL_str) (And.intro @Go.Hl.denilL_int (And.intro @Go.Hl.hwalk2.eq_1 @Go.Hl.hwalk2.eq_2))) (And.intro (And.intro @Go.Hl.ids4.eq_1 @Go.Hl.getF.eq_1) (And.intro @Go.Hl.isEff.eq_1 (And.intro @Go.Hl.isEff.eq_2 @Go.Hl.isEff.eq_3))))) (And.intro (And.intro (And.intro (And.intro @Go.Hl.isEff.eq_4 @Bool.or_false) (And.intro @List.append_nil.{0} (And.intro @Go.Hl.hlex.eq_1 @Go.Hl.hlex.eq_2))) (And.intro (And.intro @Go.Hl.hguard.eq_1 @Go.Hl.hcallOf.eq_1) (And.intro @Go.Hl.hcallOf.eq_2 (And.intro @Go.Hl.touch.eq_1 @Go.Hl.touch.eq_2)))) (And.intro (And.intro (And.intro @Go.Hl.touch.eq_3 @Go.Hl.touch.eq_4) (And.intro @Go.Hl.touch.eq_5 (And.intro @Go.Hl.touch.eq_6 @Go.Hl.touch.eq_7))) (And.intro (And.intro @Go.Hl.touch.eq_8 @Go.Hl.touch.eq_9) (And.intro @Go.Hl.touch.eq_10 (And.intro @Go.Hl.HV.ids.eq_1 @Go.Hl.HV.ids.eq_2)))))) (And.intro (And.intro (And.intro (And.intro (And.intro @Go.Hl.HV.ids.eq_3 @Go.Hl.HV.ids.eq_4) (And.intro @Go.Hl.HV.ids.eq_5 @Go.Hl.HV.ids.eq_6)) (And.intro (And.intro @Go.Hl.HV.ids.eq_7 @Go.Hl.ev.eq_1) (And.intro @Go.Hl.ev.eq_2 (And.intro @Go.Hl.ev.eq_3 @Go.Hl.ev.eq_4)))) (And.intro (And.intro (And.intro @Go.Hl.cvC.eq_1 @Go.Hl.cvC.eq_2) (And.intro @Go.Hl.cvC1.eq_1 (And.intro @Go.Hl.cvC1.eq_2 @Go.Hl.cvC1.eq_3))) (And.intro (And.intro @Go.Hl.cvC1.eq_4 @Go.Hl.cvC1.eq_5) (And.intro @Go.Hl.cvC1.eq_6 (And.intro @Go.Hl.cvC1.eq_7 @Go.Hl.cvC1.eq_8))))) (And.intro (And.intro (And.intro (And.intro @Go.Hl.cvC1.eq_9 @Go.Hl.updo_at) (And.intro @Go.Hl.updo_none (And.intro @Go.Hl.updo.eq_1 @Go.Hl.updo.eq_2))) (And.intro (And.intro @Go.Hl.upd_at @Go.Hl.fin_at) (And.intro @Go.Hl.fin_nil (And.intro @Go.Hl.finA_at @Go.Hl.finA_nil)))) (And.intro (And.intro (And.intro @Go.Hl.fob_at @Go.Hl.fob_nil) (And.intro @Go.Hl.none0_at (And.intro @Go.Hl.hlift_some @Go.Hl.hlift_none))) (And.intro (And.intro @Go.Hl.hthen.eq_1 @Go.Hl.hthen.eq_2) (And.intro @Go.Hl.hblk.eq_1 (And.intro @Go.Hl.hblk.eq_2 @Go.Hl.hbin_int))))))) (And.intro (And.intro (And.intro (And.intro (And.intro (And.intro @Go.Hl.hbin_str @Go.Hl.hbin_bool) (And.intro @Go.Hl.isShift.eq_1 @Go.Hl.isShift.eq_2)) (And.intro (And.intro @Go.Hl.isShift.eq_3 @Go.Pl.hbuild_agg) (And.intro @Go.Hl.hfill.eq_1 (And.intro @Go.Hl.hfill.eq_2 @Go.Hl.HV.norm.eq_1)))) (And.intro (And.intro (And.intro @List.set_cons_zero.{0} @List.set_cons_succ.{0}) (And.intro @Go.Hl.hclosed.eq_1 (And.intro @Go.Hl.hclosed.eq_2 @Go.Hl.hread.eq_1))) (And.intro (And.intro @Go.Hl.hread.eq_2 @Go.Hl.hread.eq_3) (And.intro @Go.Hl.hread.eq_4 (And.intro @Go.Hl.hlo.eq_1 @Go.Hl.hlo.eq_2))))) (And.intro (And.intro (And.intro (And.intro @Go.Hl.hlo.eq_3 @Go.Hl.live.eq_1) (And.intro @Go.Hl.live.eq_2 (And.intro @Go.Hl.live.eq_3 @Go.Hl.live.eq_4))) (And.intro (And.intro @Go.Hl.live.eq_5 @Go.Hl.live.eq_6) (And.intro @Go.Hl.HO.isBox.eq_1 (And.intro @Go.Hl.HO.isBox.eq_2 @Go.Hl.HO.isRow.eq_1)))) (And.intro (And.intro (And.intro @Go.Hl.HO.isRow.eq_2 @Go.Hl.TyD.isAgg.eq_1) (And.intro @Go.Hl.TyD.isAgg.eq_2 (And.intro @Go.Hl.TyD.isAgg.eq_3 @Go.Hl.HV.sto.eq_1))) (And.intro (And.intro @Go.Hl.HV.sto.eq_2 @Go.Hl.HV.sto.eq_3) (And.intro @Go.Hl.HV.sto.eq_4 (And.intro @Go.Hl.HV.stoL.eq_1 @Go.Hl.HV.stoL.eq_2)))))) (And.intro (And.intro (And.intro (And.intro (And.intro @Go.Hl.HV.isAgg.eq_1 @Go.Hl.HV.isAgg.eq_2) (And.intro @Go.Hl.HV.isAgg.eq_3 @Go.Hl.CV.isAgg.eq_1)) (And.intro (And.intro @Go.Hl.CV.isAgg.eq_2 @Go.Hl.HV.cells.eq_1) (And.intro @Go.Hl.HV.cells.eq_2 (And.intro @Go.Hl.HV.cells.eq_3 @Go.Hl.HV.cellsL.eq_1)))) (And.intro (And.intro (And.intro @Go.Hl.HV.cellsL.eq_2 @Go.Hl.CV.cells.eq_1) (And.intro @Go.Hl.CV.cells.eq_2 (And.intro @Go.Hl.CV.cellsL.eq_1 @Go.Hl.CV.cellsL.eq_2))) (And.intro (And.intro @Go.Hl.HV.getAt.eq_1 @Go.Hl.HV.getAt.eq_2) (And.intro @Go.Hl.HV.getAt.eq_3 (And.intro @Go.Hl.HV.getAtL.eq_1 @Go.Hl.HV.getAtL.eq_2))))) (And.intro (And.intro (And.intro (And.intro @Go.Hl.CV.getAt.eq_1 @Go.Hl.CV.getAt.eq_2) (And.intro @Go.Hl.CV.getAtL.eq_1 (And.intro @Go.Hl.CV.getAtL.eq_2 @Go.Hl.HV.setAt.eq_1))) (And.intro (And.intro @Go.Hl.HV.setAt.eq_2 @Go.Hl.HV.setAt.eq_3) (And.intro @Go.Hl.HV.setAtL.eq_1 (And.intro @Go.Hl.HV.setAtL.eq_2 @Go.Hl.CV.setAt.eq_1)))) (And.intro (And.intro (And.intro @Go.Hl.CV.setAt.eq_2 @Go.Hl.CV.setAtL.eq_1) (And.intro @Go.Hl.CV.setAtL.eq_2 (And.intro @Go.Hl.HV.den.eq_1 @Go.Hl.HV.den.eq_2))) (And.intro (And.intro @Go.Hl.CV.denil.eq_1 @Go.Hl.CV.denil.eq_2) (And.intro @Go.Hl.CV.denil.eq_3 (And.intro @Go.Hl.CV.denil.eq_4 @Go.Hl.CV.denilL.eq_1)))))))) (And.intro (And.intro (And.intro (And.intro (And.intro (And.intro (And.intro @Go.Hl.CV.denilL.eq_2 @List.range.eq_1) (And.intro @List.range.loop.eq_1 @List.range.loop.eq_2)) (And.intro (And.intro @List.size_toArray.{0} @List.length_cons.{0}) (And.intro @List.length_nil.{0} (And.intro @List.length_map.{0,0} @List.getElem?_toArray.{0})))) (And.intro (And.intro (And.intro @List.getElem?_cons_zero.{0} @List.getElem?_cons_succ.{0}) (And.intro @List.map_cons.{0,0} (And.intro @List.map_nil.{0,0} @List.flatMap_cons.{0,0}))) (And.intro (And.intro @List.flatMap_nil.{0,0} @List.toList_toArray.{0}) (And.intro @List.not_mem_nil.{0} (And.intro @List.mem_cons.{0} @List.nil_append.{0}))))) (And.intro (And.intro (And.intro (And.intro @List.cons_append.{0} @false_implies) (And.intro @implies_true.{0} (And.intro @implies_true.{1} @true_and))) (And.intro (And.intro @and_true @and_self) (And.intro @ne_eq.{0} (And.intro @ne_eq.{1} @not_false_eq_true)))) (And.intro (And.intro (And.intro @not_true_eq_false @Nat.lt_irrefl) (And.intro @Nat.zero_add (And.intro @Nat.add_zero @Nat.succ_ne_self))) (And.intro (And.intro @Option.map_some.{0,0} @Option.map_none.{0,0}) (And.intro @Option.bind_some.{0,0} (And.intro @Option.isSome_some.{0} @Bool.false_eq_true)))))) (And.intro (And.intro (And.intro (And.intro (And.intro @Bool.true_eq_false @Int.toNat_natCast) (And.intro @forall_eq_or_imp.{0} @forall_eq_or_imp.{1})) (And.intro (And.intro @forall_eq.{0} @forall_eq.{1}) (And.intro @decide_true (And.intro @decide_false @Bool.not_true)))) (And.intro (And.intro (And.intro @Bool.not_false @beq_self_eq_true.{0}) (And.intro @bne_self_eq_false.{0} (And.intro @Go.Pl.hbuild_dig @Go.Pl.dg_cells))) (And.intro (And.intro @Go.Pl.dg_isAgg @Go.Pl.dg_denil) (And.intro @Go.Pl.dg_getAt (And.intro @Go.Pl.dg_setAt @Go.Pl.zd_cells))))) (And.intro (And.intro (And.intro (And.intro @Go.Pl.zd_isAgg @Go.Pl.zd_denil) (And.intro @Go.Pl.zd_getAt (And.intro @Go.Pl.zd_setAt @Go.Pl.dgi_cells))) (And.intro (And.intro @Go.Pl.dgi_isAgg @Go.Pl.dgi_denil) (And.intro @Go.Pl.dgi_getAt (And.intro @Go.Pl.dgi_1 @Go.Pl.dgi_2)))) (And.intro (And.intro (And.intro @Go.Pl.dgi_3 @Go.Pl.hf_cells) (And.intro @Go.Pl.hf_denil (And.intro @Go.Pl.hf_isAgg @Go.Pl.hf_getAt))) (And.intro (And.intro @Go.Pl.hf_setAt @Go.Pl.zhf_eq) (And.intro @Go.Pl.denilL_dg (And.intro @Go.Pl.ws_cells @Go.Pl.us_cells))))))) (And.intro (And.intro (And.intro (And.intro (And.intro (And.intro @Go.Pl.Pk.cells @Go.Pl.Pk.denil) (And.intro @Go.Pl.denilL_Pk @Go.Pl.Pk.isAgg)) (And.intro (And.intro @Go.Pl.Pk.getAll @Go.Pl.Pk.setAll) (And.intro @Go.Pl.Pk.fold (And.intro @Go.Pl.Pk.get_h @Go.Pl.Pk.set_h)))) (And.intro (And.intro (And.intro @Go.Pl.Pk.get_r @Go.Pl.Pk.set_r) (And.intro @Go.Pl.Ky.cells (And.intro @Go.Pl.Ky.denil @Go.Pl.denilL_Ky))) (And.intro (And.intro @Go.Pl.Ky.isAgg @Go.Pl.Ky.getAll) (And.intro @Go.Pl.Ky.setAll (And.intro @Go.Pl.Ky.fold @Go.Pl.Ky.get_p))))) (And.intro (And.intro (And.intro (And.intro @Go.Pl.Ky.set_p @Go.Pl.Ky.get_o) (And.intro @Go.Pl.Ky.set_o (And.intro @Go.Pl.Ky.get_rs @Go.Pl.Ky.set_rs))) (And.intro (And.intro @Go.Pl.Ky.get_fr @Go.Pl.Ky.set_fr) (And.intro @Go.Pl.Ky.get_un (And.intro @Go.Pl.Ky.set_un @Go.Pl.Qt.cells)))) (And.intro (And.intro (And.intro @Go.Pl.Qt.denil @Go.Pl.denilL_Qt) (And.intro @Go.Pl.Qt.isAgg (And.intro @Go.Pl.Qt.getAll @Go.Pl.Qt.setAll))) (And.intro (And.intro @Go.Pl.Qt.fold @Go.Pl.Qt.get_r) (And.intro @Go.Pl.Qt.set_r (And.intro @Go.Pl.Qt.get_n @Go.Pl.Qt.set_n)))))) (And.intro (And.intro (And.intro (And.intro (And.intro @Go.Pl.Rv.cells @Go.Pl.Rv.denil) (And.intro @Go.Pl.denilL_Rv @Go.Pl.Rv.isAgg)) (And.intro (And.intro @Go.Pl.Rv.getAll @Go.Pl.Rv.setAll) (And.intro @Go.Pl.Rv.fold (And.intro @Go.Pl.Rv.get_k @Go.Pl.Rv.set_k)))) (And.intro (And.intro (And.intro @Go.Pl.Rv.get_t @Go.Pl.Rv.set_t) (And.intro @Go.Pl.Rt.cells (And.intro @Go.Pl.Rt.denil @Go.Pl.denilL_Rt))) (And.intro (And.intro @Go.Pl.Rt.isAgg @Go.Pl.Rt.getAll) (And.intro @Go.Pl.Rt.setAll (And.intro @Go.Pl.Rt.fold @Go.Pl.Rt.get_v))))) (And.intro (And.intro (And.intro (And.intro @Go.Pl.Rt.set_v @Go.Pl.Rt.get_e) (And.intro @Go.Pl.Rt.set_e (And.intro @Go.Pl.Rt.get_q @Go.Pl.Rt.set_q))) (And.intro (And.intro @Go.Pl.Rt.get_k @Go.Pl.Rt.set_k) (And.intro @Go.Pl.Rt.get_x (And.intro @Go.Pl.Rt.set_x @Go.Pl.ns_denil)))) (And.intro (And.intro (And.intro @Go.Pl.ns_cells @Go.Pl.ns_isAgg) (And.intro @Go.Pl.ns_getAt (And.intro @Go.Pl.ns_setAt @Go.Hl.TyD.plain.eq_1))) (And.intro (And.intro @Go.Hl.TyD.plain.eq_2 @Go.Hl.TyD.plain.eq_3) (And.intro @Go.Hl.TyD.plain.eq_4 (And.intro @Go.Hl.TyD.plain.eq_5 @Go.Hl.bytesC_map)))))))))
def sE := (And.intro (And.intro (And.intro (And.intro @Go.Hl.hlex.eq_1 @Go.Hl.hlex.eq_2) (And.intro @Go.Hl.hwalk2.eq_1 @Go.Hl.hwalk2.eq_2)) (And.intro (And.intro @Go.Hl.hlexG.eq_1 @Go.Hl.hlexG.eq_2) (And.intro @Go.Hl.hwalk2G.eq_1 @Go.Hl.hwalk2G.eq_2))) (And.intro (And.intro (And.intro @Go.Hl.hthen.eq_1 @Go.Hl.hthen.eq_2) (And.intro @Go.Hl.hblk.eq_1 @Go.Hl.hblk.eq_2)) (And.intro (And.intro @List.size_toArray.{0} @List.length_cons.{0}) (And.intro @List.length_nil.{0} @Nat.zero_add))))
def sR := (And.intro (And.intro (And.intro @List.range.eq_1 @List.range.loop.eq_1) (And.intro @List.range.loop.eq_2 @List.size_toArray.{0})) (And.intro (And.intro @List.length_cons.{0} @List.length_nil.{0}) (And.intro @Nat.zero_add @Nat.add_zero)))
def sH := (And.intro (And.intro @Go.Hl.hop1.eq_1 (And.intro @Go.Hl.hgd.eq_1 @Go.Hl.hgd.eq_2)) (And.intro @List.getElem_toArray.{0} (And.intro @List.getElem_cons_zero.{0} @List.getElem_cons_succ.{0})))
def tyS := (And.intro (And.intro (And.intro (And.intro (And.intro (And.intro (And.intro @ty1 (And.intro @ty2 @ty3)) (And.intro @ty4 (And.intro @ty5 @ty6))) (And.intro (And.intro @ty7 (And.intro @ty8 @ty9)) (And.intro (And.intro @ty10 @ty11) (And.intro @ty12 @ty13)))) (And.intro (And.intro (And.intro @ty14 (And.intro @ty15 @ty16)) (And.intro (And.intro @ty17 @ty18) (And.intro @ty19 @ty20))) (And.intro (And.intro @ty21 (And.intro @ty22 @ty23)) (And.intro (And.intro @ty24 @ty25) (And.intro @ty26 @ty27))))) (And.intro (And.intro (And.intro (And.intro @ty28 (And.intro @ty29 @ty30)) (And.intro @ty31 (And.intro @ty33 @ty34))) (And.intro (And.intro @ty35 (And.intro @ty36 @ty37)) (And.intro (And.intro @ty38 @ty39) (And.intro @ty40 @ty41)))) (And.intro (And.intro (And.intro @ty43 (And.intro @ty45 @ty46)) (And.intro (And.intro @ty47 @ty48) (And.intro @ty49 @ty50))) (And.intro (And.intro @ty51 (And.intro @ty52 @ty53)) (And.intro (And.intro @ty54 @ty55) (And.intro @ty56 @ty57)))))) (And.intro (And.intro (And.intro (And.intro (And.intro @ty58 (And.intro @ty59 @ty60)) (And.intro @ty61 (And.intro @ty62 @ty63))) (And.intro (And.intro @ty64 (And.intro @ty65 @ty66)) (And.intro (And.intro @ty67 @ty68) (And.intro @ty69 @ty70)))) (And.intro (And.intro (And.intro @ty71 (And.intro @ty72 @ty73)) (And.intro (And.intro @ty74 @ty75) (And.intro @ty76 @ty77))) (And.intro (And.intro @ty78 (And.intro @ty79 @ty80)) (And.intro (And.intro @ty81 @ty82) (And.intro @ty83 @ty84))))) (And.intro (And.intro (And.intro (And.intro @ty85 (And.intro @ty86 @ty87)) (And.intro @ty88 (And.intro @ty89 @ty90))) (And.intro (And.intro @ty91 (And.intro @ty92 @ty93)) (And.intro (And.intro @ty94 @ty96) (And.intro @ty97 @ty99)))) (And.intro (And.intro (And.intro @ty100 (And.intro @ty102 @ty103)) (And.intro (And.intro @ty104 @ty105) (And.intro @ty106 @ty107))) (And.intro (And.intro @ty108 (And.intro @ty109 @ty110)) (And.intro (And.intro @ty111 @ty112) (And.intro @ty114 @ty115))))))) (And.intro (And.intro (And.intro (And.intro (And.intro (And.intro @ty116 (And.intro @ty117 @ty118)) (And.intro @ty119 (And.intro @ty120 @ty121))) (And.intro (And.intro @ty122 (And.intro @ty123 @ty124)) (And.intro (And.intro @ty125 @ty126) (And.intro @ty127 @ty128)))) (And.intro (And.intro (And.intro @ty129 (And.intro @ty130 @ty132)) (And.intro (And.intro @ty133 @ty134) (And.intro @ty135 @ty137))) (And.intro (And.intro @ty139 (And.intro @ty140 @ty142)) (And.intro (And.intro @ty143 @ty144) (And.intro @ty145 @ty146))))) (And.intro (And.intro (And.intro (And.intro @ty147 (And.intro @ty148 @ty149)) (And.intro @ty150 (And.intro @ty151 @ty152))) (And.intro (And.intro @ty153 (And.intro @ty154 @ty155)) (And.intro (And.intro @ty156 @ty157) (And.intro @ty158 @ty159)))) (And.intro (And.intro (And.intro @ty160 (And.intro @ty161 @ty162)) (And.intro (And.intro @ty163 @ty164) (And.intro @ty165 @ty166))) (And.intro (And.intro @ty167 (And.intro @ty168 @ty170)) (And.intro (And.intro @ty171 @ty172) (And.intro @ty173 @ty175)))))) (And.intro (And.intro (And.intro (And.intro (And.intro @ty176 (And.intro @ty177 @ty178)) (And.intro @ty179 (And.intro @ty180 @ty181))) (And.intro (And.intro @ty182 (And.intro @ty184 @ty185)) (And.intro (And.intro @ty186 @ty187) (And.intro @ty188 @ty189)))) (And.intro (And.intro (And.intro @ty190 (And.intro @ty191 @ty192)) (And.intro (And.intro @ty193 @ty194) (And.intro @ty195 @ty196))) (And.intro (And.intro @ty197 (And.intro @ty198 @ty199)) (And.intro (And.intro @ty200 @ty202) (And.intro @ty203 @ty204))))) (And.intro (And.intro (And.intro (And.intro @ty205 (And.intro @ty207 @ty208)) (And.intro (And.intro @ty209 @ty211) (And.intro @ty213 @ty214))) (And.intro (And.intro @ty215 (And.intro @ty216 @ty217)) (And.intro (And.intro @ty218 @ty220) (And.intro @ty221 @ty222)))) (And.intro (And.intro (And.intro @ty223 (And.intro @ty224 @ty228)) (And.intro (And.intro @ty229 @ty230) (And.intro @ty231 @ty232))) (And.intro (And.intro @ty233 (And.intro @ty234 @ty235)) (And.intro (And.intro @eqdg48 @nedg48) (And.intro @eqdg49 @nedg49))))))))
theorem AI {p q : Prop} (h : q) (hp : p := by first | omega | (simp only [maxLen]; omega) | assumption | (simp [CV.cells]; done) | (simp [CV.cells, maxLen]; omega)) : p ∧ q := ⟨hp, h⟩
section
variable {P : Program} {ops : Array Oper} {nx : Nat} {Q : Fr → Ob → Prop} {fr : Fr} {ob : Ob} {c : Bool}
theorem aF {l : List Nat} (d : Nat) (h : fr d = .c (.bool c)) (hT : c = true → hlex P ops nx Q l fr ob) (hF : c = false → hlex P ops nx Q l fr ob) : hlex P ops nx Q l fr ob := by
  cases c
  · exact hF rfl
  · exact hT rfl
theorem bE {l : nW} {C : iU} (d : Nat) (h : fr d = .c (.bool c)) (hT : c = true → hwalk2 P ops nx Q l C fr ob) (hF : c = false → hwalk2 P ops nx Q l C fr ob) : hwalk2 P ops nx Q l C fr ob := by
  cases c
  · exact hF rfl
  · exact hT rfl
end
end Go.Proofs.YtenbfeemmpjdhaaGreatDoor
