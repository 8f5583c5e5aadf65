/- Part of a proof: walks of functions of the program, by contracts, and the rules they use. By an AI agent. -/
import Derived.Test.YtenbfeemmpjdhaaGreatDoorPl11q
import Derived.Test.YtenbfeemmpjdhaaGreatDoorHlZb
import Derived.Test.YtenbfeemmpjdhaaGreatDoorRows
set_option linter.unusedSimpArgs false
set_option linter.unusedVariables false
set_option linter.defProp false
namespace Go.Pl
open Go Go.Hl

theorem nameB_short {w : Word} (h : nameB w = true) : w.length ≤ 64 := by
 cases w with
 | nil => simp
 | cons c s =>
  unfold nameB at h
  simp only [Bool.and_eq_true, decide_eq_true_eq] at h
  exact h.1
theorem rMid_of_valid {r : Rt} (h : validR r = true) : rMid r ∧ 0 < r.k.length ∧ 0 < r.q.length ∧ r.x.length ≤ 64 := by
 unfold validR quotasB keysB revsB at h
 simp only [Bool.and_eq_true, decide_eq_true_eq, List.all_eq_true] at h
 obtain ⟨-, -, ⟨hq1, -, hq2⟩, ⟨hk1, -, hk2⟩, ⟨-, -, hx⟩, hn1, hn2⟩ := h
 refine ⟨⟨⟨hq2, fun q hq => ?_⟩, ⟨hk2, fun k hk => ?_⟩, by omega⟩, ?_, ?_, hx⟩
 ·
  have := hq1 q hq
  unfold quotaB at this
  simp only [Bool.and_eq_true] at this
  have := nameB_short this.1
  omega
 ·
  have := hk1 k hk
  unfold keyB namesB at this
  simp only [Bool.and_eq_true, decide_eq_true_eq, List.all_eq_true] at this
  obtain ⟨-, h1, ⟨-, h2⟩, ⟨h3, -⟩, -⟩ := this
  have := nameB_short h1
  exact ⟨by omega, by omega, fun w hw => by have := nameB_short (h3 w hw); omega⟩
 ·
  rcases Nat.eq_zero_or_pos r.k.length with e | e
  ·
   have e2 : r.k = [] := List.length_eq_zero_iff.1 e
   rw [e2] at hn2
   simp [ownB, ownF, setW] at hn2
   omega
  ·
   exact e
 ·
  rcases Nat.eq_zero_or_pos r.q.length with e | e
  ·
   have e2 : r.q = [] := List.length_eq_zero_iff.1 e
   rw [e2] at hn1
   simp [need] at hn1
  ·
   exact e

def fK (r : Rt) (d : Dig) : Ky := (findK r.k d).getD k0
def rlive (r : Rt) (d : Dig) (t : Int) : Bool := match findK r.k d with | some k => liveB r k t | none => false
theorem findK_kid {l : List Ky} {d : Dig} {k : Ky} (h : findK l d = some k) : kid k = d ∧ k ∈ l := by
 unfold findK at h
 have h1 := List.find?_some (p := fun k => kid k == d) h
 exact ⟨eq_of_beq h1, List.mem_of_find?_eq_some h⟩
theorem rlive_code (r : Rt) (d : Dig) (t : Int) : rlive r d t = ((findK r.k d).isSome && (decide (((findK r.k d).getD k0).fr ≤ t) && (decide (t < ((findK r.k d).getD k0).un) && (decide (t < r.e) && !(revS r.x d && decide (revZ r.x d ≤ t)))))) := by
 unfold rlive
 cases h : findK r.k d with
 | none => rfl
 | some k =>
  obtain ⟨rfl, -⟩ := findK_kid h
  simp only [Option.getD_some, Option.isSome_some, Bool.true_and, live_code]
  rfl
def countsR (r : Rt) (d : Dig) (t : Int) : Bool := validR r && rlive r d t
theorem counts_code (r : Rt) (d : Dig) (t : Int) : countsR r d t = ((findK r.k d).isSome && (validR r && liveB r (fK r d) t)) := by
 unfold countsR rlive fK
 cases findK r.k d with
 | none => simp
 | some k => rfl

end Go.Pl

namespace Go.Pl
open Go Go.Hl
set_option linter.unusedSimpArgs false

structure Ak where
 r : Word
 k : List Dig
 t : Int
def Ak.cv (x : Ak) : CV := .agg [.str x.r, .slc (x.k.map dg), .int .i64 x.t]
theorem Ak.cells (x : Ak) : x.cv.cells = 3 := by simp [Ak.cv, CV.cells, CV.cellsL, dg_cells, hf_cells]
theorem Ak.denil (x : Ak) : x.cv.denil = x.cv := by simp only [Ak.cv, CV.denil, CV.denilL, dg_denil, hf_denil, denilL_str, denilL_dg]
theorem Ak.isAgg (x : Ak) : x.cv.isAgg = true := rfl
theorem Ak.getAll (x : Ak) : CV.getAt 0 3 true x.cv = some x.cv := by
 have := Ak.cells x
 simp only [Ak.cv, CV.cells] at this
 simp only [Ak.cv, CV.getAt, this, and_self, if_true]
theorem Ak.setAll (x : Ak) (y : HV) : CV.setAt 0 3 y x.cv = some y := by
 have := Ak.cells x
 simp only [Ak.cv, CV.cells] at this
 simp only [Ak.cv, CV.setAt, this, and_self, if_true]
theorem Ak.fold (r : Word) (k : List Dig) (t : Int) : CV.agg [.str r, .slc (k.map dg), .int .i64 t] = Ak.cv ⟨r, k, t⟩ := rfl
theorem Ak.get_r (x : Ak) : CV.getAt 0 1 false x.cv = some (.str x.r) := by simp [Ak.cv, CV.getAt, CV.getAtL, CV.cells, CV.cellsL, dg_cells, hf_cells]
theorem Ak.set_r (x : Ak) (y : HV) : CV.setAt 0 1 y x.cv = some (.agg [y, .c (.slc (x.k.map dg)), .c (.int .i64 x.t)]) := by simp [Ak.cv, CV.setAt, CV.setAtL, CV.cells, CV.cellsL, dg_cells, hf_cells]
theorem Ak.get_k (x : Ak) : CV.getAt 1 1 false x.cv = some (.slc (x.k.map dg)) := by simp [Ak.cv, CV.getAt, CV.getAtL, CV.cells, CV.cellsL, dg_cells, hf_cells]
theorem Ak.set_k (x : Ak) (y : HV) : CV.setAt 1 1 y x.cv = some (.agg [.c (.str x.r), y, .c (.int .i64 x.t)]) := by simp [Ak.cv, CV.setAt, CV.setAtL, CV.cells, CV.cellsL, dg_cells, hf_cells]
theorem Ak.get_t (x : Ak) : CV.getAt 2 1 false x.cv = some (.int .i64 x.t) := by simp [Ak.cv, CV.getAt, CV.getAtL, CV.cells, CV.cellsL, dg_cells, hf_cells]
theorem Ak.set_t (x : Ak) (y : HV) : CV.setAt 2 1 y x.cv = some (.agg [.c (.str x.r), .c (.slc (x.k.map dg)), y]) := by simp [Ak.cv, CV.setAt, CV.setAtL, CV.cells, CV.cellsL, dg_cells, hf_cells]

end Go.Pl

namespace Go.Proofs.YtenbfeemmpjdhaaGreatDoor
open Go Go.Hl Go.Pl

theorem list_choose {α : Type} {f : α → CV} {Q : α → Prop} : ∀ (l : List CV), (∀ x ∈ l, ∃ y, x = f y ∧ Q y) → ∃ m : List α, l = m.map f ∧ ∀ y ∈ m, Q y
 | [], _ => ⟨[], rfl, by simp⟩
 | x :: l, h => by
  obtain ⟨y, rfl, hy⟩ := h x (by simp)
  obtain ⟨m, rfl, hm⟩ := list_choose l (fun x hx => h x (by simp [hx]))
  exact ⟨y :: m, rfl, fun z hz => by rcases List.mem_cons.1 hz with rfl | hz; exact hy; exact hm z hz⟩
theorem of_ints {c : CV} (h : HasTy Tryz.prog 27 c) : ∃ L : List Int, c = .slc (L.map (.int .i64)) ∧ (∀ n ∈ L, (Lit.int .i64 n).wf = true) ∧ L.length ≤ maxLen := by
 obtain ⟨l, rfl, hl, hn⟩ := h.of_slc Tryz.underlying27
 obtain ⟨m, rfl, hm⟩ := list_choose (f := CV.int .i64) (Q := fun n => (Lit.int .i64 n).wf = true) l (fun x hx => (hl x hx).of_int Tryz.underlying3)
 exact ⟨m, rfl, hm, by simpa using hn⟩
theorem own : ownKnob Tryz.prog.godebug = none := by kernel_rfl
theorem kids : Kids Tryz.prog (· < Tryz.prog.types.size) := kids_rows (by kernel_rfl) (by kernel_rfl)
theorem slicesFull : ∀ t e, t < Tryz.prog.types.size → Tryz.prog.underlying t = some (.slice e) → 0 < Tryz.prog.cellsOf e := slices_full_of Tryz.prog (by kernel_rfl)
end Go.Proofs.YtenbfeemmpjdhaaGreatDoor
