/- Plain Lean: small rules for the walks of chapter 11. By an AI agent. -/
import Derived.Test.YtenbfeemmpjdhaaGreatPl18b
import Derived.Laws.Externs
import Derived.Lib.BytesEntry
import Derived.Test.YtenbfeemmpjdhaaGreatPl11f
set_option linter.unusedSimpArgs false
set_option linter.unusedVariables false
set_option linter.defProp false
namespace Go.Hl
open Go Go.Pl

theorem hpure_ext {P : Program} {f : FuncId} {fn : Func} {e : Array Value → Sem Value} {args : List CV} {R : CV → Prop} (hf : P.funcs[f]? = some fn) (hname : (fn.name == "runtime.NumGoroutine") = false)
    (hb : fn.body.isNone = true) (hn : Extern.findNext fn = none) (he : Extern.find fn = some e)
    (h : ∀ (w : World) (ρ : Env) (O : Nat → Prop) (xs : List Value), RepHV w ρ O (args.map .c) xs → ∃ v x, R v ∧ RepV w ρ O (.c v) x ∧ (e xs.toArray).run P w = .ok x w) : HPure P f args R := by
  refine ⟨by unfold fnOk; rw [hf]; simp only [hname]; rfl, fun w ρ X xs hS hA hX => .inr ⟨by unfold callOk; rw [hf]; simp only [Option.isNone_iff_eq_none] at hb; simp [hb], ?_⟩⟩
  obtain ⟨v, x, hR, hv, hrun⟩ := h w ρ _ xs hA
  refine ⟨x, by rw [run_callFunc_extern hf hname hb hn he, hrun]; rfl, .c v, none0, ρ, x, rfl, ⟨v, rfl, hR, rfl⟩, ⟨hv, hS, by simp [HV.men], fun id o h => by simp [none0] at h, Stay2.refl _ _, Moves.refl _ _⟩⟩

theorem repL_u8 {w : World} {O : Nat → Prop} : ∀ {l : List UInt8} {xs : List Value}, RepL w O (l.map u8) xs → xs = l.map fun b => .int .u8 (b.toNat : Int)
  | [], xs, h => by simpa [RepL] using h
  | b :: l, xs, h => by
    simp only [List.map_cons, RepL, u8, RepC] at h
    obtain ⟨c1, c2, rfl, rfl, h2⟩ := h
    rw [repL_u8 h2]
    rfl
theorem bytes_run {P : Program} {w : World} {ρ : Env} {O : Nat → Prop} {l : List UInt8} {x : Value} (h : RepV w ρ O (.c (.slc (l.map u8))) x) : (Extern.Bytes.bytesOf x).run P w = .ok ⟨l.toArray⟩ w := by
  have h1 := h.single rfl
  simp only [RepC, List.cons.injEq, and_true] at h1
  obtain ⟨a, cap, xs, sz, rfl, h2, _, h4, h5, h6⟩ := h1
  have hx := repL_u8 h2
  cases a with
  | none =>
    have := h5 rfl
    have hl : l = [] := by
      have : l.length = 0 := by simp only [List.length_map] at h4; omega
      exact List.eq_nil_of_length_eq_zero this
    subst hl
    simp only [Extern.Bytes.bytesOf, Sem.run_pure]
    rfl
  | some ad =>
    have hr := (h6 ad rfl).1
    have := Go.Lib.run_loadBytesX (P := P) w (l.map fun b => (b.toNat : Int)) ad .empty (fun j y hj => hr j _ (by
      rw [hx]
      rw [List.getElem?_map] at hj ⊢
      cases hb : l[j]? with
      | none => rw [hb] at hj; cases hj
      | some b => rw [hb] at hj; cases hj; rfl))
    simp only [List.length_map] at this
    simp only [Extern.Bytes.bytesOf, List.length_map, this]
    congr 2
    simp only [Go.Lib.bytesOf, List.map_map]
    have e : l.map ((fun n : Int => n.toNat.toUInt8) ∘ fun b : UInt8 => (b.toNat : Int)) = l := by
      conv => rhs; rw [← List.map_id l]
      exact List.map_congr_left fun b _ => by simp
    rw [e]
    simp

def cmpB (a b : List UInt8) : Int := if slt a b then -1 else if a == b then 0 else 1
def cmpL (a b : List UInt8) : Int :=
  match (List.range (min a.length b.length)).find? fun i => a.getD i 0 != b.getD i 0 with
  | some i => if a.getD i 0 < b.getD i 0 then -1 else 1
  | none => if a.length < b.length then -1 else if a.length > b.length then 1 else 0
theorem find_range {p : Nat → Bool} (n : Nat) : (List.range (n + 1)).find? p = if p 0 then some 0 else ((List.range n).find? fun i => p (i + 1)).map (· + 1) := by
  rw [List.range_succ_eq_map, List.find?_cons, List.find?_map]
  split <;> simp_all [Function.comp]
  rfl
theorem cmpL_eq : ∀ a b : List UInt8, cmpL a b = cmpB a b
  | [], [] => rfl
  | [], b :: l => by simp [cmpL, cmpB, slt, Op.bytesLess]
  | a :: l, [] => by simp [cmpL, cmpB, slt, Op.bytesLess]
  | a :: l, b :: m => by
    have ih := cmpL_eq l m
    have hmin : min (a :: l).length (b :: m).length = min l.length m.length + 1 := by simp only [List.length_cons]; omega
    unfold cmpL at ih ⊢
    rw [hmin, find_range]
    by_cases hab : a = b
    · subst hab
      simp only [List.getD_cons_zero, bne_self_eq_false, Bool.false_eq_true, if_false, List.getD_cons_succ]
      have e1 : cmpB (a :: l) (a :: m) = cmpB l m := by
        have h1 : slt (a :: l) (a :: m) = slt l m := by simp [slt, Op.bytesLess]
        unfold cmpB
        rw [h1]
        simp
      rw [e1, ← ih]
      cases (List.range (min l.length m.length)).find? fun i => l.getD i 0 != m.getD i 0 with
      | some i => simp
      | none => simp
    · have h1 : (a != b) = true := by simpa using hab
      simp only [List.getD_cons_zero, h1, if_true]
      unfold cmpB
      have h2 : (a == b) = false := by simpa using hab
      by_cases h3 : a < b
      · simp [slt, Op.bytesLess, h3]
      · simp [slt, Op.bytesLess, h3, h2, hab]
theorem cmp_run {P : Program} {w : World} {ρ : Env} {O : Nat → Prop} {a b : List UInt8} {x y : Value} (ha : RepV w ρ O (.c (.slc (a.map u8))) x) (hb : RepV w ρ O (.c (.slc (b.map u8))) y) :
    (Extern.BytealgCompare.compare #[x, y]).run P w = .ok (.int .i64 (cmpB a b)) w := by
  change (Sem.run P (do pure (goInt (Extern.BytealgCompare.cmp (← Extern.Bytes.bytesOf x) (← Extern.Bytes.bytesOf y)))) w) = _
  simp only [Sem.run_bind, bytes_run ha, bytes_run hb, Result.andThen_ok, Sem.run_pure, goInt]
  rw [← cmpL_eq]
  congr 2
  have h1 : ∀ l : List UInt8, (⟨l.toArray⟩ : ByteArray).size = l.length := fun l => by simp [ByteArray.size]
  have h2 : ∀ (l : List UInt8) (i : Nat), (⟨l.toArray⟩ : ByteArray)[i]! = l.getD i 0 := fun l i => by
    exact Go.Lib.get!_eq l i
  unfold Extern.BytealgCompare.cmp cmpL
  simp only [h1, h2]
  generalize List.find? _ _ = o
  cases o <;> rfl
theorem compare_ok {P : Program} {f : FuncId} {fn : Func} (hf : P.funcs[f]? = some fn) (hname : (fn.name == "runtime.NumGoroutine") = false) (hb : fn.body.isNone = true) (hn : Extern.findNext fn = none)
    (he : Extern.find fn = some Extern.BytealgCompare.compare) (a b : List UInt8) : HPure P f [.slc (a.map u8), .slc (b.map u8)] (fun v => v = .int .i64 (cmpB a b)) :=
  hpure_ext hf hname hb hn he fun w ρ O xs h => by
    simp only [List.map_cons, List.map_nil, repHV_cons, RepHV] at h
    obtain ⟨x, l1, rfl, hx, y, l2, rfl, hy, rfl⟩ := h
    exact ⟨_, _, rfl, repV_int _ _ _ _ _, cmp_run hx hy⟩
end Go.Hl

namespace Go.Pl
open Go Go.Hl

theorem cmp_ge (a b : List UInt8) : decide (0 ≤ cmpB a b) = !slt a b := by
  unfold cmpB
  cases slt a b
  · simp; split <;> omega
  · rfl
theorem inN_eq (t : Int) : inN t = (decide (0 ≤ t) && decide (t ≤ maxN)) := rfl
theorem nlt (a b : Int) : decide (a ≤ b) = !decide (b < a) := by
  rw [Bool.eq_iff_iff]; simp
theorem nle (a b : Int) : decide (a < b) = !decide (b ≤ a) := by
  rw [Bool.eq_iff_iff]; simp
theorem quotaB_code (q : Qt) : quotaB q = (nameB q.r && (!decide (q.n < 1) && !decide (32 < q.n))) := by
  unfold quotaB; rw [nlt, nlt]
theorem keyB_code (k : Ky) : keyB k = ((decide (0 ≤ k.p.h) && decide (k.p.h ≤ 6)) && (nameB k.o && (!decide ((k.rs.length : Int) < 1) && (!decide (12 < (k.rs.length : Int)) && (namesB k.rs &&
    ((decide (0 ≤ k.fr) && decide (k.fr ≤ maxN)) && ((decide (0 ≤ k.un) && decide (k.un ≤ maxN)) && !decide (k.un ≤ k.fr)))))))) := by
  unfold keyB
  rw [← nlt, ← nlt, ← nle, inN_eq, inN_eq]
  have h1 : decide (1 ≤ k.rs.length) = decide ((1 : Int) ≤ k.rs.length) := by rw [Bool.eq_iff_iff]; simp only [decide_eq_true_eq]; omega
  have h2 : decide (k.rs.length ≤ 12) = decide ((k.rs.length : Int) ≤ 12) := by rw [Bool.eq_iff_iff]; simp only [decide_eq_true_eq]; omega
  rw [h1, h2, Bool.and_assoc (decide ((1 : Int) ≤ k.rs.length))]
theorem keyB_ref (k : Ky) : keyB k = ((decide (0 ≤ k.p.h) && decide (k.p.h ≤ 6)) && (nameB k.o && (decide (1 ≤ (k.rs.length : Int)) && (decide ((k.rs.length : Int) ≤ 12) && (namesB k.rs &&
    (decide (0 ≤ k.fr) && (decide (k.fr < k.un) && decide (k.un ≤ maxN)))))))) := by
  rw [keyB_code]
  rw [← nlt, ← nlt, ← nle]
  congr 5
  rw [Bool.eq_iff_iff]
  simp only [Bool.and_eq_true, decide_eq_true_eq]
  have : (0 : Int) < maxN := by decide
  omega
end Go.Pl

namespace Go.Pl
open Go Go.Hl

theorem denilL_u8 (l : List UInt8) : CV.denilL (l.map u8) = l.map u8 := denilL_map (f := u8) (fun _ => rfl) l
theorem dg_take (d : Dig) : (d.1.map u8).take 32 = d.1.map u8 := List.take_of_length_le (by rw [List.length_map, d.2]; exact Nat.le_refl _)
theorem ne_nil {s : Word} (h : (s == []) = false) : (0 : Int) < (s.length : Int) := by
  cases s with
  | nil => cases h
  | cons x s => rw [List.length_cons]; omega
theorem cmp_dlt (a b : Dig) : decide (0 ≤ cmpB a.1 b.1) = !dlt a b := cmp_ge _ _
theorem cells_dg {l : List Dig} : (∀ v ∈ l.map dg, v.cells = 32) ↔ True := iff_true_intro fun v h => by obtain ⟨d, _, rfl⟩ := List.mem_map.1 h; exact dg_cells d
def kSz (k : Ky) : Prop := k.o.length < 2 ^ 63 ∧ k.rs.length < 2 ^ 40 ∧ ∀ w ∈ k.rs, w.length < 2 ^ 63
def rSz (r : Rt) : Prop := (r.q.length < 2 ^ 40 ∧ ∀ q ∈ r.q, q.r.length < 2 ^ 63) ∧ (r.k.length < 2 ^ 40 ∧ ∀ k ∈ r.k, kSz k) ∧ r.x.length < 2 ^ 40
end Go.Pl
