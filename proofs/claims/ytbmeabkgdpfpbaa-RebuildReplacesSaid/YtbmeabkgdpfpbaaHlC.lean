/- HL, part C: a part of a value replaced; types; the operations' run equations. By an AI agent. -/
import Derived.Test.YtbmeabkgdpfpbaaHlB
import Derived.KernelRfl
set_option linter.unusedSimpArgs false
set_option linter.unusedVariables false
namespace Go.Hl
open Go

theorem CV.setAt_single {v : CV} (hv : v.isAgg = false) (off sz : Nat) (x : HV) : v.setAt off sz x = if off = 0 ∧ sz = 1 then some x else none := by
  cases v <;> simp_all [CV.setAt, CV.isAgg]
theorem CV.cells_single {v : CV} (hv : v.isAgg = false) : v.cells = 1 := by cases v <;> simp_all [CV.cells, CV.isAgg]
theorem HV.cells_single {v : HV} (hv : v.isAgg = false) : v.cells = 1 := by
  cases v <;> simp_all [HV.cells, HV.isAgg]
  exact CV.cells_single hv
theorem HV.stoL_c : ∀ {l : List CV}, HV.stoL (l.map .c) = true
  | [] => rfl
  | v :: vs => by simp only [List.map_cons, HV.stoL, HV.sto, HV.stoL_c, Bool.and_self]

mutual
theorem CV.setAt_spec {w : World} {ρ : Env} {O : Nat → Prop} {sz : Nat} {x : HV} (hx : x.sto = true) : ∀ {v : CV} {v' : HV} {off : Nat} {cs : List Value}, v.setAt off sz x = some v' → RepC w O v cs →
    ∃ c1 c2 c3, cs = c1 ++ c2 ++ c3 ∧ c1.length = off ∧ c2.length = sz ∧ (∀ c2', RepH w ρ O x c2' → RepH w ρ O v' (c1 ++ c2' ++ c3)) ∧ v'.sto = true ∧ (∀ M, x.men M → v'.men M)
  | .agg l, v', off, cs, hg, h => by
    simp only [CV.setAt] at hg
    simp only [RepC] at h
    by_cases hc : off = 0 ∧ CV.cellsL l = sz
    · rw [if_pos hc] at hg
      cases hg
      exact ⟨[], cs, [], by simp, by simp [hc.1], by rw [repL_len h]; exact hc.2, fun c2' h' => by simpa using h', hx, fun M h => h⟩
    · rw [if_neg hc, Option.map_eq_some_iff] at hg
      obtain ⟨l', hg, rfl⟩ := hg
      obtain ⟨c1, c2, c3, e1, e2, e3, e4, e5, e6⟩ := CV.setAtL_spec (ρ := ρ) hx hg h
      exact ⟨c1, c2, c3, e1, e2, e3, fun c2' h' => by simp only [RepH]; exact e4 c2' h', by simpa only [HV.sto] using e5, fun M h => by simp only [HV.men]; exact e6 M h⟩
  | .bool b, v', off, cs, hg, h => by
    rw [CV.setAt_single rfl] at hg; split at hg
    · rename_i hc; cases hg; exact ⟨[], cs, [], by simp, by simp [hc.1], by rw [repC_len h, CV.cells_single rfl, hc.2], fun c2' h' => by simpa using h', hx, fun M h => h⟩
    · cases hg
  | .int k n, v', off, cs, hg, h => by
    rw [CV.setAt_single rfl] at hg; split at hg
    · rename_i hc; cases hg; exact ⟨[], cs, [], by simp, by simp [hc.1], by rw [repC_len h, CV.cells_single rfl, hc.2], fun c2' h' => by simpa using h', hx, fun M h => h⟩
    · cases hg
  | .str s, v', off, cs, hg, h => by
    rw [CV.setAt_single rfl] at hg; split at hg
    · rename_i hc; cases hg; exact ⟨[], cs, [], by simp, by simp [hc.1], by rw [repC_len h, CV.cells_single rfl, hc.2], fun c2' h' => by simpa using h', hx, fun M h => h⟩
    · cases hg
  | .nils, v', off, cs, hg, h => by
    rw [CV.setAt_single rfl] at hg; split at hg
    · rename_i hc; cases hg; exact ⟨[], cs, [], by simp, by simp [hc.1], by rw [repC_len h, CV.cells_single rfl, hc.2], fun c2' h' => by simpa using h', hx, fun M h => h⟩
    · cases hg
  | .slc l, v', off, cs, hg, h => by
    rw [CV.setAt_single rfl] at hg; split at hg
    · rename_i hc; cases hg; exact ⟨[], cs, [], by simp, by simp [hc.1], by rw [repC_len h, CV.cells_single rfl, hc.2], fun c2' h' => by simpa using h', hx, fun M h => h⟩
    · cases hg
  | .rp _, v', off, cs, hg, h => by
    rw [CV.setAt_single rfl] at hg; split at hg
    · rename_i hc; cases hg; exact ⟨[], cs, [], by simp, by simp [hc.1], by rw [repC_len h, CV.cells_single rfl, hc.2], fun c2' h' => by simpa using h', hx, fun M h => h⟩
    · cases hg
  | .fn _, v', off, cs, hg, h => by
    rw [CV.setAt_single rfl] at hg; split at hg
    · rename_i hc; cases hg; exact ⟨[], cs, [], by simp, by simp [hc.1], by rw [repC_len h, CV.cells_single rfl, hc.2], fun c2' h' => by simpa using h', hx, fun M h => h⟩
    · cases hg
  | .nilp, v', off, cs, hg, h => by
    rw [CV.setAt_single rfl] at hg; split at hg
    · rename_i hc; cases hg; exact ⟨[], cs, [], by simp, by simp [hc.1], by rw [repC_len h, CV.cells_single rfl, hc.2], fun c2' h' => by simpa using h', hx, fun M h => h⟩
    · cases hg
  | .nilf, v', off, cs, hg, h => by
    rw [CV.setAt_single rfl] at hg; split at hg
    · rename_i hc; cases hg; exact ⟨[], cs, [], by simp, by simp [hc.1], by rw [repC_len h, CV.cells_single rfl, hc.2], fun c2' h' => by simpa using h', hx, fun M h => h⟩
    · cases hg
  | .nili, v', off, cs, hg, h => by
    rw [CV.setAt_single rfl] at hg; split at hg
    · rename_i hc; cases hg; exact ⟨[], cs, [], by simp, by simp [hc.1], by rw [repC_len h, CV.cells_single rfl, hc.2], fun c2' h' => by simpa using h', hx, fun M h => h⟩
    · cases hg
  | .nilm, v', off, cs, hg, h => by
    rw [CV.setAt_single rfl] at hg; split at hg
    · rename_i hc; cases hg; exact ⟨[], cs, [], by simp, by simp [hc.1], by rw [repC_len h, CV.cells_single rfl, hc.2], fun c2' h' => by simpa using h', hx, fun M h => h⟩
    · cases hg
  | .ifc _ _, v', off, cs, hg, h => by
    rw [CV.setAt_single rfl] at hg; split at hg
    · rename_i hc; cases hg; exact ⟨[], cs, [], by simp, by simp [hc.1], by rw [repC_len h, CV.cells_single rfl, hc.2], fun c2' h' => by simpa using h', hx, fun M h => h⟩
    · cases hg
theorem CV.setAtL_spec {w : World} {ρ : Env} {O : Nat → Prop} {sz : Nat} {x : HV} (hx : x.sto = true) : ∀ {l : List CV} {l' : List HV} {off : Nat} {cs : List Value}, CV.setAtL off sz x l = some l' → RepL w O l cs →
    ∃ c1 c2 c3, cs = c1 ++ c2 ++ c3 ∧ c1.length = off ∧ c2.length = sz ∧ (∀ c2', RepH w ρ O x c2' → RepHL w ρ O l' (c1 ++ c2' ++ c3)) ∧ HV.stoL l' = true ∧ (∀ M, x.men M → HV.menL M l')
  | [], l', off, cs, hg, h => by simp [CV.setAtL] at hg
  | v :: vs, l', off, cs, hg, h => by
    simp only [CV.setAtL] at hg
    simp only [RepL] at h
    obtain ⟨y, z, rfl, h1, h2⟩ := h
    split at hg
    · rw [Option.map_eq_some_iff] at hg
      obtain ⟨v', hg, rfl⟩ := hg
      obtain ⟨c1, c2, c3, rfl, e1, e2, e3, e4, e5⟩ := CV.setAt_spec (ρ := ρ) hx hg h1
      refine ⟨c1, c2, c3 ++ z, by simp, e1, e2, fun c2' h' => ?_, ?_, fun M h => ?_⟩
      · simp only [RepHL]
        exact ⟨c1 ++ c2' ++ c3, z, by simp, e3 c2' h', repHL_c.2 h2⟩
      · simp only [HV.stoL, e4, HV.stoL_c, Bool.and_self]
      · simp only [HV.menL]; exact ⟨e5 M h, HV.menL_c⟩
    · rw [Option.map_eq_some_iff] at hg
      obtain ⟨l2, hg, rfl⟩ := hg
      obtain ⟨c1, c2, c3, rfl, e1, e2, e3, e4, e5⟩ := CV.setAtL_spec (ρ := ρ) hx hg h2
      refine ⟨y ++ c1, c2, c3, by simp, by rw [List.length_append, repC_len h1]; omega, e2, fun c2' h' => ?_, ?_, fun M h => ?_⟩
      · simp only [RepHL]
        exact ⟨y, c1 ++ c2' ++ c3, by simp, by simpa only [RepH] using h1, e3 c2' h'⟩
      · simp only [HV.stoL, HV.sto, e4, Bool.and_self]
      · simp only [HV.menL, HV.men, true_and]; exact e5 M h
end

theorem HV.setAt_single {v : HV} (hv : v.isAgg = false) (off sz : Nat) (x : HV) : HV.setAt off sz x v = if off = 0 ∧ sz = 1 then some x else none := by
  cases v with
  | c v => simp only [HV.setAt]; exact CV.setAt_single hv _ _ _
  | agg l => simp [HV.isAgg] at hv
  | _ => simp only [HV.setAt]

mutual
theorem HV.setAt_spec {w : World} {ρ : Env} {O : Nat → Prop} {sz : Nat} {x : HV} (hx : x.sto = true) : ∀ {v v' : HV} {off : Nat} {cs : List Value}, HV.setAt off sz x v = some v' → v.sto = true → RepH w ρ O v cs →
    ∃ c1 c2 c3, cs = c1 ++ c2 ++ c3 ∧ c1.length = off ∧ c2.length = sz ∧ (∀ c2', RepH w ρ O x c2' → RepH w ρ O v' (c1 ++ c2' ++ c3)) ∧ v'.sto = true ∧ (∀ M, x.men M → v.men M → v'.men M)
  | .c v, v', off, cs, hg, _, h => by
    simp only [HV.setAt] at hg
    simp only [RepH] at h
    obtain ⟨c1, c2, c3, e1, e2, e3, e4, e5, e6⟩ := CV.setAt_spec (ρ := ρ) hx hg h
    exact ⟨c1, c2, c3, e1, e2, e3, e4, e5, fun M h _ => e6 M h⟩
  | .agg l, v', off, cs, hg, hs, h => by
    simp only [HV.setAt] at hg
    simp only [RepH, HV.sto] at h hs
    by_cases hc : off = 0 ∧ HV.cellsL l = sz
    · rw [if_pos hc] at hg
      cases hg
      exact ⟨[], cs, [], by simp, by simp [hc.1], by rw [repHL_len h]; exact hc.2, fun c2' h' => by simpa using h', hx, fun M h _ => h⟩
    · rw [if_neg hc, Option.map_eq_some_iff] at hg
      obtain ⟨l', hg, rfl⟩ := hg
      obtain ⟨c1, c2, c3, e1, e2, e3, e4, e5, e6⟩ := HV.setAtL_spec hx hg hs h
      exact ⟨c1, c2, c3, e1, e2, e3, fun c2' h' => by simp only [RepH]; exact e4 c2' h', by simpa only [HV.sto] using e5, fun M h h' => by simp only [HV.men] at h' ⊢; exact e6 M h h'⟩
  | .junk, v', off, cs, hg, hs, h => by simp [HV.sto] at hs
  | .tup _, v', off, cs, hg, hs, h => by simp [HV.sto] at hs
  | .own id n, v', off, cs, hg, hs, h => by
    rw [HV.setAt_single rfl] at hg; split at hg
    · rename_i hc; cases hg; exact ⟨[], cs, [], by simp, by simp [hc.1], by rw [repH_len h, HV.cells_single rfl, hc.2], fun c2' h' => by simpa using h', hx, fun M h _ => h⟩
    · cases hg
  | .ptr id n, v', off, cs, hg, hs, h => by
    rw [HV.setAt_single rfl] at hg; split at hg
    · rename_i hc; cases hg; exact ⟨[], cs, [], by simp, by simp [hc.1], by rw [repH_len h, HV.cells_single rfl, hc.2], fun c2' h' => by simpa using h', hx, fun M h _ => h⟩
    · cases hg
  | .eptr .., v', off, cs, hg, hs, h => by
    rw [HV.setAt_single rfl] at hg; split at hg
    · rename_i hc; cases hg; exact ⟨[], cs, [], by simp, by simp [hc.1], by rw [repH_len h, HV.cells_single rfl, hc.2], fun c2' h' => by simpa using h', hx, fun M h _ => h⟩
    · cases hg
  | .osl .., v', off, cs, hg, hs, h => by
    rw [HV.setAt_single rfl] at hg; split at hg
    · rename_i hc; cases hg; exact ⟨[], cs, [], by simp, by simp [hc.1], by rw [repH_len h, HV.cells_single rfl, hc.2], fun c2' h' => by simpa using h', hx, fun M h _ => h⟩
    · cases hg
  | .mapr id, v', off, cs, hg, hs, h => by
    rw [HV.setAt_single rfl] at hg; split at hg
    · rename_i hc; cases hg; exact ⟨[], cs, [], by simp, by simp [hc.1], by rw [repH_len h, HV.cells_single rfl, hc.2], fun c2' h' => by simpa using h', hx, fun M h _ => h⟩
    · cases hg
  | .mrow .., v', off, cs, hg, hs, h => by
    rw [HV.setAt_single rfl] at hg; split at hg
    · rename_i hc; cases hg; exact ⟨[], cs, [], by simp, by simp [hc.1], by rw [repH_len h, HV.cells_single rfl, hc.2], fun c2' h' => by simpa using h', hx, fun M h _ => h⟩
    · cases hg
  | .clo id n, v', off, cs, hg, hs, h => by
    rw [HV.setAt_single rfl] at hg; split at hg
    · rename_i hc; cases hg; exact ⟨[], cs, [], by simp, by simp [hc.1], by rw [repH_len h, HV.cells_single rfl, hc.2], fun c2' h' => by simpa using h', hx, fun M h _ => h⟩
    · cases hg
theorem HV.setAtL_spec {w : World} {ρ : Env} {O : Nat → Prop} {sz : Nat} {x : HV} (hx : x.sto = true) : ∀ {l l' : List HV} {off : Nat} {cs : List Value}, HV.setAtL off sz x l = some l' → HV.stoL l = true → RepHL w ρ O l cs →
    ∃ c1 c2 c3, cs = c1 ++ c2 ++ c3 ∧ c1.length = off ∧ c2.length = sz ∧ (∀ c2', RepH w ρ O x c2' → RepHL w ρ O l' (c1 ++ c2' ++ c3)) ∧ HV.stoL l' = true ∧ (∀ M, x.men M → HV.menL M l → HV.menL M l')
  | [], l', off, cs, hg, _, h => by simp [HV.setAtL] at hg
  | v :: vs, l', off, cs, hg, hs, h => by
    simp only [HV.setAtL] at hg
    simp only [RepHL, HV.stoL, Bool.and_eq_true] at h hs
    obtain ⟨y, z, rfl, h1, h2⟩ := h
    split at hg
    · rw [Option.map_eq_some_iff] at hg
      obtain ⟨v', hg, rfl⟩ := hg
      obtain ⟨c1, c2, c3, rfl, e1, e2, e3, e4, e5⟩ := HV.setAt_spec hx hg hs.1 h1
      refine ⟨c1, c2, c3 ++ z, by simp, e1, e2, fun c2' h' => ?_, ?_, fun M h h' => ?_⟩
      · simp only [RepHL]
        exact ⟨c1 ++ c2' ++ c3, z, by simp, e3 c2' h', h2⟩
      · simp only [HV.stoL, e4, hs.2, Bool.and_self]
      · simp only [HV.menL] at h' ⊢; exact ⟨e5 M h h'.1, h'.2⟩
    · rw [Option.map_eq_some_iff] at hg
      obtain ⟨l2, hg, rfl⟩ := hg
      obtain ⟨c1, c2, c3, rfl, e1, e2, e3, e4, e5⟩ := HV.setAtL_spec hx hg hs.2 h2
      refine ⟨y ++ c1, c2, c3, by simp, by rw [List.length_append, repH_len h1]; omega, e2, fun c2' h' => ?_, ?_, fun M h h' => ?_⟩
      · simp only [RepHL]
        exact ⟨y, c1 ++ c2' ++ c3, by simp, h1, e3 c2' h'⟩
      · simp only [HV.stoL, hs.1, e4, Bool.and_self]
      · simp only [HV.menL] at h' ⊢; exact ⟨h'.1, e5 M h h'.2⟩
end

/-! ## Types -/
inductive TyD where
  | bool | int (k : IntKind) | string
  | pointer (e : TypeId) | slice (e : TypeId) | array (n : Nat) (e : TypeId) | map (k e : TypeId)
  | struct (fs : List (Nat × TypeId))
  | func | iface (empty : Bool) | other
  deriving DecidableEq

def tyd : TypeDesc → TyD
  | .bool => .bool
  | .int k => .int k
  | .string => .string
  | .pointer e => .pointer e
  | .slice e => .slice e
  | .array n e => .array n e
  | .map k e => .map k e
  | .struct fs => .struct (fs.toList.map fun f => (f.offset, f.type))
  | .func _ _ _ => .func
  | .interface ms => .iface ms.isEmpty
  | _ => .other

structure TyI where
  size : Nat
  bytes : Nat
  d : TyD
  z : CV

def TyD.isAgg : TyD → Bool
  | .struct _ | .array _ _ => true
  | _ => false

/-- The zero value of a type. -/
def zeroT (P : Program) : Nat → TypeId → Option CV
  | 0, _ => none
  | n + 1, t =>
    match P.underlying t with
    | some .bool => some (.bool false)
    | some (.int k) => some (.int k 0)
    | some .string => some (.str [])
    | some (.pointer _) => some .nilp
    | some (.slice _) => some .nils
    | some (.map _ _) => some .nilm
    | some (.func _ _ _) => some .nilf
    | some (.interface _) => some .nili
    | some (.array m e) => (zeroT P n e).map fun z => .agg (List.replicate m z)
    | some (.struct fs) => (fs.toList.mapM fun f => zeroT P n f.type).map .agg
    | _ => none

mutual
def CV.flat : CV → Option (List Value)
  | .bool b => some [.bool b]
  | .int k n => some [.int k n]
  | .str s => some [.string ⟨s.toArray⟩]
  | .agg l => CV.flatL l
  | .nils => some [.slice none 0 0]
  | .nilp => some [.pointer none]
  | .nilf => some [.nilFunc]
  | .nili => some [.nilIface]
  | .nilm => some [.map none]
  | _ => none
def CV.flatL : List CV → Option (List Value)
  | [] => some []
  | v :: vs => match v.flat, CV.flatL vs with
    | some a, some b => some (a ++ b)
    | _, _ => none
end

mutual
theorem CV.flat_rep {w : World} {O : Nat → Prop} : ∀ {v : CV} {cs : List Value}, v.flat = some cs → RepC w O v cs
  | .bool b, cs, h => by simp only [CV.flat, Option.some.injEq] at h; simp only [RepC]; exact h.symm
  | .int k n, cs, h => by simp only [CV.flat, Option.some.injEq] at h; simp only [RepC]; exact h.symm
  | .str s, cs, h => by simp only [CV.flat, Option.some.injEq] at h; simp only [RepC]; exact h.symm
  | .agg l, cs, h => by simp only [CV.flat] at h; simp only [RepC]; exact CV.flatL_rep h
  | .nils, cs, h => by simp only [CV.flat, Option.some.injEq] at h; simp only [RepC]; exact h.symm
  | .nilp, cs, h => by simp only [CV.flat, Option.some.injEq] at h; simp only [RepC]; exact h.symm
  | .nilf, cs, h => by simp only [CV.flat, Option.some.injEq] at h; simp only [RepC]; exact h.symm
  | .nili, cs, h => by simp only [CV.flat, Option.some.injEq] at h; simp only [RepC]; exact h.symm
  | .nilm, cs, h => by simp only [CV.flat, Option.some.injEq] at h; simp only [RepC]; exact h.symm
  | .slc _, cs, h => by simp [CV.flat] at h
  | .rp _, cs, h => by simp [CV.flat] at h
  | .fn _, cs, h => by simp [CV.flat] at h
  | .ifc _ _, cs, h => by simp [CV.flat] at h
theorem CV.flatL_rep {w : World} {O : Nat → Prop} : ∀ {l : List CV} {cs : List Value}, CV.flatL l = some cs → RepL w O l cs
  | [], cs, h => by simp only [CV.flatL, Option.some.injEq] at h; simp only [RepL]; exact h.symm
  | v :: vs, cs, h => by
    simp only [CV.flatL] at h
    split at h
    · rename_i a b h1 h2
      cases h
      simp only [RepL]
      exact ⟨a, b, rfl, CV.flat_rep h1, CV.flatL_rep h2⟩
    · cases h
end

def valEq : Value → Value → Bool
  | .bool a, .bool b => a == b
  | .int k a, .int j b => k == j && a == b
  | .string a, .string b => a.data.toList == b.data.toList
  | .pointer none, .pointer none => true
  | .slice none 0 0, .slice none 0 0 => true
  | .map none, .map none => true
  | .nilFunc, .nilFunc => true
  | .nilIface, .nilIface => true
  | _, _ => false
theorem valEq_eq {a b : Value} (h : valEq a b = true) : a = b := by
  unfold valEq at h
  split at h <;> simp_all
  rename_i x y
  cases x; cases y; simp_all
def valsEq : List Value → List Value → Bool
  | [], [] => true
  | a :: as, b :: bs => valEq a b && valsEq as bs
  | _, _ => false
theorem valsEq_eq : ∀ {a b : List Value}, valsEq a b = true → a = b
  | [], [], _ => rfl
  | a :: as, b :: bs, h => by simp only [valsEq, Bool.and_eq_true] at h; rw [valEq_eq h.1, valsEq_eq h.2]
  | [], _ :: _, h => by simp [valsEq] at h
  | _ :: _, [], h => by simp [valsEq] at h

def layS (P : Program) : List (Nat × TypeId) → List CV → Nat → Bool
  | [], [], _ => true
  | (o, t) :: fs, z :: zs, k => o == k && (P.info? t).isSome && P.cellsOf t == z.cells && layS P fs zs (k + z.cells)
  | _, _, _ => false
def lay (P : Program) : TyD → CV → Bool
  | .struct fs, .agg zs => layS P fs zs 0
  | .array n e, .agg zs => zs.length == n && zs.all (fun z => z.cells == P.cellsOf e)
  | .struct _, _ => false
  | .array _ _, _ => false
  | _, _ => true

def tyOf (P : Program) (t : TypeId) : Option TyI :=
  match P.info? t, P.underlying t, zeroT P 8 t with
  | some i, some d, some z =>
    match i.zero, z.flat with
    | some zv, some cs =>
      if valsEq cs zv.cells.toList && (tyd d).isAgg == z.isAgg && Value.isAgg' zv == z.isAgg && cs.length == i.size && decide (0 < i.size) && lay P (tyd d) z then some ⟨i.size, i.bytes, tyd d, z⟩ else none
    | _, _ => none
  | _, _, _ => none

structure TyOk (P : Program) (t : TypeId) (ti : TyI) (i : TypeInfo) (d : TypeDesc) (zv : Value) : Prop where
  info : P.info? t = some i
  under : P.underlying t = some d
  size : i.size = ti.size
  bytes : i.bytes = ti.bytes
  d_ : tyd d = ti.d
  zero : i.zero = some zv
  rep : ∀ w O, RepC w O ti.z zv.cells.toList
  agg : Value.isAgg' zv = ti.z.isAgg
  dagg : ti.d.isAgg = ti.z.isAgg
  pos : 0 < ti.size
  zsize : zv.cells.size = ti.size
  lay_ : lay P ti.d ti.z = true

theorem tyOf_ok {P : Program} {t : TypeId} {ti : TyI} (h : tyOf P t = some ti) : ∃ i d zv, TyOk P t ti i d zv := by
  unfold tyOf at h
  split at h
  · rename_i i d z h1 h2 h3
    split at h
    · rename_i zv cs h4 h5
      split at h
      · rename_i hc
        simp only [Bool.and_eq_true, beq_iff_eq, decide_eq_true_eq] at hc
        obtain ⟨⟨⟨⟨⟨c1, c2⟩, c3⟩, c4⟩, c5⟩, c6⟩ := hc
        cases h
        have hcs := valsEq_eq c1
        exact ⟨i, d, zv, h1, h2, rfl, rfl, rfl, h4, fun w O => by rw [← hcs]; exact CV.flat_rep h5, c3, c2, c5, by rw [← c4, hcs]; simp, c6⟩
      · cases h
    · cases h
  · cases h
end Go.Hl
