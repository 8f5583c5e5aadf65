/- The rules that a step of a walk uses, in bundles. Printed by gen/bund.py. By an AI agent. -/
import Derived.Test.YtenbfeemmpjdhaaGreatPl18b
import Derived.Sort.KeysCollected
import Derived.Test.YtenbfeemmpjdhaaGreatChecked
set_option linter.unusedSimpArgs false
set_option linter.unusedVariables false
set_option linter.defProp false
namespace Go.Hl
open Go Go.RowKit

def leW (x y : List UInt8) : Bool := decide (x ≤ y)
structure MOk (D : MD) : Prop where
  nd : (D.map (·.1)).Nodup
  th : ∀ p ∈ D, p.2.there = true

theorem repL_strs {w : World} {O : Nat → Prop} : ∀ (l : List (List UInt8)), RepL w O (l.map CV.str) (l.map skey)
  | [] => by simp [RepL]
  | x :: l => by simp only [List.map_cons, RepL]; exact ⟨[skey x], _, rfl, by simp [RepC, skey], repL_strs l⟩

section
variable {P : Program} {av : List Nat} {f fi : FuncId} {ob : Ob} {nid id id2 : Nat} {K : HV → Ob → Prop} {T e : TypeId} {sz : Nat} {D : MD}
end

theorem repHV_c' {w : World} {ρ ρ2 : Env} {X : Nat → Prop} (hst : Stay w (Owned ρ X) w (Owned ρ2 X)) : ∀ {l : List CV} {xs : List Value}, RepHV w ρ (Owned ρ X) (l.map .c) xs → RepHV w ρ2 (Owned ρ2 X) (l.map .c) xs
  | [], xs, h => by simpa only [List.map_nil, RepHV] using h
  | v :: l, xs, h => by
    rw [List.map_cons, repHV_cons] at h ⊢
    obtain ⟨y, ys, rfl, ⟨h1, h2⟩, h3⟩ := h
    exact ⟨y, ys, rfl, ⟨by simp only [RepH] at h1 ⊢; exact h1.stay hst, h2⟩, repHV_c' hst h3⟩
theorem repHV_append2 {w : World} {ρ : Env} {O : Nat → Prop} : ∀ {l1 l2 : List HV} {xs : List Value}, RepHV w ρ O (l1 ++ l2) xs ↔ ∃ y1 y2, xs = y1 ++ y2 ∧ RepHV w ρ O l1 y1 ∧ RepHV w ρ O l2 y2
  | [], l2, xs => by simp only [List.nil_append, RepHV]; exact ⟨fun h => ⟨[], xs, rfl, rfl, h⟩, fun ⟨y1, y2, h, h1, h2⟩ => by subst h1; subst h; exact h2⟩
  | v :: l1, l2, xs => by
    simp only [List.cons_append, repHV_cons, repHV_append2 (l1 := l1)]
    constructor
    · rintro ⟨y, ys, rfl, h1, a, b, rfl, h2, h3⟩
      exact ⟨y :: a, b, rfl, ⟨y, a, rfl, h1, h2⟩, h3⟩
    · rintro ⟨y1, y2, rfl, ⟨y, ys, rfl, h1, h2⟩, h3⟩
      exact ⟨y, ys ++ y2, rfl, h1, ys, y2, rfl, h2, h3⟩

theorem hfn_closeArg {P : Program} {f : FuncId} {e : TypeId} {sz : Nat} {l pre post : List CV} {R : CV → Prop} (h : HPure P f (pre ++ .slc l :: post) R) :
    HFn P f (pre.map .c ++ .own 0 l.length :: post.map .c) 1 (fob [(0, .row e sz l)]) (fun r ob' => ∃ u, r = .c u ∧ ob' = none0 ∧ R u) := by
  refine ⟨h.1, fun w ρ X xs hS hA hX => ?_⟩
  obtain ⟨hd, ys, hρ0, hl, hcs, how⟩ := hS.objs 0 (.row e sz l) rfl
  let ρc : Env := fun _ => none
  have hown : ∀ b, ¬ Own ρc b := fun b ⟨_, _, h1, _⟩ => by cases h1
  have hst : Stay w (Owned ρ X) w (Owned ρc X) := Stay.same (fun b _ hb => hb.imp (fun x => x) (fun h => (hown b h).elim))
  have hSc : RepS w ρc X none0 := ⟨fun _ _ h => (by simp [none0] at h), fun _ _ => rfl, fun _ _ _ _ _ h => (by cases h), fun _ _ _ h => (by cases h)⟩
  have hA2 : RepHV w ρc (Owned ρc X) ((pre ++ .slc l :: post).map .c) xs := by
    rw [List.map_append, List.map_cons]
    rw [repHV_append2] at hA ⊢
    obtain ⟨y1, y2, rfl, h1, h2⟩ := hA
    refine ⟨y1, y2, rfl, repHV_c' hst h1, ?_⟩
    rw [repHV_cons] at h2 ⊢
    obtain ⟨y, zs, rfl, hy, hz⟩ := h2
    refine ⟨y, zs, rfl, ?_, repHV_c' hst hz⟩
    obtain ⟨hy1, hy2⟩ := hy
    have hag : Value.isAgg' y = false := by rw [← hy2]; rfl
    rw [cells_single hag] at hy1
    simp only [RepH, List.cons.injEq, and_true] at hy1
    obtain ⟨x, rfl, hx1, hx2⟩ := hy1
    obtain ⟨q1, q2⟩ := hx2 hd hρ0
    refine repV_single ?_ rfl hag
    simp only [RepC]
    rcases how.2 with ⟨rfl, hz0⟩ | ⟨g, cap, cur, rfl, hg0, hg, hcap, _⟩
    · have := q2 (by simp [hlen, hz0])
      exact ⟨none, 0, ys, sz, by rw [this, hz0], hl.stay hst, hcs, by omega, fun _ => rfl, fun ad had => (by cases had)⟩
    · have := q2 (by simp [hlen])
      refine ⟨some ⟨g, 0, none⟩, cap, ys, sz, by rw [this], hl.stay hst, hcs, hcap, fun hh => (by cases hh), fun ad had => ?_⟩
      cases had
      refine ⟨how.cells (g := g) rfl, fun _ => ?_⟩
      rintro (hx | hx)
      · exact hS.xb 0 _ g hρ0 rfl hx
      · exact hown _ hx
  refine (h.2 w ρc X xs hSc hA2 hX).mono ?_
  rintro ex w' ⟨r, ob', ρ', x, rfl, ⟨v, rfl, hR, rfl⟩, hg⟩
  have hρ' : ∀ i, ρ' i = none := fun i => hg.s.none i rfl
  refine ⟨_, _, ρ', x, rfl, ⟨v, rfl, rfl, hR⟩, hg.v, hg.s, by simp [HV.men], fun i o ho => (by simp [none0] at ho), ?_, fun i L _ hL => (by rw [hρ' i] at hL; cases hL)⟩
  exact ⟨fun b hb _ => hg.stay.block b hb (hown b), fun b hb => (hg.stay.own b hb).imp (fun h => (hown b h).elim) (fun x => x), hg.stay.size, hg.stay.os, hg.stay.tape, hg.stay.output⟩

theorem renL_c' {m : Nat → Nat} : ∀ (l : List CV), HV.renL m (l.map .c) = l.map .c
  | [] => rfl
  | v :: l => by simp only [List.map_cons, HV.renL, HV.ren, renL_c' l]
theorem renL_append {m : Nat → Nat} : ∀ (l1 l2 : List HV), HV.renL m (l1 ++ l2) = HV.renL m l1 ++ HV.renL m l2
  | [], l2 => rfl
  | v :: l1, l2 => by simp only [List.cons_append, HV.renL, renL_append l1 l2]

theorem call_close {P : Program} {av : List Nat} {f : FuncId} {ob : Ob} {nid id n : Nat} {K : HV → Ob → Prop} {e : TypeId} {sz : Nat} {l : List CV} {R : CV → Prop} (pre post : List CV) (h : HPure P f (pre ++ .slc l :: post) R) (hid : ob id = some (.row e sz l)) (hn : n = l.length)
    (hav : id ∉ av) (hfree : Free4 ob nid) (hK : ∀ u, R u → K (.c u) (gone ob id)) : HCall P av f (pre.map .c ++ .own id n :: post.map .c) ob nid K := by
  have h0 : sub [id] nid 0 = id := rfl
  subst hn
  have hloc : LocOk 1 (pre.map HV.c ++ HV.own 0 l.length :: post.map HV.c) (fob [(0, .row e sz l)]) := by
    have := locOk_take e sz l.length l
    refine ⟨this.all, this.none, ?_⟩
    rw [HV.menL_append]
    exact ⟨HV.menL_c, by simp only [HV.menL, HV.men]; exact ⟨by omega, HV.menL_c⟩⟩
  refine ⟨[id], _, _, _, hfn_closeArg h, hloc, ⟨by simp, by simpa using hav⟩, by simp only [renL_append, renL_c', HV.renL, HV.ren, h0], fun j o hj => ?_, fun r lob' hR _ => ?_⟩
  · simp only [fob_at, fob_nil] at hj
    split at hj
    · rename_i e; subst e; cases hj; simpa [HO.ren] using hid
    · cases hj
  · obtain ⟨u, rfl, rfl, hR⟩ := hR
    rw [obAfter_gone (lob := none0) (id := id) (by simp) rfl rfl (fun j hj0 hj => ?_) (fun j hj => rfl) hfree.all]
    · exact hK u hR
    · simp at hj; omega
end Go.Hl

namespace Go.Pl
open Go Go.Hl

end Go.Pl

namespace Go.Pl
open Go Go.Hl

abbrev Asc (l : List Word) : Prop := l.Pairwise (· < ·)
theorem bl_iff : ∀ (a b : Word), Op.bytesLess a b = true ↔ a < b
  | _, [] => by simp [Op.bytesLess]
  | [], _ :: _ => by simp [Op.bytesLess]
  | a :: x, b :: y => by
    simp only [Op.bytesLess, Bool.or_eq_true, decide_eq_true_eq, Bool.and_eq_true, beq_iff_eq, bl_iff x y, List.cons_lt_cons_iff]
theorem slt_iff {a b : Word} : slt a b = true ↔ a < b := bl_iff a b
theorem asc_ext {a b : List Word} (ha : Asc a) (hb : Asc b) (h : ∀ w, w ∈ a ↔ w ∈ b) : a = b := by
  have nd : ∀ {l : List Word}, Asc l → l.Nodup := fun hl => hl.imp (fun {x y} h e => by subst e; exact List.lt_irrefl _ h)
  refine List.Perm.eq_of_pairwise (le := (· < ·)) (fun x y _ _ h1 h2 => absurd (List.lt_trans h1 h2) (List.lt_irrefl _)) ha hb ((List.perm_ext_iff_of_nodup (nd ha) (nd hb)).2 h)
theorem lt_of_le_ne {a b : Word} (h : a ≤ b) (hne : a ≠ b) : a < b := by
  apply Classical.byContradiction
  intro h2
  exact hne (List.le_antisymm h (List.not_lt.1 h2))
theorem mem_tw {α : Type} {p : α → Bool} : ∀ {l : List α} {x : α}, x ∈ l.takeWhile p → p x = true
  | [], x, h => by simp at h
  | a :: l, x, h => by
    by_cases ha : p a = true
    · rw [List.takeWhile_cons_of_pos ha, List.mem_cons] at h
      rcases h with rfl | h
      · exact ha
      · exact mem_tw h
    · rw [List.takeWhile_cons_of_neg ha] at h; simp at h
theorem mem_addW {l : List Word} {w v : Word} : v ∈ addW l w ↔ v ∈ l ∨ v = w := by
  unfold addW
  split
  · rename_i h
    have : w ∈ l := by simpa using h
    constructor
    · exact .inl
    · rintro (h | rfl)
      · exact h
      · exact this
  · have : l = l.takeWhile (slt · w) ++ l.dropWhile (slt · w) := (List.takeWhile_append_dropWhile).symm
    constructor
    · intro h
      simp only [List.mem_append, List.mem_cons] at h
      rcases h with h | rfl | h
      · exact .inl (by rw [this]; exact List.mem_append_left _ h)
      · exact .inr rfl
      · exact .inl (by rw [this]; exact List.mem_append_right _ h)
    · rintro (h | rfl)
      · rw [this] at h
        simp only [List.mem_append, List.mem_cons]
        rcases List.mem_append.1 h with h | h
        · exact .inl h
        · exact .inr (.inr h)
      · simp
theorem asc_addW {l : List Word} (h : Asc l) (w : Word) : Asc (addW l w) := by
  unfold addW
  split
  · exact h
  · rename_i hc
    have hw : w ∉ l := by simpa using hc
    have e : l = l.takeWhile (slt · w) ++ l.dropWhile (slt · w) := (List.takeWhile_append_dropWhile).symm
    have h' := h
    rw [e] at h'
    obtain ⟨p1, p2, p3⟩ := List.pairwise_append.1 h'
    have t1 : ∀ x ∈ l.takeWhile (slt · w), x < w := fun x hx => slt_iff.1 (mem_tw (p := (slt · w)) hx)
    have t2 : ∀ y ∈ l.dropWhile (slt · w), w < y := by
      cases hd : l.dropWhile (slt · w) with
      | nil => simp
      | cons y r =>
        rw [hd] at p2 e
        have hy : slt y w = false := by
          have := List.head_dropWhile_not (slt · w) (l := l) (by rw [hd]; simp)
          simpa [hd] using this
        have hyl : y ∈ l := by rw [e]; simp
        have hwy : w < y := by
          have h1 : ¬ y < w := fun h => by rw [slt_iff.2 h] at hy; cases hy
          exact lt_of_le_ne (List.not_lt.1 h1) (fun h => hw (h ▸ hyl))
        intro z hz
        rcases List.mem_cons.1 hz with rfl | hz
        · exact hwy
        · exact List.lt_trans hwy ((List.pairwise_cons.1 p2).1 z hz)
    refine List.pairwise_append.2 ⟨p1, List.pairwise_cons.2 ⟨t2, p2⟩, fun x hx y hy => ?_⟩
    rcases List.mem_cons.1 hy with rfl | hy
    · exact t1 x hx
    · exact List.lt_trans (t1 x hx) (t2 y hy)

section
variable {s r o : Dig} {t : Int} {l : List Rb}
end
end Go.Pl

namespace Go.Pl
open Go Go.Hl

section
variable {s r o : Dig} {t : Int} {l l' : List Rb}
end
theorem nodup_len : ∀ (s l : List Word), l.Nodup → (∀ x ∈ l, x ∈ s) → l.length ≤ s.length
  | [], l, _, h => by
    cases l with
    | nil => exact Nat.le_refl _
    | cons x l => exact absurd (h x (by simp)) (by simp)
  | a :: s, l, hn, h => by
    by_cases ha : a ∈ l
    · have h1 := nodup_len s (l.erase a) (hn.erase a) (fun x hx => by
        obtain ⟨hne, hx⟩ := (List.Nodup.mem_erase_iff hn).1 hx
        exact (List.mem_cons.1 (h x hx)).resolve_left hne)
      rw [List.length_erase_of_mem ha] at h1
      simp only [List.length_cons]; omega
    · have h1 := nodup_len s l hn (fun x hx => (List.mem_cons.1 (h x hx)).resolve_left (fun e => ha (e ▸ hx)))
      simp only [List.length_cons]; omega
section
variable {s r o d : Dig} {t : Int} {m : List Rb} {w : Word}
end
end Go.Pl

namespace Go.Pl
open Go Go.Hl

abbrev Half := {l : List UInt8 // l.length = 16}
def hf (h : Half) : CV := .agg (h.1.map u8)
theorem hf_cells (h : Half) : (hf h).cells = 16 := by rw [← h.2]; exact us_cells h.1
theorem hf_denil (h : Half) : (hf h).denil = hf h := by simp only [hf, CV.denil]; rw [denilL_map (f := u8) (fun _ => rfl)]
theorem hf_isAgg (h : Half) : (hf h).isAgg = true := rfl
theorem hf_getAt (h : Half) : CV.getAt 0 16 true (hf h) = some (hf h) := by
  have := hf_cells h
  simp only [hf, CV.cells] at this
  simp only [hf, CV.getAt, this, and_self, if_true]
theorem hf_setAt (h : Half) (x : HV) : CV.setAt 0 16 x (hf h) = some x := by
  have := hf_cells h
  simp only [hf, CV.cells] at this
  simp only [hf, CV.setAt, this, and_self, if_true]
def zh : Half := ⟨List.replicate 16 0, by simp⟩
def zhf : CV := hf zh
theorem zhf_eq : zhf = hf zh := rfl
theorem denilL_dg (l : List Dig) : CV.denilL (l.map dg) = l.map dg := denilL_map dg_denil l
theorem dg_us (d : Dig) : dg d = .agg (d.1.map u8) := rfl
theorem hf_us (h : Half) : hf h = .agg (h.1.map u8) := rfl
theorem cells_u8 {l : List UInt8} : (∀ v ∈ l.map u8, v.cells = 1) ↔ True := by simp [u8, CV.cells]

structure Pk where
  h : Int
  r : Half
def Pk.cv (x : Pk) : CV := .agg [.int .i64 x.h, hf x.r]
theorem Pk.cells (x : Pk) : x.cv.cells = 17 := by simp [Pk.cv, CV.cells, CV.cellsL, dg_cells, hf_cells]
theorem Pk.denil (x : Pk) : x.cv.denil = x.cv := by simp only [Pk.cv, CV.denil, CV.denilL, dg_denil, hf_denil, denilL_str, denilL_dg]
theorem denilL_Pk (l : List Pk) : CV.denilL (l.map Pk.cv) = l.map Pk.cv := denilL_map Pk.denil l
theorem Pk.isAgg (x : Pk) : x.cv.isAgg = true := rfl
theorem Pk.getAll (x : Pk) : CV.getAt 0 17 true x.cv = some x.cv := by
  have := Pk.cells x
  simp only [Pk.cv, CV.cells] at this
  simp only [Pk.cv, CV.getAt, this, and_self, if_true]
theorem Pk.setAll (x : Pk) (y : HV) : CV.setAt 0 17 y x.cv = some y := by
  have := Pk.cells x
  simp only [Pk.cv, CV.cells] at this
  simp only [Pk.cv, CV.setAt, this, and_self, if_true]
theorem Pk.fold (h : Int) (r : Half) : CV.agg [.int .i64 h, hf r] = Pk.cv ⟨h, r⟩ := rfl
theorem Pk.get_h (x : Pk) : CV.getAt 0 1 false x.cv = some (.int .i64 x.h) := by simp [Pk.cv, CV.getAt, CV.getAtL, CV.cells, CV.cellsL, dg_cells, hf_cells]
theorem Pk.set_h (x : Pk) (y : HV) : CV.setAt 0 1 y x.cv = some (.agg [y, .c (hf x.r)]) := by simp [Pk.cv, CV.setAt, CV.setAtL, CV.cells, CV.cellsL, dg_cells, hf_cells]
theorem Pk.get_r (x : Pk) : CV.getAt 1 16 true x.cv = some (hf x.r) := by simp [Pk.cv, CV.getAt, CV.getAtL, CV.cells, CV.cellsL, dg_cells, hf_cells, hf_getAt]
theorem Pk.set_r (x : Pk) (y : HV) : CV.setAt 1 16 y x.cv = some (.agg [.c (.int .i64 x.h), y]) := by simp [Pk.cv, CV.setAt, CV.setAtL, CV.cells, CV.cellsL, dg_cells, hf_cells, hf_setAt]

structure Ky where
  p : Pk
  o : Word
  rs : List Word
  fr : Int
  un : Int
def Ky.cv (x : Ky) : CV := .agg [x.p.cv, .str x.o, .slc (x.rs.map .str), .int .i64 x.fr, .int .i64 x.un]
theorem Ky.cells (x : Ky) : x.cv.cells = 21 := by simp [Ky.cv, CV.cells, CV.cellsL, dg_cells, hf_cells, Pk.cells]
theorem Ky.denil (x : Ky) : x.cv.denil = x.cv := by simp only [Ky.cv, CV.denil, CV.denilL, dg_denil, hf_denil, denilL_str, denilL_dg, Pk.denil]
theorem denilL_Ky (l : List Ky) : CV.denilL (l.map Ky.cv) = l.map Ky.cv := denilL_map Ky.denil l
theorem Ky.isAgg (x : Ky) : x.cv.isAgg = true := rfl
theorem Ky.getAll (x : Ky) : CV.getAt 0 21 true x.cv = some x.cv := by
  have := Ky.cells x
  simp only [Ky.cv, CV.cells] at this
  simp only [Ky.cv, CV.getAt, this, and_self, if_true]
theorem Ky.setAll (x : Ky) (y : HV) : CV.setAt 0 21 y x.cv = some y := by
  have := Ky.cells x
  simp only [Ky.cv, CV.cells] at this
  simp only [Ky.cv, CV.setAt, this, and_self, if_true]
theorem Ky.fold (p : Pk) (o : Word) (rs : List Word) (fr : Int) (un : Int) : CV.agg [p.cv, .str o, .slc (rs.map .str), .int .i64 fr, .int .i64 un] = Ky.cv ⟨p, o, rs, fr, un⟩ := rfl
theorem Ky.get_p (x : Ky) : CV.getAt 0 17 true x.cv = some (x.p.cv) := by simp [Ky.cv, CV.getAt, CV.getAtL, CV.cells, CV.cellsL, dg_cells, hf_cells, Pk.cells, Pk.getAll]
theorem Ky.set_p (x : Ky) (y : HV) : CV.setAt 0 17 y x.cv = some (.agg [y, .c (.str x.o), .c (.slc (x.rs.map .str)), .c (.int .i64 x.fr), .c (.int .i64 x.un)]) := by simp [Ky.cv, CV.setAt, CV.setAtL, CV.cells, CV.cellsL, dg_cells, hf_cells, Pk.cells, Pk.setAll]
theorem Ky.get_o (x : Ky) : CV.getAt 17 1 false x.cv = some (.str x.o) := by simp [Ky.cv, CV.getAt, CV.getAtL, CV.cells, CV.cellsL, dg_cells, hf_cells, Pk.cells]
theorem Ky.set_o (x : Ky) (y : HV) : CV.setAt 17 1 y x.cv = some (.agg [.c (x.p.cv), y, .c (.slc (x.rs.map .str)), .c (.int .i64 x.fr), .c (.int .i64 x.un)]) := by simp [Ky.cv, CV.setAt, CV.setAtL, CV.cells, CV.cellsL, dg_cells, hf_cells, Pk.cells]
theorem Ky.get_rs (x : Ky) : CV.getAt 18 1 false x.cv = some (.slc (x.rs.map .str)) := by simp [Ky.cv, CV.getAt, CV.getAtL, CV.cells, CV.cellsL, dg_cells, hf_cells, Pk.cells]
theorem Ky.set_rs (x : Ky) (y : HV) : CV.setAt 18 1 y x.cv = some (.agg [.c (x.p.cv), .c (.str x.o), y, .c (.int .i64 x.fr), .c (.int .i64 x.un)]) := by simp [Ky.cv, CV.setAt, CV.setAtL, CV.cells, CV.cellsL, dg_cells, hf_cells, Pk.cells]
theorem Ky.get_fr (x : Ky) : CV.getAt 19 1 false x.cv = some (.int .i64 x.fr) := by simp [Ky.cv, CV.getAt, CV.getAtL, CV.cells, CV.cellsL, dg_cells, hf_cells, Pk.cells]
theorem Ky.set_fr (x : Ky) (y : HV) : CV.setAt 19 1 y x.cv = some (.agg [.c (x.p.cv), .c (.str x.o), .c (.slc (x.rs.map .str)), y, .c (.int .i64 x.un)]) := by simp [Ky.cv, CV.setAt, CV.setAtL, CV.cells, CV.cellsL, dg_cells, hf_cells, Pk.cells]
theorem Ky.get_un (x : Ky) : CV.getAt 20 1 false x.cv = some (.int .i64 x.un) := by simp [Ky.cv, CV.getAt, CV.getAtL, CV.cells, CV.cellsL, dg_cells, hf_cells, Pk.cells]
theorem Ky.set_un (x : Ky) (y : HV) : CV.setAt 20 1 y x.cv = some (.agg [.c (x.p.cv), .c (.str x.o), .c (.slc (x.rs.map .str)), .c (.int .i64 x.fr), y]) := by simp [Ky.cv, CV.setAt, CV.setAtL, CV.cells, CV.cellsL, dg_cells, hf_cells, Pk.cells]

structure Qt where
  r : Word
  n : Int
def Qt.cv (x : Qt) : CV := .agg [.str x.r, .int .i64 x.n]
theorem Qt.cells (x : Qt) : x.cv.cells = 2 := by simp [Qt.cv, CV.cells, CV.cellsL, dg_cells, hf_cells]
theorem Qt.denil (x : Qt) : x.cv.denil = x.cv := by simp only [Qt.cv, CV.denil, CV.denilL, dg_denil, hf_denil, denilL_str, denilL_dg]
theorem denilL_Qt (l : List Qt) : CV.denilL (l.map Qt.cv) = l.map Qt.cv := denilL_map Qt.denil l
theorem Qt.isAgg (x : Qt) : x.cv.isAgg = true := rfl
theorem Qt.getAll (x : Qt) : CV.getAt 0 2 true x.cv = some x.cv := by
  have := Qt.cells x
  simp only [Qt.cv, CV.cells] at this
  simp only [Qt.cv, CV.getAt, this, and_self, if_true]
theorem Qt.setAll (x : Qt) (y : HV) : CV.setAt 0 2 y x.cv = some y := by
  have := Qt.cells x
  simp only [Qt.cv, CV.cells] at this
  simp only [Qt.cv, CV.setAt, this, and_self, if_true]
theorem Qt.fold (r : Word) (n : Int) : CV.agg [.str r, .int .i64 n] = Qt.cv ⟨r, n⟩ := rfl
theorem Qt.get_r (x : Qt) : CV.getAt 0 1 false x.cv = some (.str x.r) := by simp [Qt.cv, CV.getAt, CV.getAtL, CV.cells, CV.cellsL, dg_cells, hf_cells]
theorem Qt.set_r (x : Qt) (y : HV) : CV.setAt 0 1 y x.cv = some (.agg [y, .c (.int .i64 x.n)]) := by simp [Qt.cv, CV.setAt, CV.setAtL, CV.cells, CV.cellsL, dg_cells, hf_cells]
theorem Qt.get_n (x : Qt) : CV.getAt 1 1 false x.cv = some (.int .i64 x.n) := by simp [Qt.cv, CV.getAt, CV.getAtL, CV.cells, CV.cellsL, dg_cells, hf_cells]
theorem Qt.set_n (x : Qt) (y : HV) : CV.setAt 1 1 y x.cv = some (.agg [.c (.str x.r), y]) := by simp [Qt.cv, CV.setAt, CV.setAtL, CV.cells, CV.cellsL, dg_cells, hf_cells]

structure Rv where
  k : Dig
  t : Int
def Rv.cv (x : Rv) : CV := .agg [dg x.k, .int .i64 x.t]
theorem Rv.cells (x : Rv) : x.cv.cells = 33 := by simp [Rv.cv, CV.cells, CV.cellsL, dg_cells, hf_cells]
theorem Rv.denil (x : Rv) : x.cv.denil = x.cv := by simp only [Rv.cv, CV.denil, CV.denilL, dg_denil, hf_denil, denilL_str, denilL_dg]
theorem denilL_Rv (l : List Rv) : CV.denilL (l.map Rv.cv) = l.map Rv.cv := denilL_map Rv.denil l
theorem Rv.isAgg (x : Rv) : x.cv.isAgg = true := rfl
theorem Rv.getAll (x : Rv) : CV.getAt 0 33 true x.cv = some x.cv := by
  have := Rv.cells x
  simp only [Rv.cv, CV.cells] at this
  simp only [Rv.cv, CV.getAt, this, and_self, if_true]
theorem Rv.setAll (x : Rv) (y : HV) : CV.setAt 0 33 y x.cv = some y := by
  have := Rv.cells x
  simp only [Rv.cv, CV.cells] at this
  simp only [Rv.cv, CV.setAt, this, and_self, if_true]
theorem Rv.fold (k : Dig) (t : Int) : CV.agg [dg k, .int .i64 t] = Rv.cv ⟨k, t⟩ := rfl
theorem Rv.get_k (x : Rv) : CV.getAt 0 32 true x.cv = some (dg x.k) := by simp [Rv.cv, CV.getAt, CV.getAtL, CV.cells, CV.cellsL, dg_cells, hf_cells, dg_getAt]
theorem Rv.set_k (x : Rv) (y : HV) : CV.setAt 0 32 y x.cv = some (.agg [y, .c (.int .i64 x.t)]) := by simp [Rv.cv, CV.setAt, CV.setAtL, CV.cells, CV.cellsL, dg_cells, hf_cells, dg_setAt]
theorem Rv.get_t (x : Rv) : CV.getAt 32 1 false x.cv = some (.int .i64 x.t) := by simp [Rv.cv, CV.getAt, CV.getAtL, CV.cells, CV.cellsL, dg_cells, hf_cells]
theorem Rv.set_t (x : Rv) (y : HV) : CV.setAt 32 1 y x.cv = some (.agg [.c (dg x.k), y]) := by simp [Rv.cv, CV.setAt, CV.setAtL, CV.cells, CV.cellsL, dg_cells, hf_cells]

structure Rt where
  v : Int
  e : Int
  q : List Qt
  k : List Ky
  x : List Rv
def Rt.cv (x : Rt) : CV := .agg [.int .i64 x.v, .int .i64 x.e, .slc (x.q.map Qt.cv), .slc (x.k.map Ky.cv), .slc (x.x.map Rv.cv)]
theorem Rt.cells (x : Rt) : x.cv.cells = 5 := by simp [Rt.cv, CV.cells, CV.cellsL, dg_cells, hf_cells]
theorem Rt.denil (x : Rt) : x.cv.denil = x.cv := by simp only [Rt.cv, CV.denil, CV.denilL, dg_denil, hf_denil, denilL_str, denilL_dg, denilL_Qt, denilL_Ky, denilL_Rv]
theorem denilL_Rt (l : List Rt) : CV.denilL (l.map Rt.cv) = l.map Rt.cv := denilL_map Rt.denil l
theorem Rt.isAgg (x : Rt) : x.cv.isAgg = true := rfl
theorem Rt.getAll (x : Rt) : CV.getAt 0 5 true x.cv = some x.cv := by
  have := Rt.cells x
  simp only [Rt.cv, CV.cells] at this
  simp only [Rt.cv, CV.getAt, this, and_self, if_true]
theorem Rt.setAll (x : Rt) (y : HV) : CV.setAt 0 5 y x.cv = some y := by
  have := Rt.cells x
  simp only [Rt.cv, CV.cells] at this
  simp only [Rt.cv, CV.setAt, this, and_self, if_true]
theorem Rt.fold (v : Int) (e : Int) (q : List Qt) (k : List Ky) (x : List Rv) : CV.agg [.int .i64 v, .int .i64 e, .slc (q.map Qt.cv), .slc (k.map Ky.cv), .slc (x.map Rv.cv)] = Rt.cv ⟨v, e, q, k, x⟩ := rfl
theorem Rt.get_v (x : Rt) : CV.getAt 0 1 false x.cv = some (.int .i64 x.v) := by simp [Rt.cv, CV.getAt, CV.getAtL, CV.cells, CV.cellsL, dg_cells, hf_cells]
theorem Rt.set_v (x : Rt) (y : HV) : CV.setAt 0 1 y x.cv = some (.agg [y, .c (.int .i64 x.e), .c (.slc (x.q.map Qt.cv)), .c (.slc (x.k.map Ky.cv)), .c (.slc (x.x.map Rv.cv))]) := by simp [Rt.cv, CV.setAt, CV.setAtL, CV.cells, CV.cellsL, dg_cells, hf_cells]
theorem Rt.get_e (x : Rt) : CV.getAt 1 1 false x.cv = some (.int .i64 x.e) := by simp [Rt.cv, CV.getAt, CV.getAtL, CV.cells, CV.cellsL, dg_cells, hf_cells]
theorem Rt.set_e (x : Rt) (y : HV) : CV.setAt 1 1 y x.cv = some (.agg [.c (.int .i64 x.v), y, .c (.slc (x.q.map Qt.cv)), .c (.slc (x.k.map Ky.cv)), .c (.slc (x.x.map Rv.cv))]) := by simp [Rt.cv, CV.setAt, CV.setAtL, CV.cells, CV.cellsL, dg_cells, hf_cells]
theorem Rt.get_q (x : Rt) : CV.getAt 2 1 false x.cv = some (.slc (x.q.map Qt.cv)) := by simp [Rt.cv, CV.getAt, CV.getAtL, CV.cells, CV.cellsL, dg_cells, hf_cells]
theorem Rt.set_q (x : Rt) (y : HV) : CV.setAt 2 1 y x.cv = some (.agg [.c (.int .i64 x.v), .c (.int .i64 x.e), y, .c (.slc (x.k.map Ky.cv)), .c (.slc (x.x.map Rv.cv))]) := by simp [Rt.cv, CV.setAt, CV.setAtL, CV.cells, CV.cellsL, dg_cells, hf_cells]
theorem Rt.get_k (x : Rt) : CV.getAt 3 1 false x.cv = some (.slc (x.k.map Ky.cv)) := by simp [Rt.cv, CV.getAt, CV.getAtL, CV.cells, CV.cellsL, dg_cells, hf_cells]
theorem Rt.set_k (x : Rt) (y : HV) : CV.setAt 3 1 y x.cv = some (.agg [.c (.int .i64 x.v), .c (.int .i64 x.e), .c (.slc (x.q.map Qt.cv)), y, .c (.slc (x.x.map Rv.cv))]) := by simp [Rt.cv, CV.setAt, CV.setAtL, CV.cells, CV.cellsL, dg_cells, hf_cells]
theorem Rt.get_x (x : Rt) : CV.getAt 4 1 false x.cv = some (.slc (x.x.map Rv.cv)) := by simp [Rt.cv, CV.getAt, CV.getAtL, CV.cells, CV.cellsL, dg_cells, hf_cells]
theorem Rt.set_x (x : Rt) (y : HV) : CV.setAt 4 1 y x.cv = some (.agg [.c (.int .i64 x.v), .c (.int .i64 x.e), .c (.slc (x.q.map Qt.cv)), .c (.slc (x.k.map Ky.cv)), y]) := by simp [Rt.cv, CV.setAt, CV.setAtL, CV.cells, CV.cellsL, dg_cells, hf_cells]

def maxN : Int := 1099511627776
def al (c : UInt8) : Bool := (decide (97 ≤ c) && decide (c ≤ 122)) || (decide (48 ≤ c) && decide (c ≤ 57))
def nc (c : UInt8) : Bool := al c || (c == 46 || (c == 95 || c == 45))
def nameB : Word → Bool
  | [] => false
  | c :: r => decide ((c :: r).length ≤ 64) && (al c && r.all nc)
def namesB (l : List Word) : Bool := l.all nameB && ascB l
def inN (t : Int) : Bool := decide (0 ≤ t) && decide (t ≤ maxN)
def dlt (a b : Dig) : Bool := slt a.1 b.1
def ascD : List Dig → Bool
  | a :: b :: l => dlt a b && ascD (b :: l)
  | _ => true
def quotaB (q : Qt) : Bool := nameB q.r && (decide (1 ≤ q.n) && decide (q.n ≤ 32))
def quotasB (l : List Qt) : Bool := l.all quotaB && (ascB (l.map Qt.r) && decide (l.length ≤ 12))
def pid (p : Pk) : Dig := sha (keyIn (UInt8.ofNat (p.h.emod 256).toNat) p.r.1)
def kid (k : Ky) : Dig := pid k.p
def keyB (k : Ky) : Bool := (decide (0 ≤ k.p.h) && decide (k.p.h ≤ 6)) && (nameB k.o && ((decide (1 ≤ k.rs.length) && decide (k.rs.length ≤ 12)) && (namesB k.rs && (inN k.fr && (inN k.un && decide (k.fr < k.un))))))
def keysB (l : List Ky) : Bool := l.all keyB && (ascD (l.map kid) && decide (l.length ≤ 32))
def revsB (l : List Rv) : Bool := l.all (fun x => inN x.t) && (ascD (l.map Rv.k) && decide (l.length ≤ 64))
def need (l : List Qt) (role : Word) : Int := match l.find? (fun q => q.r == role) with | some q => q.n | none => 0
def setW (l : List Word) : List Word := l.foldl addW []
def ownF (l : List Ky) (role : Word) (p : Ky → Bool) : List Word := (l.filter fun k => k.rs.contains role && p k).map Ky.o
def ownB (l : List Ky) (role : Word) (p : Ky → Bool) : List Word := setW (ownF l role p)
def wRoot : Word := [114, 111, 111, 116]
def validR (r : Rt) : Bool :=
  (decide (1 ≤ r.v) && decide (r.v ≤ maxN)) && (inN r.e && (quotasB r.q && (keysB r.k && (revsB r.x && (decide (0 < need r.q wRoot) && decide (need r.q wRoot ≤ (ownB r.k wRoot fun _ => true).length))))))
def revoked (l : List Rv) (d : Dig) : Option Int := (l.find? fun x => x.k == d).map Rv.t
def findK (l : List Ky) (d : Dig) : Option Ky := l.find? fun k => kid k == d
def goneB (l : List Rv) (d : Dig) (t : Int) : Bool := match revoked l d with | some a => decide (a ≤ t) | none => false
def liveB (r : Rt) (k : Ky) (t : Int) : Bool := decide (k.fr ≤ t) && (decide (t < k.un) && (decide (t < r.e) && !goneB r.x (kid k) t))
def vouched (r : Rt) (role : Word) (l : List Dig) (t : Int) : List Word := if validR r then ownB r.k role fun k => l.contains (kid k) && liveB r k t else []
def needV (r : Rt) (role : Word) : Int := if validR r then need r.q role else 0
def enough (r : Rt) (role : Word) (l : List Dig) (t : Int) : Bool := decide (0 < needV r role) && decide (needV r role ≤ (vouched r role l t).length)
end Go.Pl

namespace Go.Proofs
namespace YtenbfeemmpjdhaaGreat
open Go Go.Hl Go.Pl

theorem ty1 : tyOf Tryz.prog 1 = some { size := 1, bytes := 8, d := TyD.func, z := CV.nilf } := by kernel_rfl
theorem ty2 : tyOf Tryz.prog 2 = some { size := 1, bytes := 8, d := TyD.int IntKind.i64, z := CV.int IntKind.i64 0 } := by kernel_rfl
theorem ty3 : tyOf Tryz.prog 3 = some { size := 1, bytes := 8, d := TyD.int IntKind.i64, z := CV.int IntKind.i64 0 } := by kernel_rfl
theorem ty4 : tyOf Tryz.prog 4 = some { size := 1, bytes := 1, d := TyD.bool, z := CV.bool false } := by kernel_rfl
theorem ty5 : tyOf Tryz.prog 5 = some { size := 1, bytes := 1, d := TyD.int IntKind.u8, z := CV.int IntKind.u8 0 } := by kernel_rfl
theorem ty6 : tyOf Tryz.prog 6 = some { size := 1, bytes := 1, d := TyD.int IntKind.u8, z := CV.int IntKind.u8 0 } := by kernel_rfl
theorem ty7 : tyOf Tryz.prog 7 = some { size := 4, bytes := 24, d := TyD.struct [(0, 2), (1, 3), (2, 4), (3, 6)], z := CV.agg [CV.int IntKind.i64 0, CV.int IntKind.i64 0, CV.bool false, CV.int IntKind.u8 0] } := by kernel_rfl
theorem ty8 : tyOf Tryz.prog 8 = some { size := 4, bytes := 24, d := TyD.struct [(0, 2), (1, 3), (2, 4), (3, 6)], z := CV.agg [CV.int IntKind.i64 0, CV.int IntKind.i64 0, CV.bool false, CV.int IntKind.u8 0] } := by kernel_rfl
theorem ty9 : tyOf Tryz.prog 9 = some { size := 1, bytes := 16, d := TyD.string, z := CV.str [] } := by kernel_rfl
theorem ty10 : tyOf Tryz.prog 10 = some { size := 1, bytes := 16, d := TyD.string, z := CV.str [] } := by kernel_rfl
theorem ty11 : tyOf Tryz.prog 11 = some { size := 1, bytes := 16, d := TyD.string, z := CV.str [] } := by kernel_rfl
theorem ty12 : tyOf Tryz.prog 12 = some { size := 1, bytes := 8, d := TyD.int IntKind.u64, z := CV.int IntKind.u64 0 } := by kernel_rfl
theorem ty13 : tyOf Tryz.prog 13 = some { size := 2, bytes := 24, d := TyD.struct [(0, 9), (1, 12)], z := CV.agg [CV.str [], CV.int IntKind.u64 0] } := by kernel_rfl
theorem ty14 : tyOf Tryz.prog 14 = some { size := 2, bytes := 24, d := TyD.struct [(0, 9), (1, 12)], z := CV.agg [CV.str [], CV.int IntKind.u64 0] } := by kernel_rfl
theorem ty15 : tyOf Tryz.prog 15 = some { size := 1, bytes := 8, d := TyD.pointer 158, z := CV.nilp } := by kernel_rfl
theorem ty16 : tyOf Tryz.prog 16 = some { size := 1, bytes := 8, d := TyD.pointer 161, z := CV.nilp } := by kernel_rfl
theorem ty17 : tyOf Tryz.prog 17 = some { size := 1, bytes := 8, d := TyD.pointer 170, z := CV.nilp } := by kernel_rfl
theorem ty18 : tyOf Tryz.prog 18 = some { size := 1, bytes := 8, d := TyD.struct [(0, 17)], z := CV.agg [CV.nilp] } := by kernel_rfl
theorem ty19 : tyOf Tryz.prog 19 = some { size := 1, bytes := 8, d := TyD.struct [(0, 17)], z := CV.agg [CV.nilp] } := by kernel_rfl
theorem ty20 : tyOf Tryz.prog 20 = some { size := 1, bytes := 16, d := TyD.iface true, z := CV.nili } := by kernel_rfl
theorem ty21 : tyOf Tryz.prog 21 = some { size := 1, bytes := 4, d := TyD.int IntKind.i32, z := CV.int IntKind.i32 0 } := by kernel_rfl
theorem ty22 : tyOf Tryz.prog 22 = some { size := 1, bytes := 24, d := TyD.slice 3, z := CV.nils } := by kernel_rfl
theorem ty23 : tyOf Tryz.prog 23 = some { size := 1, bytes := 8, d := TyD.pointer 25, z := CV.nilp } := by kernel_rfl
theorem ty24 : tyOf Tryz.prog 24 = some { size := 2, bytes := 32, d := TyD.struct [(0, 22), (1, 3)], z := CV.agg [CV.nils, CV.int IntKind.i64 0] } := by kernel_rfl
theorem ty25 : tyOf Tryz.prog 25 = some { size := 2, bytes := 32, d := TyD.struct [(0, 22), (1, 3)], z := CV.agg [CV.nils, CV.int IntKind.i64 0] } := by kernel_rfl
theorem ty26 : tyOf Tryz.prog 26 = some { size := 1, bytes := 24, d := TyD.slice 57, z := CV.nils } := by kernel_rfl
theorem ty27 : tyOf Tryz.prog 27 = some { size := 1, bytes := 24, d := TyD.slice 62, z := CV.nils } := by kernel_rfl
theorem ty28 : tyOf Tryz.prog 28 = some { size := 1, bytes := 24, d := TyD.slice 66, z := CV.nils } := by kernel_rfl
theorem ty29 : tyOf Tryz.prog 29 = some { size := 5, bytes := 88, d := TyD.struct [(0, 2), (1, 2), (2, 26), (3, 27), (4, 28)], z := CV.agg [CV.int IntKind.i64 0, CV.int IntKind.i64 0, CV.nils, CV.nils, CV.nils] } := by kernel_rfl
theorem ty30 : tyOf Tryz.prog 30 = some { size := 5, bytes := 88, d := TyD.struct [(0, 2), (1, 2), (2, 26), (3, 27), (4, 28)], z := CV.agg [CV.int IntKind.i64 0, CV.int IntKind.i64 0, CV.nils, CV.nils, CV.nils] } := by kernel_rfl
theorem ty31 : tyOf Tryz.prog 31 = some { size := 1, bytes := 8, d := TyD.func, z := CV.nilf } := by kernel_rfl
theorem ty32 : tyOf Tryz.prog 32 = some { size := 1, bytes := 24, d := TyD.slice 44, z := CV.nils } := by kernel_rfl
theorem ty34 : tyOf Tryz.prog 34 = some { size := 1, bytes := 8, d := TyD.func, z := CV.nilf } := by kernel_rfl
theorem ty35 : tyOf Tryz.prog 35 = some { size := 1, bytes := 8, d := TyD.func, z := CV.nilf } := by kernel_rfl
theorem ty36 : tyOf Tryz.prog 36 = some { size := 1, bytes := 8, d := TyD.func, z := CV.nilf } := by kernel_rfl
theorem ty37 : tyOf Tryz.prog 37 = some { size := 1, bytes := 24, d := TyD.slice 9, z := CV.nils } := by kernel_rfl
theorem ty38 : tyOf Tryz.prog 38 = some { size := 1, bytes := 8, d := TyD.func, z := CV.nilf } := by kernel_rfl
theorem ty39 : tyOf Tryz.prog 39 = some { size := 1, bytes := 8, d := TyD.func, z := CV.nilf } := by kernel_rfl
theorem ty41 : tyOf Tryz.prog 41 = some { size := 1, bytes := 8, d := TyD.func, z := CV.nilf } := by kernel_rfl
theorem ty42 : tyOf Tryz.prog 42 = some { size := 1, bytes := 8, d := TyD.func, z := CV.nilf } := by kernel_rfl
theorem ty43 : tyOf Tryz.prog 43 = some { size := 32, bytes := 32, d := TyD.array 32 5, z := zd } := by kernel_rfl
theorem ty44 : tyOf Tryz.prog 44 = some { size := 32, bytes := 32, d := TyD.array 32 5, z := zd } := by kernel_rfl
theorem ty45 : tyOf Tryz.prog 45 = some { size := 1, bytes := 8, d := TyD.func, z := CV.nilf } := by kernel_rfl
theorem ty46 : tyOf Tryz.prog 46 = some { size := 1, bytes := 8, d := TyD.func, z := CV.nilf } := by kernel_rfl
theorem ty47 : tyOf Tryz.prog 47 = some { size := 1, bytes := 8, d := TyD.func, z := CV.nilf } := by kernel_rfl
theorem ty48 : tyOf Tryz.prog 48 = some { size := 1, bytes := 8, d := TyD.func, z := CV.nilf } := by kernel_rfl
theorem ty49 : tyOf Tryz.prog 49 = some { size := 1, bytes := 8, d := TyD.func, z := CV.nilf } := by kernel_rfl
theorem ty50 : tyOf Tryz.prog 50 = some { size := 1, bytes := 8, d := TyD.func, z := CV.nilf } := by kernel_rfl
theorem ty51 : tyOf Tryz.prog 51 = some { size := 16, bytes := 16, d := TyD.array 16 5, z := zhf } := by kernel_rfl
theorem ty52 : tyOf Tryz.prog 52 = some { size := 16, bytes := 16, d := TyD.array 16 5, z := zhf } := by kernel_rfl
theorem ty53 : tyOf Tryz.prog 53 = some { size := 17, bytes := 24, d := TyD.struct [(0, 3), (1, 52)], z := CV.agg [CV.int IntKind.i64 0, zhf] } := by kernel_rfl
theorem ty54 : tyOf Tryz.prog 54 = some { size := 17, bytes := 24, d := TyD.struct [(0, 3), (1, 52)], z := CV.agg [CV.int IntKind.i64 0, zhf] } := by kernel_rfl
theorem ty55 : tyOf Tryz.prog 55 = some { size := 1, bytes := 8, d := TyD.func, z := CV.nilf } := by kernel_rfl
theorem ty56 : tyOf Tryz.prog 56 = some { size := 2, bytes := 24, d := TyD.struct [(0, 9), (1, 3)], z := CV.agg [CV.str [], CV.int IntKind.i64 0] } := by kernel_rfl
theorem ty57 : tyOf Tryz.prog 57 = some { size := 2, bytes := 24, d := TyD.struct [(0, 9), (1, 3)], z := CV.agg [CV.str [], CV.int IntKind.i64 0] } := by kernel_rfl
theorem ty58 : tyOf Tryz.prog 58 = some { size := 1, bytes := 8, d := TyD.func, z := CV.nilf } := by kernel_rfl
theorem ty59 : tyOf Tryz.prog 59 = some { size := 1, bytes := 8, d := TyD.func, z := CV.nilf } := by kernel_rfl
theorem ty60 : tyOf Tryz.prog 60 = some { size := 1, bytes := 8, d := TyD.func, z := CV.nilf } := by kernel_rfl
theorem ty61 : tyOf Tryz.prog 61 = some { size := 21, bytes := 80, d := TyD.struct [(0, 54), (17, 9), (18, 37), (19, 2), (20, 2)], z := CV.agg [CV.agg [CV.int IntKind.i64 0, zhf], CV.str [], CV.nils, CV.int IntKind.i64 0, CV.int IntKind.i64 0] } := by kernel_rfl
theorem ty62 : tyOf Tryz.prog 62 = some { size := 21, bytes := 80, d := TyD.struct [(0, 54), (17, 9), (18, 37), (19, 2), (20, 2)], z := CV.agg [CV.agg [CV.int IntKind.i64 0, zhf], CV.str [], CV.nils, CV.int IntKind.i64 0, CV.int IntKind.i64 0] } := by kernel_rfl
theorem ty63 : tyOf Tryz.prog 63 = some { size := 1, bytes := 8, d := TyD.func, z := CV.nilf } := by kernel_rfl
theorem ty64 : tyOf Tryz.prog 64 = some { size := 1, bytes := 8, d := TyD.func, z := CV.nilf } := by kernel_rfl
theorem ty65 : tyOf Tryz.prog 65 = some { size := 33, bytes := 40, d := TyD.struct [(0, 44), (32, 2)], z := CV.agg [zd, CV.int IntKind.i64 0] } := by kernel_rfl
theorem ty66 : tyOf Tryz.prog 66 = some { size := 33, bytes := 40, d := TyD.struct [(0, 44), (32, 2)], z := CV.agg [zd, CV.int IntKind.i64 0] } := by kernel_rfl
theorem ty67 : tyOf Tryz.prog 67 = some { size := 1, bytes := 8, d := TyD.func, z := CV.nilf } := by kernel_rfl
theorem ty68 : tyOf Tryz.prog 68 = some { size := 1, bytes := 8, d := TyD.func, z := CV.nilf } := by kernel_rfl
theorem ty69 : tyOf Tryz.prog 69 = some { size := 1, bytes := 8, d := TyD.func, z := CV.nilf } := by kernel_rfl
theorem ty70 : tyOf Tryz.prog 70 = some { size := 1, bytes := 24, d := TyD.slice 30, z := CV.nils } := by kernel_rfl
theorem ty71 : tyOf Tryz.prog 71 = some { size := 1, bytes := 8, d := TyD.func, z := CV.nilf } := by kernel_rfl
theorem ty72 : tyOf Tryz.prog 72 = some { size := 1, bytes := 8, d := TyD.func, z := CV.nilf } := by kernel_rfl
theorem ty73 : tyOf Tryz.prog 73 = some { size := 1, bytes := 8, d := TyD.func, z := CV.nilf } := by kernel_rfl
theorem ty74 : tyOf Tryz.prog 74 = some { size := 1, bytes := 8, d := TyD.func, z := CV.nilf } := by kernel_rfl
theorem ty75 : tyOf Tryz.prog 75 = some { size := 1, bytes := 8, d := TyD.func, z := CV.nilf } := by kernel_rfl
theorem ty76 : tyOf Tryz.prog 76 = some { size := 1, bytes := 8, d := TyD.func, z := CV.nilf } := by kernel_rfl
theorem ty77 : tyOf Tryz.prog 77 = some { size := 1, bytes := 8, d := TyD.func, z := CV.nilf } := by kernel_rfl
theorem ty78 : tyOf Tryz.prog 78 = some { size := 1, bytes := 8, d := TyD.func, z := CV.nilf } := by kernel_rfl
theorem ty79 : tyOf Tryz.prog 79 = some { size := 1, bytes := 8, d := TyD.func, z := CV.nilf } := by kernel_rfl
theorem ty80 : tyOf Tryz.prog 80 = some { size := 1, bytes := 8, d := TyD.func, z := CV.nilf } := by kernel_rfl
theorem ty81 : tyOf Tryz.prog 81 = some { size := 1, bytes := 8, d := TyD.func, z := CV.nilf } := by kernel_rfl
theorem ty82 : tyOf Tryz.prog 82 = some { size := 1, bytes := 8, d := TyD.func, z := CV.nilf } := by kernel_rfl
theorem ty83 : tyOf Tryz.prog 83 = some { size := 1, bytes := 8, d := TyD.func, z := CV.nilf } := by kernel_rfl
theorem ty84 : tyOf Tryz.prog 84 = some { size := 1, bytes := 8, d := TyD.func, z := CV.nilf } := by kernel_rfl
theorem ty85 : tyOf Tryz.prog 85 = some { size := 1, bytes := 8, d := TyD.func, z := CV.nilf } := by kernel_rfl
theorem ty86 : tyOf Tryz.prog 86 = some { size := 1, bytes := 8, d := TyD.func, z := CV.nilf } := by kernel_rfl
theorem ty87 : tyOf Tryz.prog 87 = some { size := 1, bytes := 8, d := TyD.func, z := CV.nilf } := by kernel_rfl
theorem ty88 : tyOf Tryz.prog 88 = some { size := 1, bytes := 8, d := TyD.func, z := CV.nilf } := by kernel_rfl
theorem ty89 : tyOf Tryz.prog 89 = some { size := 1, bytes := 8, d := TyD.func, z := CV.nilf } := by kernel_rfl
theorem ty90 : tyOf Tryz.prog 90 = some { size := 1, bytes := 8, d := TyD.func, z := CV.nilf } := by kernel_rfl
theorem ty91 : tyOf Tryz.prog 91 = some { size := 1, bytes := 8, d := TyD.func, z := CV.nilf } := by kernel_rfl
theorem ty92 : tyOf Tryz.prog 92 = some { size := 1, bytes := 8, d := TyD.func, z := CV.nilf } := by kernel_rfl
theorem ty93 : tyOf Tryz.prog 93 = some { size := 1, bytes := 8, d := TyD.func, z := CV.nilf } := by kernel_rfl
theorem ty94 : tyOf Tryz.prog 94 = some { size := 1, bytes := 8, d := TyD.func, z := CV.nilf } := by kernel_rfl
theorem ty95 : tyOf Tryz.prog 95 = some { size := 1, bytes := 24, d := TyD.slice 5, z := CV.nils } := by kernel_rfl
theorem ty96 : tyOf Tryz.prog 96 = some { size := 1, bytes := 8, d := TyD.func, z := CV.nilf } := by kernel_rfl
theorem ty97 : tyOf Tryz.prog 97 = some { size := 1, bytes := 8, d := TyD.func, z := CV.nilf } := by kernel_rfl
theorem ty98 : tyOf Tryz.prog 98 = some { size := 1, bytes := 8, d := TyD.int IntKind.u64, z := CV.int IntKind.u64 0 } := by kernel_rfl
theorem ty99 : tyOf Tryz.prog 99 = some { size := 1, bytes := 8, d := TyD.func, z := CV.nilf } := by kernel_rfl
theorem ty100 : tyOf Tryz.prog 100 = some { size := 1, bytes := 8, d := TyD.func, z := CV.nilf } := by kernel_rfl
theorem ty101 : tyOf Tryz.prog 101 = some { size := 1, bytes := 8, d := TyD.func, z := CV.nilf } := by kernel_rfl
theorem ty102 : tyOf Tryz.prog 102 = some { size := 6, bytes := 48, d := TyD.struct [(0, 9), (1, 2), (2, 2), (3, 4), (4, 4), (5, 2)], z := CV.agg [CV.str [], CV.int IntKind.i64 0, CV.int IntKind.i64 0, CV.bool false, CV.bool false, CV.int IntKind.i64 0] } := by kernel_rfl
theorem ty103 : tyOf Tryz.prog 103 = some { size := 6, bytes := 48, d := TyD.struct [(0, 9), (1, 2), (2, 2), (3, 4), (4, 4), (5, 2)], z := CV.agg [CV.str [], CV.int IntKind.i64 0, CV.int IntKind.i64 0, CV.bool false, CV.bool false, CV.int IntKind.i64 0] } := by kernel_rfl
theorem ty104 : tyOf Tryz.prog 104 = some { size := 12, bytes := 96, d := TyD.array 2 103, z := CV.agg [CV.agg [CV.str [], CV.int IntKind.i64 0, CV.int IntKind.i64 0, CV.bool false, CV.bool false, CV.int IntKind.i64 0], CV.agg [CV.str [], CV.int IntKind.i64 0, CV.int IntKind.i64 0, CV.bool false, CV.bool false, CV.int IntKind.i64 0]] } := by kernel_rfl
theorem ty105 : tyOf Tryz.prog 105 = some { size := 2, bytes := 48, d := TyD.array 2 37, z := CV.agg [CV.nils, CV.nils] } := by kernel_rfl
theorem ty107 : tyOf Tryz.prog 107 = some { size := 1, bytes := 8, d := TyD.func, z := CV.nilf } := by kernel_rfl
theorem ty109 : tyOf Tryz.prog 109 = some { size := 1, bytes := 8, d := TyD.func, z := CV.nilf } := by kernel_rfl
theorem ty110 : tyOf Tryz.prog 110 = some { size := 1, bytes := 8, d := TyD.func, z := CV.nilf } := by kernel_rfl
theorem ty111 : tyOf Tryz.prog 111 = some { size := 1, bytes := 8, d := TyD.func, z := CV.nilf } := by kernel_rfl
theorem ty112 : tyOf Tryz.prog 112 = some { size := 1, bytes := 8, d := TyD.func, z := CV.nilf } := by kernel_rfl
theorem ty113 : tyOf Tryz.prog 113 = some { size := 1, bytes := 8, d := TyD.func, z := CV.nilf } := by kernel_rfl
theorem ty114 : tyOf Tryz.prog 114 = some { size := 1, bytes := 8, d := TyD.func, z := CV.nilf } := by kernel_rfl
theorem ty115 : tyOf Tryz.prog 115 = some { size := 1, bytes := 4, d := TyD.int IntKind.u32, z := CV.int IntKind.u32 0 } := by kernel_rfl
theorem ty116 : tyOf Tryz.prog 116 = some { size := 8, bytes := 32, d := TyD.array 8 115, z := ws (wz 8) } := by kernel_rfl
theorem ty117 : tyOf Tryz.prog 117 = some { size := 64, bytes := 256, d := TyD.array 64 115, z := ws (wz 64) } := by kernel_rfl
theorem ty118 : tyOf Tryz.prog 118 = some { size := 1, bytes := 8, d := TyD.func, z := CV.nilf } := by kernel_rfl
theorem ty119 : tyOf Tryz.prog 119 = some { size := 1, bytes := 8, d := TyD.int IntKind.u64, z := CV.int IntKind.u64 0 } := by kernel_rfl
theorem ty120 : tyOf Tryz.prog 120 = some { size := 1, bytes := 8, d := TyD.func, z := CV.nilf } := by kernel_rfl
theorem ty121 : tyOf Tryz.prog 121 = some { size := 1, bytes := 8, d := TyD.pointer 116, z := CV.nilp } := by kernel_rfl
theorem ty122 : tyOf Tryz.prog 122 = some { size := 1, bytes := 8, d := TyD.pointer 117, z := CV.nilp } := by kernel_rfl
theorem ty123 : tyOf Tryz.prog 123 = some { size := 128, bytes := 128, d := TyD.array 128 5, z := us (uz 128) } := by kernel_rfl
theorem ty124 : tyOf Tryz.prog 124 = some { size := 1, bytes := 8, d := TyD.func, z := CV.nilf } := by kernel_rfl
theorem ty125 : tyOf Tryz.prog 125 = some { size := 1, bytes := 8, d := TyD.int IntKind.i64, z := CV.int IntKind.i64 0 } := by kernel_rfl
theorem ty127 : tyOf Tryz.prog 127 = some { size := 1, bytes := 8, d := TyD.func, z := CV.nilf } := by kernel_rfl
theorem ty128 : tyOf Tryz.prog 128 = some { size := 1, bytes := 8, d := TyD.func, z := CV.nilf } := by kernel_rfl
theorem ty129 : tyOf Tryz.prog 129 = some { size := 1, bytes := 8, d := TyD.func, z := CV.nilf } := by kernel_rfl
theorem ty131 : tyOf Tryz.prog 131 = some { size := 1, bytes := 8, d := TyD.func, z := CV.nilf } := by kernel_rfl
theorem ty132 : tyOf Tryz.prog 132 = some { size := 1, bytes := 8, d := TyD.func, z := CV.nilf } := by kernel_rfl
theorem ty133 : tyOf Tryz.prog 133 = some { size := 1, bytes := 8, d := TyD.func, z := CV.nilf } := by kernel_rfl
theorem ty134 : tyOf Tryz.prog 134 = some { size := 1, bytes := 8, d := TyD.func, z := CV.nilf } := by kernel_rfl
theorem ty135 : tyOf Tryz.prog 135 = some { size := 1, bytes := 8, d := TyD.func, z := CV.nilf } := by kernel_rfl
theorem ty136 : tyOf Tryz.prog 136 = some { size := 1, bytes := 8, d := TyD.func, z := CV.nilf } := by kernel_rfl
theorem ty137 : tyOf Tryz.prog 137 = some { size := 1, bytes := 8, d := TyD.func, z := CV.nilf } := by kernel_rfl
theorem ty138 : tyOf Tryz.prog 138 = some { size := 1, bytes := 8, d := TyD.func, z := CV.nilf } := by kernel_rfl
theorem ty139 : tyOf Tryz.prog 139 = some { size := 1, bytes := 8, d := TyD.func, z := CV.nilf } := by kernel_rfl
theorem ty140 : tyOf Tryz.prog 140 = some { size := 1, bytes := 8, d := TyD.func, z := CV.nilf } := by kernel_rfl
theorem ty141 : tyOf Tryz.prog 141 = some { size := 1, bytes := 8, d := TyD.func, z := CV.nilf } := by kernel_rfl
theorem ty142 : tyOf Tryz.prog 142 = some { size := 1, bytes := 8, d := TyD.func, z := CV.nilf } := by kernel_rfl
theorem ty143 : tyOf Tryz.prog 143 = some { size := 1, bytes := 8, d := TyD.func, z := CV.nilf } := by kernel_rfl
theorem ty144 : tyOf Tryz.prog 144 = some { size := 1, bytes := 8, d := TyD.int IntKind.u64, z := CV.int IntKind.u64 0 } := by kernel_rfl
theorem ty145 : tyOf Tryz.prog 145 = some { size := 1, bytes := 8, d := TyD.func, z := CV.nilf } := by kernel_rfl
theorem ty146 : tyOf Tryz.prog 146 = some { size := 1, bytes := 8, d := TyD.func, z := CV.nilf } := by kernel_rfl
theorem ty147 : tyOf Tryz.prog 147 = some { size := 1, bytes := 8, d := TyD.func, z := CV.nilf } := by kernel_rfl
theorem ty148 : tyOf Tryz.prog 148 = some { size := 1, bytes := 8, d := TyD.pointer 3, z := CV.nilp } := by kernel_rfl
theorem ty149 : tyOf Tryz.prog 149 = some { size := 1, bytes := 8, d := TyD.func, z := CV.nilf } := by kernel_rfl
theorem ty150 : tyOf Tryz.prog 150 = some { size := 1, bytes := 8, d := TyD.func, z := CV.nilf } := by kernel_rfl
theorem ty151 : tyOf Tryz.prog 151 = some { size := 1, bytes := 8, d := TyD.func, z := CV.nilf } := by kernel_rfl
theorem ty152 : tyOf Tryz.prog 152 = some { size := 1, bytes := 8, d := TyD.pointer 144, z := CV.nilp } := by kernel_rfl
theorem ty154 : tyOf Tryz.prog 154 = some { size := 1, bytes := 8, d := TyD.func, z := CV.nilf } := by kernel_rfl
theorem ty155 : tyOf Tryz.prog 155 = some { size := 1, bytes := 8, d := TyD.func, z := CV.nilf } := by kernel_rfl
theorem ty156 : tyOf Tryz.prog 156 = some { size := 1, bytes := 8, d := TyD.func, z := CV.nilf } := by kernel_rfl
theorem ty157 : tyOf Tryz.prog 157 = some { size := 4, bytes := 40, d := TyD.struct [(0, 17), (1, 17), (2, 17), (3, 9)], z := CV.agg [CV.nilp, CV.nilp, CV.nilp, CV.str []] } := by kernel_rfl
theorem ty158 : tyOf Tryz.prog 158 = some { size := 4, bytes := 40, d := TyD.struct [(0, 17), (1, 17), (2, 17), (3, 9)], z := CV.agg [CV.nilp, CV.nilp, CV.nilp, CV.str []] } := by kernel_rfl
theorem ty162 : tyOf Tryz.prog 162 = some { size := 1, bytes := 8, d := TyD.func, z := CV.nilf } := by kernel_rfl
theorem ty163 : tyOf Tryz.prog 163 = some { size := 1, bytes := 1, d := TyD.int IntKind.u8, z := CV.int IntKind.u8 0 } := by kernel_rfl
theorem ty164 : tyOf Tryz.prog 164 = some { size := 1, bytes := 1, d := TyD.int IntKind.u8, z := CV.int IntKind.u8 0 } := by kernel_rfl
theorem ty165 : tyOf Tryz.prog 165 = some { size := 1, bytes := 8, d := TyD.func, z := CV.nilf } := by kernel_rfl
theorem ty166 : tyOf Tryz.prog 166 = some { size := 1, bytes := 8, d := TyD.pointer 5, z := CV.nilp } := by kernel_rfl
theorem ty167 : tyOf Tryz.prog 167 = some { size := 1, bytes := 4, d := TyD.int IntKind.i32, z := CV.int IntKind.i32 0 } := by kernel_rfl
theorem ty168 : tyOf Tryz.prog 168 = some { size := 1, bytes := 4, d := TyD.int IntKind.i32, z := CV.int IntKind.i32 0 } := by kernel_rfl
theorem ty169 : tyOf Tryz.prog 169 = some { size := 11, bytes := 48, d := TyD.struct [(0, 12), (1, 12), (2, 115), (3, 163), (4, 5), (5, 5), (6, 164), (7, 165), (8, 166), (9, 167), (10, 168)], z := CV.agg [CV.int IntKind.u64 0, CV.int IntKind.u64 0, CV.int IntKind.u32 0, CV.int IntKind.u8 0, CV.int IntKind.u8 0, CV.int IntKind.u8 0, CV.int IntKind.u8 0, CV.nilf, CV.nilp, CV.int IntKind.i32 0, CV.int IntKind.i32 0] } := by kernel_rfl
theorem ty170 : tyOf Tryz.prog 170 = some { size := 11, bytes := 48, d := TyD.struct [(0, 12), (1, 12), (2, 115), (3, 163), (4, 5), (5, 5), (6, 164), (7, 165), (8, 166), (9, 167), (10, 168)], z := CV.agg [CV.int IntKind.u64 0, CV.int IntKind.u64 0, CV.int IntKind.u32 0, CV.int IntKind.u8 0, CV.int IntKind.u8 0, CV.int IntKind.u8 0, CV.int IntKind.u8 0, CV.nilf, CV.nilp, CV.int IntKind.i32 0, CV.int IntKind.i32 0] } := by kernel_rfl
theorem eqdg43 (x y : Dig) (K : CV → Prop) : hbin Tryz.prog .eql 43 (.c (dg x)) (.c (dg y)) K = K (.bool (x == y)) := (hbin_dg (by kernel_rfl) ty43 ty5 (by kernel_rfl) x y K).1
theorem nedg43 (x y : Dig) (K : CV → Prop) : hbin Tryz.prog .neq 43 (.c (dg x)) (.c (dg y)) K = K (.bool (!(x == y))) := (hbin_dg (by kernel_rfl) ty43 ty5 (by kernel_rfl) x y K).2
theorem eqdg44 (x y : Dig) (K : CV → Prop) : hbin Tryz.prog .eql 44 (.c (dg x)) (.c (dg y)) K = K (.bool (x == y)) := (hbin_dg (by kernel_rfl) ty44 ty5 (by kernel_rfl) x y K).1
theorem nedg44 (x y : Dig) (K : CV → Prop) : hbin Tryz.prog .neq 44 (.c (dg x)) (.c (dg y)) K = K (.bool (!(x == y))) := (hbin_dg (by kernel_rfl) ty44 ty5 (by kernel_rfl) x y K).2
theorem mixed : Tryz.prog.follows .mixedOrders = true := by kernel_rfl
end YtenbfeemmpjdhaaGreat
end Go.Proofs

namespace Go.Proofs.YtenbfeemmpjdhaaGreat
open Go Go.Hl Go.Pl
set_option maxRecDepth 10000
def sP := (And.intro (And.intro (And.intro (And.intro @Go.Hl.hlift.eq_def (And.intro @Go.Hl.hopI.eq_def @Go.Hl.hstep.eq_def)) (And.intro (And.intro @Go.Hl.hop.eq_def @Go.Hl.hint.eq_def) (And.intro @Go.Hl.hstr.eq_def @Go.Hl.hshift.eq_def))) (And.intro (And.intro @Go.Hl.hun.eq_def (And.intro @Go.Hl.hconv.eq_def @Go.Hl.hpick.eq_def)) (And.intro (And.intro @Go.Hl.hclo.eq_def @Go.Hl.hext.eq_def) (And.intro @Go.Hl.hmax.eq_def @Go.Hl.hslice.eq_def)))) (And.intro (And.intro (And.intro @Go.Hl.hindex.eq_def (And.intro @Go.Hl.hindexAddr.eq_def @Go.Hl.hfieldAddr.eq_def)) (And.intro (And.intro @Go.Hl.hfield.eq_def @Go.Hl.hload.eq_def) (And.intro @Go.Hl.hstore.eq_def @Go.Hl.happend.eq_def))) (And.intro (And.intro (And.intro @Go.Hl.happend2.eq_def @Go.Hl.hslice2.eq_def) (And.intro @Go.Hl.hclear.eq_def @Go.Hl.hmakeMap.eq_def)) (And.intro (And.intro @Go.Hl.hlookup.eq_def @Go.Hl.hmapUpdate.eq_def) (And.intro @Go.Pl.hbuildDig.eq_def @Go.Hl.hcopy.eq_def)))))
def sA := (And.intro (And.intro (And.intro (And.intro (And.intro (And.intro (And.intro (And.intro @Go.Hl.HV.toC.eq_1 @Go.Hl.HV.toC.eq_2) (And.intro @Go.Hl.HV.toC.eq_3 @Go.Hl.HV.toCL.eq_1)) (And.intro (And.intro @Go.Hl.HV.toCL.eq_2 @Go.Hl.cells_mem_str) (And.intro @List.length_singleton.{0} (And.intro @beq_true @beq_false)))) (And.intro (And.intro (And.intro @decide_eq_true_eq @Go.Hl.denilL_str) (And.intro @Go.Hl.denilL_int (And.intro @Go.Hl.hwalk2.eq_1 @Go.Hl.hwalk2.eq_2))) (And.intro (And.intro @Go.Hl.ids4.eq_1 @Go.Hl.getF.eq_1) (And.intro @Go.Hl.isEff.eq_1 (And.intro @Go.Hl.isEff.eq_2 @Go.Hl.isEff.eq_3))))) (And.intro (And.intro (And.intro (And.intro @Go.Hl.isEff.eq_4 @Bool.or_false) (And.intro @List.append_nil.{0} @Go.Hl.hlex.eq_1)) (And.intro (And.intro @Go.Hl.hlex.eq_2 @Go.Hl.hguard.eq_1) (And.intro @Go.Hl.hcallOf.eq_1 (And.intro @Go.Hl.hcallOf.eq_2 @Go.Hl.touch.eq_1)))) (And.intro (And.intro (And.intro @Go.Hl.touch.eq_2 @Go.Hl.touch.eq_3) (And.intro @Go.Hl.touch.eq_4 (And.intro @Go.Hl.touch.eq_5 @Go.Hl.touch.eq_6))) (And.intro (And.intro @Go.Hl.touch.eq_7 @Go.Hl.touch.eq_8) (And.intro @Go.Hl.touch.eq_9 (And.intro @Go.Hl.touch.eq_10 @Go.Hl.HV.ids.eq_1)))))) (And.intro (And.intro (And.intro (And.intro (And.intro @Go.Hl.HV.ids.eq_2 @Go.Hl.HV.ids.eq_3) (And.intro @Go.Hl.HV.ids.eq_4 @Go.Hl.HV.ids.eq_5)) (And.intro (And.intro @Go.Hl.HV.ids.eq_6 @Go.Hl.HV.ids.eq_7) (And.intro @Go.Hl.ev.eq_1 (And.intro @Go.Hl.ev.eq_2 @Go.Hl.ev.eq_3)))) (And.intro (And.intro (And.intro @Go.Hl.ev.eq_4 @Go.Hl.cvC.eq_1) (And.intro @Go.Hl.cvC.eq_2 (And.intro @Go.Hl.cvC1.eq_1 @Go.Hl.cvC1.eq_2))) (And.intro (And.intro @Go.Hl.cvC1.eq_3 @Go.Hl.cvC1.eq_4) (And.intro @Go.Hl.cvC1.eq_5 (And.intro @Go.Hl.cvC1.eq_6 @Go.Hl.cvC1.eq_7))))) (And.intro (And.intro (And.intro (And.intro @Go.Hl.cvC1.eq_8 @Go.Hl.cvC1.eq_9) (And.intro @Go.Hl.updo_at @Go.Hl.updo_none)) (And.intro (And.intro @Go.Hl.updo.eq_1 @Go.Hl.updo.eq_2) (And.intro @Go.Hl.upd_at (And.intro @Go.Hl.fin_at @Go.Hl.fin_nil)))) (And.intro (And.intro (And.intro @Go.Hl.finA_at @Go.Hl.finA_nil) (And.intro @Go.Hl.fob_at (And.intro @Go.Hl.fob_nil @Go.Hl.none0_at))) (And.intro (And.intro @Go.Hl.hlift_some @Go.Hl.hlift_none) (And.intro @Go.Hl.hthen.eq_1 (And.intro @Go.Hl.hthen.eq_2 @Go.Hl.hblk.eq_1))))))) (And.intro (And.intro (And.intro (And.intro (And.intro (And.intro @Go.Hl.hblk.eq_2 @Go.Hl.hbin_int) (And.intro @Go.Hl.hbin_str @Go.Hl.hbin_bool)) (And.intro (And.intro @Go.Hl.isShift.eq_1 @Go.Hl.isShift.eq_2) (And.intro @Go.Hl.isShift.eq_3 (And.intro @Go.Pl.hbuild_agg @Go.Hl.hfill.eq_1)))) (And.intro (And.intro (And.intro @Go.Hl.hfill.eq_2 @Go.Hl.HV.norm.eq_1) (And.intro @List.set_cons_zero.{0} (And.intro @List.set_cons_succ.{0} @Go.Hl.hclosed.eq_1))) (And.intro (And.intro @Go.Hl.hclosed.eq_2 @Go.Hl.hread.eq_1) (And.intro @Go.Hl.hread.eq_2 (And.intro @Go.Hl.hread.eq_3 @Go.Hl.hread.eq_4))))) (And.intro (And.intro (And.intro (And.intro @Go.Hl.hlo.eq_1 @Go.Hl.hlo.eq_2) (And.intro @Go.Hl.hlo.eq_3 @Go.Hl.live.eq_1)) (And.intro (And.intro @Go.Hl.live.eq_2 @Go.Hl.live.eq_3) (And.intro @Go.Hl.live.eq_4 (And.intro @Go.Hl.live.eq_5 @Go.Hl.live.eq_6)))) (And.intro (And.intro (And.intro @Go.Hl.HO.isBox.eq_1 @Go.Hl.HO.isBox.eq_2) (And.intro @Go.Hl.HO.isRow.eq_1 (And.intro @Go.Hl.HO.isRow.eq_2 @Go.Hl.TyD.isAgg.eq_1))) (And.intro (And.intro @Go.Hl.TyD.isAgg.eq_2 @Go.Hl.TyD.isAgg.eq_3) (And.intro @Go.Hl.HV.sto.eq_1 (And.intro @Go.Hl.HV.sto.eq_2 @Go.Hl.HV.sto.eq_3)))))) (And.intro (And.intro (And.intro (And.intro (And.intro @Go.Hl.HV.sto.eq_4 @Go.Hl.HV.stoL.eq_1) (And.intro @Go.Hl.HV.stoL.eq_2 @Go.Hl.HV.isAgg.eq_1)) (And.intro (And.intro @Go.Hl.HV.isAgg.eq_2 @Go.Hl.HV.isAgg.eq_3) (And.intro @Go.Hl.CV.isAgg.eq_1 (And.intro @Go.Hl.CV.isAgg.eq_2 @Go.Hl.HV.cells.eq_1)))) (And.intro (And.intro (And.intro @Go.Hl.HV.cells.eq_2 @Go.Hl.HV.cells.eq_3) (And.intro @Go.Hl.HV.cellsL.eq_1 (And.intro @Go.Hl.HV.cellsL.eq_2 @Go.Hl.CV.cells.eq_1))) (And.intro (And.intro @Go.Hl.CV.cells.eq_2 @Go.Hl.CV.cellsL.eq_1) (And.intro @Go.Hl.CV.cellsL.eq_2 (And.intro @Go.Hl.HV.getAt.eq_1 @Go.Hl.HV.getAt.eq_2))))) (And.intro (And.intro (And.intro (And.intro @Go.Hl.HV.getAt.eq_3 @Go.Hl.HV.getAtL.eq_1) (And.intro @Go.Hl.HV.getAtL.eq_2 (And.intro @Go.Hl.CV.getAt.eq_1 @Go.Hl.CV.getAt.eq_2))) (And.intro (And.intro @Go.Hl.CV.getAtL.eq_1 @Go.Hl.CV.getAtL.eq_2) (And.intro @Go.Hl.HV.setAt.eq_1 (And.intro @Go.Hl.HV.setAt.eq_2 @Go.Hl.HV.setAt.eq_3)))) (And.intro (And.intro (And.intro @Go.Hl.HV.setAtL.eq_1 @Go.Hl.HV.setAtL.eq_2) (And.intro @Go.Hl.CV.setAt.eq_1 (And.intro @Go.Hl.CV.setAt.eq_2 @Go.Hl.CV.setAtL.eq_1))) (And.intro (And.intro @Go.Hl.CV.setAtL.eq_2 @Go.Hl.HV.den.eq_1) (And.intro @Go.Hl.HV.den.eq_2 (And.intro @Go.Hl.CV.denil.eq_1 @Go.Hl.CV.denil.eq_2)))))))) (And.intro (And.intro (And.intro (And.intro (And.intro (And.intro (And.intro @Go.Hl.CV.denil.eq_3 @Go.Hl.CV.denil.eq_4) (And.intro @Go.Hl.CV.denilL.eq_1 @Go.Hl.CV.denilL.eq_2)) (And.intro (And.intro @List.range.eq_1 @List.range.loop.eq_1) (And.intro @List.range.loop.eq_2 (And.intro @List.size_toArray.{0} @List.length_cons.{0})))) (And.intro (And.intro (And.intro @List.length_nil.{0} @List.length_map.{0,0}) (And.intro @List.getElem?_toArray.{0} (And.intro @List.getElem?_cons_zero.{0} @List.getElem?_cons_succ.{0}))) (And.intro (And.intro @List.map_cons.{0,0} @List.map_nil.{0,0}) (And.intro @List.flatMap_cons.{0,0} (And.intro @List.flatMap_nil.{0,0} @List.toList_toArray.{0}))))) (And.intro (And.intro (And.intro (And.intro @List.not_mem_nil.{0} @List.mem_cons.{0}) (And.intro @List.nil_append.{0} @List.cons_append.{0})) (And.intro (And.intro @false_implies @implies_true.{0}) (And.intro @implies_true.{1} (And.intro @true_and @and_true)))) (And.intro (And.intro (And.intro @and_self @ne_eq.{0}) (And.intro @ne_eq.{1} (And.intro @not_false_eq_true @not_true_eq_false))) (And.intro (And.intro @Nat.lt_irrefl @Nat.zero_add) (And.intro @Nat.add_zero (And.intro @Nat.succ_ne_self @Option.map_some.{0,0})))))) (And.intro (And.intro (And.intro (And.intro (And.intro @Option.map_none.{0,0} @Option.bind_some.{0,0}) (And.intro @Option.isSome_some.{0} @Bool.false_eq_true)) (And.intro (And.intro @Bool.true_eq_false @Int.toNat_natCast) (And.intro @forall_eq_or_imp.{0} (And.intro @forall_eq_or_imp.{1} @forall_eq.{0})))) (And.intro (And.intro (And.intro @forall_eq.{1} @decide_true) (And.intro @decide_false (And.intro @Bool.not_true @Bool.not_false))) (And.intro (And.intro @beq_self_eq_true.{0} @bne_self_eq_false.{0}) (And.intro @Go.Pl.hbuild_dig (And.intro @Go.Pl.dg_cells @Go.Pl.dg_isAgg))))) (And.intro (And.intro (And.intro (And.intro @Go.Pl.dg_denil @Go.Pl.dg_getAt) (And.intro @Go.Pl.dg_setAt @Go.Pl.zd_cells)) (And.intro (And.intro @Go.Pl.zd_isAgg @Go.Pl.zd_denil) (And.intro @Go.Pl.zd_getAt (And.intro @Go.Pl.zd_setAt @Go.Pl.dgi_cells)))) (And.intro (And.intro (And.intro @Go.Pl.dgi_isAgg @Go.Pl.dgi_denil) (And.intro @Go.Pl.dgi_getAt (And.intro @Go.Pl.dgi_1 @Go.Pl.dgi_2))) (And.intro (And.intro @Go.Pl.dgi_3 @Go.Pl.hf_cells) (And.intro @Go.Pl.hf_denil (And.intro @Go.Pl.hf_isAgg @Go.Pl.hf_getAt))))))) (And.intro (And.intro (And.intro (And.intro (And.intro (And.intro @Go.Pl.hf_setAt @Go.Pl.zhf_eq) (And.intro @Go.Pl.denilL_dg @Go.Pl.ws_cells)) (And.intro (And.intro @Go.Pl.us_cells @Go.Pl.Pk.cells) (And.intro @Go.Pl.Pk.denil (And.intro @Go.Pl.denilL_Pk @Go.Pl.Pk.isAgg)))) (And.intro (And.intro (And.intro @Go.Pl.Pk.getAll @Go.Pl.Pk.setAll) (And.intro @Go.Pl.Pk.fold (And.intro @Go.Pl.Pk.get_h @Go.Pl.Pk.set_h))) (And.intro (And.intro @Go.Pl.Pk.get_r @Go.Pl.Pk.set_r) (And.intro @Go.Pl.Ky.cells (And.intro @Go.Pl.Ky.denil @Go.Pl.denilL_Ky))))) (And.intro (And.intro (And.intro (And.intro @Go.Pl.Ky.isAgg @Go.Pl.Ky.getAll) (And.intro @Go.Pl.Ky.setAll @Go.Pl.Ky.fold)) (And.intro (And.intro @Go.Pl.Ky.get_p @Go.Pl.Ky.set_p) (And.intro @Go.Pl.Ky.get_o (And.intro @Go.Pl.Ky.set_o @Go.Pl.Ky.get_rs)))) (And.intro (And.intro (And.intro @Go.Pl.Ky.set_rs @Go.Pl.Ky.get_fr) (And.intro @Go.Pl.Ky.set_fr (And.intro @Go.Pl.Ky.get_un @Go.Pl.Ky.set_un))) (And.intro (And.intro @Go.Pl.Qt.cells @Go.Pl.Qt.denil) (And.intro @Go.Pl.denilL_Qt (And.intro @Go.Pl.Qt.isAgg @Go.Pl.Qt.getAll)))))) (And.intro (And.intro (And.intro (And.intro (And.intro @Go.Pl.Qt.setAll @Go.Pl.Qt.fold) (And.intro @Go.Pl.Qt.get_r @Go.Pl.Qt.set_r)) (And.intro (And.intro @Go.Pl.Qt.get_n @Go.Pl.Qt.set_n) (And.intro @Go.Pl.Rv.cells (And.intro @Go.Pl.Rv.denil @Go.Pl.denilL_Rv)))) (And.intro (And.intro (And.intro @Go.Pl.Rv.isAgg @Go.Pl.Rv.getAll) (And.intro @Go.Pl.Rv.setAll (And.intro @Go.Pl.Rv.fold @Go.Pl.Rv.get_k))) (And.intro (And.intro @Go.Pl.Rv.set_k @Go.Pl.Rv.get_t) (And.intro @Go.Pl.Rv.set_t (And.intro @Go.Pl.Rt.cells @Go.Pl.Rt.denil))))) (And.intro (And.intro (And.intro (And.intro @Go.Pl.denilL_Rt @Go.Pl.Rt.isAgg) (And.intro @Go.Pl.Rt.getAll (And.intro @Go.Pl.Rt.setAll @Go.Pl.Rt.fold))) (And.intro (And.intro @Go.Pl.Rt.get_v @Go.Pl.Rt.set_v) (And.intro @Go.Pl.Rt.get_e (And.intro @Go.Pl.Rt.set_e @Go.Pl.Rt.get_q)))) (And.intro (And.intro (And.intro @Go.Pl.Rt.set_q @Go.Pl.Rt.get_k) (And.intro @Go.Pl.Rt.set_k (And.intro @Go.Pl.Rt.get_x @Go.Pl.Rt.set_x))) (And.intro (And.intro @Go.Pl.ns_denil @Go.Pl.ns_cells) (And.intro @Go.Pl.ns_isAgg (And.intro @Go.Pl.ns_getAt @Go.Pl.ns_setAt)))))))))
def sE := (And.intro (And.intro (And.intro (And.intro @Go.Hl.hlex.eq_1 @Go.Hl.hlex.eq_2) (And.intro @Go.Hl.hwalk2.eq_1 @Go.Hl.hwalk2.eq_2)) (And.intro (And.intro @Go.Hl.hlexG.eq_1 @Go.Hl.hlexG.eq_2) (And.intro @Go.Hl.hwalk2G.eq_1 @Go.Hl.hwalk2G.eq_2))) (And.intro (And.intro (And.intro @Go.Hl.hthen.eq_1 @Go.Hl.hthen.eq_2) (And.intro @Go.Hl.hblk.eq_1 @Go.Hl.hblk.eq_2)) (And.intro (And.intro @List.size_toArray.{0} @List.length_cons.{0}) (And.intro @List.length_nil.{0} @Nat.zero_add))))
def sR := (And.intro (And.intro (And.intro @List.range.eq_1 @List.range.loop.eq_1) (And.intro @List.range.loop.eq_2 @List.size_toArray.{0})) (And.intro (And.intro @List.length_cons.{0} @List.length_nil.{0}) (And.intro @Nat.zero_add @Nat.add_zero)))
def sH := (And.intro (And.intro @Go.Hl.hop1.eq_1 (And.intro @Go.Hl.hgd.eq_1 @Go.Hl.hgd.eq_2)) (And.intro @List.getElem_toArray.{0} (And.intro @List.getElem_cons_zero.{0} @List.getElem_cons_succ.{0})))
def tyS := (And.intro (And.intro (And.intro (And.intro (And.intro (And.intro (And.intro @ty1 @ty2) (And.intro @ty3 (And.intro @ty4 @ty5))) (And.intro (And.intro @ty6 @ty7) (And.intro @ty8 (And.intro @ty9 @ty10)))) (And.intro (And.intro (And.intro @ty11 @ty12) (And.intro @ty13 (And.intro @ty14 @ty15))) (And.intro (And.intro @ty16 @ty17) (And.intro @ty18 (And.intro @ty19 @ty20))))) (And.intro (And.intro (And.intro (And.intro @ty21 @ty22) (And.intro @ty23 (And.intro @ty24 @ty25))) (And.intro (And.intro @ty26 @ty27) (And.intro @ty28 (And.intro @ty29 @ty30)))) (And.intro (And.intro (And.intro @ty31 @ty32) (And.intro @ty34 (And.intro @ty35 @ty36))) (And.intro (And.intro @ty37 (And.intro @ty38 @ty39)) (And.intro @ty41 (And.intro @ty42 @ty43)))))) (And.intro (And.intro (And.intro (And.intro (And.intro @ty44 @ty45) (And.intro @ty46 (And.intro @ty47 @ty48))) (And.intro (And.intro @ty49 @ty50) (And.intro @ty51 (And.intro @ty52 @ty53)))) (And.intro (And.intro (And.intro @ty54 @ty55) (And.intro @ty56 (And.intro @ty57 @ty58))) (And.intro (And.intro @ty59 @ty60) (And.intro @ty61 (And.intro @ty62 @ty63))))) (And.intro (And.intro (And.intro (And.intro @ty64 @ty65) (And.intro @ty66 (And.intro @ty67 @ty68))) (And.intro (And.intro @ty69 @ty70) (And.intro @ty71 (And.intro @ty72 @ty73)))) (And.intro (And.intro (And.intro @ty74 @ty75) (And.intro @ty76 (And.intro @ty77 @ty78))) (And.intro (And.intro @ty79 (And.intro @ty80 @ty81)) (And.intro @ty82 (And.intro @ty83 @ty84))))))) (And.intro (And.intro (And.intro (And.intro (And.intro (And.intro @ty85 @ty86) (And.intro @ty87 (And.intro @ty88 @ty89))) (And.intro (And.intro @ty90 @ty91) (And.intro @ty92 (And.intro @ty93 @ty94)))) (And.intro (And.intro (And.intro @ty95 @ty96) (And.intro @ty97 (And.intro @ty98 @ty99))) (And.intro (And.intro @ty100 @ty101) (And.intro @ty102 (And.intro @ty103 @ty104))))) (And.intro (And.intro (And.intro (And.intro @ty105 @ty107) (And.intro @ty109 (And.intro @ty110 @ty111))) (And.intro (And.intro @ty112 @ty113) (And.intro @ty114 (And.intro @ty115 @ty116)))) (And.intro (And.intro (And.intro @ty117 @ty118) (And.intro @ty119 (And.intro @ty120 @ty121))) (And.intro (And.intro @ty122 (And.intro @ty123 @ty124)) (And.intro @ty125 (And.intro @ty127 @ty128)))))) (And.intro (And.intro (And.intro (And.intro (And.intro @ty129 @ty131) (And.intro @ty132 (And.intro @ty133 @ty134))) (And.intro (And.intro @ty135 @ty136) (And.intro @ty137 (And.intro @ty138 @ty139)))) (And.intro (And.intro (And.intro @ty140 @ty141) (And.intro @ty142 (And.intro @ty143 @ty144))) (And.intro (And.intro @ty145 @ty146) (And.intro @ty147 (And.intro @ty148 @ty149))))) (And.intro (And.intro (And.intro (And.intro @ty150 @ty151) (And.intro @ty152 (And.intro @ty154 @ty155))) (And.intro (And.intro @ty156 @ty157) (And.intro @ty158 (And.intro @ty162 @ty163)))) (And.intro (And.intro (And.intro @ty164 @ty165) (And.intro @ty166 (And.intro @ty167 @ty168))) (And.intro (And.intro @ty169 (And.intro @ty170 @eqdg43)) (And.intro @nedg43 (And.intro @eqdg44 @nedg44))))))))
theorem AI {p q : Prop} (h : q) (hp : p := by first | omega | (simp only [maxLen]; omega) | assumption | (simp [CV.cells]; done) | (simp [CV.cells, maxLen]; omega)) : p ∧ q := ⟨hp, h⟩
section
variable {P : Program} {ops : Array Oper} {nx : Nat} {Q : Fr → Ob → Prop} {fr : Fr} {ob : Ob} {c : Bool}
theorem hlex_cases {l : List Nat} (d : Nat) (h : fr d = .c (.bool c)) (hT : c = true → hlex P ops nx Q l fr ob) (hF : c = false → hlex P ops nx Q l fr ob) : hlex P ops nx Q l fr ob := by
  cases c
  · exact hF rfl
  · exact hT rfl
theorem hwalk2_cases {l : Plan} {C : Pend} (d : Nat) (h : fr d = .c (.bool c)) (hT : c = true → hwalk2 P ops nx Q l C fr ob) (hF : c = false → hwalk2 P ops nx Q l C fr ob) : hwalk2 P ops nx Q l C fr ob := by
  cases c
  · exact hF rfl
  · exact hT rfl
end
end Go.Proofs.YtenbfeemmpjdhaaGreat
