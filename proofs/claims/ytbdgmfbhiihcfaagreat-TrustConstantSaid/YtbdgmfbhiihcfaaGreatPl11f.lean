/- Plain Lean: lists that are good element by element, and in order from neighbour to neighbour. By an AI agent. -/
import Derived.Test.YtbdgmfbhiihcfaaGreatHvT1
import Derived.Test.YtbdgmfbhiihcfaaGreatPl18e
set_option linter.unusedSimpArgs false
set_option linter.unusedVariables false
set_option linter.defProp false
namespace Go.Proofs.YtbdgmfbhiihcfaaGreat
open Go Go.Hl Go.Pl
set_option maxRecDepth 10000
set_option linter.unusedSimpArgs false
set_option linter.unusedVariables false

theorem add_ok (l : List Word) (w : Word) (hl : l.length < 2 ^ 40) : HPure Tryz.prog 61 [.slc (l.map .str), .str w] (fun v => v = .slc ((addW l w).map .str)) := by
 refine hfn_walk Tryz.func61 rfl (by kernel_rfl) (locOk_nil _) (Nat.le_of_ble_eq_true rfl) ?_
 refine hw_seq fun K hK => hw_region (by kernel_rfl) ?_
 simp (maxSteps := 4000000) only [↓sP, sA, tyS, simprocAttr]
 repeat refine AI ?_
 refine hK _ _ _ ?_
 clear hK K
 refine hw_seq fun K hK => ?_
 refine hw_seq fun K hK => hw_region (by kernel_rfl) ?_
 simp (maxSteps := 4000000) only [↓sP, sA, tyS, simprocAttr]
 refine call_pure (has_ok l w (by omega)) ⟨rfl, rfl, rfl, rfl⟩ ?_
 rintro v rfl
 repeat refine AI ?_
 refine hK _ _ _ ?_
 clear hK K
 refine hw_cond (b := l.contains w) rfl (fun hb => ?_) (fun hb => ?_)
 ·
  refine hw_seq fun K hK => hw_region (by kernel_rfl) ?_
  simp (maxSteps := 4000000) only [↓sP, sA, tyS, simprocAttr]
  repeat refine AI ?_
  refine hK _ _ _ ?_
  clear hK K
  refine hw_ret ?_
  simp (maxSteps := 4000000) only [hpost, Tryz.results61, hresL, hres1, tupOf, ↓sP, sA, tyS, simprocAttr]
  refine hret_pure [] (.slc (l.map .str)) ?_ ?_
  ·
   simp [HV.close, CV.denil, denilL_str]; rfl
  ·
   simp only [addW, hb, if_true]
 ·
  refine hw_skip ?_
  simp (maxSteps := 4000000) only [↓sP, sA, tyS, simprocAttr]
  repeat refine AI ?_
  refine hK _ _ _ ?_
  clear hK K
  refine hw_seq fun K hK => hw_region (by kernel_rfl) ?_
  simp (maxSteps := 4000000) only [↓sP, sA, tyS, simprocAttr]
  repeat refine AI ?_
  refine hK _ _ _ ?_
  clear hK K
  refine hw_seq fun K hK => hw_region (by kernel_rfl) ?_
  simp (maxSteps := 4000000) only [↓sP, sA, tyS, simprocAttr]
  repeat refine AI ?_
  refine hK _ _ _ ?_
  clear hK K
  refine hw_seq fun K hK => ?_
  refine hw_block ?_
  refine hw_own 5 0 9 1 rfl rfl rfl rfl ?_
  refine hw_loop (α := {i : Nat // i ≤ l.length ∧ ∀ j (h : j < i) (h' : j < l.length), slt l[j] w = true}) (fun i => (fin [(0, .c (.slc (l.map .str))), (1, .c (.str w)), (5, .own 24 i.1), (6, .c (.int .i64 i.1))], fob [(24, .row 9 1 ((l.take i.1).map .str))])) 25 (fun i => l.length - i.1) ⟨0, by omega, fun j h => by omega⟩ (fits_fin (by omega) (by simp [FinOk, fin_at, finA_at, upd_at, HV.men, HV.menL, HV.norm, HV.toC, HV.toCL]) (by simp [FobOk, fob_at, upd_at, none0_at, gone, HO.men, HV.men, HV.menL, HV.norm, HV.toC, HV.toCL])) ?_
  rintro ⟨i, hi, hni⟩
  have hti : (l.take i).length = i := by simp; omega
  refine hw_seq fun K hK => ?_
  by_cases hlt : i < l.length
  ·
   refine hw_seq fun K hK => hw_region (by kernel_rfl) ?_
   simp only [sR, simprocAttr]
   iterate 5
    (refine hlex_step (g := none) rfl rfl fun K' hK' => ?_; simp only [sH, ↓sP, sA, tyS, simprocAttr, Int.natCast_nonneg, Int.ofNat_lt, hlt, nth_map hlt]; (repeat refine AI ?_); refine hK' _ _ ?_; clear hK' K')
   iterate 6
    (refine hlex_step (g := some (15, true)) rfl rfl fun K' hK' => ?_; simp only [sH, ↓sP, sA, tyS, simprocAttr, Int.natCast_nonneg, Int.ofNat_lt, hlt, nth_map hlt]; (repeat refine AI ?_); refine hK' _ _ ?_; clear hK' K')
   refine hlex_step (g := none) rfl rfl fun K' hK' => ?_
   simp (maxSteps := 4000000) only [sH, ↓sP, sA, tyS, simprocAttr, Int.natCast_nonneg, Int.ofNat_lt, hlt, nth_map hlt]
   repeat refine AI ?_
   refine hK' _ _ ?_
   clear hK' K'
   simp only [sE, ↓reduceIte, simprocAttr]
   repeat refine AI ?_
   refine hK _ _ _ ?_
   clear hK K
   refine hw_cond (b := slt l[i] w) rfl (fun hb => ?_) (fun hb => ?_)
   ·
    refine hw_skip ?_
    simp (maxSteps := 4000000) only [↓sP, sA, tyS, simprocAttr]
    repeat refine AI ?_
    refine hK _ _ _ ?_
    clear hK K
    refine hw_block ?_
    refine hw_seq fun K hK => hw_region (by kernel_rfl) ?_
    simp only [sR, simprocAttr]
    iterate 8
     (refine hlex_step (g := none) rfl rfl fun K' hK' => ?_; simp only [sH, ↓sP, sA, tyS, simprocAttr, Int.natCast_nonneg, Int.ofNat_lt, hlt, nth_map hlt, hti, List.length_append]; (repeat refine AI ?_); refine hK' _ _ ?_; clear hK' K')
    simp only [sE, ↓reduceIte, simprocAttr]
    repeat refine AI ?_
    refine hK _ _ _ ?_
    clear hK K
    refine hw_region (by kernel_rfl) ?_
    simp (maxSteps := 4000000) only [↓sP, sA, tyS, simprocAttr, IntWalk.i64_in _ (show -9223372036854775808 ≤ (i : Int) + 1 ∧ (i : Int) + 1 ≤ 9223372036854775807 by omega)]
    refine ⟨⟨i + 1, by omega, fun j h h' => ?_⟩, fits_fin (by omega) ?_ ?_, ?_⟩
    ·
     by_cases e : j = i
     ·
      subst e; exact hb
     ·
      exact hni j (by omega) h'
    ·
     simp [FinOk, upd_at, fin_at, HV.men]
    ·
     refine ⟨?_, by omega, trivial, trivial⟩
     simp only [List.take_succ_eq_append_getElem hlt, List.map_append]
     rfl
    ·
     show l.length - (i + 1) < l.length - i
     omega
   ·
    refine hw_exit ?_
    simp (maxSteps := 4000000) only [↓sP, sA, tyS, simprocAttr]
    clear hK K
    repeat refine AI ?_
    refine hK _ _ _ ?_
    clear hK K
    refine hw_seq fun K hK => hw_draw2 mixed [(0, [], []), (1, [], []), (2, [], []), (4, [2], []), (5, [2], []), (6, [2], []), (3, [], [4, 5, 6]), (7, [], []), (8, [], [])] [0, 0, 2, 7, 0, 0, 48, 127, 255] (by kernel_rfl) (by kernel_rfl) (by kernel_rfl) (by kernel_rfl) rfl (by kernel_rfl) ?_
    iterate 9
     (refine hwalk2_step (g := none) rfl rfl fun K' hK' => ?_; simp only [sH, ↓sP, sA, tyS, simprocAttr, hti, ← List.map_drop, ← List.map_take]; (repeat refine AI ?_); refine hK' _ _ ?_; clear hK' K')
    simp only [sE, ↓reduceIte, simprocAttr]
    repeat refine AI ?_
    refine hK _ _ _ ?_
    clear hK K
    refine hw_ret ?_
    simp (maxSteps := 4000000) only [hpost, Tryz.results61, hresL, hres1, tupOf, ↓sP, sA, tyS, simprocAttr]
    refine hret_pure [24] (.slc ((l.take i ++ w :: l.drop i).map .str)) ?_ ?_
    ·
     have : l.take (l.length - i) = l.take (l.length - i) := rfl
     simp [HV.close, upd_at, HV.norm, HV.toC, List.take_of_length_le]
    ·
     rw [addW_eq (by assumption) hi hni (fun _ => hb)]
  ·
   refine hw_seq fun K hK => hw_region (by kernel_rfl) ?_
   simp only [sR, simprocAttr]
   iterate 5
    (refine hlex_step (g := none) rfl rfl fun K' hK' => ?_; simp only [sH, ↓sP, sA, tyS, simprocAttr, Int.ofNat_lt, hlt]; (repeat refine AI ?_); refine hK' _ _ ?_; clear hK' K')
   iterate 6
    (refine hlex_step (g := some (15, true)) rfl rfl fun K' hK' => ?_; simp only [sH, ↓sP, sA, tyS, simprocAttr, Int.ofNat_lt, hlt]; (repeat refine AI ?_); refine hK' _ _ ?_; clear hK' K')
   refine hlex_step (g := none) rfl rfl fun K' hK' => ?_
   simp (maxSteps := 4000000) only [sH, ↓sP, sA, tyS, simprocAttr, Int.ofNat_lt, hlt]
   repeat refine AI ?_
   refine hK' _ _ ?_
   clear hK' K'
   simp only [sE, ↓reduceIte, simprocAttr]
   repeat refine AI ?_
   refine hK _ _ _ ?_
   clear hK K
   refine hw_cond (b := _) rfl (fun hb => ?_) (fun hb => ?_)
   ·
    cases hb
   ·
    refine hw_exit ?_
    simp (maxSteps := 4000000) only [↓sP, sA, tyS, simprocAttr]
    clear hK K
    repeat refine AI ?_
    refine hK _ _ _ ?_
    clear hK K
    refine hw_seq fun K hK => hw_draw2 mixed [(0, [], []), (1, [], []), (2, [], []), (4, [2], []), (5, [2], []), (6, [2], []), (3, [], [4, 5, 6]), (7, [], []), (8, [], [])] [0, 0, 2, 7, 0, 0, 48, 127, 255] (by kernel_rfl) (by kernel_rfl) (by kernel_rfl) (by kernel_rfl) rfl (by kernel_rfl) ?_
    iterate 9
     (refine hwalk2_step (g := none) rfl rfl fun K' hK' => ?_; simp only [sH, ↓sP, sA, tyS, simprocAttr, hti, ← List.map_drop, ← List.map_take]; (repeat refine AI ?_); refine hK' _ _ ?_; clear hK' K')
    simp only [sE, ↓reduceIte, simprocAttr]
    repeat refine AI ?_
    refine hK _ _ _ ?_
    clear hK K
    refine hw_ret ?_
    simp (maxSteps := 4000000) only [hpost, Tryz.results61, hresL, hres1, tupOf, ↓sP, sA, tyS, simprocAttr]
    refine hret_pure [24] (.slc ((l.take i ++ w :: l.drop i).map .str)) ?_ ?_
    ·
     simp [HV.close, upd_at, HV.norm, HV.toC, List.take_of_length_le]
    ·
     rw [addW_eq (by assumption) hi hni (fun h => absurd h hlt)]

end Go.Proofs.YtbdgmfbhiihcfaaGreat

namespace Go.Pl
open Go Go.Hl

theorem foldW_spec : ∀ (l : List Word) (a : List Word), Asc a → Asc (l.foldl addW a) ∧ ∀ w, w ∈ l.foldl addW a ↔ w ∈ a ∨ w ∈ l
  | [], a, h => ⟨h, fun w => by simp⟩
  | x :: l, a, h => by
    obtain ⟨h1, h2⟩ := foldW_spec l (addW a x) (asc_addW h x)
    refine ⟨h1, fun w => ?_⟩
    rw [List.foldl_cons, h2, mem_addW, List.mem_cons]
    constructor
    · rintro ((h | h) | h)
      · exact .inl h
      · exact .inr (.inl h)
      · exact .inr (.inr h)
    · rintro (h | h | h)
      · exact .inl (.inl h)
      · exact .inl (.inr h)
      · exact .inr h
theorem setW_asc (l : List Word) : Asc (setW l) := (foldW_spec l [] List.Pairwise.nil).1
theorem mem_setW {l : List Word} {w : Word} : w ∈ setW l ↔ w ∈ l := by
  have := (foldW_spec l [] List.Pairwise.nil).2 w
  simpa [setW] using this
theorem setW_ext {l l' : List Word} (h : ∀ w, w ∈ l ↔ w ∈ l') : setW l = setW l' :=
  asc_ext (setW_asc l) (setW_asc l') fun w => by rw [mem_setW, mem_setW, h]
theorem asc_nodup {l : List Word} (h : Asc l) : l.Nodup := h.imp (fun {x y} h e => by subst e; exact List.lt_irrefl _ h)

/-- One of each: of a sorted list. -/
def dedup : List Word → List Word
  | a :: b :: l => if a == b then dedup (b :: l) else a :: dedup (b :: l)
  | l => l
theorem mem_dedup : ∀ {l : List Word} {w : Word}, w ∈ dedup l ↔ w ∈ l
  | [], w => by simp [dedup]
  | [a], w => by simp [dedup]
  | a :: b :: l, w => by
    have ih := mem_dedup (l := b :: l) (w := w)
    simp only [dedup]
    split
    · rename_i h
      have : a = b := by simpa using h
      subst this
      rw [ih]; simp
    · rw [List.mem_cons, ih, List.mem_cons (b := a)]
theorem asc_dedup : ∀ {l : List Word}, l.Pairwise (· ≤ ·) → Asc (dedup l)
  | [], _ => List.Pairwise.nil
  | [a], _ => by simp [dedup, Asc]
  | a :: b :: l, h => by
    obtain ⟨h1, h2⟩ := List.pairwise_cons.1 h
    have ih := asc_dedup h2
    simp only [dedup]
    split
    · exact ih
    · rename_i hne
      refine List.pairwise_cons.2 ⟨fun w hw => ?_, ih⟩
      rw [mem_dedup] at hw
      have hab : a ≤ b := h1 b (by simp)
      have hne' : a ≠ b := by simpa using hne
      have hlt := lt_of_le_ne hab hne'
      rcases List.mem_cons.1 hw with rfl | hw
      · exact hlt
      · have hbw : b ≤ w := (List.pairwise_cons.1 h2).1 w hw
        rcases Classical.em (b = w) with rfl | hne2
        · exact hlt
        · exact List.lt_trans hlt (lt_of_le_ne hbw hne2)
theorem dedup_sort {l s : List Word} (hs : s.Pairwise (· ≤ ·)) (hp : ∀ w, w ∈ s ↔ w ∈ l) : dedup s = setW l :=
  asc_ext (asc_dedup hs) (setW_asc l) fun w => by rw [mem_dedup, mem_setW, hp]

theorem mem_ownB {l : List Ky} {role : Word} {p : Ky → Bool} {w : Word} : w ∈ ownB l role p ↔ ∃ k ∈ l, (k.rs.contains role = true ∧ p k = true) ∧ k.o = w := by
  simp only [ownB, mem_setW, ownF, List.mem_map, List.mem_filter, Bool.and_eq_true]
  constructor
  · rintro ⟨k, ⟨h1, h2⟩, h3⟩; exact ⟨k, h1, h2, h3⟩
  · rintro ⟨k, h1, h2, h3⟩; exact ⟨k, ⟨h1, h2⟩, h3⟩
section
variable {r : Rt} {role : Word} {a b : List Dig} {t : Int}
theorem mem_vouched {w : Word} : w ∈ vouched r role a t ↔ validR r = true ∧ ∃ k ∈ r.k, (k.rs.contains role = true ∧ a.contains (kid k) = true ∧ liveB r k t = true) ∧ k.o = w := by
  unfold vouched
  split
  · rename_i h
    simp only [mem_ownB, Bool.and_eq_true, h, true_and]
  · rename_i h
    simp [h]
theorem asc_vouched : Asc (vouched r role a t) := by
  unfold vouched
  split
  · exact setW_asc _
  · exact List.Pairwise.nil
theorem vouched_mono (h : ∀ d ∈ a, d ∈ b) {w : Word} (hw : w ∈ vouched r role a t) : w ∈ vouched r role b t := by
  rw [mem_vouched] at hw ⊢
  obtain ⟨h0, k, h1, ⟨h2, h3, h4⟩, h5⟩ := hw
  exact ⟨h0, k, h1, ⟨h2, by rw [List.contains_iff_mem] at h3 ⊢; exact h _ h3, h4⟩, h5⟩
theorem vouched_ext (h : ∀ d, d ∈ a ↔ d ∈ b) : vouched r role a t = vouched r role b t :=
  asc_ext asc_vouched asc_vouched fun w => ⟨vouched_mono fun d => (h d).1, vouched_mono fun d => (h d).2⟩
theorem vouched_len (h : ∀ d ∈ a, d ∈ b) : (vouched r role a t).length ≤ (vouched r role b t).length :=
  nodup_len _ _ (asc_nodup asc_vouched) fun w hw => vouched_mono h hw
theorem vouched_few {ws : List Word} (h : ∀ k ∈ r.k, k.o ∈ ws) : (vouched r role a t).length ≤ ws.length :=
  nodup_len _ _ (asc_nodup asc_vouched) fun w hw => by
    obtain ⟨_, k, h1, _, rfl⟩ := mem_vouched.1 hw
    exact h k h1
theorem enough_mono (h : ∀ d ∈ a, d ∈ b) (he : enough r role a t = true) : enough r role b t = true := by
  simp only [enough, Bool.and_eq_true, decide_eq_true_eq] at he ⊢
  have := vouched_len (r := r) (role := role) (t := t) h
  omega
end
end Go.Pl

namespace Go.Pl
open Go Go.Hl

def roles10 : List Word := [[97, 100, 118, 105, 115, 111, 114], [97, 110, 97, 108, 121, 115, 116], [97, 112, 112, 114, 111, 118, 101], [105, 110, 118, 101, 110, 116, 111, 114, 121], [108, 97, 121, 111, 117, 116],
  [112, 111, 108, 105, 99, 121], [114, 101, 98, 117, 105, 108, 100], [114, 101, 108, 101, 97, 115, 101], [114, 111, 111, 116], [115, 116, 101, 112]]
def wStep : Word := [115, 116, 101, 112]
def owners4 : List Word := [[97, 110, 110], [98, 111, 98], [99, 97, 116], [100, 97, 110]]
def mOwner (i : Nat) : Word := owners4.getD (i % 4) []
def mPub (i : Nat) : Pk := ⟨((i % 3 : Nat) : Int), ⟨[UInt8.ofNat (i + 1), 77] ++ List.replicate 14 0, by simp⟩⟩
def mid (i : Nat) : Dig := pid (mPub i)
def insK (l : List Ky) (k : Ky) : List Ky := (l.takeWhile fun x => dlt (kid x) (kid k)) ++ k :: l.dropWhile fun x => dlt (kid x) (kid k)
def mKey (i : Nat) : Ky := ⟨mPub i, mOwner i, roles10, 0, maxN⟩
def fullK : List Ky := (List.range 5).foldl (fun l i => insK l (mKey i)) []
def full : Rt := ⟨1, maxN, roles10.map fun w => ⟨w, 1⟩, fullK, []⟩
theorem full_valid : validR full = true := by decide +kernel
theorem full_need : needV full wStep = 1 := by decide +kernel
theorem full_enough : enough full wStep [mid 0] 5 = true := by decide +kernel
end Go.Pl

namespace Go.Pl
open Go Go.Hl

section
variable {α : Type} {p : α → Bool} {l : List α}
theorem find_hit {i : Nat} (hi : i < l.length) (h : p l[i] = true) (h0 : ∀ x ∈ l.take i, p x = false) : l.find? p = some l[i] := by
  have e : l = l.take i ++ l[i] :: l.drop (i + 1) := by rw [← List.drop_eq_getElem_cons hi, List.take_append_drop]
  have e2 : l.find? p = (l.take i ++ l[i] :: l.drop (i + 1)).find? p := congrArg _ e
  rw [e2, List.find?_append, List.find?_eq_none.2 (fun x hx => by rw [h0 x hx]; simp), List.find?_cons, h]
  rfl
theorem find_miss (h0 : ∀ x ∈ l, p x = false) : l.find? p = none := List.find?_eq_none.2 fun x hx => by rw [h0 x hx]; simp
theorem take_miss {i : Nat} (hi : i < l.length) (h : p l[i] = false) (h0 : ∀ x ∈ l.take i, p x = false) : ∀ x ∈ l.take (i + 1), p x = false := fun x hx => by
  rw [List.take_succ_eq_append_getElem hi, List.mem_append, List.mem_singleton] at hx
  rcases hx with hx | rfl
  · exact h0 x hx
  · exact h
end
theorem need_hit {l : List Qt} {w : Word} {i : Nat} (hi : i < l.length) (h : (l[i].r == w) = true) (h0 : ∀ x ∈ l.take i, (x.r == w) = false) : need l w = l[i].n := by
  unfold need; rw [find_hit (p := fun q : Qt => q.r == w) hi h h0]
theorem need_miss {l : List Qt} {w : Word} (h0 : ∀ x ∈ l, (x.r == w) = false) : need l w = 0 := by
  unfold need; rw [find_miss (p := fun q : Qt => q.r == w) h0]
def revZ (l : List Rv) (d : Dig) : Int := (revoked l d).getD 0
def revS (l : List Rv) (d : Dig) : Bool := (revoked l d).isSome
theorem rev_hit {l : List Rv} {d : Dig} {i : Nat} (hi : i < l.length) (h : (l[i].k == d) = true) (h0 : ∀ x ∈ l.take i, (x.k == d) = false) : revoked l d = some l[i].t := by
  unfold revoked; rw [find_hit (p := fun x : Rv => x.k == d) hi h h0]; rfl
theorem rev_miss {l : List Rv} {d : Dig} (h0 : ∀ x ∈ l, (x.k == d) = false) : revoked l d = none := by
  unfold revoked; rw [find_miss (p := fun x : Rv => x.k == d) h0]; rfl
theorem gone_rev (l : List Rv) (d : Dig) (t : Int) : goneB l d t = (revS l d && decide (revZ l d ≤ t)) := by
  unfold goneB revS revZ
  cases revoked l d <;> simp
theorem slt_take : ∀ {a b : List UInt8} {i : Nat} (ha : i < a.length) (hb : i < b.length), a.take i = b.take i → a[i] ≠ b[i] → slt a b = decide (a[i] < b[i])
  | x :: a, y :: b, 0, _, _, _, hne => by
    simp only [List.getElem_cons_zero] at hne ⊢
    have : (x == y) = false := by simpa using hne
    simp [slt, Op.bytesLess, this]
  | x :: a, y :: b, i + 1, ha, hb, h, hne => by
    simp only [List.take_succ_cons, List.cons.injEq, List.getElem_cons_succ] at h hne ⊢
    obtain ⟨rfl, h⟩ := h
    have := slt_take (by simpa using ha) (by simpa using hb) h hne
    rw [← this]
    simp [slt, Op.bytesLess]
theorem slt_self : ∀ a : List UInt8, slt a a = false
  | [] => rfl
  | x :: a => by simpa [slt, Op.bytesLess] using slt_self a
theorem dlt_at {a b : Dig} {i : Nat} (hi : i < 32) (h : a.1.take i = b.1.take i) (hne : a.1[i]'(by rw [a.2]; exact hi) ≠ b.1[i]'(by rw [b.2]; exact hi)) : dlt a b = decide (a.1[i]'(by rw [a.2]; exact hi) < b.1[i]'(by rw [b.2]; exact hi)) :=
  slt_take _ _ h hne
theorem dlt_same {a b : Dig} (h : a.1.take 32 = b.1.take 32) : dlt a b = false := by
  rw [List.take_of_length_le (by rw [a.2]; exact Nat.le_refl _), List.take_of_length_le (by rw [b.2]; exact Nat.le_refl _)] at h
  unfold dlt; rw [h]; exact slt_self _
theorem dg_get {d : Dig} {i : Nat} (h : i < 32) : CV.getAt i 1 false (dg d) = some (u8 (d.1[i]'(by rw [d.2]; exact h))) := us_get (l := d.1) (by rw [d.2]; exact h)
theorem u8_ne (a b : UInt8) : ((a.toNat : Int) != (b.toNat : Int)) = !(a == b) := by
  rw [Bool.eq_iff_iff]
  simp only [bne_iff_ne, ne_eq, Bool.not_eq_true', beq_eq_false_iff_ne]
  constructor
  · intro h e; exact h (by rw [e])
  · intro h e; exact h (UInt8.toNat_inj.1 (by omega))
theorem u8_lt (a b : UInt8) : decide ((a.toNat : Int) < (b.toNat : Int)) = decide (a < b) := by
  rw [Bool.eq_iff_iff]
  simp [UInt8.lt_iff_toNat_lt]
end Go.Pl

namespace Go.Hl
open Go

/-- A function that is handed a box by its address, and hands back a new row, the caller's own. -/
def HBoxOwn (P : Program) (f : FuncId) (T : TypeId) (v : CV) (e : TypeId) (sz : Nat) (R : List CV → CV → Prop) : Prop :=
  HFn P f [.ptr 0 0] 1 (fob [(0, .box T (.c v))]) (fun r ob' => ∃ l v', r = .own 1 l.length ∧ ob' = fob [(0, .box T (.c v')), (1, .row e sz l)] ∧ R l v')
/-- A function that reads a row of the caller's own, and leaves it. -/
def HLend (P : Program) (f : FuncId) (pre post : List CV) (e : TypeId) (sz : Nat) (l : List CV) (R : CV → Prop) : Prop :=
  HFn P f (pre.map .c ++ .own 0 l.length :: post.map .c) 1 (fob [(0, .row e sz l)]) (fun r ob' => ∃ u, r = .c u ∧ ob' = fob [(0, .row e sz l)] ∧ R u)

theorem hret_own {ob : Ob} {T e : TypeId} {sz : Nat} {l : List CV} {R : List CV → CV → Prop} {w : HV} {id n : Nat} (v' : CV) (hb : ob 0 = some (.box T w)) (hw : (w.close ob []).norm = .c v') (hr : ob id = some (.row e sz l)) (hn : n = l.length) (hid : id ≠ 0) (hR : R l v') :
    HRet 1 (.own id n) ob (fun r ob' => ∃ l v', r = .own 1 l.length ∧ ob' = fob [(0, .box T (.c v')), (1, .row e sz l)] ∧ R l v') := by
  let τ : Nat → Nat := fun j => if j = 0 then 0 else if j = 1 then id else id + j
  subst hn
  refine ⟨[], τ, .own 1 l.length, fob [(0, .box T (.c v')), (1, .row e sz l)], ⟨l, v', rfl, rfl, hR⟩, ?_, fun j hj => ?_, fun i j _ _ h => ?_, by simp [HV.men], fun j o ho => ?_⟩
  · simp only [HV.close, List.contains_nil, Bool.false_eq_true, if_false, HV.norm, HV.toC, HV.ren]
    rfl
  · have : j = 0 := by omega
    subst this; rfl
  · simp only [τ] at h
    split at h <;> split at h <;> (try split at h) <;> (try split at h) <;> omega
  · simp only [fob_at, fob_nil] at ho
    split at ho
    · rename_i e0; subst e0; cases ho
      refine ⟨by omega, by simp [HO.men, HV.men], by simp, .box T w, hb, ?_⟩
      simp only [hw]; rfl
    · split at ho
      · rename_i e0; subst e0; cases ho
        exact ⟨by omega, trivial, by simp, .row e sz l, hr, rfl⟩
      · cases ho

theorem hret_lend {ob : Ob} {r : HV} {e : TypeId} {sz : Nat} {l : List CV} {R : CV → Prop} (cl : List Nat) (u : CV) (h : (r.close ob cl).norm = .c u) (hb : ob 0 = some (.row e sz l)) (h0 : 0 ∉ cl) (hR : R u) :
    HRet 1 r ob (fun r ob' => ∃ u, r = .c u ∧ ob' = fob [(0, .row e sz l)] ∧ R u) := by
  refine ⟨cl, id, .c u, fob [(0, .row e sz l)], ⟨u, rfl, rfl, hR⟩, by rw [h]; rfl, fun _ _ => rfl, fun _ _ _ _ h => h, by simp [HV.men], fun j o ho => ?_⟩
  simp only [fob_at, fob_nil] at ho
  split at ho
  · rename_i e0; subst e0; cases ho
    exact ⟨by omega, trivial, h0, .row e sz l, hb, rfl⟩
  · cases ho

section
variable {P : Program} {av : List Nat} {f : FuncId} {ob : Ob} {nid id n : Nat} {K : HV → Ob → Prop} {T e : TypeId} {sz : Nat} {v : CV} {l : List CV}
theorem call_box_own {R : List CV → CV → Prop} (h : HBoxOwn P f T v e sz R) (hid : ob id = some (.box T (.c v))) (hav : id ∉ av) (hfree : Free4 ob nid) (hK : ∀ l v', R l v' → K (.own nid l.length) (upd (upd ob id (some (.box T (.c v')))) nid (some (.row e sz l)))) :
    HCall P av f [.ptr id 0] ob nid K := by
  have h0 : sub [id] nid 0 = id := rfl
  have h1 : sub [id] nid 1 = nid := by simp [sub]
  refine ⟨[id], _, _, _, h, locOk_box T v [], ⟨by simp, by simpa using hav⟩, by simp only [HV.renL, HV.ren, h0], fun j o hj => ?_, fun r lob' hR _ => ?_⟩
  · simp only [fob_at, fob_nil] at hj
    split at hj
    · rename_i e; subst e; cases hj; simpa [HO.ren, HV.ren] using hid
    · cases hj
  · obtain ⟨l, v', rfl, rfl, hR⟩ := hR
    have e2 : obAfter ob [id] nid (fob [(0, .box T (.c v')), (1, .row e sz l)]) = upd (upd ob id (some (.box T (.c v')))) nid (some (.row e sz l)) := by
      funext i
      by_cases e0 : i = id
      · subst e0
        have hne : i ≠ nid := by rintro rfl; rw [hfree.1] at hid; cases hid
        rw [upd_ne _ _ hne, upd_same]
        simp only [obAfter, List.findIdx?_cons, beq_self_eq_true, if_true, fob_at, Option.map_some, HO.ren, HV.ren]
      · have e' : (id == i) = false := by simp; exact fun h => e0 h.symm
        simp only [obAfter, List.findIdx?_cons, e', List.findIdx?_nil, Option.map_none]
        simp only [Bool.false_eq_true, if_false]
        split
        · rename_i hr
          by_cases hin : i = nid
          · subst hin
            rw [upd_same]
            simp [fob_at, HO.ren]
          · have h2 : [id].length + (i - nid) ≠ 0 := by simp
            have h3 : [id].length + (i - nid) ≠ 1 := by simp; omega
            rw [fob_at, if_neg h2, fob_at, if_neg h3, fob_nil, upd_ne _ _ hin, upd_ne _ _ e0]
            exact (hfree.all i hr.1 hr.2).symm
        · rename_i hr
          have hin : i ≠ nid := by omega
          rw [upd_ne _ _ hin, upd_ne _ _ e0]
    rw [e2]
    simp only [HV.ren, h1]
    exact hK l v' hR

theorem locOk_lend (pre post : List CV) (e : TypeId) (sz : Nat) (l : List CV) : LocOk 1 (pre.map HV.c ++ HV.own 0 l.length :: post.map HV.c) (fob [(0, .row e sz l)]) := by
  have := locOk_take e sz l.length l
  refine ⟨this.all, this.none, ?_⟩
  rw [HV.menL_append]
  exact ⟨HV.menL_c, by simp only [HV.menL, HV.men]; exact ⟨by omega, HV.menL_c⟩⟩
theorem call_lend {R : CV → Prop} (pre post : List CV) (h : HLend P f pre post e sz l R) (hid : ob id = some (.row e sz l)) (hn : n = l.length) (hav : id ∉ av) (hfree : Free4 ob nid) (hK : ∀ u, R u → K (.c u) ob) :
    HCall P av f (pre.map .c ++ .own id n :: post.map .c) ob nid K := by
  have h0 : sub [id] nid 0 = id := rfl
  subst hn
  refine ⟨[id], _, _, _, h, locOk_lend pre post e sz l, ⟨by simp, by simpa using hav⟩, by simp only [renL_append, renL_c', HV.renL, HV.ren, h0], fun j o hj => ?_, fun r lob' hR _ => ?_⟩
  · simp only [fob_at, fob_nil] at hj
    split at hj
    · rename_i e; subst e; cases hj; simpa [HO.ren] using hid
    · cases hj
  · obtain ⟨u, rfl, rfl, hR⟩ := hR
    rw [obAfter_same (by simp) (fun j hj => ?_) (fun j hj => ?_) hfree.all]
    · exact hK u hR
    · have : j = 0 := by simp at hj; omega
      subst this; exact ⟨_, rfl, by simpa [HO.ren] using hid⟩
    · simp only [List.length_cons, List.length_nil] at hj
      rw [fob_at, if_neg (by omega)]; rfl
end
/-- Functions that hand back two closed values. -/
def HPure2 (P : Program) (f : FuncId) (args : List CV) (R : CV → CV → Prop) : Prop :=
  HFn P f (args.map .c) 0 none0 (fun r ob' => ∃ u v, r = .tup [.c u, .c v] ∧ R u v ∧ ob' = none0)
theorem hret_pure2 {ob : Ob} {r : HV} {R : CV → CV → Prop} (cl : List Nat) (u v : CV) (h : (r.close ob cl).norm = .tup [.c u, .c v]) (hR : R u v) : HRet 0 r ob (fun r ob' => ∃ u v, r = .tup [.c u, .c v] ∧ R u v ∧ ob' = none0) :=
  ⟨cl, id, .tup [.c u, .c v], none0, ⟨u, v, rfl, hR, rfl⟩, by rw [h]; rfl, fun _ h => by omega, fun _ _ _ _ h => h, by simp [HV.men, HV.menL], fun j o h => by simp [none0] at h⟩
theorem call_pure2 {P : Program} {av : List Nat} {f : FuncId} {ob : Ob} {nid : Nat} {K : HV → Ob → Prop} {args : List CV} {R : CV → CV → Prop} (h : HPure2 P f args R) (hfree : Free4 ob nid) (hK : ∀ u v, R u v → K (.tup [.c u, .c v]) ob) :
    HCall P av f (args.map .c) ob nid K := by
  refine ⟨[], args.map .c, none0, _, h, locOk_nil args, ⟨List.nodup_nil, by simp⟩, (HV.renL_c _ _).symm, fun j o h => by simp [none0] at h, fun r lob' hR _ => ?_⟩
  obtain ⟨u, v, rfl, hv, rfl⟩ := hR
  rw [obAfter_nil hfree.all]
  exact hK u v hv
end Go.Hl

namespace Go.Proofs.YtbdgmfbhiihcfaaGreat
open Go Go.Hl Go.Pl
set_option maxRecDepth 10000
set_option maxHeartbeats 2000000
set_option linter.unusedSimpArgs false
set_option linter.unusedVariables false

theorem within_ok (lo n : Int) : HPure Tryz.prog 43 [.int .i64 lo, .int .i64 n] (fun v => v = .bool (decide (lo ≤ n) && decide (n ≤ maxN))) := by
  refine hfn_walk Tryz.func43 rfl (by kernel_rfl) (locOk_nil _) (Nat.le_of_ble_eq_true rfl) ?_
  refine hw_seq fun K hK => hw_region (by kernel_rfl) ?_
  simp (maxSteps := 4000000) only [↓sP, sA, tyS, simprocAttr]
  repeat refine AI ?_
  refine hK _ _ _ ?_
  clear hK K
  refine hw_seq fun K hK => hw_region (by kernel_rfl) ?_
  simp only [sR, simprocAttr]
  iterate 4
    (refine hlex_step (g := none) rfl rfl fun K' hK' => ?_; simp only [sH, ↓sP, sA, tyS, simprocAttr]; (repeat refine AI ?_); refine hK' _ _ ?_; clear hK' K')
  refine hlex_cases 7 rfl (fun h1_7 => ?_) (fun h1_7 => ?_)
  · iterate 2
      (refine hlex_step (g := some (8, true)) rfl rfl fun K' hK' => ?_; simp only [sH, ↓sP, sA, tyS, simprocAttr, h1_7]; (repeat refine AI ?_); refine hK' _ _ ?_; clear hK' K')
    iterate 2
      (refine hlex_step (g := none) rfl rfl fun K' hK' => ?_; simp only [sH, ↓sP, sA, tyS, simprocAttr, h1_7]; (repeat refine AI ?_); refine hK' _ _ ?_; clear hK' K')
    simp only [sE, ↓reduceIte, simprocAttr]
    repeat refine AI ?_
    refine hK _ _ _ ?_
    clear hK K
    refine hw_ret ?_
    simp (maxSteps := 4000000) only [hpost, Tryz.results43, hresL, hres1, tupOf, ↓sP, sA, tyS, simprocAttr]
    refine hret_pure [] (.bool _) rfl ?_
    simp [h1_7, maxN]
    all_goals first | rfl | simp_all
  · iterate 2
      (refine hlex_step (g := some (8, true)) rfl rfl fun K' hK' => ?_; simp only [sH, ↓sP, sA, tyS, simprocAttr, h1_7]; (repeat refine AI ?_); refine hK' _ _ ?_; clear hK' K')
    iterate 2
      (refine hlex_step (g := none) rfl rfl fun K' hK' => ?_; simp only [sH, ↓sP, sA, tyS, simprocAttr, h1_7]; (repeat refine AI ?_); refine hK' _ _ ?_; clear hK' K')
    simp only [sE, ↓reduceIte, simprocAttr]
    repeat refine AI ?_
    refine hK _ _ _ ?_
    clear hK K
    refine hw_ret ?_
    simp (maxSteps := 4000000) only [hpost, Tryz.results43, hresL, hres1, tupOf, ↓sP, sA, tyS, simprocAttr]
    refine hret_pure [] (.bool _) rfl ?_
    simp [h1_7, maxN]
    all_goals first | rfl | simp_all


theorem instant_ok (n : Int) : HPure Tryz.prog 37 [.int .i64 n] (fun v => v = .bool (inN n)) := by
  refine hfn_walk Tryz.func37 rfl (by kernel_rfl) (locOk_nil _) (Nat.le_of_ble_eq_true rfl) ?_
  refine hw_seq fun K hK => hw_region (by kernel_rfl) ?_
  simp (maxSteps := 4000000) only [↓sP, sA, tyS, simprocAttr]
  repeat refine AI ?_
  refine hK _ _ _ ?_
  clear hK K
  refine hw_seq fun K hK => hw_region (by kernel_rfl) ?_
  simp only [sR, simprocAttr]
  iterate 3
    (refine hlex_step (g := none) rfl rfl fun K' hK' => ?_; simp only [sH, ↓sP, sA, tyS, simprocAttr]; (repeat refine AI ?_); refine hK' _ _ ?_; clear hK' K')
  refine hlex_cases 4 rfl (fun h1_4 => ?_) (fun h1_4 => ?_)
  · iterate 2
      (refine hlex_step (g := some (5, true)) rfl rfl fun K' hK' => ?_; simp only [sH, ↓sP, sA, tyS, simprocAttr, h1_4]; (repeat refine AI ?_); refine hK' _ _ ?_; clear hK' K')
    iterate 2
      (refine hlex_step (g := none) rfl rfl fun K' hK' => ?_; simp only [sH, ↓sP, sA, tyS, simprocAttr, h1_4]; (repeat refine AI ?_); refine hK' _ _ ?_; clear hK' K')
    simp only [sE, ↓reduceIte, simprocAttr]
    repeat refine AI ?_
    refine hK _ _ _ ?_
    clear hK K
    refine hw_ret ?_
    simp (maxSteps := 4000000) only [hpost, Tryz.results37, hresL, hres1, tupOf, ↓sP, sA, tyS, simprocAttr]
    refine hret_pure [] (.bool _) rfl ?_
    simp [h1_4, inN, maxN]
    all_goals first | rfl | simp_all
  · iterate 2
      (refine hlex_step (g := some (5, true)) rfl rfl fun K' hK' => ?_; simp only [sH, ↓sP, sA, tyS, simprocAttr, h1_4]; (repeat refine AI ?_); refine hK' _ _ ?_; clear hK' K')
    iterate 2
      (refine hlex_step (g := none) rfl rfl fun K' hK' => ?_; simp only [sH, ↓sP, sA, tyS, simprocAttr, h1_4]; (repeat refine AI ?_); refine hK' _ _ ?_; clear hK' K')
    simp only [sE, ↓reduceIte, simprocAttr]
    repeat refine AI ?_
    refine hK _ _ _ ?_
    clear hK K
    refine hw_ret ?_
    simp (maxSteps := 4000000) only [hpost, Tryz.results37, hresL, hres1, tupOf, ↓sP, sA, tyS, simprocAttr]
    refine hret_pure [] (.bool _) rfl ?_
    simp [h1_4, inN, maxN]
    all_goals first | rfl | simp_all


theorem height_ok (n : Int) : HPure Tryz.prog 83 [.int .i64 n] (fun v => v = .bool (decide (0 ≤ n) && decide (n ≤ 6))) := by
  refine hfn_walk Tryz.func83 rfl (by kernel_rfl) (locOk_nil _) (Nat.le_of_ble_eq_true rfl) ?_
  refine hw_seq fun K hK => hw_region (by kernel_rfl) ?_
  simp (maxSteps := 4000000) only [↓sP, sA, tyS, simprocAttr]
  repeat refine AI ?_
  refine hK _ _ _ ?_
  clear hK K
  refine hw_seq fun K hK => hw_region (by kernel_rfl) ?_
  simp only [sR, simprocAttr]
  iterate 3
    (refine hlex_step (g := none) rfl rfl fun K' hK' => ?_; simp only [sH, ↓sP, sA, tyS, simprocAttr]; (repeat refine AI ?_); refine hK' _ _ ?_; clear hK' K')
  refine hlex_cases 4 rfl (fun h1_4 => ?_) (fun h1_4 => ?_)
  · iterate 2
      (refine hlex_step (g := some (5, true)) rfl rfl fun K' hK' => ?_; simp only [sH, ↓sP, sA, tyS, simprocAttr, h1_4]; (repeat refine AI ?_); refine hK' _ _ ?_; clear hK' K')
    iterate 2
      (refine hlex_step (g := none) rfl rfl fun K' hK' => ?_; simp only [sH, ↓sP, sA, tyS, simprocAttr, h1_4]; (repeat refine AI ?_); refine hK' _ _ ?_; clear hK' K')
    simp only [sE, ↓reduceIte, simprocAttr]
    repeat refine AI ?_
    refine hK _ _ _ ?_
    clear hK K
    refine hw_ret ?_
    simp (maxSteps := 4000000) only [hpost, Tryz.results83, hresL, hres1, tupOf, ↓sP, sA, tyS, simprocAttr]
    refine hret_pure [] (.bool _) rfl ?_
    simp [h1_4]
    all_goals first | rfl | simp_all
  · iterate 2
      (refine hlex_step (g := some (5, true)) rfl rfl fun K' hK' => ?_; simp only [sH, ↓sP, sA, tyS, simprocAttr, h1_4]; (repeat refine AI ?_); refine hK' _ _ ?_; clear hK' K')
    iterate 2
      (refine hlex_step (g := none) rfl rfl fun K' hK' => ?_; simp only [sH, ↓sP, sA, tyS, simprocAttr, h1_4]; (repeat refine AI ?_); refine hK' _ _ ?_; clear hK' K')
    simp only [sE, ↓reduceIte, simprocAttr]
    repeat refine AI ?_
    refine hK _ _ _ ?_
    clear hK K
    refine hw_ret ?_
    simp (maxSteps := 4000000) only [hpost, Tryz.results83, hresL, hres1, tupOf, ↓sP, sA, tyS, simprocAttr]
    refine hret_pure [] (.bool _) rfl ?_
    simp [h1_4]
    all_goals first | rfl | simp_all


theorem pvalid_ok (p : Pk) : HPure Tryz.prog 63 [p.cv] (fun v => v = .bool (decide (0 ≤ p.h) && decide (p.h ≤ 6))) := by
  refine hfn_walk Tryz.func63 rfl (by kernel_rfl) (locOk_nil _) (Nat.le_of_ble_eq_true rfl) ?_
  refine hw_seq fun K hK => hw_region (by kernel_rfl) ?_
  simp (maxSteps := 4000000) only [↓sP, sA, tyS, simprocAttr]
  repeat refine AI ?_
  refine hK _ _ _ ?_
  clear hK K
  refine hw_seq fun K hK => hw_region (by kernel_rfl) ?_
  simp only [sR, simprocAttr]
  iterate 2
    (refine hlex_step (g := none) rfl rfl fun K' hK' => ?_; simp only [sH, ↓sP, sA, tyS, simprocAttr]; (repeat refine AI ?_); refine hK' _ _ ?_; clear hK' K')
  refine hlex_step (g := none) rfl rfl fun K' hK' => ?_
  simp (maxSteps := 4000000) only [sH, ↓sP, sA, tyS, simprocAttr]
  refine call_pure (args := [_]) (height_ok p.h) ⟨rfl, rfl, rfl, rfl⟩ ?_
  rintro u rfl
  repeat refine AI ?_
  refine hK' _ _ ?_
  clear hK' K'
  refine hlex_step (g := none) rfl rfl fun K' hK' => ?_
  simp (maxSteps := 4000000) only [sH, ↓sP, sA, tyS, simprocAttr]
  repeat refine AI ?_
  refine hK' _ _ ?_
  clear hK' K'
  simp only [sE, ↓reduceIte, simprocAttr]
  repeat refine AI ?_
  refine hK _ _ _ ?_
  clear hK K
  refine hw_ret ?_
  simp (maxSteps := 4000000) only [hpost, Tryz.results63, hresL, hres1, tupOf, ↓sP, sA, tyS, simprocAttr]
  exact hret_pure [] (.bool _) rfl rfl


theorem pvalid9_ok (p : Pk) : HPure Tryz.prog 58 [p.cv] (fun v => v = .bool (decide (0 ≤ p.h) && decide (p.h ≤ 6))) := by
  refine hfn_walk Tryz.func58 rfl (by kernel_rfl) (locOk_nil _) (Nat.le_of_ble_eq_true rfl) ?_
  refine hw_seq fun K hK => hw_region (by kernel_rfl) ?_
  simp (maxSteps := 4000000) only [↓sP, sA, tyS, simprocAttr]
  repeat refine AI ?_
  refine hK _ _ _ ?_
  clear hK K
  refine hw_seq fun K hK => hw_region (by kernel_rfl) ?_
  simp only [sR, simprocAttr]
  iterate 4
    (refine hlex_step (g := none) rfl rfl fun K' hK' => ?_; simp only [sH, ↓sP, sA, tyS, simprocAttr]; (repeat refine AI ?_); refine hK' _ _ ?_; clear hK' K')
  refine hlex_cases 5 rfl (fun h1_5 => ?_) (fun h1_5 => ?_)
  · iterate 3
      (refine hlex_step (g := some (6, true)) rfl rfl fun K' hK' => ?_; simp only [sH, ↓sP, sA, tyS, simprocAttr, h1_5]; (repeat refine AI ?_); refine hK' _ _ ?_; clear hK' K')
    iterate 2
      (refine hlex_step (g := none) rfl rfl fun K' hK' => ?_; simp only [sH, ↓sP, sA, tyS, simprocAttr, h1_5]; (repeat refine AI ?_); refine hK' _ _ ?_; clear hK' K')
    simp only [sE, ↓reduceIte, simprocAttr]
    repeat refine AI ?_
    refine hK _ _ _ ?_
    clear hK K
    refine hw_ret ?_
    simp (maxSteps := 4000000) only [hpost, Tryz.results58, hresL, hres1, tupOf, ↓sP, sA, tyS, simprocAttr]
    refine hret_pure [] (.bool _) rfl ?_
    simp [h1_5]
    all_goals first | rfl | simp_all
  · iterate 3
      (refine hlex_step (g := some (6, true)) rfl rfl fun K' hK' => ?_; simp only [sH, ↓sP, sA, tyS, simprocAttr, h1_5]; (repeat refine AI ?_); refine hK' _ _ ?_; clear hK' K')
    iterate 2
      (refine hlex_step (g := none) rfl rfl fun K' hK' => ?_; simp only [sH, ↓sP, sA, tyS, simprocAttr, h1_5]; (repeat refine AI ?_); refine hK' _ _ ?_; clear hK' K')
    simp only [sE, ↓reduceIte, simprocAttr]
    repeat refine AI ?_
    refine hK _ _ _ ?_
    clear hK K
    refine hw_ret ?_
    simp (maxSteps := 4000000) only [hpost, Tryz.results58, hresL, hres1, tupOf, ↓sP, sA, tyS, simprocAttr]
    refine hret_pure [] (.bool _) rfl ?_
    simp [h1_5]
    all_goals first | rfl | simp_all


theorem need_ok (r : Rt) (w : Word) (hl : r.q.length < 2 ^ 40) : HPure Tryz.prog 47 [r.cv, .str w] (fun v => v = .int .i64 (need r.q w)) := by
  refine hfn_walk Tryz.func47 rfl (by kernel_rfl) (locOk_nil _) (Nat.le_of_ble_eq_true rfl) ?_
  refine hw_seq fun K hK => hw_region (by kernel_rfl) ?_
  simp (maxSteps := 4000000) only [↓sP, sA, tyS, simprocAttr]
  repeat refine AI ?_
  refine hK _ _ _ ?_
  clear hK K
  refine hw_seq fun K hK => ?_
  refine hw_seq fun K hK => hw_region (by kernel_rfl) ?_
  simp only [sR, simprocAttr]
  iterate 4
    (refine hlex_step (g := none) rfl rfl fun K' hK' => ?_; simp only [sH, ↓sP, sA, tyS, simprocAttr]; (repeat refine AI ?_); refine hK' _ _ ?_; clear hK' K')
  simp only [sE, ↓reduceIte, simprocAttr]
  repeat refine AI ?_
  refine hK _ _ _ ?_
  clear hK K
  refine hw_block ?_
  refine hw_loop (α := {i : Nat // i ≤ r.q.length ∧ ∀ x ∈ r.q.take i, (x.r == w) = false}) (fun i => (fin [(1, .c (.str w)), (8, .c (.slc (r.q.map Qt.cv))), (9, .c (.int .i64 r.q.length)), (10, .c (.int .i64 i.1))], fob [])) 100 (fun i => r.q.length - i.1) ⟨0, by omega, by simp⟩ (fits_fin (by omega) (by simp [FinOk, fin_at, finA_at, upd_at, HV.men, HV.menL, HV.norm, HV.toC, HV.toCL]) (by simp [FobOk, fob_at, upd_at, none0_at, gone, HO.men, HV.men, HV.menL, HV.norm, HV.toC, HV.toCL])) ?_
  rintro ⟨i, hi, h0⟩
  refine hw_seq fun K hK => hw_region (by kernel_rfl) ?_
  simp (maxSteps := 4000000) only [↓sP, sA, tyS, simprocAttr]
  repeat refine AI ?_
  refine hK _ _ _ ?_
  clear hK K
  refine hw_seq fun K hK => ?_
  refine hw_cond (b := decide ((i : Int) < r.q.length)) rfl (fun hb => ?_) (fun hb => ?_)
  · have hlt : i < r.q.length := by simpa using hb
    refine hw_skip ?_
    simp (maxSteps := 4000000) only [↓sP, sA, tyS, simprocAttr]
    repeat refine AI ?_
    refine hK _ _ _ ?_
    clear hK K
    refine hw_seq fun K hK => ?_
    refine hw_block ?_
    refine hw_seq fun K hK => hw_region (by kernel_rfl) ?_
    simp only [sR, simprocAttr]
    iterate 4
      (refine hlex_step (g := none) rfl rfl fun K' hK' => ?_; simp only [sH, ↓sP, sA, tyS, simprocAttr, Int.natCast_nonneg, Int.ofNat_lt, hlt, nth_map hlt]; (repeat refine AI ?_); refine hK' _ _ ?_; clear hK' K')
    simp only [sE, ↓reduceIte, simprocAttr]
    repeat refine AI ?_
    refine hK _ _ _ ?_
    clear hK K
    refine hw_seq fun K hK => hw_region (by kernel_rfl) ?_
    simp only [sR, simprocAttr]
    iterate 4
      (refine hlex_step (g := none) rfl rfl fun K' hK' => ?_; simp only [sH, ↓sP, sA, tyS, simprocAttr]; (repeat refine AI ?_); refine hK' _ _ ?_; clear hK' K')
    simp only [sE, ↓reduceIte, simprocAttr]
    repeat refine AI ?_
    refine hK _ _ _ ?_
    clear hK K
    refine hw_cond (b := r.q[i].r == w) rfl (fun hb => ?_) (fun hb => ?_)
    · refine hw_seq fun K hK => hw_region (by kernel_rfl) ?_
      simp (maxSteps := 4000000) only [↓sP, sA, tyS, simprocAttr]
      repeat refine AI ?_
      refine hK _ _ _ ?_
      clear hK K
      refine hw_ret ?_
      simp (maxSteps := 4000000) only [hpost, Tryz.results47, hresL, hres1, tupOf, ↓sP, sA, tyS, simprocAttr]
      exact hret_pure [] (.int .i64 r.q[i].n) rfl (by rw [need_hit hlt hb h0])
    · refine hw_skip ?_
      simp (maxSteps := 4000000) only [↓sP, sA, tyS, simprocAttr]
      repeat refine AI ?_
      refine hK _ _ _ ?_
      clear hK K
      refine hw_region (by kernel_rfl) ?_
      simp (maxSteps := 4000000) only [↓sP, sA, tyS, simprocAttr, IntWalk.i64_in _ (show -9223372036854775808 ≤ (i : Int) + 1 ∧ (i : Int) + 1 ≤ 9223372036854775807 by omega)]
      refine ⟨⟨i + 1, hlt, take_miss (p := fun x => x.r == w) hlt hb h0⟩, fits_fin (by omega) (by simp [FinOk, fin_at, finA_at, upd_at, HV.men, HV.menL, HV.norm, HV.toC, HV.toCL]) (by simp [FobOk, fob_at, upd_at, none0_at, gone, HO.men, HV.men, HV.menL, HV.norm, HV.toC, HV.toCL]), ?_⟩
      show r.q.length - (i + 1) < r.q.length - i
      omega
  · refine hw_exit ?_
    simp (maxSteps := 4000000) only [↓sP, sA, tyS, simprocAttr]
    clear hK K
    repeat refine AI ?_
    refine hK _ _ _ ?_
    clear hK K
    refine hw_seq fun K hK => hw_region (by kernel_rfl) ?_
    simp (maxSteps := 4000000) only [↓sP, sA, tyS, simprocAttr]
    repeat refine AI ?_
    refine hK _ _ _ ?_
    clear hK K
    refine hw_ret ?_
    simp (maxSteps := 4000000) only [hpost, Tryz.results47, hresL, hres1, tupOf, ↓sP, sA, tyS, simprocAttr]
    have hei : i = r.q.length := by simp at hb; omega
    subst hei
    exact hret_pure [] (.int .i64 0) rfl (by rw [need_miss (by simpa using h0)])


theorem quota_ok (r : Rt) (w : Word) (hl : r.q.length < 2 ^ 40) : HPure Tryz.prog 40 [r.cv, .str w] (fun v => v = .int .i64 (need r.q w)) := by
  refine hfn_walk Tryz.func40 rfl (by kernel_rfl) (locOk_nil _) (Nat.le_of_ble_eq_true rfl) ?_
  refine hw_seq fun K hK => hw_region (by kernel_rfl) ?_
  simp (maxSteps := 4000000) only [↓sP, sA, tyS, simprocAttr]
  repeat refine AI ?_
  refine hK _ _ _ ?_
  clear hK K
  refine hw_seq fun K hK => ?_
  refine hw_seq fun K hK => hw_region (by kernel_rfl) ?_
  simp (maxSteps := 4000000) only [↓sP, sA, tyS, simprocAttr]
  repeat refine AI ?_
  refine hK _ _ _ ?_
  clear hK K
  refine hw_block ?_
  refine hw_loop (α := {i : Nat // i ≤ r.q.length ∧ ∀ x ∈ r.q.take i, (x.r == w) = false}) (fun i => (fin [(1, .c (.str w)), (2, .ptr 0 0), (5, .c (.int .i64 i.1))], fob [(0, .box 30 (.c r.cv))])) 100 (fun i => r.q.length - i.1) ⟨0, by omega, by simp⟩ (fits_fin (by omega) (by simp [FinOk, fin_at, finA_at, upd_at, HV.men, HV.menL, HV.norm, HV.toC, HV.toCL]) (by simp [FobOk, fob_at, upd_at, none0_at, gone, HO.men, HV.men, HV.menL, HV.norm, HV.toC, HV.toCL])) ?_
  rintro ⟨i, hi, h0⟩
  refine hw_seq fun K hK => ?_
  refine hw_seq fun K hK => hw_region (by kernel_rfl) ?_
  simp only [sR, simprocAttr]
  iterate 5
    (refine hlex_step (g := none) rfl rfl fun K' hK' => ?_; simp only [sH, ↓sP, sA, tyS, simprocAttr]; (repeat refine AI ?_); refine hK' _ _ ?_; clear hK' K')
  simp only [sE, ↓reduceIte, simprocAttr]
  repeat refine AI ?_
  refine hK _ _ _ ?_
  clear hK K
  refine hw_cond (b := decide ((i : Int) < r.q.length)) rfl (fun hb => ?_) (fun hb => ?_)
  · have hlt : i < r.q.length := by simpa using hb
    refine hw_skip ?_
    simp (maxSteps := 4000000) only [↓sP, sA, tyS, simprocAttr]
    repeat refine AI ?_
    refine hK _ _ _ ?_
    clear hK K
    refine hw_seq fun K hK => ?_
    refine hw_block ?_
    refine hw_seq fun K hK => hw_region (by kernel_rfl) ?_
    simp only [sR, simprocAttr]
    iterate 8
      (refine hlex_step (g := none) rfl rfl fun K' hK' => ?_; simp only [sH, ↓sP, sA, tyS, simprocAttr, Int.natCast_nonneg, Int.ofNat_lt, hlt, nth_map hlt]; (repeat refine AI ?_); refine hK' _ _ ?_; clear hK' K')
    simp only [sE, ↓reduceIte, simprocAttr]
    repeat refine AI ?_
    refine hK _ _ _ ?_
    clear hK K
    refine hw_cond (b := r.q[i].r == w) rfl (fun hb => ?_) (fun hb => ?_)
    · refine hw_seq fun K hK => hw_region (by kernel_rfl) ?_
      simp only [sR, simprocAttr]
      iterate 7
        (refine hlex_step (g := none) rfl rfl fun K' hK' => ?_; simp only [sH, ↓sP, sA, tyS, simprocAttr, Int.natCast_nonneg, Int.ofNat_lt, hlt, nth_map hlt]; (repeat refine AI ?_); refine hK' _ _ ?_; clear hK' K')
      simp only [sE, ↓reduceIte, simprocAttr]
      repeat refine AI ?_
      refine hK _ _ _ ?_
      clear hK K
      refine hw_ret ?_
      simp (maxSteps := 4000000) only [hpost, Tryz.results40, hresL, hres1, tupOf, ↓sP, sA, tyS, simprocAttr]
      exact hret_pure [] (.int .i64 r.q[i].n) rfl (by rw [need_hit hlt hb h0])
    · refine hw_skip ?_
      simp (maxSteps := 4000000) only [↓sP, sA, tyS, simprocAttr]
      repeat refine AI ?_
      refine hK _ _ _ ?_
      clear hK K
      refine hw_region (by kernel_rfl) ?_
      simp (maxSteps := 4000000) only [↓sP, sA, tyS, simprocAttr, IntWalk.i64_in _ (show -9223372036854775808 ≤ (i : Int) + 1 ∧ (i : Int) + 1 ≤ 9223372036854775807 by omega)]
      refine ⟨⟨i + 1, hlt, take_miss (p := fun x => x.r == w) hlt hb h0⟩, fits_fin (by omega) (by simp [FinOk, fin_at, finA_at, upd_at, HV.men, HV.menL, HV.norm, HV.toC, HV.toCL]) (by simp [FobOk, fob_at, upd_at, none0_at, gone, HO.men, HV.men, HV.menL, HV.norm, HV.toC, HV.toCL]), ?_⟩
      show r.q.length - (i + 1) < r.q.length - i
      omega
  · refine hw_exit ?_
    simp (maxSteps := 4000000) only [↓sP, sA, tyS, simprocAttr]
    clear hK K
    repeat refine AI ?_
    refine hK _ _ _ ?_
    clear hK K
    refine hw_seq fun K hK => hw_region (by kernel_rfl) ?_
    simp (maxSteps := 4000000) only [↓sP, sA, tyS, simprocAttr]
    repeat refine AI ?_
    refine hK _ _ _ ?_
    clear hK K
    refine hw_ret ?_
    simp (maxSteps := 4000000) only [hpost, Tryz.results40, hresL, hres1, tupOf, ↓sP, sA, tyS, simprocAttr]
    have hei : i = r.q.length := by simp at hb; omega
    subst hei
    exact hret_pure [] (.int .i64 0) rfl (by rw [need_miss (by simpa using h0)])


theorem revoked_ok (r : Rt) (d : Dig) (hl : r.x.length < 2 ^ 40) : HPure2 Tryz.prog 24 [r.cv, dg d] (fun u v => u = .int .i64 (revZ r.x d) ∧ v = .bool (revS r.x d)) := by
  refine hfn_walk Tryz.func24 rfl (by kernel_rfl) (locOk_nil _) (Nat.le_of_ble_eq_true rfl) ?_
  refine hw_seq fun K hK => hw_region (by kernel_rfl) ?_
  simp only [sR, simprocAttr]
  iterate 4
    (refine hlex_step (g := none) rfl rfl fun K' hK' => ?_; simp only [sH, ↓sP, sA, tyS, simprocAttr]; (repeat refine AI ?_); refine hK' _ _ ?_; clear hK' K')
  simp only [sE, ↓reduceIte, simprocAttr]
  repeat refine AI ?_
  refine hK _ _ _ ?_
  clear hK K
  refine hw_seq fun K hK => ?_
  refine hw_seq fun K hK => hw_region (by kernel_rfl) ?_
  simp only [sR, simprocAttr]
  iterate 4
    (refine hlex_step (g := none) rfl rfl fun K' hK' => ?_; simp only [sH, ↓sP, sA, tyS, simprocAttr]; (repeat refine AI ?_); refine hK' _ _ ?_; clear hK' K')
  simp only [sE, ↓reduceIte, simprocAttr]
  repeat refine AI ?_
  refine hK _ _ _ ?_
  clear hK K
  refine hw_block ?_
  refine hw_loop (α := {i : Nat // i ≤ r.x.length ∧ ∀ x ∈ r.x.take i, (x.k == d) = false}) (fun i => (fin [(3, .ptr 4 0), (9, .c (.slc (r.x.map Rv.cv))), (10, .c (.int .i64 r.x.length)), (11, .c (.int .i64 i.1))], fob [(4, .box 57 (.c (dg d)))])) 100 (fun i => r.x.length - i.1) ⟨0, by omega, by simp⟩ (fits_fin (by omega) (by simp [FinOk, fin_at, finA_at, upd_at, HV.men, HV.menL, HV.norm, HV.toC, HV.toCL]) (by simp [FobOk, fob_at, upd_at, none0_at, gone, HO.men, HV.men, HV.menL, HV.norm, HV.toC, HV.toCL])) ?_
  rintro ⟨i, hi, h0⟩
  refine hw_seq fun K hK => hw_region (by kernel_rfl) ?_
  simp (maxSteps := 4000000) only [↓sP, sA, tyS, simprocAttr]
  repeat refine AI ?_
  refine hK _ _ _ ?_
  clear hK K
  refine hw_seq fun K hK => ?_
  refine hw_cond (b := decide ((i : Int) < r.x.length)) rfl (fun hb => ?_) (fun hb => ?_)
  · have hlt : i < r.x.length := by simpa using hb
    refine hw_skip ?_
    simp (maxSteps := 4000000) only [↓sP, sA, tyS, simprocAttr]
    repeat refine AI ?_
    refine hK _ _ _ ?_
    clear hK K
    refine hw_seq fun K hK => ?_
    refine hw_block ?_
    refine hw_seq fun K hK => hw_region (by kernel_rfl) ?_
    simp only [sR, simprocAttr]
    iterate 4
      (refine hlex_step (g := none) rfl rfl fun K' hK' => ?_; simp only [sH, ↓sP, sA, tyS, simprocAttr, Int.natCast_nonneg, Int.ofNat_lt, hlt, nth_map hlt]; (repeat refine AI ?_); refine hK' _ _ ?_; clear hK' K')
    simp only [sE, ↓reduceIte, simprocAttr]
    repeat refine AI ?_
    refine hK _ _ _ ?_
    clear hK K
    refine hw_seq fun K hK => hw_region (by kernel_rfl) ?_
    simp only [sR, simprocAttr]
    iterate 4
      (refine hlex_step (g := none) rfl rfl fun K' hK' => ?_; simp only [sH, ↓sP, sA, tyS, simprocAttr]; (repeat refine AI ?_); refine hK' _ _ ?_; clear hK' K')
    simp only [sE, ↓reduceIte, simprocAttr]
    repeat refine AI ?_
    refine hK _ _ _ ?_
    clear hK K
    refine hw_cond (b := r.x[i].k == d) rfl (fun hb => ?_) (fun hb => ?_)
    · refine hw_seq fun K hK => hw_region (by kernel_rfl) ?_
      simp only [sR, simprocAttr]
      iterate 4
        (refine hlex_step (g := none) rfl rfl fun K' hK' => ?_; simp only [sH, ↓sP, sA, tyS, simprocAttr]; (repeat refine AI ?_); refine hK' _ _ ?_; clear hK' K')
      simp only [sE, ↓reduceIte, simprocAttr]
      repeat refine AI ?_
      refine hK _ _ _ ?_
      clear hK K
      refine hw_ret ?_
      simp (maxSteps := 4000000) only [hpost, Tryz.results24, hresL, hres1, tupOf, ↓sP, sA, tyS, simprocAttr]
      exact hret_pure2 [] (.int .i64 r.x[i].t) (.bool true) rfl ⟨by unfold revZ; rw [rev_hit hlt hb h0]; rfl, by unfold revS; rw [rev_hit hlt hb h0]; rfl⟩
    · refine hw_skip ?_
      simp (maxSteps := 4000000) only [↓sP, sA, tyS, simprocAttr]
      repeat refine AI ?_
      refine hK _ _ _ ?_
      clear hK K
      refine hw_region (by kernel_rfl) ?_
      simp (maxSteps := 4000000) only [↓sP, sA, tyS, simprocAttr, IntWalk.i64_in _ (show -9223372036854775808 ≤ (i : Int) + 1 ∧ (i : Int) + 1 ≤ 9223372036854775807 by omega)]
      refine ⟨⟨i + 1, hlt, take_miss (p := fun x => x.k == d) hlt hb h0⟩, fits_fin (by omega) (by simp [FinOk, fin_at, finA_at, upd_at, HV.men, HV.menL, HV.norm, HV.toC, HV.toCL]) (by simp [FobOk, fob_at, upd_at, none0_at, gone, HO.men, HV.men, HV.menL, HV.norm, HV.toC, HV.toCL]), ?_⟩
      show r.x.length - (i + 1) < r.x.length - i
      omega
  · refine hw_exit ?_
    simp (maxSteps := 4000000) only [↓sP, sA, tyS, simprocAttr]
    clear hK K
    repeat refine AI ?_
    refine hK _ _ _ ?_
    clear hK K
    refine hw_seq fun K hK => hw_region (by kernel_rfl) ?_
    simp (maxSteps := 4000000) only [↓sP, sA, tyS, simprocAttr]
    repeat refine AI ?_
    refine hK _ _ _ ?_
    clear hK K
    refine hw_ret ?_
    simp (maxSteps := 4000000) only [hpost, Tryz.results24, hresL, hres1, tupOf, ↓sP, sA, tyS, simprocAttr]
    have hei : i = r.x.length := by simp at hb; omega
    subst hei
    have hm := rev_miss (l := r.x) (d := d) (by simpa using h0)
    exact hret_pure2 [] (.int .i64 0) (.bool false) rfl ⟨by unfold revZ; rw [hm]; rfl, by unfold revS; rw [hm]; rfl⟩


theorem hasd_ok (l : List Dig) (d : Dig) (hl : l.length < 2 ^ 40) : HPure Tryz.prog 42 [.slc (l.map dg), dg d] (fun v => v = .bool (l.contains d)) := by
  refine hfn_walk Tryz.func42 rfl (by kernel_rfl) (locOk_nil _) (Nat.le_of_ble_eq_true rfl) ?_
  refine hw_seq fun K hK => hw_region (by kernel_rfl) ?_
  simp (maxSteps := 4000000) only [↓sP, sA, tyS, simprocAttr]
  repeat refine AI ?_
  refine hK _ _ _ ?_
  clear hK K
  refine hw_seq fun K hK => ?_
  refine hw_seq fun K hK => hw_region (by kernel_rfl) ?_
  simp (maxSteps := 4000000) only [↓sP, sA, tyS, simprocAttr]
  repeat refine AI ?_
  refine hK _ _ _ ?_
  clear hK K
  refine hw_block ?_
  refine hw_loop (α := {i : Nat // i ≤ l.length ∧ ∀ x ∈ l.take i, (x == d) = false}) (fun i => (fin [(0, .c (.slc (l.map dg))), (3, .ptr 0 0), (5, .c (.int .i64 i.1))], fob [(0, .box 57 (.c (dg d)))])) 100 (fun i => l.length - i.1) ⟨0, by omega, by simp⟩ (fits_fin (by omega) (by simp [FinOk, fin_at, finA_at, upd_at, HV.men, HV.menL, HV.norm, HV.toC, HV.toCL]) (by simp [FobOk, fob_at, upd_at, none0_at, gone, HO.men, HV.men, HV.menL, HV.norm, HV.toC, HV.toCL])) ?_
  rintro ⟨i, hi, h0⟩
  refine hw_seq fun K hK => ?_
  refine hw_seq fun K hK => hw_region (by kernel_rfl) ?_
  simp only [sR, simprocAttr]
  iterate 4
    (refine hlex_step (g := none) rfl rfl fun K' hK' => ?_; simp only [sH, ↓sP, sA, tyS, simprocAttr]; (repeat refine AI ?_); refine hK' _ _ ?_; clear hK' K')
  simp only [sE, ↓reduceIte, simprocAttr]
  repeat refine AI ?_
  refine hK _ _ _ ?_
  clear hK K
  refine hw_cond (b := decide ((i : Int) < l.length)) rfl (fun hb => ?_) (fun hb => ?_)
  · have hlt : i < l.length := by simpa using hb
    refine hw_skip ?_
    simp (maxSteps := 4000000) only [↓sP, sA, tyS, simprocAttr]
    repeat refine AI ?_
    refine hK _ _ _ ?_
    clear hK K
    refine hw_seq fun K hK => ?_
    refine hw_block ?_
    refine hw_seq fun K hK => hw_quiet mixed (by kernel_rfl) (by kernel_rfl) (by kernel_rfl) ?_
    simp only [sR, simprocAttr]
    iterate 6
      (refine hlex_step (g := none) rfl rfl fun K' hK' => ?_; simp only [sH, ↓sP, sA, tyS, simprocAttr, Int.natCast_nonneg, Int.ofNat_lt, hlt, nth_map hlt]; (repeat refine AI ?_); refine hK' _ _ ?_; clear hK' K')
    simp only [sE, ↓reduceIte, simprocAttr]
    repeat refine AI ?_
    refine hK _ _ _ ?_
    clear hK K
    refine hw_cond (b := l[i] == d) rfl (fun hb => ?_) (fun hb => ?_)
    · refine hw_seq fun K hK => hw_region (by kernel_rfl) ?_
      simp (maxSteps := 4000000) only [↓sP, sA, tyS, simprocAttr]
      repeat refine AI ?_
      refine hK _ _ _ ?_
      clear hK K
      refine hw_ret ?_
      simp (maxSteps := 4000000) only [hpost, Tryz.results42, hresL, hres1, tupOf, ↓sP, sA, tyS, simprocAttr]
      exact hret_pure [] (.bool true) rfl (by have := List.getElem_mem hlt; have e : l[i] = d := eq_of_beq hb
                                              rw [e] at this; simp [this])
    · refine hw_skip ?_
      simp (maxSteps := 4000000) only [↓sP, sA, tyS, simprocAttr]
      repeat refine AI ?_
      refine hK _ _ _ ?_
      clear hK K
      refine hw_region (by kernel_rfl) ?_
      simp (maxSteps := 4000000) only [↓sP, sA, tyS, simprocAttr, IntWalk.i64_in _ (show -9223372036854775808 ≤ (i : Int) + 1 ∧ (i : Int) + 1 ≤ 9223372036854775807 by omega)]
      refine ⟨⟨i + 1, hlt, take_miss (p := fun x => x == d) hlt hb h0⟩, fits_fin (by omega) (by simp [FinOk, fin_at, finA_at, upd_at, HV.men, HV.menL, HV.norm, HV.toC, HV.toCL]) (by simp [FobOk, fob_at, upd_at, none0_at, gone, HO.men, HV.men, HV.menL, HV.norm, HV.toC, HV.toCL]), ?_⟩
      show l.length - (i + 1) < l.length - i
      omega
  · refine hw_exit ?_
    simp (maxSteps := 4000000) only [↓sP, sA, tyS, simprocAttr]
    clear hK K
    repeat refine AI ?_
    refine hK _ _ _ ?_
    clear hK K
    refine hw_seq fun K hK => hw_region (by kernel_rfl) ?_
    simp (maxSteps := 4000000) only [↓sP, sA, tyS, simprocAttr]
    repeat refine AI ?_
    refine hK _ _ _ ?_
    clear hK K
    refine hw_ret ?_
    simp (maxSteps := 4000000) only [hpost, Tryz.results42, hresL, hres1, tupOf, ↓sP, sA, tyS, simprocAttr]
    have hei : i = l.length := by simp at hb; omega
    subst hei
    exact hret_pure [] (.bool false) rfl (by rw [List.take_length] at h0; have : d ∉ l := fun hm => by have := h0 d hm; simp at this
                                             simp [this])


theorem less_ok (a b : Dig) : HPure Tryz.prog 34 [dg a, dg b] (fun v => v = .bool (dlt a b)) := by
  refine hfn_walk Tryz.func34 rfl (by kernel_rfl) (locOk_nil _) (Nat.le_of_ble_eq_true rfl) ?_
  refine hw_seq fun K hK => hw_region (by kernel_rfl) ?_
  simp (maxSteps := 4000000) only [↓sP, sA, tyS, simprocAttr]
  repeat refine AI ?_
  refine hK _ _ _ ?_
  clear hK K
  refine hw_seq fun K hK => ?_
  refine hw_seq fun K hK => hw_region (by kernel_rfl) ?_
  simp (maxSteps := 4000000) only [↓sP, sA, tyS, simprocAttr]
  repeat refine AI ?_
  refine hK _ _ _ ?_
  clear hK K
  refine hw_block ?_
  refine hw_loop (α := {i : Nat // i ≤ 32 ∧ a.1.take i = b.1.take i}) (fun i => (fin [(2, .ptr 0 0), (3, .ptr 4 0), (5, .c (.int .i64 i.1))], fob [(0, .box 57 (.c (dg a))), (4, .box 57 (.c (dg b)))])) 100 (fun i => 32 - i.1) ⟨0, by omega, by simp⟩ (fits_fin (by omega) (by simp [FinOk, fin_at, finA_at, upd_at, HV.men, HV.menL, HV.norm, HV.toC, HV.toCL]) (by simp [FobOk, fob_at, upd_at, none0_at, gone, HO.men, HV.men, HV.menL, HV.norm, HV.toC, HV.toCL])) ?_
  rintro ⟨i, hi, h0⟩
  refine hw_seq fun K hK => ?_
  refine hw_seq fun K hK => hw_region (by kernel_rfl) ?_
  simp (maxSteps := 4000000) only [↓sP, sA, tyS, simprocAttr]
  repeat refine AI ?_
  refine hK _ _ _ ?_
  clear hK K
  refine hw_cond (b := decide ((i : Int) < 32)) rfl (fun hb => ?_) (fun hb => ?_)
  · have hlt : i < 32 := by simp at hb; omega
    have hlt' : (i : Int) < 32 := by omega
    have ha : i < a.1.length := by rw [a.2]; exact hlt
    have hb' : i < b.1.length := by rw [b.2]; exact hlt
    refine hw_skip ?_
    simp (maxSteps := 4000000) only [↓sP, sA, tyS, simprocAttr]
    repeat refine AI ?_
    refine hK _ _ _ ?_
    clear hK K
    refine hw_seq fun K hK => ?_
    refine hw_block ?_
    refine hw_seq fun K hK => hw_quiet mixed (by kernel_rfl) (by kernel_rfl) (by kernel_rfl) ?_
    simp only [sR, simprocAttr]
    iterate 7
      (refine hlex_step (g := none) rfl rfl fun K' hK' => ?_; simp only [sH, ↓sP, sA, tyS, simprocAttr, Int.natCast_nonneg, hlt', dg_get hlt, Nat.mul_one, u8]; (repeat refine AI ?_); refine hK' _ _ ?_; clear hK' K')
    simp only [sE, ↓reduceIte, simprocAttr]
    repeat refine AI ?_
    refine hK _ _ _ ?_
    clear hK K
    refine hw_cond (b := (((a.1[i]).toNat : Int) != ((b.1[i]).toNat : Int))) rfl (fun hb => ?_) (fun hb => ?_)
    · refine hw_seq fun K hK => hw_quiet mixed (by kernel_rfl) (by kernel_rfl) (by kernel_rfl) ?_
      simp only [sR, simprocAttr]
      iterate 8
        (refine hlex_step (g := none) rfl rfl fun K' hK' => ?_; simp only [sH, ↓sP, sA, tyS, simprocAttr, Int.natCast_nonneg, hlt', dg_get hlt, Nat.mul_one, u8]; (repeat refine AI ?_); refine hK' _ _ ?_; clear hK' K')
      simp only [sE, ↓reduceIte, simprocAttr]
      repeat refine AI ?_
      refine hK _ _ _ ?_
      clear hK K
      refine hw_ret ?_
      simp (maxSteps := 4000000) only [hpost, Tryz.results34, hresL, hres1, tupOf, ↓sP, sA, tyS, simprocAttr]
      rw [u8_ne] at hb
      exact hret_pure [] (.bool _) rfl (by rw [u8_lt, dlt_at hlt h0 (by simpa using hb)])
    · refine hw_skip ?_
      simp (maxSteps := 4000000) only [↓sP, sA, tyS, simprocAttr]
      repeat refine AI ?_
      refine hK _ _ _ ?_
      clear hK K
      refine hw_region (by kernel_rfl) ?_
      simp (maxSteps := 4000000) only [↓sP, sA, tyS, simprocAttr, IntWalk.i64_in _ (show -9223372036854775808 ≤ (i : Int) + 1 ∧ (i : Int) + 1 ≤ 9223372036854775807 by omega)]
      rw [u8_ne] at hb
      refine ⟨⟨i + 1, hlt, ?_⟩, fits_fin (by omega) (by simp [FinOk, fin_at, finA_at, upd_at, HV.men, HV.menL, HV.norm, HV.toC, HV.toCL]) (by simp [FobOk, fob_at, upd_at, none0_at, gone, HO.men, HV.men, HV.menL, HV.norm, HV.toC, HV.toCL]), ?_⟩
      · rw [List.take_succ_eq_append_getElem ha, List.take_succ_eq_append_getElem hb', h0]
        have : a.1[i] = b.1[i] := by simpa using hb
        rw [this]
      · show 32 - (i + 1) < 32 - i
        omega
  · refine hw_exit ?_
    simp (maxSteps := 4000000) only [↓sP, sA, tyS, simprocAttr]
    clear hK K
    repeat refine AI ?_
    refine hK _ _ _ ?_
    clear hK K
    refine hw_seq fun K hK => hw_region (by kernel_rfl) ?_
    simp (maxSteps := 4000000) only [↓sP, sA, tyS, simprocAttr]
    repeat refine AI ?_
    refine hK _ _ _ ?_
    clear hK K
    refine hw_ret ?_
    simp (maxSteps := 4000000) only [hpost, Tryz.results34, hresL, hres1, tupOf, ↓sP, sA, tyS, simprocAttr]
    have hei : i = 32 := by simp at hb; omega
    subst hei
    exact hret_pure [] (.bool false) rfl (by rw [dlt_same h0])

end Go.Proofs.YtbdgmfbhiihcfaaGreat

namespace Go.Pl
open Go Go.Hl

def alZ (c : UInt8) : Bool := (decide (97 ≤ (c.toNat : Int)) && decide ((c.toNat : Int) ≤ 122)) || (decide (48 ≤ (c.toNat : Int)) && decide ((c.toNat : Int) ≤ 57))
def puZ (c : UInt8) : Bool := ((c.toNat : Int) == 46) || (((c.toNat : Int) == 95) || ((c.toNat : Int) == 45))
def okc (i : Nat) (c : UInt8) : Bool := alZ c || (decide (0 < (i : Int)) && puZ c)
theorem al_Z (c : UInt8) : al c = alZ c := by
  have h1 : decide ((97 : UInt8) ≤ c) = decide (97 ≤ (c.toNat : Int)) := by rw [Bool.eq_iff_iff]; simp only [decide_eq_true_eq, UInt8.le_iff_toNat_le]; show 97 ≤ c.toNat ↔ _; omega
  have h2 : decide (c ≤ (122 : UInt8)) = decide ((c.toNat : Int) ≤ 122) := by rw [Bool.eq_iff_iff]; simp only [decide_eq_true_eq, UInt8.le_iff_toNat_le]; show c.toNat ≤ 122 ↔ _; omega
  have h3 : decide ((48 : UInt8) ≤ c) = decide (48 ≤ (c.toNat : Int)) := by rw [Bool.eq_iff_iff]; simp only [decide_eq_true_eq, UInt8.le_iff_toNat_le]; show 48 ≤ c.toNat ↔ _; omega
  have h4 : decide (c ≤ (57 : UInt8)) = decide ((c.toNat : Int) ≤ 57) := by rw [Bool.eq_iff_iff]; simp only [decide_eq_true_eq, UInt8.le_iff_toNat_le]; show c.toNat ≤ 57 ↔ _; omega
  unfold al alZ
  rw [h1, h2, h3, h4]
theorem eq_Z (c d : UInt8) : (c == d) = ((c.toNat : Int) == (d.toNat : Int)) := by
  rw [Bool.eq_iff_iff]
  simp only [beq_iff_eq]
  constructor
  · rintro rfl; rfl
  · intro h; exact UInt8.toNat_inj.1 (by omega)
theorem nc_Z (c : UInt8) : nc c = (alZ c || puZ c) := by
  unfold nc puZ
  rw [al_Z, eq_Z, eq_Z, eq_Z]
  rfl
theorem nameB_iff {s : Word} : nameB s = true ↔ (1 ≤ s.length ∧ s.length ≤ 64) ∧ ∀ i (h : i < s.length), okc i s[i] = true := by
  cases s with
  | nil => simp [nameB]
  | cons c r =>
    simp only [nameB, Bool.and_eq_true, decide_eq_true_eq, List.all_eq_true, al_Z, nc_Z]
    constructor
    · rintro ⟨h1, h2, h3⟩
      refine ⟨⟨by simp, h1⟩, fun i hi => ?_⟩
      cases i with
      | zero => simp [okc, h2]
      | succ i =>
        have := h3 _ (List.getElem_mem (by simpa using hi : i < r.length))
        simp only [List.getElem_cons_succ]
        unfold okc
        have h0 : decide (0 < ((i + 1 : Nat) : Int)) = true := by simp only [decide_eq_true_eq]; omega
        rw [h0, Bool.true_and]; exact this
    · rintro ⟨⟨_, h1⟩, h3⟩
      refine ⟨h1, ?_, fun x hx => ?_⟩
      · have := h3 0 (by simp)
        simpa [okc] using this
      · obtain ⟨i, hi, rfl⟩ := List.mem_iff_getElem.1 hx
        have := h3 (i + 1) (by simpa using hi)
        simp only [List.getElem_cons_succ] at this
        unfold okc at this
        have h0 : decide (0 < ((i + 1 : Nat) : Int)) = true := by simp only [decide_eq_true_eq]; omega
        rw [h0, Bool.true_and] at this; exact this
theorem nameB_len {s : Word} (h : ¬ (1 ≤ s.length ∧ s.length ≤ 64)) : nameB s = false := by
  cases hn : nameB s
  · rfl
  · exact absurd (nameB_iff.1 hn).1 h
theorem nameB_bad {s : Word} {i : Nat} (hi : i < s.length) (h : okc i s[i] = false) : nameB s = false := by
  cases hn : nameB s
  · rfl
  · rw [(nameB_iff.1 hn).2 i hi] at h; cases h
theorem name_step {s : Word} {i : Nat} (hi : i < s.length) (h : okc i s[i] = true) (h0 : ∀ j (_ : j < i) (h : j < s.length), okc j s[j] = true) : ∀ j (_ : j < i + 1) (h : j < s.length), okc j s[j] = true := fun j hj h' => by
  rcases Nat.lt_or_ge j i with h1 | h1
  · exact h0 j h1 h'
  · have : j = i := by omega
    subst this; exact h
def badHead (s : Word) : Bool := (s == []) || (decide (64 < (s.length : Int)) || (((gb s 0).toNat : Int) == 46 || (((gb s 0).toNat : Int) == 95 || ((gb s 0).toNat : Int) == 45)))
theorem nameB_head {s : Word} (h : badHead s = true) : nameB s = false := by
  cases s with
  | nil => rfl
  | cons c r =>
    cases hn : nameB (c :: r)
    · rfl
    · obtain ⟨⟨h1, h2⟩, h3⟩ := nameB_iff.1 hn
      have h4 := h3 0 (by simp)
      simp only [badHead, gb, List.getD_cons_zero, Bool.or_eq_true, decide_eq_true_eq, beq_iff_eq] at h
      simp [okc, alZ] at h4
      simp only [List.length_cons] at h1 h2 h
      rcases h with h | h | h | h | h
      · cases h
      · omega
      all_goals omega
/-- The reference's way: a good head, and every byte good. -/
theorem nameB_ref {s : Word} (h : badHead s = false) (hall : ∀ j (h : j < s.length), (alZ s[j] || puZ s[j]) = true) : nameB s = true := by
  cases s with
  | nil => simp [badHead] at h
  | cons c r =>
    simp only [badHead, gb, List.getD_cons_zero, Bool.or_eq_false_iff, decide_eq_false_iff_not] at h
    obtain ⟨_, h1, h2, h3, h4⟩ := h
    refine nameB_iff.2 ⟨⟨by simp, by simp only [List.length_cons] at h1 ⊢; omega⟩, fun i hi => ?_⟩
    have := hall i hi
    cases i with
    | zero =>
      simp only [List.getElem_cons_zero] at this ⊢
      have hp : puZ c = false := by simp [puZ, h2, h3, h4]
      rw [hp, Bool.or_false] at this
      simp [okc, this]
    | succ i =>
      have h0 : decide (0 < ((i + 1 : Nat) : Int)) = true := by simp only [decide_eq_true_eq]; omega
      unfold okc; rw [h0, Bool.true_and]; exact this
theorem nameB_char {s : Word} {j : Nat} (hj : j < s.length) (h : (alZ s[j] || puZ s[j]) = false) : nameB s = false :=
  nameB_bad hj (by
    have h' : alZ s[j] = false ∧ puZ s[j] = false := by simpa using h
    unfold okc; rw [h'.1, h'.2]; simp)
end Go.Pl

namespace Go.Pl
open Go Go.Hl

section
variable {α β : Type}
def adjB (r : α → α → Bool) : List α → Bool
  | a :: b :: l => r a b && adjB r (b :: l)
  | _ => true
theorem adjB_map (r : β → β → Bool) (f : α → β) : ∀ l : List α, adjB r (l.map f) = adjB (fun a b => r (f a) (f b)) l
  | [] => rfl
  | [_] => rfl
  | a :: b :: l => by
    have := adjB_map r f (b :: l)
    simp only [List.map_cons, adjB] at this ⊢
    rw [this]
theorem ascB_adj : ∀ l : List Word, ascB l = adjB slt l
  | [] => rfl
  | [_] => rfl
  | a :: b :: l => by simp only [ascB, adjB, ascB_adj (b :: l)]
theorem ascD_adj : ∀ l : List Dig, ascD l = adjB dlt l
  | [] => rfl
  | [_] => rfl
  | a :: b :: l => by simp only [ascD, adjB, ascD_adj (b :: l)]
theorem adjB_iff {r : α → α → Bool} : ∀ {l : List α}, adjB r l = true ↔ ∀ i (h : i + 1 < l.length), r l[i] l[i + 1] = true
  | [] => by simp [adjB]
  | [a] => by simp [adjB]
  | a :: b :: l => by
    have ih := adjB_iff (r := r) (l := b :: l)
    simp only [adjB, Bool.and_eq_true, ih]
    constructor
    · rintro ⟨h1, h2⟩ i hi
      cases i with
      | zero => exact h1
      | succ i => exact h2 i (by simpa using hi)
    · intro h
      exact ⟨h 0 (by simp), fun i hi => h (i + 1) (by simpa using hi)⟩
/-- Good up to the place i. -/
def GoodTo (p : α → Bool) (r : α → α → Bool) (l : List α) (i : Nat) : Prop := (∀ j (h : j < l.length), j < i → p l[j] = true) ∧ ∀ j (h : j + 1 < l.length), j + 1 < i → r l[j] l[j + 1] = true
variable {p : α → Bool} {r : α → α → Bool} {l : List α}
theorem GoodTo.zero : GoodTo p r l 0 := ⟨fun j _ h => by omega, fun j _ h => by omega⟩
theorem GoodTo.one (hi : 0 < l.length) (h : p l[0] = true) : GoodTo p r l 1 := by
  refine ⟨fun j h' hj => ?_, fun j _ h => by omega⟩
  have : j = 0 := by omega
  subst this; exact h
theorem GoodTo.succ {i : Nat} (hi : i + 1 < l.length) (h : p l[i + 1] = true) (hr : r l[i] l[i + 1] = true) (h0 : GoodTo p r l (i + 1)) : GoodTo p r l (i + 1 + 1) := by
  refine ⟨fun j h' hj => ?_, fun j h' hj => ?_⟩
  · rcases Nat.lt_or_ge j (i + 1) with h1 | h1
    · exact h0.1 j h' h1
    · have : j = i + 1 := by omega
      subst this; exact h
  · rcases Nat.lt_or_ge (j + 1) (i + 1) with h1 | h1
    · exact h0.2 j h' h1
    · have : j = i := by omega
      subst this; exact hr
theorem GoodTo.all (h : GoodTo p r l l.length) : (l.all p && adjB r l) = true := by
  rw [Bool.and_eq_true, List.all_eq_true, adjB_iff]
  refine ⟨fun x hx => ?_, fun i hi => h.2 i hi hi⟩
  obtain ⟨i, hi, rfl⟩ := List.mem_iff_getElem.1 hx
  exact h.1 i hi hi
theorem bad_one {i : Nat} (hi : i < l.length) (h : p l[i] = false) : (l.all p && adjB r l) = false := by
  cases hn : l.all p && adjB r l
  · rfl
  · rw [Bool.and_eq_true, List.all_eq_true] at hn
    rw [hn.1 _ (List.getElem_mem hi)] at h; cases h
theorem bad_two {i : Nat} (hi : i + 1 < l.length) (h : r l[i] l[i + 1] = false) : (l.all p && adjB r l) = false := by
  cases hn : l.all p && adjB r l
  · rfl
  · rw [Bool.and_eq_true, adjB_iff] at hn
    rw [hn.2 i hi] at h; cases h
end
theorem namesB_eq (l : List Word) : namesB l = (l.all nameB && adjB slt l) := by unfold namesB; rw [ascB_adj]
theorem quotasB_eq (l : List Qt) : quotasB l = ((l.all quotaB && adjB (fun a b => slt a.r b.r) l) && decide (l.length ≤ 12)) := by unfold quotasB; rw [ascB_adj, adjB_map, Bool.and_assoc]
theorem keysB_eq (l : List Ky) : keysB l = ((l.all keyB && adjB (fun a b => dlt (kid a) (kid b)) l) && decide (l.length ≤ 32)) := by unfold keysB; rw [ascD_adj, adjB_map, Bool.and_assoc]
theorem revsB_eq (l : List Rv) : revsB l = ((l.all (fun x => inN x.t) && adjB (fun a b => dlt a.k b.k) l) && decide (l.length ≤ 64)) := by unfold revsB; rw [ascD_adj, adjB_map, Bool.and_assoc]
theorem idx_contains {α : Type} [BEq α] [LawfulBEq α] (l : List α) (a : α) : decide (0 ≤ idxP (fun x => a == x) l) = l.contains a := by
  rw [Bool.eq_iff_iff, decide_eq_true_eq, idxP_ge, List.contains_iff_mem, List.any_eq_true]
  constructor
  · rintro ⟨x, hx, h⟩; rw [eq_of_beq h]; exact hx
  · intro h; exact ⟨a, h, by simp⟩
theorem u8_ofInt (n : Int) : IntKind.u8.wrap n = ((UInt8.ofNat (n.emod 256).toNat).toNat : Int) := by
  have h1 := Int.emod_nonneg n (show (256 : Int) ≠ 0 by omega)
  have h2 := Int.emod_lt_of_pos n (show (0 : Int) < 256 by omega)
  rw [IntKind.wrap_u8, UInt8.toNat_ofNat']
  have : n.emod 256 = n % 256 := rfl
  rw [this]
  omega
end Go.Pl
