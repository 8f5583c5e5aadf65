/- Plain Lean: root documents with one thing changed. By an AI agent. -/
import Derived.Test.YtenbfeemmpjdhaaGreatDoorHlZb
import Derived.Sort.Grow
import Derived.Sort.EncStr
import Derived.Lib.LaidTab
import Derived.Deep.Draws
import Derived.LaidSub
import Derived.Test.YtenbfeemmpjdhaaGreatDoorPl11
import Derived.Test.YtenbfeemmpjdhaaGreatDoorPl18
import Derived.Laws.Externs
import Derived.Lib.BytesEntry
set_option linter.unusedSimpArgs false
set_option linter.unusedVariables false
set_option linter.defProp false
namespace Go.Hl
open Go Go.RowKit Go.Sort Go.Proofs

def HSort (P : Program) (f : FuncId) (e : TypeId) (ss : List (List UInt8)) : Prop :=
 HFn P f [.own 0 ss.length] 1 (fob [(0, .row e 1 (ss.map .str))]) (fun r ob' => r = .tup [] ∧ ob' = fob [(0, .row e 1 ((ss.mergeSort leW).map .str))])

theorem repL_strs_inv {w : World} {O : Nat → Prop} : ∀ {ss : List (List UInt8)} {xs : List Value}, RepL w O (ss.map CV.str) xs → xs = ss.map skey
 | [], xs, h => by simpa [RepL] using h
 | s :: ss, xs, h => by
  simp only [List.map_cons, RepL, RepC] at h
  obtain ⟨c1, c2, rfl, rfl, h2⟩ := h
  rw [repL_strs_inv h2]
  rfl
theorem putCells_take (S : List (List UInt8)) (cur : Array Value) (h : S.length ≤ cur.size) : (putCells encStr 0 S.toArray cur).toList.take S.length = S.map skey := by
 apply List.ext_getElem?
 intro i
 by_cases hi : i < S.length
 ·
  rw [List.getElem?_take, if_pos hi, List.getElem?_map]
  have hc : i < cur.size := by omega
  simp only [putCells, Array.getElem?_toList, Array.getElem?_mapIdx, Array.getElem?_eq_getElem hc, Option.map_some, List.getElem?_eq_getElem hi]
  rw [if_pos ⟨by omega, by simpa using hi⟩]
  simp [hi]
  rfl
 ·
  rw [List.getElem?_take, if_neg hi, List.getElem?_eq_none (by simpa using hi)]

theorem hfn_sort {P : Program} {f : FuncId} {e : TypeId} {ss : List (List UInt8)} (hok : callOk P f = true)
  (hc : ∀ (blk cap : Nat) (w : World), Holds encStr w blk 0 ss.toArray → blk < w.heap.size → Calls P f #[.slice (some ⟨blk, 0, none⟩) ss.length cap] w fun x w' => x = .returned (.tuple #[]) ∧ ∃ n os, w' = grow (putRow encStr (Sort.ahead w n) blk 0 (ss.mergeSort leW).toArray) os)
  (hc0 : ∀ (cap : Nat) (w : World), Calls P f #[.slice none 0 cap] w fun x w' => x = .returned (.tuple #[]) ∧ w' = w) : HSort P f e ss := by
 refine ⟨fnOk_of hok, fun w ρ X xs hS hA hX => Does.of hok ?_⟩
 obtain ⟨h, ys, hρ, hL, hcs, how⟩ := hS.objs 0 (.row e 1 (ss.map .str)) rfl
 have hys := repL_strs_inv hL
 subst hys
 have hlen : hlen h = ss.length := by have := ownsRow_size how; simpa using this
 have hargs : xs = [h] := by
  rw [repHV_cons] at hA
  obtain ⟨y, zs, rfl, hy, hz⟩ := hA
  simp only [RepHV] at hz
  subst hz
  obtain ⟨hy1, hy2⟩ := hy
  have hag : Value.isAgg' y = false := by rw [← hy2]; rfl
  rw [cells_single hag] at hy1
  simp only [RepH, List.cons.injEq, and_true] at hy1
  obtain ⟨x, rfl, _, hx⟩ := hy1
  rw [(hx h hρ).2 hlen]
 subst hargs
 have hrt : ∀ w' : World, RepV w' ρ (Owned ρ X) (.tup []) (.tuple #[]) := fun w' => by
  refine ⟨?_, rfl⟩
  simp only [RepH]
  exact ⟨[], rfl, by simp [RepHV]⟩
 rcases how.2 with ⟨rfl, hz⟩ | ⟨g, cap, cur, rfl, hg0, hg, hcap, hmax, hcsz, htake⟩
 ·
  have : ss = [] := List.eq_nil_of_length_eq_zero (by simpa using hz)
  subst this
  refine (hc0 0 w).mono ?_
  rintro ex w' ⟨rfl, rfl⟩
  refine ⟨.tup [], _, ρ, .tuple #[], rfl, ⟨rfl, rfl⟩, ⟨hrt _, by simpa using hS, by simp [HV.men, HV.menL], fun i o ho => ?_, Stay2.refl _ _, Moves.refl _ _⟩⟩
  simp only [fob_at, fob_nil] at ho
  split at ho
  ·
   rename_i e0; subst e0; cases ho; exact ⟨by omega, trivial⟩
  ·
   cases ho
 ·
  simp only [List.length_map, Nat.mul_one] at hcap hcsz htake
  have hgs : g < w.heap.size := (Array.getElem?_eq_some_iff.1 hg).1
  have hH : Holds encStr w g 0 ss.toArray := fun j hj => by
   have hj' : j < ss.length := by simpa using hj
   refine ⟨?_, by simp [World.frozen?, hg]⟩
   have e1 : cur.toList[j]? = some (skey ss[j]) := by
    have : (cur.toList.take ss.length)[j]? = (ss.map skey)[j]? := by rw [htake]
    rw [List.getElem?_take, if_pos hj', List.getElem?_map, List.getElem?_eq_getElem hj'] at this
    simpa using this
   rw [Array.getElem?_toList] at e1
   simp only [World.cell?, hg, Nat.zero_add, e1]
   simp [hj']
   rfl
  simp only [List.length_map]
  refine (hc g cap w hH hgs).mono ?_
  rintro ex w' ⟨rfl, n, os, rfl⟩
  obtain ⟨S, hSd⟩ : ∃ S, S = ss.mergeSort leW := ⟨_, rfl⟩
  rw [← hSd]
  have hSl : S.length = ss.length := by rw [hSd]; exact (List.mergeSort_perm ss _).length_eq
  have hother : ∀ b, b < w.heap.size → b ≠ g → (grow (putRow encStr (Sort.ahead w n) g 0 S.toArray) os).heap[b]? = w.heap[b]? := fun b hb hne => by
   simp only [grow, putRow, mapBlock, Sort.ahead]
   rw [Array.getElem?_append_left (by simpa using hb), Array.getElem?_modify, if_neg (fun h => hne h.symm)]
  have hthis : (grow (putRow encStr (Sort.ahead w n) g 0 S.toArray) os).heap[g]? = some (.cells (putCells encStr 0 S.toArray cur) e (0, 0)) := by
   simp only [grow, putRow, mapBlock, Sort.ahead]
   rw [Array.getElem?_append_left (by simpa using hgs), Array.getElem?_modify, if_pos rfl, hg]
   rfl
  have hs2 : Stay2 w (Own ρ) (grow (putRow encStr (Sort.ahead w n) g 0 S.toArray) os) (Own ρ) := ⟨fun b hb hno => hother b hb (fun e' => hno ⟨0, _, hρ, by rw [e']; rfl⟩), fun _ h => .inl h, by simp [grow, putRow, mapBlock, Sort.ahead], rfl, rfl, rfl⟩
  refine ⟨.tup [], _, ρ, .tuple #[], rfl, ⟨rfl, rfl⟩, ⟨hrt _, ⟨fun i o ho => ?_, fun i hi => hS.none i ?_, hS.apart, hS.xb⟩, by simp [HV.men, HV.menL], fun i o ho => ?_, hs2, Moves.refl _ _⟩⟩
  ·
   simp only [fob_at, fob_nil] at ho
   split at ho
   ·
    rename_i e0; subst e0; cases ho
    refine ⟨_, S.map skey, hρ, repL_strs S, fun v hv => ?_, by simp, .inr ⟨g, cap, putCells encStr 0 S.toArray cur, by simp [hSl], Nat.zero_le _, hthis, by simp [hSl]; exact hcap, hmax, ?_, ?_⟩⟩
    ·
     obtain ⟨s, _, rfl⟩ := List.mem_map.1 hv; rfl
    ·
     rw [← hcsz]; simp [putCells]
    ·
     simp only [List.length_map, Nat.mul_one]
     exact putCells_take S cur (by omega)
   ·
    cases ho
  ·
   simp only [fob_at, fob_nil] at hi ⊢
   split at hi
   ·
    cases hi
   ·
    rename_i hne; rw [if_neg hne]
  ·
   simp only [fob_at, fob_nil] at ho
   split at ho
   ·
    rename_i e0; subst e0; cases ho; exact ⟨by omega, trivial⟩
   ·
    cases ho

theorem call_sort {P : Program} {av : List Nat} {f : FuncId} {ob : Ob} {nid id n : Nat} {K : HV → Ob → Prop} {e : TypeId} {ss : List (List UInt8)} (h : HSort P f e ss) (hid : ob id = some (.row e 1 (ss.map .str))) (hn : n = ss.length) (hav : id ∉ av)
  (hfree : Free4 ob nid) (hK : K (.tup []) (upd ob id (some (.row e 1 ((ss.mergeSort leW).map .str))))) : HCall P av f [.own id n] ob nid K := by
 have h0 : sub [id] nid 0 = id := rfl
 subst hn
 refine ⟨[id], _, _, _, h, by simpa using locOk_take e 1 ss.length (ss.map .str), ⟨by simp, by simpa using hav⟩, by simp only [HV.renL, HV.ren, h0], fun j o hj => ?_, fun r lob' hR _ => ?_⟩
 ·
  simp only [fob_at, fob_nil] at hj
  split at hj
  ·
   rename_i e0; subst e0; cases hj; simpa [HO.ren] using hid
  ·
   cases hj
 ·
  obtain ⟨rfl, rfl⟩ := hR
  have e : obAfter ob [id] nid (fob [(0, .row e 1 ((ss.mergeSort leW).map .str))]) = upd ob id (some (.row e 1 ((ss.mergeSort leW).map .str))) := by
   funext i
   by_cases e : i = id
   ·
    subst e
    simp only [obAfter, upd_same, List.findIdx?_cons, beq_self_eq_true, if_true, fob_at, Option.map_some]
    rfl
   ·
    have e' : (id == i) = false := by simp; exact fun h => e h.symm
    simp only [obAfter, List.findIdx?_cons, e', List.findIdx?_nil, Option.map_none, upd_ne _ _ e]
    simp only [Bool.false_eq_true, if_false]
    split
    ·
     rename_i hr
     have h1 : [id].length + (i - nid) ≠ 0 := by simp
     rw [fob_at, if_neg h1, fob_nil]
     have : i = nid ∨ i = nid + 1 ∨ i = nid + 2 ∨ i = nid + 3 := by omega
     rcases this with rfl | rfl | rfl | rfl
     ·
      exact hfree.1.symm
     ·
      exact hfree.2.1.symm
     ·
      exact hfree.2.2.1.symm
     ·
      exact hfree.2.2.2.symm
    ·
     rfl
  rw [e]
  exact hK
end Go.Hl

namespace Go.Hl
open Go Go.RowKit

theorem hpure_clone {P : Program} {f : FuncId} {e : TypeId} {l : List (List UInt8)} (hok : callOk P f = true) (hbig : l.length * 16 ≤ 140737488355328)
  (hc : ∀ (b off c : Nat) (w : World), (∀ j, j < l.length → w.cell? ⟨b, off + j, none⟩ = some (skey (l.getD j []))) → Calls P f #[.slice (some ⟨b, off, none⟩) l.length c] w fun x w' => ∃ v', x = .returned v' ∧ w'.ownsRow w.heap.size e 1 v' l.length (l.map skey) ∧ v' ≠ .slice none 0 0 ∧ Below w.heap.size w w')
  (hc0 : ∀ (c : Nat) (w : World), Calls P f #[.slice none 0 c] w fun x w' => x = .returned (.slice none 0 0) ∧ w' = w)
  (hcz : ∀ (a : Addr) (c : Nat) (w : World), Calls P f #[.slice (some a) 0 c] w fun x w' => ∃ v', x = .returned v' ∧ w'.ownsRow w.heap.size e 1 v' 0 [] ∧ v' ≠ .slice none 0 0 ∧ Below w.heap.size w w') :
  HPure P f [.slc (l.map .str)] (fun v => v = .slc (l.map .str)) := by
 refine ⟨fnOk_of hok, fun w ρ X xs hS hA hX => Does.of hok ?_⟩
 have done : ∀ (w' : World) (v : Value), w'.ownsRow w.heap.size e 1 v l.length (l.map skey) → Below w.heap.size w w' → ∃ r ob' ρ' x, Ending.returned v = .returned x ∧ (∃ u, r = HV.c u ∧ u = .slc (l.map .str) ∧ ob' = none0) ∧ Gave w ρ X 0 r ob' w' ρ' x := by
  intro w' v hrow hb
  have hs2 : Stay2 w (Own ρ) w' (Own ρ) := ⟨fun g hg _ => hb.block g hg, fun _ h => .inl h, hb.size, hb.os, hb.tape, hb.output⟩
  have hst := hs2.stay X
  refine ⟨_, _, ρ, v, rfl, ⟨_, rfl, rfl, rfl⟩, ⟨?_, ⟨fun i o ho => by simp [none0] at ho, hS.none, hS.apart, hS.xb⟩, by simp [HV.men], fun i o ho => by simp [none0] at ho, hs2, Moves.refl _ _⟩⟩
  have hag : Value.isAgg' v = false := by rcases hrow.2 with ⟨rfl, _⟩ | ⟨g, cap, cur, rfl, _⟩ <;> rfl
  refine repV_single ?_ rfl hag
  simp only [RepC]
  rcases hrow.2 with ⟨rfl, hz⟩ | ⟨g, cap, cur, rfl, hg0, hg, hcap, _⟩
  ·
   have : l = [] := List.eq_nil_of_length_eq_zero hz
   exact ⟨none, 0, [], 1, by simp [this], by simp [this, RepL], by simp [this], by simp [this], fun _ => rfl, fun ad had => (by cases had)⟩
  ·
   refine ⟨some ⟨g, 0, none⟩, cap, l.map skey, 1, by simp, repL_strs _, fun u hu => ?_, by simp; omega, fun hh => (by cases hh), fun ad had => ?_⟩
   ·
    obtain ⟨k, _, rfl⟩ := List.mem_map.1 hu; rfl
   ·
    cases had
    refine ⟨hrow.cells (g := g) rfl, fun _ => ?_⟩
    rintro (hx | ⟨i, L, h1, h2⟩)
    ·
     have : g < w.heap.size := hX g hx
     omega
    ·
     have : g < w.heap.size := Owned.lt hS h1 h2
     omega
 simp only [List.map_cons, List.map_nil, repHV_cons, RepHV] at hA
 obtain ⟨x, zs, rfl, hx, rfl⟩ := hA
 have h1 := RepV.single hx rfl
 simp only [RepC, List.cons.injEq, and_true] at h1
 obtain ⟨a, cap, ys, sz, rfl, h2, _, h4, h5, h6⟩ := h1
 have hys := repL_strs_inv h2
 subst hys
 simp only [List.length_map]
 cases a with
 | none =>
  have hz := h5 rfl
  have hl0 : l = [] := by
   refine List.eq_nil_of_length_eq_zero ?_
   simp only [List.length_map] at h4; omega
  subst hl0
  refine (hc0 cap w).mono ?_
  rintro ex w' ⟨rfl, rfl⟩
  exact done w' _ ⟨rfl, .inl ⟨rfl, rfl⟩⟩ (Below.refl _ _)
 | some ad =>
  have hr := (h6 ad rfl).1
  by_cases hl0 : l = []
  ·
   subst hl0
   refine (hcz ad cap w).mono ?_
   rintro ex w' ⟨v', rfl, hrow, _, hb⟩
   exact done w' v' hrow hb
  ·
   have hpos : 0 < l.length := List.length_pos_iff.2 hl0
   have hspot : ad.spot = none := by
    have := hr 0 (skey l[0]) (by simp [hpos])
    simp only [World.cell?] at this
    split at this
    ·
     split at this
     ·
      cases this
     ·
      rename_i hh; simpa [Addr.add] using hh
    ·
     cases this
   obtain ⟨b, off, spot⟩ := ad
   simp only at hspot
   subst hspot
   refine (hc b off cap w fun j hj => ?_).mono ?_
   ·
    have := hr j (skey l[j]) (by simp [hj])
    have e : (⟨b, off, none⟩ : Addr).add j = ⟨b, off + j, none⟩ := by
     by_cases h0 : j = 0
     ·
      subst h0; rfl
     ·
      simp [Addr.add, h0]
    rw [e] at this
    rw [this]
    simp [hj]
   ·
    rintro ex w' ⟨v', rfl, hrow, _, hb⟩
    exact done w' v' hrow hb
end Go.Hl

namespace Go.Hl
open Go Go.RowKit Go.Sort

end Go.Hl

namespace Go.Hl
open Go Go.RowKit

section
variable {P : Program} {T : TypeId → Prop} {H : Type} {enc : TypeId × Value → H}

end
end Go.Hl

namespace Go.Pl
open Go Go.Hl

theorem foldW_spec : ∀ (l : List Word) (a : List Word), Asc a → Asc (l.foldl addW a) ∧ ∀ w, w ∈ l.foldl addW a ↔ w ∈ a ∨ w ∈ l
 | [], a, h => ⟨h, fun w => by simp⟩
 | x :: l, a, h => by
  obtain ⟨h1, h2⟩ := foldW_spec l (addW a x) (asc_addW h x)
  refine ⟨h1, fun w => ?_⟩
  rw [List.foldl_cons, h2, mem_addW, List.mem_cons]
  constructor
  ·
   rintro ((h | h) | h)
   ·
    exact .inl h
   ·
    exact .inr (.inl h)
   ·
    exact .inr (.inr h)
  ·
   rintro (h | h | h)
   ·
    exact .inl (.inl h)
   ·
    exact .inl (.inr h)
   ·
    exact .inr h
theorem setW_asc (l : List Word) : Asc (setW l) := (foldW_spec l [] List.Pairwise.nil).1
theorem mem_setW {l : List Word} {w : Word} : w ∈ setW l ↔ w ∈ l := by
 have := (foldW_spec l [] List.Pairwise.nil).2 w
 simpa [setW] using this
theorem asc_nodup {l : List Word} (h : Asc l) : l.Nodup := h.imp (fun {x y} h e => by subst e; exact List.lt_irrefl _ h)

def dedup : List Word → List Word
 | a :: b :: l => if a == b then dedup (b :: l) else a :: dedup (b :: l)
 | l => l
theorem mem_dedup : ∀ {l : List Word} {w : Word}, w ∈ dedup l ↔ w ∈ l
 | [], w => by simp [dedup]
 | [a], w => by simp [dedup]
 | a :: b :: l, w => by
  have ih := mem_dedup (l := b :: l) (w := w)
  simp only [dedup]
  split
  ·
   rename_i h
   have : a = b := by simpa using h
   subst this
   rw [ih]; simp
  ·
   rw [List.mem_cons, ih, List.mem_cons (b := a)]
theorem asc_dedup : ∀ {l : List Word}, l.Pairwise (· ≤ ·) → Asc (dedup l)
 | [], _ => List.Pairwise.nil
 | [a], _ => by simp [dedup, Asc]
 | a :: b :: l, h => by
  obtain ⟨h1, h2⟩ := List.pairwise_cons.1 h
  have ih := asc_dedup h2
  simp only [dedup]
  split
  ·
   exact ih
  ·
   rename_i hne
   refine List.pairwise_cons.2 ⟨fun w hw => ?_, ih⟩
   rw [mem_dedup] at hw
   have hab : a ≤ b := h1 b (by simp)
   have hne' : a ≠ b := by simpa using hne
   have hlt := lt_of_le_ne hab hne'
   rcases List.mem_cons.1 hw with rfl | hw
   ·
    exact hlt
   ·
    have hbw : b ≤ w := (List.pairwise_cons.1 h2).1 w hw
    rcases Classical.em (b = w) with rfl | hne2
    ·
     exact hlt
    ·
     exact List.lt_trans hlt (lt_of_le_ne hbw hne2)
theorem dedup_sort {l s : List Word} (hs : s.Pairwise (· ≤ ·)) (hp : ∀ w, w ∈ s ↔ w ∈ l) : dedup s = setW l :=
 asc_ext (asc_dedup hs) (setW_asc l) fun w => by rw [mem_dedup, mem_setW, hp]

section
variable {r : Rt} {role : Word} {a b : List Dig} {t : Int}
end
end Go.Pl

namespace Go.Pl
open Go Go.Hl

def roles10 : List Word := [[97, 100, 118, 105, 115, 111, 114], [97, 110, 97, 108, 121, 115, 116], [97, 112, 112, 114, 111, 118, 101], [105, 110, 118, 101, 110, 116, 111, 114, 121], [108, 97, 121, 111, 117, 116],
 [112, 111, 108, 105, 99, 121], [114, 101, 98, 117, 105, 108, 100], [114, 101, 108, 101, 97, 115, 101], [114, 111, 111, 116], [115, 116, 101, 112]]
def wStep : Word := [115, 116, 101, 112]
def owners4 : List Word := [[97, 110, 110], [98, 111, 98], [99, 97, 116], [100, 97, 110]]
def mOwner (i : Nat) : Word := owners4.getD (i % 4) []
def mPub (i : Nat) : Pk := ⟨((i % 3 : Nat) : Int), ⟨[UInt8.ofNat (i + 1), 77] ++ List.replicate 14 0, by simp⟩⟩
def mid (i : Nat) : Dig := pid (mPub i)
def insK (l : List Ky) (k : Ky) : List Ky := (l.takeWhile fun x => dlt (kid x) (kid k)) ++ k :: l.dropWhile fun x => dlt (kid x) (kid k)
def mKey (i : Nat) : Ky := ⟨mPub i, mOwner i, roles10, 0, maxN⟩
def fullK : List Ky := (List.range 5).foldl (fun l i => insK l (mKey i)) []
def full : Rt := ⟨1, maxN, roles10.map fun w => ⟨w, 1⟩, fullK, []⟩
theorem full_valid : validR full = true := by decide +kernel
theorem full_need : needV full wStep = 1 := by decide +kernel
theorem full_enough : enough full wStep [mid 0] 5 = true := by decide +kernel
end Go.Pl

namespace Go.Pl
open Go Go.Hl

section
variable {α : Type} {p : α → Bool} {l : List α}
theorem find_hit {i : Nat} (hi : i < l.length) (h : p l[i] = true) (h0 : ∀ x ∈ l.take i, p x = false) : l.find? p = some l[i] := by
 have e : l = l.take i ++ l[i] :: l.drop (i + 1) := by rw [← List.drop_eq_getElem_cons hi, List.take_append_drop]
 have e2 : l.find? p = (l.take i ++ l[i] :: l.drop (i + 1)).find? p := congrArg _ e
 rw [e2, List.find?_append, List.find?_eq_none.2 (fun x hx => by rw [h0 x hx]; simp), List.find?_cons, h]
 rfl
theorem find_miss (h0 : ∀ x ∈ l, p x = false) : l.find? p = none := List.find?_eq_none.2 fun x hx => by rw [h0 x hx]; simp
theorem take_miss {i : Nat} (hi : i < l.length) (h : p l[i] = false) (h0 : ∀ x ∈ l.take i, p x = false) : ∀ x ∈ l.take (i + 1), p x = false := fun x hx => by
 rw [List.take_succ_eq_append_getElem hi, List.mem_append, List.mem_singleton] at hx
 rcases hx with hx | rfl
 ·
  exact h0 x hx
 ·
  exact h
end
theorem need_hit {l : List Qt} {w : Word} {i : Nat} (hi : i < l.length) (h : (l[i].r == w) = true) (h0 : ∀ x ∈ l.take i, (x.r == w) = false) : need l w = l[i].n := by
 unfold need; rw [find_hit (p := fun q : Qt => q.r == w) hi h h0]
theorem need_miss {l : List Qt} {w : Word} (h0 : ∀ x ∈ l, (x.r == w) = false) : need l w = 0 := by
 unfold need; rw [find_miss (p := fun q : Qt => q.r == w) h0]
def revZ (l : List Rv) (d : Dig) : Int := (revoked l d).getD 0
def revS (l : List Rv) (d : Dig) : Bool := (revoked l d).isSome
theorem rev_hit {l : List Rv} {d : Dig} {i : Nat} (hi : i < l.length) (h : (l[i].k == d) = true) (h0 : ∀ x ∈ l.take i, (x.k == d) = false) : revoked l d = some l[i].t := by
 unfold revoked; rw [find_hit (p := fun x : Rv => x.k == d) hi h h0]; rfl
theorem rev_miss {l : List Rv} {d : Dig} (h0 : ∀ x ∈ l, (x.k == d) = false) : revoked l d = none := by
 unfold revoked; rw [find_miss (p := fun x : Rv => x.k == d) h0]; rfl
theorem gone_rev (l : List Rv) (d : Dig) (t : Int) : goneB l d t = (revS l d && decide (revZ l d ≤ t)) := by
 unfold goneB revS revZ
 cases revoked l d <;> simp
theorem slt_take : ∀ {a b : List UInt8} {i : Nat} (ha : i < a.length) (hb : i < b.length), a.take i = b.take i → a[i] ≠ b[i] → slt a b = decide (a[i] < b[i])
 | x :: a, y :: b, 0, _, _, _, hne => by
  simp only [List.getElem_cons_zero] at hne ⊢
  have : (x == y) = false := by simpa using hne
  simp [slt, Op.bytesLess, this]
 | x :: a, y :: b, i + 1, ha, hb, h, hne => by
  simp only [List.take_succ_cons, List.cons.injEq, List.getElem_cons_succ] at h hne ⊢
  obtain ⟨rfl, h⟩ := h
  have := slt_take (by simpa using ha) (by simpa using hb) h hne
  rw [← this]
  simp [slt, Op.bytesLess]
theorem slt_self : ∀ a : List UInt8, slt a a = false
 | [] => rfl
 | x :: a => by simpa [slt, Op.bytesLess] using slt_self a
theorem dlt_at {a b : Dig} {i : Nat} (hi : i < 32) (h : a.1.take i = b.1.take i) (hne : a.1[i]'(by rw [a.2]; exact hi) ≠ b.1[i]'(by rw [b.2]; exact hi)) : dlt a b = decide (a.1[i]'(by rw [a.2]; exact hi) < b.1[i]'(by rw [b.2]; exact hi)) :=
 slt_take _ _ h hne
theorem dlt_same {a b : Dig} (h : a.1.take 32 = b.1.take 32) : dlt a b = false := by
 rw [List.take_of_length_le (by rw [a.2]; exact Nat.le_refl _), List.take_of_length_le (by rw [b.2]; exact Nat.le_refl _)] at h
 unfold dlt; rw [h]; exact slt_self _
theorem dg_get {d : Dig} {i : Nat} (h : i < 32) : CV.getAt i 1 false (dg d) = some (u8 (d.1[i]'(by rw [d.2]; exact h))) := us_get (l := d.1) (by rw [d.2]; exact h)
theorem u8_ne (a b : UInt8) : ((a.toNat : Int) != (b.toNat : Int)) = !(a == b) := by
 rw [Bool.eq_iff_iff]
 simp only [bne_iff_ne, ne_eq, Bool.not_eq_true', beq_eq_false_iff_ne]
 constructor
 ·
  intro h e; exact h (by rw [e])
 ·
  intro h e; exact h (UInt8.toNat_inj.1 (by omega))
theorem u8_lt (a b : UInt8) : decide ((a.toNat : Int) < (b.toNat : Int)) = decide (a < b) := by
 rw [Bool.eq_iff_iff]
 simp [UInt8.lt_iff_toNat_lt]
end Go.Pl

namespace Go.Pl
open Go Go.Hl

def alZ (c : UInt8) : Bool := (decide (97 ≤ (c.toNat : Int)) && decide ((c.toNat : Int) ≤ 122)) || (decide (48 ≤ (c.toNat : Int)) && decide ((c.toNat : Int) ≤ 57))
def puZ (c : UInt8) : Bool := ((c.toNat : Int) == 46) || (((c.toNat : Int) == 95) || ((c.toNat : Int) == 45))
def okc (i : Nat) (c : UInt8) : Bool := alZ c || (decide (0 < (i : Int)) && puZ c)
theorem al_Z (c : UInt8) : al c = alZ c := by
 have h1 : decide ((97 : UInt8) ≤ c) = decide (97 ≤ (c.toNat : Int)) := by rw [Bool.eq_iff_iff]; simp only [decide_eq_true_eq, UInt8.le_iff_toNat_le]; show 97 ≤ c.toNat ↔ _; omega
 have h2 : decide (c ≤ (122 : UInt8)) = decide ((c.toNat : Int) ≤ 122) := by rw [Bool.eq_iff_iff]; simp only [decide_eq_true_eq, UInt8.le_iff_toNat_le]; show c.toNat ≤ 122 ↔ _; omega
 have h3 : decide ((48 : UInt8) ≤ c) = decide (48 ≤ (c.toNat : Int)) := by rw [Bool.eq_iff_iff]; simp only [decide_eq_true_eq, UInt8.le_iff_toNat_le]; show 48 ≤ c.toNat ↔ _; omega
 have h4 : decide (c ≤ (57 : UInt8)) = decide ((c.toNat : Int) ≤ 57) := by rw [Bool.eq_iff_iff]; simp only [decide_eq_true_eq, UInt8.le_iff_toNat_le]; show c.toNat ≤ 57 ↔ _; omega
 unfold al alZ
 rw [h1, h2, h3, h4]
theorem eq_Z (c d : UInt8) : (c == d) = ((c.toNat : Int) == (d.toNat : Int)) := by
 rw [Bool.eq_iff_iff]
 simp only [beq_iff_eq]
 constructor
 ·
  rintro rfl; rfl
 ·
  intro h; exact UInt8.toNat_inj.1 (by omega)
theorem nc_Z (c : UInt8) : nc c = (alZ c || puZ c) := by
 unfold nc puZ
 rw [al_Z, eq_Z, eq_Z, eq_Z]
 rfl
theorem nameB_iff {s : Word} : nameB s = true ↔ (1 ≤ s.length ∧ s.length ≤ 64) ∧ ∀ i (h : i < s.length), okc i s[i] = true := by
 cases s with
 | nil => simp [nameB]
 | cons c r =>
  simp only [nameB, Bool.and_eq_true, decide_eq_true_eq, List.all_eq_true, al_Z, nc_Z]
  constructor
  ·
   rintro ⟨h1, h2, h3⟩
   refine ⟨⟨by simp, h1⟩, fun i hi => ?_⟩
   cases i with
   | zero => simp [okc, h2]
   | succ i =>
    have := h3 _ (List.getElem_mem (by simpa using hi : i < r.length))
    simp only [List.getElem_cons_succ]
    unfold okc
    have h0 : decide (0 < ((i + 1 : Nat) : Int)) = true := by simp only [decide_eq_true_eq]; omega
    rw [h0, Bool.true_and]; exact this
  ·
   rintro ⟨⟨_, h1⟩, h3⟩
   refine ⟨h1, ?_, fun x hx => ?_⟩
   ·
    have := h3 0 (by simp)
    simpa [okc] using this
   ·
    obtain ⟨i, hi, rfl⟩ := List.mem_iff_getElem.1 hx
    have := h3 (i + 1) (by simpa using hi)
    simp only [List.getElem_cons_succ] at this
    unfold okc at this
    have h0 : decide (0 < ((i + 1 : Nat) : Int)) = true := by simp only [decide_eq_true_eq]; omega
    rw [h0, Bool.true_and] at this; exact this
theorem nameB_len {s : Word} (h : ¬ (1 ≤ s.length ∧ s.length ≤ 64)) : nameB s = false := by
 cases hn : nameB s
 ·
  rfl
 ·
  exact absurd (nameB_iff.1 hn).1 h
theorem nameB_bad {s : Word} {i : Nat} (hi : i < s.length) (h : okc i s[i] = false) : nameB s = false := by
 cases hn : nameB s
 ·
  rfl
 ·
  rw [(nameB_iff.1 hn).2 i hi] at h; cases h
theorem name_step {s : Word} {i : Nat} (hi : i < s.length) (h : okc i s[i] = true) (h0 : ∀ j (_ : j < i) (h : j < s.length), okc j s[j] = true) : ∀ j (_ : j < i + 1) (h : j < s.length), okc j s[j] = true := fun j hj h' => by
 rcases Nat.lt_or_ge j i with h1 | h1
 ·
  exact h0 j h1 h'
 ·
  have : j = i := by omega
  subst this; exact h
def badHead (s : Word) : Bool := (s == []) || (decide (64 < (s.length : Int)) || (((gb s 0).toNat : Int) == 46 || (((gb s 0).toNat : Int) == 95 || ((gb s 0).toNat : Int) == 45)))
theorem nameB_head {s : Word} (h : badHead s = true) : nameB s = false := by
 cases s with
 | nil => rfl
 | cons c r =>
  cases hn : nameB (c :: r)
  ·
   rfl
  ·
   obtain ⟨⟨h1, h2⟩, h3⟩ := nameB_iff.1 hn
   have h4 := h3 0 (by simp)
   simp only [badHead, gb, List.getD_cons_zero, Bool.or_eq_true, decide_eq_true_eq, beq_iff_eq] at h
   simp [okc, alZ] at h4
   simp only [List.length_cons] at h1 h2 h
   rcases h with h | h | h | h | h
   ·
    cases h
   ·
    omega
   all_goals omega
theorem nameB_ref {s : Word} (h : badHead s = false) (hall : ∀ j (h : j < s.length), (alZ s[j] || puZ s[j]) = true) : nameB s = true := by
 cases s with
 | nil => simp [badHead] at h
 | cons c r =>
  simp only [badHead, gb, List.getD_cons_zero, Bool.or_eq_false_iff, decide_eq_false_iff_not] at h
  obtain ⟨_, h1, h2, h3, h4⟩ := h
  refine nameB_iff.2 ⟨⟨by simp, by simp only [List.length_cons] at h1 ⊢; omega⟩, fun i hi => ?_⟩
  have := hall i hi
  cases i with
  | zero =>
   simp only [List.getElem_cons_zero] at this ⊢
   have hp : puZ c = false := by simp [puZ, h2, h3, h4]
   rw [hp, Bool.or_false] at this
   simp [okc, this]
  | succ i =>
   have h0 : decide (0 < ((i + 1 : Nat) : Int)) = true := by simp only [decide_eq_true_eq]; omega
   unfold okc; rw [h0, Bool.true_and]; exact this
theorem nameB_char {s : Word} {j : Nat} (hj : j < s.length) (h : (alZ s[j] || puZ s[j]) = false) : nameB s = false :=
 nameB_bad hj (by
  have h' : alZ s[j] = false ∧ puZ s[j] = false := by simpa using h
  unfold okc; rw [h'.1, h'.2]; simp)
end Go.Pl

namespace Go.Pl
open Go Go.Hl

section
variable {α β : Type}
def adjB (r : α → α → Bool) : List α → Bool
 | a :: b :: l => r a b && adjB r (b :: l)
 | _ => true
theorem adjB_map (r : β → β → Bool) (f : α → β) : ∀ l : List α, adjB r (l.map f) = adjB (fun a b => r (f a) (f b)) l
 | [] => rfl
 | [_] => rfl
 | a :: b :: l => by
  have := adjB_map r f (b :: l)
  simp only [List.map_cons, adjB] at this ⊢
  rw [this]
theorem ascB_adj : ∀ l : List Word, ascB l = adjB slt l
 | [] => rfl
 | [_] => rfl
 | a :: b :: l => by simp only [ascB, adjB, ascB_adj (b :: l)]
theorem ascD_adj : ∀ l : List Dig, ascD l = adjB dlt l
 | [] => rfl
 | [_] => rfl
 | a :: b :: l => by simp only [ascD, adjB, ascD_adj (b :: l)]
theorem adjB_iff {r : α → α → Bool} : ∀ {l : List α}, adjB r l = true ↔ ∀ i (h : i + 1 < l.length), r l[i] l[i + 1] = true
 | [] => by simp [adjB]
 | [a] => by simp [adjB]
 | a :: b :: l => by
  have ih := adjB_iff (r := r) (l := b :: l)
  simp only [adjB, Bool.and_eq_true, ih]
  constructor
  ·
   rintro ⟨h1, h2⟩ i hi
   cases i with
   | zero => exact h1
   | succ i => exact h2 i (by simpa using hi)
  ·
   intro h
   exact ⟨h 0 (by simp), fun i hi => h (i + 1) (by simpa using hi)⟩
def GoodTo (p : α → Bool) (r : α → α → Bool) (l : List α) (i : Nat) : Prop := (∀ j (h : j < l.length), j < i → p l[j] = true) ∧ ∀ j (h : j + 1 < l.length), j + 1 < i → r l[j] l[j + 1] = true
variable {p : α → Bool} {r : α → α → Bool} {l : List α}
theorem GoodTo.zero : GoodTo p r l 0 := ⟨fun j _ h => by omega, fun j _ h => by omega⟩
theorem GoodTo.one (hi : 0 < l.length) (h : p l[0] = true) : GoodTo p r l 1 := by
 refine ⟨fun j h' hj => ?_, fun j _ h => by omega⟩
 have : j = 0 := by omega
 subst this; exact h
theorem GoodTo.succ {i : Nat} (hi : i + 1 < l.length) (h : p l[i + 1] = true) (hr : r l[i] l[i + 1] = true) (h0 : GoodTo p r l (i + 1)) : GoodTo p r l (i + 1 + 1) := by
 refine ⟨fun j h' hj => ?_, fun j h' hj => ?_⟩
 ·
  rcases Nat.lt_or_ge j (i + 1) with h1 | h1
  ·
   exact h0.1 j h' h1
  ·
   have : j = i + 1 := by omega
   subst this; exact h
 ·
  rcases Nat.lt_or_ge (j + 1) (i + 1) with h1 | h1
  ·
   exact h0.2 j h' h1
  ·
   have : j = i := by omega
   subst this; exact hr
theorem GoodTo.all (h : GoodTo p r l l.length) : (l.all p && adjB r l) = true := by
 rw [Bool.and_eq_true, List.all_eq_true, adjB_iff]
 refine ⟨fun x hx => ?_, fun i hi => h.2 i hi hi⟩
 obtain ⟨i, hi, rfl⟩ := List.mem_iff_getElem.1 hx
 exact h.1 i hi hi
theorem bad_one {i : Nat} (hi : i < l.length) (h : p l[i] = false) : (l.all p && adjB r l) = false := by
 cases hn : l.all p && adjB r l
 ·
  rfl
 ·
  rw [Bool.and_eq_true, List.all_eq_true] at hn
  rw [hn.1 _ (List.getElem_mem hi)] at h; cases h
theorem bad_two {i : Nat} (hi : i + 1 < l.length) (h : r l[i] l[i + 1] = false) : (l.all p && adjB r l) = false := by
 cases hn : l.all p && adjB r l
 ·
  rfl
 ·
  rw [Bool.and_eq_true, adjB_iff] at hn
  rw [hn.2 i hi] at h; cases h
end
theorem namesB_eq (l : List Word) : namesB l = (l.all nameB && adjB slt l) := by unfold namesB; rw [ascB_adj]
theorem quotasB_eq (l : List Qt) : quotasB l = ((l.all quotaB && adjB (fun a b => slt a.r b.r) l) && decide (l.length ≤ 12)) := by unfold quotasB; rw [ascB_adj, adjB_map, Bool.and_assoc]
theorem keysB_eq (l : List Ky) : keysB l = ((l.all keyB && adjB (fun a b => dlt (kid a) (kid b)) l) && decide (l.length ≤ 32)) := by unfold keysB; rw [ascD_adj, adjB_map, Bool.and_assoc]
theorem revsB_eq (l : List Rv) : revsB l = ((l.all (fun x => inN x.t) && adjB (fun a b => dlt a.k b.k) l) && decide (l.length ≤ 64)) := by unfold revsB; rw [ascD_adj, adjB_map, Bool.and_assoc]
theorem idx_contains {α : Type} [BEq α] [LawfulBEq α] (l : List α) (a : α) : decide (0 ≤ idxP (fun x => a == x) l) = l.contains a := by
 rw [Bool.eq_iff_iff, decide_eq_true_eq, idxP_ge, List.contains_iff_mem, List.any_eq_true]
 constructor
 ·
  rintro ⟨x, hx, h⟩; rw [eq_of_beq h]; exact hx
 ·
  intro h; exact ⟨a, h, by simp⟩
theorem u8_ofInt (n : Int) : IntKind.u8.wrap n = ((UInt8.ofNat (n.emod 256).toNat).toNat : Int) := by
 have h1 := Int.emod_nonneg n (show (256 : Int) ≠ 0 by omega)
 have h2 := Int.emod_lt_of_pos n (show (0 : Int) < 256 by omega)
 rw [IntKind.wrap_u8, UInt8.toNat_ofNat']
 have : n.emod 256 = n % 256 := rfl
 rw [this]
 omega
end Go.Pl

namespace Go.Hl
open Go Go.Pl

theorem hpure_ext {P : Program} {f : FuncId} {fn : Func} {e : Array Value → Sem Value} {args : List CV} {R : CV → Prop} (hf : P.funcs[f]? = some fn) (hname : (fn.name == "runtime.NumGoroutine") = false)
  (hb : fn.body.isNone = true) (hn : Extern.findNext fn = none) (he : Extern.find fn = some e)
  (h : ∀ (w : World) (ρ : Env) (O : Nat → Prop) (xs : List Value), RepHV w ρ O (args.map .c) xs → ∃ v x, R v ∧ RepV w ρ O (.c v) x ∧ (e xs.toArray).run P w = .ok x w) : HPure P f args R := by
 refine ⟨by unfold fnOk; rw [hf]; simp only [hname]; rfl, fun w ρ X xs hS hA hX => .inr ⟨by unfold callOk; rw [hf]; simp only [Option.isNone_iff_eq_none] at hb; simp [hb], ?_⟩⟩
 obtain ⟨v, x, hR, hv, hrun⟩ := h w ρ _ xs hA
 refine ⟨x, by rw [run_callFunc_extern hf hname hb hn he, hrun]; rfl, .c v, none0, ρ, x, rfl, ⟨v, rfl, hR, rfl⟩, ⟨hv, hS, by simp [HV.men], fun id o h => by simp [none0] at h, Stay2.refl _ _, Moves.refl _ _⟩⟩

theorem repL_u8 {w : World} {O : Nat → Prop} : ∀ {l : List UInt8} {xs : List Value}, RepL w O (l.map u8) xs → xs = l.map fun b => .int .u8 (b.toNat : Int)
 | [], xs, h => by simpa [RepL] using h
 | b :: l, xs, h => by
  simp only [List.map_cons, RepL, u8, RepC] at h
  obtain ⟨c1, c2, rfl, rfl, h2⟩ := h
  rw [repL_u8 h2]
  rfl
theorem bytes_run {P : Program} {w : World} {ρ : Env} {O : Nat → Prop} {l : List UInt8} {x : Value} (h : RepV w ρ O (.c (.slc (l.map u8))) x) : (Extern.Bytes.bytesOf x).run P w = .ok ⟨l.toArray⟩ w := by
 have h1 := h.single rfl
 simp only [RepC, List.cons.injEq, and_true] at h1
 obtain ⟨a, cap, xs, sz, rfl, h2, _, h4, h5, h6⟩ := h1
 have hx := repL_u8 h2
 cases a with
 | none =>
  have := h5 rfl
  have hl : l = [] := by
   have : l.length = 0 := by simp only [List.length_map] at h4; omega
   exact List.eq_nil_of_length_eq_zero this
  subst hl
  simp only [Extern.Bytes.bytesOf, Sem.run_pure]
  rfl
 | some ad =>
  have hr := (h6 ad rfl).1
  have := Go.Lib.run_loadBytesX (P := P) w (l.map fun b => (b.toNat : Int)) ad .empty (fun j y hj => hr j _ (by
   rw [hx]
   rw [List.getElem?_map] at hj ⊢
   cases hb : l[j]? with
   | none => rw [hb] at hj; cases hj
   | some b => rw [hb] at hj; cases hj; rfl))
  simp only [List.length_map] at this
  simp only [Extern.Bytes.bytesOf, List.length_map, this]
  congr 2
  simp only [Go.Lib.bytesOf, List.map_map]
  have e : l.map ((fun n : Int => n.toNat.toUInt8) ∘ fun b : UInt8 => (b.toNat : Int)) = l := by
   conv => rhs; rw [← List.map_id l]
   exact List.map_congr_left fun b _ => by simp
  rw [e]
  simp

def cmpB (a b : List UInt8) : Int := if slt a b then -1 else if a == b then 0 else 1
def cmpL (a b : List UInt8) : Int :=
 match (List.range (min a.length b.length)).find? fun i => a.getD i 0 != b.getD i 0 with
 | some i => if a.getD i 0 < b.getD i 0 then -1 else 1
 | none => if a.length < b.length then -1 else if a.length > b.length then 1 else 0
theorem find_range {p : Nat → Bool} (n : Nat) : (List.range (n + 1)).find? p = if p 0 then some 0 else ((List.range n).find? fun i => p (i + 1)).map (· + 1) := by
 rw [List.range_succ_eq_map, List.find?_cons, List.find?_map]
 split <;> simp_all [Function.comp]
 rfl
theorem cmpL_eq : ∀ a b : List UInt8, cmpL a b = cmpB a b
 | [], [] => rfl
 | [], b :: l => by simp [cmpL, cmpB, slt, Op.bytesLess]
 | a :: l, [] => by simp [cmpL, cmpB, slt, Op.bytesLess]
 | a :: l, b :: m => by
  have ih := cmpL_eq l m
  have hmin : min (a :: l).length (b :: m).length = min l.length m.length + 1 := by simp only [List.length_cons]; omega
  unfold cmpL at ih ⊢
  rw [hmin, find_range]
  by_cases hab : a = b
  ·
   subst hab
   simp only [List.getD_cons_zero, bne_self_eq_false, Bool.false_eq_true, if_false, List.getD_cons_succ]
   have e1 : cmpB (a :: l) (a :: m) = cmpB l m := by
    have h1 : slt (a :: l) (a :: m) = slt l m := by simp [slt, Op.bytesLess]
    unfold cmpB
    rw [h1]
    simp
   rw [e1, ← ih]
   cases (List.range (min l.length m.length)).find? fun i => l.getD i 0 != m.getD i 0 with
   | some i => simp
   | none => simp
  ·
   have h1 : (a != b) = true := by simpa using hab
   simp only [List.getD_cons_zero, h1, if_true]
   unfold cmpB
   have h2 : (a == b) = false := by simpa using hab
   by_cases h3 : a < b
   ·
    simp [slt, Op.bytesLess, h3]
   ·
    simp [slt, Op.bytesLess, h3, h2, hab]
theorem cmp_run {P : Program} {w : World} {ρ : Env} {O : Nat → Prop} {a b : List UInt8} {x y : Value} (ha : RepV w ρ O (.c (.slc (a.map u8))) x) (hb : RepV w ρ O (.c (.slc (b.map u8))) y) :
  (Extern.BytealgCompare.compare #[x, y]).run P w = .ok (.int .i64 (cmpB a b)) w := by
 change (Sem.run P (do pure (goInt (Extern.BytealgCompare.cmp (← Extern.Bytes.bytesOf x) (← Extern.Bytes.bytesOf y)))) w) = _
 simp only [Sem.run_bind, bytes_run ha, bytes_run hb, Result.andThen_ok, Sem.run_pure, goInt]
 rw [← cmpL_eq]
 congr 2
 have h1 : ∀ l : List UInt8, (⟨l.toArray⟩ : ByteArray).size = l.length := fun l => by simp [ByteArray.size]
 have h2 : ∀ (l : List UInt8) (i : Nat), (⟨l.toArray⟩ : ByteArray)[i]! = l.getD i 0 := fun l i => by
  exact Go.Lib.get!_eq l i
 unfold Extern.BytealgCompare.cmp cmpL
 simp only [h1, h2]
 generalize List.find? _ _ = o
 cases o <;> rfl
theorem compare_ok {P : Program} {f : FuncId} {fn : Func} (hf : P.funcs[f]? = some fn) (hname : (fn.name == "runtime.NumGoroutine") = false) (hb : fn.body.isNone = true) (hn : Extern.findNext fn = none)
  (he : Extern.find fn = some Extern.BytealgCompare.compare) (a b : List UInt8) : HPure P f [.slc (a.map u8), .slc (b.map u8)] (fun v => v = .int .i64 (cmpB a b)) :=
 hpure_ext hf hname hb hn he fun w ρ O xs h => by
  simp only [List.map_cons, List.map_nil, repHV_cons, RepHV] at h
  obtain ⟨x, l1, rfl, hx, y, l2, rfl, hy, rfl⟩ := h
  exact ⟨_, _, rfl, repV_int _ _ _ _ _, cmp_run hx hy⟩
end Go.Hl

namespace Go.Pl
open Go Go.Hl

theorem cmp_ge (a b : List UInt8) : decide (0 ≤ cmpB a b) = !slt a b := by
 unfold cmpB
 cases slt a b
 ·
  simp; split <;> omega
 ·
  rfl
theorem inN_eq (t : Int) : inN t = (decide (0 ≤ t) && decide (t ≤ maxN)) := rfl
theorem nlt (a b : Int) : decide (a ≤ b) = !decide (b < a) := by
 rw [Bool.eq_iff_iff]; simp
theorem nle (a b : Int) : decide (a < b) = !decide (b ≤ a) := by
 rw [Bool.eq_iff_iff]; simp
theorem quotaB_code (q : Qt) : quotaB q = (nameB q.r && (!decide (q.n < 1) && !decide (32 < q.n))) := by
 unfold quotaB; rw [nlt, nlt]
theorem keyB_code (k : Ky) : keyB k = ((decide (0 ≤ k.p.h) && decide (k.p.h ≤ 6)) && (nameB k.o && (!decide ((k.rs.length : Int) < 1) && (!decide (12 < (k.rs.length : Int)) && (namesB k.rs &&
  ((decide (0 ≤ k.fr) && decide (k.fr ≤ maxN)) && ((decide (0 ≤ k.un) && decide (k.un ≤ maxN)) && !decide (k.un ≤ k.fr)))))))) := by
 unfold keyB
 rw [← nlt, ← nlt, ← nle, inN_eq, inN_eq]
 have h1 : decide (1 ≤ k.rs.length) = decide ((1 : Int) ≤ k.rs.length) := by rw [Bool.eq_iff_iff]; simp only [decide_eq_true_eq]; omega
 have h2 : decide (k.rs.length ≤ 12) = decide ((k.rs.length : Int) ≤ 12) := by rw [Bool.eq_iff_iff]; simp only [decide_eq_true_eq]; omega
 rw [h1, h2, Bool.and_assoc (decide ((1 : Int) ≤ k.rs.length))]
theorem keyB_ref (k : Ky) : keyB k = ((decide (0 ≤ k.p.h) && decide (k.p.h ≤ 6)) && (nameB k.o && (decide (1 ≤ (k.rs.length : Int)) && (decide ((k.rs.length : Int) ≤ 12) && (namesB k.rs &&
  (decide (0 ≤ k.fr) && (decide (k.fr < k.un) && decide (k.un ≤ maxN)))))))) := by
 rw [keyB_code]
 rw [← nlt, ← nlt, ← nle]
 congr 5
 rw [Bool.eq_iff_iff]
 simp only [Bool.and_eq_true, decide_eq_true_eq]
 have : (0 : Int) < maxN := by decide
 omega
end Go.Pl

namespace Go.Pl
open Go Go.Hl

theorem denilL_u8 (l : List UInt8) : CV.denilL (l.map u8) = l.map u8 := denilL_map (f := u8) (fun _ => rfl) l
theorem dg_take (d : Dig) : (d.1.map u8).take 32 = d.1.map u8 := List.take_of_length_le (by rw [List.length_map, d.2]; exact Nat.le_refl _)
theorem ne_nil {s : Word} (h : (s == []) = false) : (0 : Int) < (s.length : Int) := by
 cases s with
 | nil => cases h
 | cons x s => rw [List.length_cons]; omega
theorem cmp_dlt (a b : Dig) : decide (0 ≤ cmpB a.1 b.1) = !dlt a b := cmp_ge _ _
theorem cells_dg {l : List Dig} : (∀ v ∈ l.map dg, v.cells = 32) ↔ True := iff_true_intro fun v h => by obtain ⟨d, _, rfl⟩ := List.mem_map.1 h; exact dg_cells d
def kSz (k : Ky) : Prop := k.o.length < 2 ^ 63 ∧ k.rs.length < 2 ^ 40 ∧ ∀ w ∈ k.rs, w.length < 2 ^ 63
def rSz (r : Rt) : Prop := (r.q.length < 2 ^ 40 ∧ ∀ q ∈ r.q, q.r.length < 2 ^ 63) ∧ (r.k.length < 2 ^ 40 ∧ ∀ k ∈ r.k, kSz k) ∧ r.x.length < 2 ^ 40
end Go.Pl

namespace Go.Pl
open Go Go.Hl

theorem dedup_snoc (a b : Word) : ∀ p : List Word, dedup (p ++ [a, b]) = if a == b then dedup (p ++ [a]) else dedup (p ++ [a]) ++ [b]
 | [] => by
  simp only [List.nil_append, dedup]
  split
  ·
   rename_i h
   rw [eq_of_beq h]
  ·
   rfl
 | [x] => by
  have ih := dedup_snoc a b []
  simp only [List.nil_append] at ih
  simp only [List.cons_append, List.nil_append]
  have e1 : dedup (x :: a :: [b]) = if x == a then dedup [a, b] else x :: dedup [a, b] := by rw [dedup]
  have e2 : dedup (x :: a :: []) = if x == a then dedup [a] else x :: dedup [a] := by rw [dedup]
  rw [e1, e2, ih]
  by_cases h1 : (x == a) = true <;> by_cases h2 : (a == b) = true <;> simp [h1, h2]
 | x :: y :: p => by
  have ih := dedup_snoc a b (y :: p)
  simp only [List.cons_append] at ih ⊢
  have e1 : dedup (x :: y :: (p ++ [a, b])) = if x == y then dedup (y :: (p ++ [a, b])) else x :: dedup (y :: (p ++ [a, b])) := by rw [dedup]
  have e2 : dedup (x :: y :: (p ++ [a])) = if x == y then dedup (y :: (p ++ [a])) else x :: dedup (y :: (p ++ [a])) := by rw [dedup]
  rw [e1, e2, ih]
  by_cases h1 : (x == y) = true <;> by_cases h2 : (a == b) = true <;> simp [h1, h2]
theorem dedup_take {l : List Word} {j : Nat} (h0 : 1 ≤ j) (h : j < l.length) : dedup (l.take (j + 1)) = if l[j] == l[j - 1] then dedup (l.take j) else dedup (l.take j) ++ [l[j]] := by
 have e1 : l.take j = l.take (j - 1) ++ [l[j - 1]] := by
  have := List.take_succ_eq_append_getElem (show j - 1 < l.length by omega)
  rwa [show j - 1 + 1 = j by omega] at this
 rw [List.take_succ_eq_append_getElem h, e1, List.append_assoc]
 have := dedup_snoc l[j - 1] l[j] (l.take (j - 1))
 simp only [List.singleton_append]
 rw [this]
 have e2 : (l[j - 1] == l[j]) = (l[j] == l[j - 1]) := by rw [Bool.eq_iff_iff]; simp only [beq_iff_eq]; exact eq_comm
 rw [e2]
theorem dedup_short : ∀ {l : List Word}, l.length < 2 → dedup l = l
 | [], _ => rfl
 | [_], _ => rfl
 | _ :: _ :: _, h => by simp at h; omega
theorem dedup_keep {l : List Word} {k : Nat} (h0 : 1 ≤ k) (h : k < l.length) (hne : (l[k] == l[k - 1]) = false) (hd : dedup (l.take k) = l.take k) : dedup (l.take (k + 1)) = l.take (k + 1) := by
 rw [dedup_take h0 h, hne, hd, List.take_succ_eq_append_getElem h]; rfl
theorem dedup_skip {l : List Word} {k : Nat} (h0 : 1 ≤ k) (h : k < l.length) (he : (l[k] == l[k - 1]) = true) : dedup (l.take (k + 1)) = dedup (l.take k) := by
 rw [dedup_take h0 h, he]; rfl
theorem dedup_put {l : List Word} {k : Nat} (h0 : 1 ≤ k) (h : k < l.length) (hne : (l[k] == l[k - 1]) = false) : dedup (l.take (k + 1)) = dedup (l.take k) ++ [l[k]] := by
 rw [dedup_take h0 h, hne]; rfl
end Go.Pl

namespace Go.Pl
open Go Go.Hl

theorem ownF_take {l : List Ky} {role : Word} {p : Ky → Bool} {i : Nat} (h : i < l.length) : ownF (l.take (i + 1)) role p = ownF (l.take i) role p ++ (if l[i].rs.contains role && p l[i] then [l[i].o] else []) := by
 unfold ownF
 rw [List.take_succ_eq_append_getElem h, List.filter_append, List.map_append]
 congr 1
 cases hc : (l[i].rs.contains role && p l[i])
 ·
  simp only [List.filter_cons, hc, List.filter_nil]; rfl
 ·
  simp only [List.filter_cons, hc, List.filter_nil]; rfl
theorem ownF_len (l : List Ky) (role : Word) (p : Ky → Bool) : (ownF l role p).length ≤ l.length := by
 unfold ownF; rw [List.length_map]; exact List.length_filter_le _ _
theorem sorted_ms (l : List Word) : (l.mergeSort leW).Pairwise (· ≤ ·) := by
 have tot : ∀ x y : List UInt8, (leW x y || leW y x) = true := fun x y => by
  simp only [leW, Bool.or_eq_true, decide_eq_true_eq]
  exact List.le_total x y
 have tr : ∀ x y z : List UInt8, leW x y = true → leW y z = true → leW x z = true := fun x y z => by
  simp only [leW, decide_eq_true_eq]
  exact List.le_trans
 exact (List.pairwise_mergeSort tr tot l).imp (fun h => by simpa [leW] using h)
theorem dedup_ms (l : List Word) : dedup (l.mergeSort leW) = setW l := dedup_sort (sorted_ms l) fun w => (List.mergeSort_perm l leW).mem_iff
theorem live_code (r : Rt) (k : Ky) (t : Int) : liveB r k t = (decide (k.fr ≤ t) && (decide (t < k.un) && (decide (t < r.e) && !(revS r.x (pid k.p) && decide (revZ r.x (pid k.p) ≤ t))))) := by
 unfold liveB; rw [gone_rev]; rfl
theorem valid_code (r : Rt) : validR r = ((decide (1 ≤ r.v) && decide (r.v ≤ maxN)) && ((decide (0 ≤ r.e) && decide (r.e ≤ maxN)) && (quotasB r.q && (keysB r.k && (revsB r.x && (decide (0 < need r.q wRoot) && decide (need r.q wRoot ≤ (ownB r.k wRoot fun _ => true).length))))))) := rfl
theorem hpureh_fn {P : Program} {f g : FuncId} {a b : HV} {R : CV → Prop} (h : HPureH P f [a, b, .clo g []] R) : HPureH P f [a, b, .c (.fn g)] R := by
 refine ⟨h.1, fun w ρ X xs hS hA hX => h.2 w ρ X xs hS ?_ hX⟩
 rw [repHV_cons] at hA ⊢
 obtain ⟨y1, z1, rfl, hy1, hA⟩ := hA
 refine ⟨y1, z1, rfl, hy1, ?_⟩
 rw [repHV_cons] at hA ⊢
 obtain ⟨y2, z2, rfl, hy2, hA⟩ := hA
 refine ⟨y2, z2, rfl, hy2, ?_⟩
 rw [repHV_cons] at hA ⊢
 obtain ⟨y3, z3, rfl, hy3, hA⟩ := hA
 refine ⟨y3, z3, rfl, ?_, hA⟩
 obtain ⟨h1, h2⟩ := hy3
 refine ⟨?_, by rw [← h2]; rfl⟩
 simp only [RepH, RepC] at h1 ⊢
 exact ⟨[], h1, by simp [RepHV]⟩
end Go.Pl

namespace Go.Pl
open Go Go.Hl

theorem valid_ref (r : Rt) : validR r = ((!decide (r.v < 1) && !decide ((1099511627776 : Int) < r.v)) && (inN r.e && (quotasB r.q && (keysB r.k && (revsB r.x && (decide (0 < need r.q wRoot) && decide (need r.q wRoot ≤ ((ownB r.k wRoot fun _ => true).length : Int)))))))) := by
 unfold validR; rw [nlt 1 r.v, nlt r.v maxN]; rfl
theorem quotasB_big {l : List Qt} (h : decide (12 < (l.length : Int)) = true) : quotasB l = false := by
 rw [quotasB_eq, Bool.and_eq_false_iff]; right
 simp at h ⊢; omega
theorem keysB_big {l : List Ky} (h : decide (32 < (l.length : Int)) = true) : keysB l = false := by
 rw [keysB_eq, Bool.and_eq_false_iff]; right
 simp at h ⊢; omega
theorem revsB_big {l : List Rv} (h : decide (64 < (l.length : Int)) = true) : revsB l = false := by
 rw [revsB_eq, Bool.and_eq_false_iff]; right
 simp at h ⊢; omega
theorem quotasB_ok {l : List Qt} (h : decide (12 < (l.length : Int)) = false) (h0 : GoodTo quotaB (fun a b => slt a.r b.r) l l.length) : quotasB l = true := by
 rw [quotasB_eq, h0.all, Bool.true_and, decide_eq_true_eq]
 simp at h; omega
theorem keysB_ok {l : List Ky} (h : decide (32 < (l.length : Int)) = false) (h0 : GoodTo keyB (fun a b => dlt (kid a) (kid b)) l l.length) : keysB l = true := by
 rw [keysB_eq, h0.all, Bool.true_and, decide_eq_true_eq]
 simp at h; omega
theorem revsB_ok {l : List Rv} (h : decide (64 < (l.length : Int)) = false) (h0 : GoodTo (fun x : Rv => inN x.t) (fun a b => dlt a.k b.k) l l.length) : revsB l = true := by
 rw [revsB_eq, h0.all, Bool.true_and, decide_eq_true_eq]
 simp at h; omega
theorem setW_len (l : List Word) : (setW l).length ≤ l.length := nodup_len _ _ (asc_nodup (setW_asc l)) fun w hw => mem_setW.1 hw
theorem setW_snoc (l : List Word) (w : Word) : setW (l ++ [w]) = addW (setW l) w := by unfold setW; rw [List.foldl_append]; rfl
end Go.Pl

namespace Go.Pl
open Go Go.Hl

theorem ws_denil (l : List W32) : (ws l).denil = ws l := by simp only [ws, CV.denil]; rw [denilL_map (f := w32) (fun _ => rfl)]
theorem us_denil (l : List UInt8) : (us l).denil = us l := by simp only [us, CV.denil]; rw [denilL_map (f := u8) (fun _ => rfl)]
theorem ws_isAgg (l : List W32) : (ws l).isAgg = true := rfl
theorem ws_all {l : List W32} {n : Nat} (h : l.length = n) : CV.getAt 0 n true (ws l) = some (ws l) := by
 have := ws_cells l
 simp only [ws, CV.cells] at this
 simp only [ws, CV.getAt, this, h, and_self, if_true]
theorem us_all {l : List UInt8} {n : Nat} (h : l.length = n) : CV.getAt 0 n true (us l) = some (us l) := by
 have := us_cells l
 simp only [us, CV.cells] at this
 simp only [us, CV.getAt, this, h, and_self, if_true]
theorem ws_setAll {l : List W32} {n : Nat} (h : l.length = n) (x : HV) : CV.setAt 0 n x (ws l) = some x := by
 have := ws_cells l
 simp only [ws, CV.cells] at this
 simp only [ws, CV.setAt, this, h, and_self, if_true]
theorem ws_gw {l : List W32} {i : Nat} (h : i < l.length) : CV.getAt i 1 false (ws l) = some (.int .u32 ((gw l i).toNat : Int)) := by rw [ws_get h, gw_at h]; rfl
theorem ws_setw {l : List W32} {i : Nat} (y : W32) (h : i < l.length) (h2 : l.length ≠ 1) : CV.setAt i 1 (.c (.int .u32 (y.toNat : Int))) (ws l) = some (.agg (((l.set i y).map w32).map .c)) := ws_set y h h2
theorem us_setb {l : List UInt8} {i : Nat} (y : UInt8) (h : i < l.length) (h2 : l.length ≠ 1) : CV.setAt i 1 (.c (.int .u8 (y.toNat : Int))) (us l) = some (.agg (((l.set i y).map u8).map .c)) := us_set y h h2
theorem nth_u8 {b : List UInt8} {i : Nat} (h : i < b.length) : nth (b.map u8) i = .int .u8 ((gb b i).toNat : Int) := by rw [nth_map h, gb_at h]; rfl
theorem w_rot (x : W32) (n : Nat) : (x <<< (32 - n)) ||| (x >>> n) = rotr x n := by unfold rotr; exact BitVec.or_comm _ _
theorem rot_amt : ∀ n : Fin 32, 0 < n.1 → IntKind.u64.wrap ((BitVec.ofInt IntKind.u64.bits (IntKind.u64.wrap (-((n.1 : Nat) : Int))) &&& BitVec.ofInt IntKind.u64.bits 31).toNat : Int) = ((32 - n.1 : Nat) : Int) := by decide +kernel
theorem hfill_seq {e : Operand → HV} : ∀ (ps : List (Nat × Operand)) (vs : List CV) (pre old : List HV), ps.map (fun p => (p.1, e p.2)) = (vs.zipIdx pre.length).map (fun p => (p.2, HV.c p.1)) → (∀ v ∈ vs, v.cells = 1) → (∀ o ∈ old, HV.cells o = 1) → old.length = vs.length → hfill e ps (pre ++ old) = some (pre ++ vs.map .c)
 | [], [], pre, old, _, _, _, hl => by
  have : old = [] := List.eq_nil_of_length_eq_zero hl
  subst this; rfl
 | [], v :: vs, _, _, h, _, _, _ => by simp at h
 | p :: ps, [], _, _, h, _, _, _ => by simp at h
 | (i, x) :: ps, v :: vs, pre, [], _, _, _, hl => by simp at hl
 | (i, x) :: ps, v :: vs, pre, o :: old, h, hv, ho, hl => by
  simp only [List.map_cons, List.zipIdx_cons, List.cons.injEq, Prod.mk.injEq] at h
  obtain ⟨⟨h1, h2⟩, h3⟩ := h
  have e1 : (pre ++ o :: old)[i]? = some o := by rw [h1]; simp
  have e2 : (pre ++ o :: old).set i (e x) = (pre ++ [HV.c v]) ++ old := by rw [h1, h2]; simp
  have e3 : (e x).cells = o.cells := by rw [h2, ho o (by simp)]; exact hv v (by simp)
  simp only [hfill, e1]
  rw [if_pos ⟨by rw [h2]; rfl, e3⟩, e2, hfill_seq (e := e) ps vs (pre ++ [HV.c v]) old (by rw [h3]; simp) (fun v hv' => hv v (by simp [hv'])) (fun o ho' => ho o (by simp [ho'])) (by simpa using hl)]
  simp
theorem hbuild_ws {n bytes : Nat} {d : TyD} {ps : List (Nat × Operand)} {e : Operand → HV} {K : HV → Prop} (vs : List W32) (hn : vs.length = n) (h : ps.map (fun p => (p.1, e p.2)) = ((vs.map w32).zipIdx).map (fun p => (p.2, HV.c p.1))) : hbuild ⟨n, bytes, d, ws (wz n)⟩ ps e K = K (.c (ws vs)) := by
 have := hfill_seq (e := e) ps (vs.map w32) [] (((wz n).map w32).map .c) h (by simp [w32, CV.cells]) (by simp [w32, HV.cells, CV.cells]) (by simp [wz_len, hn])
 simp only [List.nil_append] at this
 simp only [hbuild, ws, this, hlift_some]
 rw [norm_cs]
@[simp] theorem ws_set_eq (l : List W32) (i : Nat) (x : W32) : CV.agg ((l.map w32).set i (w32 x)) = ws (l.set i x) := by rw [← List.map_set]; rfl
@[simp] theorem us_set_eq (l : List UInt8) (i : Nat) (x : UInt8) : CV.agg ((l.map u8).set i (u8 x)) = us (l.set i x) := by rw [← List.map_set]; rfl
theorem close_c {ob : Ob} {cl : List Nat} {v : CV} (h : v.denil = v) : (HV.close ob cl (.c v)).norm = .c v := by
 rw [show HV.close ob cl (.c v) = .c v.denil from rfl, h]; rfl
@[simp] theorem wA_zero (b : List UInt8) : wA b 0 = wz 64 := rfl
@[simp] theorem wB_zero (w : List W32) : wB w 0 = w := rfl
theorem wsched_eq (b : List UInt8) : wB (wA b 16) 48 = wsched b := by unfold wsched; rfl
theorem St_len (s : St) : s.l.length = 8 := by simp [St.l]
theorem K_len : K256.length = 64 := by decide
theorem gw_a (s : St) : gw s.l 0 = s.a := rfl
theorem gw_b (s : St) : gw s.l 1 = s.b := rfl
theorem gw_c (s : St) : gw s.l 2 = s.c := rfl
theorem gw_d (s : St) : gw s.l 3 = s.d := rfl
theorem gw_e (s : St) : gw s.l 4 = s.e := rfl
theorem gw_f (s : St) : gw s.l 5 = s.f := rfl
theorem gw_g (s : St) : gw s.l 6 = s.g := rfl
theorem gw_h (s : St) : gw s.l 7 = s.h := rfl
theorem t1_code (s : St) (k w : W32) : ((((s.h + k) + w) + ((s.e &&& s.f) ^^^ (~~~ s.e &&& s.g))) + ((rotr s.e 6 ^^^ rotr s.e 11) ^^^ rotr s.e 25)) = t1 s k w := by
 unfold t1
 generalize (s.e &&& s.f) ^^^ (~~~ s.e &&& s.g) = x
 generalize (rotr s.e 6 ^^^ rotr s.e 11) ^^^ rotr s.e 25 = y
 ac_rfl
theorem t2_code (s : St) : (((s.a &&& s.b) ^^^ (s.a &&& s.c)) ^^^ (s.b &&& s.c)) + ((rotr s.a 2 ^^^ rotr s.a 13) ^^^ rotr s.a 22) = t2 s := BitVec.add_comm _ _
theorem t1_ref (s : St) (k w : W32) : (((s.h + ((rotr s.e 6 ^^^ rotr s.e 11) ^^^ rotr s.e 25)) + ((s.e &&& s.f) ^^^ (~~~ s.e &&& s.g))) + k) + w = t1 s k w := rfl
theorem t2_ref (s : St) : ((rotr s.a 2 ^^^ rotr s.a 13) ^^^ rotr s.a 22) + (((s.a &&& s.b) ^^^ (s.a &&& s.c)) ^^^ (s.b &&& s.c)) = t2 s := rfl
def addL (s r : St) (j : Nat) : List W32 := (s.l.zipWith (fun x y => x + y) r.l).take j ++ s.l.drop j
theorem addL_len (s r : St) : ∀ j, j < 9 → (addL s r j).length = 8
 | 0, _ => rfl | 1, _ => rfl | 2, _ => rfl | 3, _ => rfl | 4, _ => rfl | 5, _ => rfl | 6, _ => rfl | 7, _ => rfl | 8, _ => rfl
 | j + 9, h => by omega
theorem addL_gw (s r : St) : ∀ j, j < 8 → gw (addL s r j) j = gw s.l j
 | 0, _ => rfl | 1, _ => rfl | 2, _ => rfl | 3, _ => rfl | 4, _ => rfl | 5, _ => rfl | 6, _ => rfl | 7, _ => rfl
 | j + 8, h => by omega
theorem addL_step (s r : St) : ∀ j, j < 8 → (addL s r j).set j (gw s.l j + gw r.l j) = addL s r (j + 1)
 | 0, _ => rfl | 1, _ => rfl | 2, _ => rfl | 3, _ => rfl | 4, _ => rfl | 5, _ => rfl | 6, _ => rfl | 7, _ => rfl
 | j + 8, h => by omega
@[simp] theorem addL_zero (s r : St) : addL s r 0 = s.l := rfl
theorem itN_set {α : Type} (f : Nat → α) (l : List α) : ∀ n, n ≤ l.length → itN (fun i l => l.set i (f i)) n l = (List.range n).map f ++ l.drop n
 | 0, _ => by simp [itN]
 | n + 1, h => by
  rw [itN_succ, itN_set f l n (by omega), List.set_append_right _ _ (by simp), List.drop_eq_getElem_cons (show n < l.length by omega), List.length_map, List.length_range, Nat.sub_self, List.set_cons_zero, List.range_succ, List.map_append]
  simp
end Go.Pl

namespace Go.Pl
open Go Go.Hl

theorem blk_succ (p : List UInt8) (n : Nat) (s : St) : blk p (n + 1) s = comp (blk p n s) ((p.drop (64 * n)).take 64) := rfl
theorem len8_len (n : Nat) : (len8 n).length = 8 := by simp [len8]
theorem pad_len (b : List UInt8) : (pad b).length = b.length + 1 + zs b.length + 8 := by simp [pad, len8_len]; omega
theorem pad_mod (b : List UInt8) : (pad b).length % 64 = 0 := by
 rw [pad_len]; unfold zs; omega
theorem pad_blk {b : List UInt8} {j : Nat} (h : 64 * (j + 1) ≤ b.length) : ((pad b).drop (64 * j)).take 64 = (b.drop (64 * j)).take 64 := by
 unfold pad
 rw [List.append_assoc, List.append_assoc, List.drop_append_of_le_length (by omega), List.take_append_of_le_length (by rw [List.length_drop]; omega)]
def padP (b : List UInt8) (j : Nat) : List UInt8 := b.drop (64 * j) ++ [0x80] ++ List.replicate (zs b.length) 0
theorem pad_tail {b : List UInt8} {j : Nat} (h : 64 * j ≤ b.length) : (pad b).drop (64 * j) = padP b j ++ len8 b.length := by
 unfold pad padP
 rw [List.append_assoc, List.append_assoc, List.drop_append_of_le_length h]
 simp
def lastM (b : List UInt8) (j : Nat) : Nat := if b.length - 64 * j < 56 then 64 else 128
section
variable {b : List UInt8} {j : Nat} (h0 : 64 * j ≤ b.length) (h1 : b.length < 64 * j + 64)
include h0 h1
theorem padP_len : (padP b j).length + 8 = lastM b j := by
 simp only [padP, lastM, List.length_append, List.length_drop, List.length_singleton, List.length_replicate]
 unfold zs
 split <;> omega
theorem pad_blocks : (pad b).length = 64 * j + lastM b j := by
 have e := congrArg List.length (pad_tail h0)
 rw [List.length_drop, List.length_append, len8_len, padP_len h0 h1] at e
 have : 64 * j ≤ (pad b).length := by rw [pad_len]; omega
 omega
theorem arr0 : ((b.drop (64 * j) ++ (uz 128).drop (b.length - 64 * j)).set (b.length - 64 * j) 0x80) = padP b j ++ (List.replicate 8 0 ++ List.replicate (128 - lastM b j) 0) := by
 have hl : (b.drop (64 * j)).length = b.length - 64 * j := List.length_drop
 have e : (uz 128).drop (b.length - 64 * j) = 0 :: List.replicate (127 - (b.length - 64 * j)) 0 := by
  unfold uz
  rw [List.drop_replicate, ← List.replicate_succ]
  congr 1; omega
 rw [List.set_append_right _ _ (by omega), hl, Nat.sub_self, e, List.set_cons_zero, List.replicate_append_replicate]
 have e2 : 127 - (b.length - 64 * j) = zs b.length + (8 + (128 - lastM b j)) := by
  unfold zs lastM; split <;> omega
 rw [e2, ← List.replicate_append_replicate, ← List.replicate_append_replicate]
 simp only [padP, List.append_assoc, List.singleton_append, List.cons_append, List.nil_append, List.replicate_append_replicate]
end
def midB (n i : Nat) : List UInt8 := (List.range 8).map fun q => if 7 - q < i then UInt8.ofNat (8 * n / 2 ^ (8 * (7 - q))) else 0
theorem midB_zero (n : Nat) : List.replicate 8 0 = midB n 0 := rfl
theorem midB_step (n : Nat) : ∀ i, i < 8 → (midB n i).set (7 - i) (UInt8.ofNat (8 * n / 2 ^ (8 * i))) = midB n (i + 1)
 | 0, _ => rfl | 1, _ => rfl | 2, _ => rfl | 3, _ => rfl | 4, _ => rfl | 5, _ => rfl | 6, _ => rfl | 7, _ => rfl
 | j + 8, h => by omega
theorem midB_all (n : Nat) : midB n 8 = len8 n := rfl
theorem midB_len (n i : Nat) : (midB n i).length = 8 := by simp [midB]
def arrB (b : List UInt8) (j i : Nat) : List UInt8 := padP b j ++ (midB b.length i ++ List.replicate (128 - lastM b j) 0)
section
variable {b : List UInt8} {j : Nat} (h0 : 64 * j ≤ b.length) (h1 : b.length < 64 * j + 64)
include h0 h1
theorem arrB_zero : ((b.drop (64 * j) ++ (uz 128).drop (b.length - 64 * j)).set (b.length - 64 * j) 0x80) = arrB b j 0 := by rw [arr0 h0 h1, midB_zero b.length]; rfl
theorem arrB_len (i : Nat) : (arrB b j i).length = 128 := by
 have := padP_len h0 h1
 simp only [arrB, List.length_append, midB_len, List.length_replicate]
 have : lastM b j ≤ 128 := by unfold lastM; split <;> omega
 omega
theorem arrB_step {i : Nat} (hi : i < 8) : (arrB b j i).set (lastM b j - 1 - i) (UInt8.ofNat (8 * b.length / 2 ^ (8 * i))) = arrB b j (i + 1) := by
 have hp := padP_len h0 h1
 unfold arrB
 rw [List.set_append_right _ _ (by omega), List.set_append_left _ _ (by rw [midB_len]; omega)]
 have : lastM b j - 1 - i - (padP b j).length = 7 - i := by omega
 rw [this, midB_step _ _ hi]
theorem arrB_blk {q : Nat} (hq : 64 * (q + 1) ≤ lastM b j) : ((arrB b j 8).drop (64 * q)).take 64 = ((pad b).drop (64 * (j + q))).take 64 := by
 have hp := padP_len h0 h1
 have e : (arrB b j 8) = (pad b).drop (64 * j) ++ List.replicate (128 - lastM b j) 0 := by rw [pad_tail h0]; unfold arrB; rw [midB_all]; simp
 have hl : ((pad b).drop (64 * j)).length = lastM b j := by rw [List.length_drop, pad_blocks h0 h1]; omega
 rw [e, List.drop_append_of_le_length (by omega), List.take_append_of_le_length (by rw [List.length_drop]; omega), List.drop_drop]
 congr 2; omega
end
theorem over_u8 {r : List UInt8} {n : Nat} (h : r.length ≤ n) : over ((uz n).map u8) ((r.map u8).take n) 0 = (r ++ (uz n).drop r.length).map u8 := by
 have e : (r.map u8).take n = r.map u8 := List.take_of_length_le (by rw [List.length_map]; exact h)
 simp [over, e]
@[simp] theorem us_fold (l : List UInt8) : CV.agg (l.map u8) = us l := rfl
theorem byte_shr (v i : Nat) (h : 8 * i ≤ 64) : IntKind.u8.wrap (Int.fdiv (v : Int) (2 ^ (min (8 * i) IntKind.u64.bits))) = ((UInt8.ofNat (v / 2 ^ (8 * i))).toNat : Int) := by
 have : min (8 * i) IntKind.u64.bits = 8 * i := Nat.min_eq_left h
 rw [this, Int.fdiv_eq_ediv_of_nonneg _ (Int.pow_nonneg (by omega))]
 have e : (v : Int) / 2 ^ (8 * i) = ((v / 2 ^ (8 * i) : Nat) : Int) := by norm_cast
 rw [e, IntKind.wrap_u8, UInt8.toNat_ofNat']
 omega
def ob8 (s : St) (i : Nat) : UInt8 := UInt8.ofNat ((gw s.l (i / 4)) >>> (24 - 8 * (i % 4))).toNat
def outL (s : St) (n : Nat) : List UInt8 := itN (fun i l => l.set i (ob8 s i)) n (uz 32)
@[simp] theorem outL_zero (s : St) : outL s 0 = uz 32 := rfl
theorem outL_len (s : St) (n : Nat) : (outL s n).length = 32 := by unfold outL; rw [itN_len (fun i l => by simp)]; simp [uz]
theorem outL_all (s : St) : outL s 32 = outB s := by
 unfold outL
 rw [itN_set _ _ _ (by simp [uz])]
 simp [uz, outB, ob8]
theorem len8_take {n i : Nat} (h : i < 8) : (len8 n).take (i + 1) = (len8 n).take i ++ [UInt8.ofNat (8 * n / 2 ^ (8 * (7 - i)))] := by
 rw [List.take_succ_eq_append_getElem (by rw [len8_len]; exact h)]
 simp [len8]
theorem padded {b : List UInt8} : b ++ [0x80] ++ List.replicate (zs b.length) 0 ++ (len8 b.length).take 8 = pad b := by
 rw [List.take_of_length_le (by rw [len8_len]; exact Nat.le_refl _)]; rfl
theorem hf_take (h : Half) : (h.1.map u8).take 16 = h.1.map u8 := List.take_of_length_le (by rw [List.length_map, h.2]; exact Nat.le_refl _)
theorem sha_out (b : List UInt8) : us (outB (blk (pad b) ((pad b).length / 64) St0)) = dg (sha b) := rfl
end Go.Pl

namespace Go.Pl
open Go Go.Hl

theorem insK_eq {l : List Ky} {k : Ky} {i : Nat} (hi : i ≤ l.length) (h0 : ∀ x ∈ l.take i, dlt (kid x) (kid k) = true) (h1 : ∀ h : i < l.length, dlt (kid l[i]) (kid k) = false) : l.take i ++ k :: l.drop i = insK l k := by
 have key : ∀ (l : List Ky) (i : Nat), i ≤ l.length → (∀ x ∈ l.take i, dlt (kid x) (kid k) = true) → (∀ h : i < l.length, dlt (kid l[i]) (kid k) = false) → (l.takeWhile fun x => dlt (kid x) (kid k)) = l.take i ∧ (l.dropWhile fun x => dlt (kid x) (kid k)) = l.drop i := by
  intro l
  induction l with
  | nil => intro i hi _ _; simp at hi; subst hi; exact ⟨rfl, rfl⟩
  | cons a l ih =>
   intro i hi h0 h1
   cases i with
   | zero =>
    have := h1 (by simp)
    simp only [List.getElem_cons_zero] at this
    simp [List.takeWhile_cons, List.dropWhile_cons, this]
   | succ i =>
    have ha := h0 a (by simp)
    obtain ⟨e1, e2⟩ := ih i (by simpa using hi) (fun x hx => h0 x (by simp [hx])) (fun h => h1 (by simpa using h))
    simp [List.takeWhile_cons, List.dropWhile_cons, ha, e1, e2]
 obtain ⟨e1, e2⟩ := key l i hi h0 h1
 unfold insK
 rw [e1, e2]
theorem insK_len (l : List Ky) (k : Ky) : (insK l k).length = l.length + 1 := by
 unfold insK
 have := congrArg List.length (List.takeWhile_append_dropWhile (p := fun x => dlt (kid x) (kid k)) (l := l))
 simp only [List.length_append, List.length_cons] at this ⊢
 omega
theorem insK_mem {l : List Ky} {k x : Ky} (h : x ∈ insK l k) : x ∈ l ∨ x = k := by
 unfold insK at h
 simp only [List.mem_append, List.mem_cons] at h
 rcases h with h | h | h
 ·
  exact .inl ((List.takeWhile_sublist _).subset h)
 ·
  exact .inr h
 ·
  exact .inl ((List.dropWhile_sublist _).subset h)
theorem u8_nat (n : Nat) : IntKind.u8.wrap (n : Int) = ((UInt8.ofNat n).toNat : Int) := by
 rw [IntKind.wrap_u8, UInt8.toNat_ofNat']; omega
theorem hbuild_hf2 {n bytes : Nat} {d : TyD} {a b : Operand} {e : Operand → HV} {K : HV → Prop} (x y : UInt8) (ha : e a = .c (.int .u8 (x.toNat : Int))) (hb : e b = .c (.int .u8 (y.toNat : Int))) : hbuild ⟨n, bytes, d, hf zh⟩ [(0, a), (1, b)] e K = K (.c (hf ⟨[x, y] ++ List.replicate 14 0, by simp⟩)) := by
 have e1 : hfill e [(0, a), (1, b)] (((List.replicate 16 (0 : UInt8)).map u8).map .c) = some ((([x, y] ++ List.replicate 14 0).map u8).map .c) := by
  simp only [hfill, ha, hb]
  rfl
 simp only [hbuild, hf, zh, e1, hlift_some]
 rw [norm_cs]
theorem hbuild_pk {n bytes : Nat} {d : TyD} {a b : Operand} {e : Operand → HV} {K : HV → Prop} (h : Int) (r : Half) (ha : e a = .c (.int .i64 h)) (hb : e b = .c (hf r)) : hbuild ⟨n, bytes, d, Pk.cv ⟨0, zh⟩⟩ [(0, a), (1, b)] e K = K (.c (Pk.cv ⟨h, r⟩)) := by
 have e1 : hfill e [(0, a), (1, b)] ([CV.int .i64 0, hf zh].map .c) = some [.c (.int .i64 h), .c (hf r)] := by
  simp [hfill, ha, hb, HV.sto, HV.cells, CV.cells, hf_cells]
 simp only [hbuild, Pk.cv, e1, hlift_some]
 rfl
theorem hbuild_qt {n bytes : Nat} {d : TyD} {a b : Operand} {e : Operand → HV} {K : HV → Prop} (w : Word) (k : Int) (ha : e a = .c (.str w)) (hb : e b = .c (.int .i64 k)) : hbuild ⟨n, bytes, d, Qt.cv ⟨[], 0⟩⟩ [(0, a), (1, b)] e K = K (.c (Qt.cv ⟨w, k⟩)) := by
 have e1 : hfill e [(0, a), (1, b)] ([CV.str [], CV.int .i64 0].map .c) = some [.c (.str w), .c (.int .i64 k)] := by
  simp [hfill, ha, hb, HV.sto, HV.cells, CV.cells]
 simp only [hbuild, Qt.cv, e1, hlift_some]
 rfl
theorem cells_ky {l : List Ky} : (∀ v ∈ l.map Ky.cv, v.cells = 21) ↔ True := iff_true_intro fun v h => by obtain ⟨d, _, rfl⟩ := List.mem_map.1 h; exact Ky.cells d
theorem roles_short : ∀ w ∈ roles10, w.length ≤ 20 := by decide
theorem owners_short : ∀ w ∈ owners4, w.length ≤ 20 := by decide
theorem mOwner_mem (i : Nat) : mOwner i ∈ owners4 := by
 unfold mOwner
 have : i % 4 < 4 := Nat.mod_lt _ (by omega)
 rw [List.getD_eq_getElem?_getD, List.getElem?_eq_getElem (show i % 4 < owners4.length from this)]
 exact List.getElem_mem _
theorem step_mem : wStep ∈ roles10 := by decide
end Go.Pl

namespace Go.Pl
open Go Go.Hl

def zR : CV := .agg [.int .i64 0, .int .i64 0, .nils, .nils, .nils]
def kOk (k : Ky) : Prop := kSz k ∧ k.o ∈ owners4
def rOk (r : Rt) : Prop := rSz r ∧ ∀ k ∈ r.k, k.o ∈ owners4
theorem mKey_ok (i : Nat) (ws : List Word) (a b : Int) (hl : ws.length ≤ 11) (hm : ∀ w ∈ ws, w ∈ roles10) : kOk ⟨mPub i, mOwner i, ws, a, b⟩ := by
 have ho := mOwner_mem i
 refine ⟨⟨?_, by show ws.length < _; omega, fun w hw => ?_⟩, ho⟩
 ·
  have := owners_short _ ho
  show (mOwner i).length < _
  omega
 ·
  have := roles_short _ (hm w hw)
  omega
def qz (i : Nat) : List Qt := (roles10.take i).map fun w => ⟨w, 1⟩
theorem qz_succ {i : Nat} (h : i < roles10.length) : qz (i + 1) = qz i ++ [⟨roles10[i], 1⟩] := by
 unfold qz; rw [List.take_succ_eq_append_getElem h, List.map_append]; rfl
theorem qz_len {i : Nat} (h : i ≤ 10) : (qz i).length = i := by
 unfold qz
 rw [List.length_map, List.length_take, show roles10.length = 10 from rfl]; omega
theorem qz_all : qz 10 = full.q := rfl
def kz (i : Nat) : List Ky := (List.range i).foldl (fun l i => insK l (mKey i)) []
theorem kz_succ (i : Nat) : kz (i + 1) = insK (kz i) (mKey i) := by unfold kz; rw [List.range_succ, List.foldl_append]; rfl
theorem kz_len : ∀ i, (kz i).length = i
 | 0 => rfl
 | i + 1 => by rw [kz_succ, insK_len, kz_len i]
theorem kz_ok : ∀ i, ∀ k ∈ kz i, kOk k
 | 0, k, h => by simp [kz] at h
 | i + 1, k, h => by
  rw [kz_succ] at h
  rcases insK_mem h with h | rfl
  ·
   exact kz_ok i k h
  ·
   exact mKey_ok i roles10 0 maxN (by decide) (fun w hw => hw)
theorem kz_all : kz 5 = full.k := rfl
theorem full_ok (v : Int) : rOk ⟨v, full.e, full.q, full.k, full.x⟩ := by
 have hk := kz_ok 5
 rw [kz_all] at hk
 refine ⟨⟨⟨by rw [← qz_all, qz_len (by omega)]; omega, fun q hq => ?_⟩, ⟨by show full.k.length < _; rw [← kz_all, kz_len]; omega, fun k h => (hk k h).1⟩, by show (0 : Nat) < 2 ^ 40; omega⟩, fun k h => (hk k h).2⟩
 have : q ∈ roles10.map fun w => (⟨w, 1⟩ : Qt) := hq
 obtain ⟨w, hw, rfl⟩ := List.mem_map.1 this
 have := roles_short w hw
 show w.length < _
 omega
theorem rOk_of {v e : Int} {qs : List Qt} {ks : List Ky} {xs : List Rv} (hq : qs.length ≤ 10) (hqr : ∀ q ∈ qs, q.r ∈ roles10) (hk : ks.length ≤ 6) (hkk : ∀ k ∈ ks, kOk k) (hx : xs.length ≤ 1) : rOk ⟨v, e, qs, ks, xs⟩ := by
 refine ⟨⟨⟨by show qs.length < _; omega, fun q h => ?_⟩, ⟨by show ks.length < _; omega, fun k h => (hkk k h).1⟩, by show xs.length < _; omega⟩, fun k h => (hkk k h).2⟩
 have := roles_short _ (hqr q h)
 omega
end Go.Pl

namespace Go.Hl
open Go Go.RowKit Go.Sort Go.Proofs

end Go.Hl

namespace Go.Pl
open Go Go.Hl

def k0 : Ky := ⟨⟨0, zh⟩, [], [], 0, 0⟩
theorem ascB_Asc : ∀ {l : List Word}, ascB l = true → Asc l
 | [], _ => List.Pairwise.nil
 | [a], _ => by simp [Asc]
 | a :: b :: l, h => by
  simp only [ascB, Bool.and_eq_true] at h
  have ih := ascB_Asc h.2
  have hab := slt_iff.1 h.1
  refine List.pairwise_cons.2 ⟨fun w hw => ?_, ih⟩
  rcases List.mem_cons.1 hw with rfl | hw
  ·
   exact hab
  ·
   exact List.lt_trans hab ((List.pairwise_cons.1 ih).1 w hw)
theorem full_valid_v {v : Int} (h1 : 1 ≤ v) (h2 : v ≤ maxN) : validR ⟨v, full.e, full.q, full.k, full.x⟩ = true := by
 have h := full_valid
 unfold validR at h ⊢
 simp only [Bool.and_eq_true, decide_eq_true_eq] at h ⊢
 exact ⟨⟨h1, h2⟩, h.2⟩
end Go.Pl

namespace Go.Pl
open Go Go.Hl

def rMid (r : Rt) : Prop := (r.q.length ≤ 12 ∧ ∀ q ∈ r.q, q.r.length ≤ 300) ∧ (r.k.length ≤ 32 ∧ ∀ k ∈ r.k, k.o.length ≤ 300 ∧ k.rs.length ≤ 30 ∧ ∀ w ∈ k.rs, w.length ≤ 300) ∧ r.x.length ≤ 65
theorem rMid.sz {r : Rt} (h : rMid r) : rSz r := by
 obtain ⟨⟨h1, h2⟩, ⟨h3, h4⟩, h5⟩ := h
 refine ⟨⟨by omega, fun q hq => by have := h2 q hq; omega⟩, ⟨by omega, fun k hk => ?_⟩, by omega⟩
 obtain ⟨k1, k2, k3⟩ := h4 k hk
 exact ⟨by omega, by omega, fun w hw => by have := k3 w hw; omega⟩
end Go.Pl
