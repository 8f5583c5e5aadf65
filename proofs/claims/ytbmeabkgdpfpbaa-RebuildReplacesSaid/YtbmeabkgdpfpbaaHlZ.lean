/- HL, part Z: the keys of a map, sorted. By an AI agent. -/
import Derived.Test.YtbmeabkgdpfpbaaHlY
import Derived.Sort.KeysCollected
set_option linter.unusedSimpArgs false
set_option linter.unusedVariables false
namespace Go.Hl
open Go Go.RowKit

def leW (x y : List UInt8) : Bool := decide (x ≤ y)
/-- A map's keys in their order. -/
def sortedKeys (D : MD) : List (List UInt8) := (D.map (·.1)).mergeSort leW
/-- Every key stands once, and is in the map. -/
structure MOk (D : MD) : Prop where
  nd : (D.map (·.1)).Nodup
  th : ∀ p ∈ D, p.2.there = true

theorem mget_mem {D : MD} {k : List UInt8} {m : MV} (h : mget D k = some m) : (k, m) ∈ D := by
  induction D with
  | nil => simp [mget] at h
  | cons p D ih =>
    obtain ⟨k', m'⟩ := p
    unfold mget at h
    split at h
    · rename_i e; subst e; cases h; simp
    · exact List.mem_cons_of_mem _ (ih h)
theorem mget_isSome {D : MD} {k : List UInt8} : (∃ m, mget D k = some m) ↔ k ∈ D.map (·.1) := by
  constructor
  · rintro ⟨m, h⟩; exact List.mem_map.2 ⟨_, mget_mem h, rfl⟩
  · intro h
    induction D with
    | nil => simp at h
    | cons p D ih =>
      obtain ⟨k', m'⟩ := p
      unfold mget
      by_cases e : k' = k
      · exact ⟨m', by simp [e]⟩
      · rw [if_neg e]
        simp only [List.map_cons, List.mem_cons] at h
        exact ih (h.resolve_left (fun x => e x.symm))

def keyBytesV : Value → List UInt8
  | .string s => s.data.toList
  | _ => []
theorem keyBytesV_skey (k : List UInt8) : keyBytesV (skey k) = k := by simp [keyBytesV, skey]

/-- A map's block as the kit's laws see it. -/
theorem repM_owns {P : Program} {kt : TypeId} (hkt : P.underlying kt = some .string) {w : World} {O : Nat → Prop} {e : TypeId} {sz b : Nat} {D : MD} {hf : List UInt8 → Option Value} (h : RepM w O e sz D b hf) (hD : MOk D) (hl : D.length ≤ maxLen) :
    ∃ (D0 : DataW Unit), w.ownsMap P kt (fun _ => some (.nil, [])) b D.length D0 ∧ (strKeys D0).Perm (D.map (·.1)) := by
  obtain ⟨es, clock, h1, h2, h4, h5⟩ := h.blk
  let R : Value → Option (DataW Unit × List MemPlace) := fun _ => some (.nil, [])
  let K := es.toList.map fun x => keyBytesV x.key
  have hkey : ∀ x ∈ es.toList, x.key = skey (keyBytesV x.key) ∧ keyOf P kt x.key = some (.string (keyBytesV x.key)) := fun x hx => by
    obtain ⟨k, m, e1, e2, e3, e4⟩ := h4 x hx
    rw [e2, keyBytesV_skey]
    refine ⟨rfl, ?_⟩
    have hsz : (⟨k.toArray⟩ : ByteArray).size = k.length := by simp [ByteArray.size]
    simp [keyOf, hkt, mapKey, skey, hsz, e3]
  have hKk : K.map skey = es.toList.map (·.key) := by
    simp only [K, List.map_map]
    exact List.map_congr_left (fun x hx => (hkey x hx).1.symm)
  have hKnd : K.Nodup := by
    have := h2.2.2
    rw [← hKk] at this
    exact (List.pairwise_map.1 this).imp (fun h e => h (by rw [e]))
  have hKD : K.Perm (D.map (·.1)) := by
    rw [List.perm_ext_iff_of_nodup hKnd hD.nd]
    intro k
    constructor
    · intro hk
      obtain ⟨x, hx, rfl⟩ := List.mem_map.1 hk
      obtain ⟨k, m, e1, e2, _⟩ := h4 x hx
      rw [e2, keyBytesV_skey]
      exact mget_isSome.1 ⟨m, e1⟩
    · intro hk
      obtain ⟨m, hm⟩ := mget_isSome.2 hk
      obtain ⟨x, hx, ek⟩ := h5 k m hm (hD.th _ (mget_mem hm))
      exact List.mem_map.2 ⟨x, hx, by rw [ek, keyBytesV_skey]⟩
  have hsz : es.size ≤ D.length := by
    have := hKD.length_eq
    simp only [K, List.length_map, Array.length_toList] at this
    omega
  have hrd : ∀ x ∈ es.toList, Go.WideElems.rd P kt R x = some (.string (keyBytesV x.key), .nil) := fun x hx => by
    simp [Go.WideElems.rd, (hkey x hx).2, R]
  refine ⟨_, ⟨es, clock, h1, ⟨by omega, h2, fun x hx => ⟨_, hrd x hx⟩⟩, hsz, rfl⟩, ?_⟩
  simp only [strKeys]
  refine List.Perm.trans ?_ hKD
  have hp := (Go.WideShapes.sorted_perm (es.toList.map (Go.WideElems.rg P kt R))).map (fun p => strOf p.1)
  refine hp.trans (List.Perm.of_eq ?_)
  simp only [K, List.map_map]
  refine List.map_congr_left (fun x hx => ?_)
  simp [Go.WideElems.rg, hrd x hx, strOf]

theorem sort_perm {a b : List (List UInt8)} (h : a.Perm b) : a.mergeSort leW = b.mergeSort leW := by
  have tot : ∀ x y : List UInt8, (leW x y || leW y x) = true := fun x y => by
    simp only [leW, Bool.or_eq_true, decide_eq_true_eq]
    exact List.le_total x y
  have tr : ∀ x y z : List UInt8, leW x y = true → leW y z = true → leW x z = true := fun x y z => by
    simp only [leW, decide_eq_true_eq]
    exact List.le_trans
  refine List.Perm.eq_of_pairwise (le := fun x y => leW x y = true) (fun x y _ _ h1 h2 => ?_) (List.pairwise_mergeSort tr tot a) (List.pairwise_mergeSort tr tot b) ((List.mergeSort_perm a _).trans (h.trans (List.mergeSort_perm b _).symm))
  simp only [leW, decide_eq_true_eq] at h1 h2
  exact List.le_antisymm h1 h2

theorem repL_strs {w : World} {O : Nat → Prop} : ∀ (l : List (List UInt8)), RepL w O (l.map CV.str) (l.map skey)
  | [] => by simp [RepL]
  | x :: l => by simp only [List.map_cons, RepL]; exact ⟨[skey x], _, rfl, by simp [RepC, skey], repL_strs l⟩

/-- slices.Sorted at what maps.Keys hands back. -/
theorem hfn_sorted {P : Program} {fi fs : FuncId} {T kt e : TypeId} {sz : Nat} {D : MD} (hok : callOk P fs = true) (hkt : P.underlying kt = some .string) (hD : MOk D) (hl : D.length ≤ 2 ^ 40)
    (hc : ∀ (B b nn : Nat) (D0 : DataW Unit) (w : World), B < w.heap.size → w.cell? ⟨B, 0, none⟩ = some (.map (some b)) → w.ownsMap P kt (fun _ => some (.nil, [])) b nn D0 → (strKeys D0).length ≤ maxLen → (strKeys D0).length * 16 ≤ 140737488355328 →
      Calls P fs #[.func (.func fi) #[] #[.pointer (some ⟨B, 0, none⟩)]] w fun x w' => ∃ (v : Value) (ss : List (List UInt8)), x = .returned v ∧ ss.Perm (strKeys D0) ∧ w'.ownsRow w.heap.size kt 1 v ss.length ((ss.mergeSort leW).map skey) ∧ (v = .slice none 0 0 ↔ ss = []) ∧ Below w.heap.size w w') :
    HFn P fs [.clo fi [.ptr 1 0]] 2 (fob [(0, .mp e sz D), (1, .box T (.mapr 0))]) (fun r ob' => r = .c (.slc ((sortedKeys D).map .str)) ∧ ob' = fob [(0, .mp e sz D), (1, .box T (.mapr 0))]) := by
  refine ⟨hok, fun w ρ X xs hS hA hX => ?_⟩
  obtain ⟨b, hf, hρ0, hM⟩ := hS.objs 0 (.mp e sz D) rfl
  obtain ⟨B, cs, hρ1, hB, hBr⟩ := hS.objs 1 (.box T (.mapr 0)) rfl
  have hBs : B < w.heap.size := (Array.getElem?_eq_some_iff.1 hB).1
  simp only [RepH] at hBr
  obtain ⟨x, rfl, hx1, hx2⟩ := hBr
  have hxe := hx2 b hf hρ0
  subst hxe
  have hcell : w.cell? ⟨B, 0, none⟩ = some (.map (some b)) := by simp [World.cell?, hB]
  obtain ⟨D0, hown, hperm⟩ := repM_owns (P := P) hkt hM hD (by simp only [maxLen]; omega)
  have hargs : xs = [.func (.func fi) #[] #[.pointer (some ⟨B, 0, none⟩)]] := by
    rw [repHV_cons] at hA
    obtain ⟨y, zs, rfl, hy, hz⟩ := hA
    simp only [RepHV] at hz
    subst hz
    obtain ⟨hy1, hy2⟩ := hy
    have hag : Value.isAgg' y = false := by rw [← hy2]; rfl
    rw [cells_single hag] at hy1
    simp only [RepH, List.cons.injEq, and_true] at hy1
    obtain ⟨ys, rfl, hys⟩ := hy1
    rw [repHV_cons] at hys
    obtain ⟨z, zs, rfl, hz, hzs⟩ := hys
    simp only [RepHV] at hzs
    subst hzs
    obtain ⟨hz1, hz2⟩ := hz
    have hag2 : Value.isAgg' z = false := by rw [← hz2]; rfl
    rw [cells_single hag2] at hz1
    simp only [RepH, List.cons.injEq, and_true] at hz1
    obtain ⟨z', rfl, _, hz3⟩ := hz1
    rw [hz3 B hρ1]
  subst hargs
  have hlen := hperm.length_eq
  simp only [List.length_map] at hlen
  refine (hc B b D.length D0 w hBs hcell hown (by rw [hlen]; simp only [maxLen]; omega) (by rw [hlen]; omega)).mono ?_
  rintro ex w' ⟨v, ss, rfl, hss, hrow, hnil, hb⟩
  have hkeys : ss.mergeSort leW = sortedKeys D := sort_perm (hss.trans hperm)
  rw [hkeys] at hrow
  have hlss : ss.length = (sortedKeys D).length := by
    rw [← hkeys, (List.mergeSort_perm ss _).length_eq]
  have hs2 : Stay2 w (Own ρ) w' (Own ρ) := ⟨fun g hg _ => hb.block g hg, fun _ h => .inl h, hb.size, hb.os, hb.tape, hb.output⟩
  have hst := hs2.stay X
  have hblk : ∀ i L g, ρ i = some L → L.has g → w'.heap[g]? = w.heap[g]? := fun i L g h1 h2 => hb.block g (Owned.lt hS h1 h2)
  refine ⟨_, _, ρ, v, rfl, ⟨rfl, rfl⟩, ⟨?_, ⟨fun i o ho => RepO.stay (M := fun _ => True) hst (Moves.refl _ _) (by cases o <;> simp [HO.men]; exact HV.men_true _) rfl (fun L g h1 h2 => hblk i L g h1 h2) (hS.objs i o ho), hS.none, hS.apart, hS.xb⟩, by simp [HV.men], fun i o ho => ?_, hs2, Moves.refl _ _⟩⟩
  · have hag : Value.isAgg' v = false := by rcases hrow.2 with ⟨rfl, _⟩ | ⟨g, cap, cur, rfl, _⟩ <;> rfl
    refine repV_single ?_ rfl hag
    simp only [RepC]
    rcases hrow.2 with ⟨rfl, hz⟩ | ⟨g, cap, cur, rfl, hg0, hg, hcap, _⟩
    · have : sortedKeys D = [] := List.eq_nil_of_length_eq_zero (by rw [← hlss]; exact hz)
      exact ⟨none, 0, [], 1, by simp [this], by simp [this, RepL], by simp [this], by simp [this], fun _ => rfl, fun ad had => (by cases had)⟩
    · refine ⟨some ⟨g, 0, none⟩, cap, (sortedKeys D).map skey, 1, by simp [hlss], repL_strs _, fun u hu => ?_, by simp; omega, fun hh => (by cases hh), fun ad had => ?_⟩
      · obtain ⟨k, _, rfl⟩ := List.mem_map.1 hu; rfl
      · cases had
        refine ⟨hrow.cells (g := g) rfl, fun _ => ?_⟩
        rintro (hx | ⟨i, L, h1, h2⟩)
        · have : g < w.heap.size := hX g hx
          omega
        · have : g < w.heap.size := Owned.lt hS h1 h2
          omega
  · simp only [fob_at, fob_nil] at ho
    split at ho
    · rename_i e; subst e; cases ho; exact ⟨by omega, trivial⟩
    · split at ho
      · rename_i e; subst e; cases ho; exact ⟨by omega, by simp [HO.men, HV.men]⟩
      · cases ho

/-- maps.Keys. -/
theorem hfn_keys {P : Program} {fi fk : FuncId} {T e : TypeId} {sz : Nat} {D : MD} (hok : callOk P fk = true)
    (hc : ∀ (b : Nat) (w : World), Calls P fk #[.map (some b)] w fun x w' => x = .returned (.func (.func fi) #[] #[.pointer (some ⟨w.heap.size, 0, none⟩)]) ∧ w' = w.alloc (.cells #[.map (some b)] T)) :
    HFn P fk [.mapr 0] 1 (fob [(0, .mp e sz D)]) (fun r ob' => r = .clo fi [.ptr 1 0] ∧ ob' = fob [(0, .mp e sz D), (1, .box T (.mapr 0))]) := by
  refine ⟨hok, fun w ρ X xs hS hA hX => ?_⟩
  obtain ⟨b, hf, hρ0, hM⟩ := hS.objs 0 (.mp e sz D) rfl
  have hargs : xs = [.map (some b)] := by
    rw [repHV_cons] at hA
    obtain ⟨y, zs, rfl, hy, hz⟩ := hA
    simp only [RepHV] at hz
    subst hz
    obtain ⟨hy1, hy2⟩ := hy
    have hag : Value.isAgg' y = false := by rw [← hy2]; rfl
    rw [cells_single hag] at hy1
    simp only [RepH, List.cons.injEq, and_true] at hy1
    obtain ⟨x, rfl, _, hx2⟩ := hy1
    rw [hx2 b hf hρ0]
  subst hargs
  refine (hc b w).mono ?_
  rintro ex w' ⟨rfl, rfl⟩
  let ρn : Env := upd ρ 1 (some (.blk w.heap.size))
  have hρ1 : ρ 1 = none := hS.none 1 rfl
  have hown : ∀ g, Own ρn g → Own ρ g ∨ w.heap.size ≤ g := by
    rintro g ⟨i, L, h1, h2⟩
    by_cases e : i = 1
    · subst e; simp only [ρn, upd_same] at h1; cases h1; cases h2; exact .inr (Nat.le_refl _)
    · simp only [ρn, upd_ne _ _ e] at h1; exact .inl ⟨i, L, h1, h2⟩
  have hheap : ∀ g, g < w.heap.size → (w.alloc (.cells #[.map (some b)] T)).heap[g]? = w.heap[g]? := fun g hg => Below.heap_alloc _ _ _ hg
  have hs2 : Stay2 w (Own ρ) (w.alloc (.cells #[.map (some b)] T)) (Own ρn) := ⟨fun g hg _ => hheap g hg, hown, by simp, rfl, rfl, rfl⟩
  have hst := hs2.stay X
  have hmv : Moves (· < 1) ρ ρn := fun i L hi hL => by
    have : i ≠ 1 := by omega
    simp only [ρn, upd_ne _ _ this] at hL; exact ⟨L, hL, .inl rfl⟩
  have key : ∀ i L, ρn i = some L → (i = 1 ∧ L = .blk w.heap.size) ∨ (i ≠ 1 ∧ ρ i = some L) := fun i L hL => by
    by_cases e : i = 1
    · subst e; simp only [ρn, upd_same] at hL; cases hL; exact .inl ⟨rfl, rfl⟩
    · simp only [ρn, upd_ne _ _ e] at hL; exact .inr ⟨e, hL⟩
  refine ⟨_, _, ρn, _, rfl, ⟨rfl, rfl⟩, ⟨?_, ⟨fun i o ho => ?_, fun i hi => ?_, fun i j L L' g h1 h2 h3 h4 => ?_, fun i L g h1 h2 hx => ?_⟩, by simp [HV.men, HV.menL], fun i o ho => ?_, hs2, hmv⟩⟩
  · refine repV_mk ?_ rfl rfl
    simp only [RepH]
    refine ⟨[.pointer (some ⟨w.heap.size, 0, none⟩)], rfl, ?_⟩
    rw [repHV_cons]
    exact ⟨_, _, rfl, repV_ptr' (upd_same _ _ _), by simp [RepHV]⟩
  · simp only [fob_at, fob_nil] at ho
    split at ho
    · rename_i e; subst e
      cases ho
      exact RepO.stay (M := (· < 1)) hst hmv trivial (upd_ne _ _ (by decide)) (fun L g h1 h2 => hheap g (Owned.lt hS h1 h2)) (hS.objs 0 _ rfl)
    · split at ho
      · rename_i e; subst e
        cases ho
        refine ⟨w.heap.size, [.map (some b)], upd_same _ _ _, heap_alloc_new w _, ?_⟩
        simp only [RepH]
        refine ⟨_, rfl, by simp [Value.oneCell'], fun b' hf' h1 => ?_⟩
        have : ρ 0 = some (.mp b' hf') := by simpa only [ρn, upd_ne ρ _ (show (0 : Nat) ≠ 1 by decide)] using h1
        rw [hρ0] at this; cases this; rfl
      · cases ho
  · simp only [fob_at, fob_nil] at hi
    split at hi
    · cases hi
    · split at hi
      · cases hi
      · rename_i e0 e1
        simp only [ρn, upd_ne _ _ e1]
        exact hS.none i (by simp [fob_at, fob_nil, e0])
  · rcases key i L h1 with ⟨rfl, rfl⟩ | ⟨n1, e1⟩ <;> rcases key j L' h2 with ⟨rfl, rfl⟩ | ⟨n2, e2⟩
    · rfl
    · cases h3; have := Owned.lt hS e2 h4; omega
    · cases h4; have := Owned.lt hS e1 h3; omega
    · exact hS.apart i j L L' g e1 e2 h3 h4
  · rcases key i L h1 with ⟨rfl, rfl⟩ | ⟨n1, e1⟩
    · cases h2; have := hX _ hx; omega
    · exact hS.xb i L g e1 h2 hx
  · simp only [fob_at, fob_nil] at ho
    split at ho
    · rename_i e; subst e; cases ho; exact ⟨by omega, trivial⟩
    · split at ho
      · rename_i e; subst e; cases ho; exact ⟨by omega, by simp [HO.men, HV.men]⟩
      · cases ho

section
variable {P : Program} {av : List Nat} {f fi : FuncId} {ob : Ob} {nid id id2 : Nat} {K : HV → Ob → Prop} {T e : TypeId} {sz : Nat} {D : MD}
def HKeys (P : Program) (f fi : FuncId) (T e : TypeId) (sz : Nat) (D : MD) : Prop := HFn P f [.mapr 0] 1 (fob [(0, .mp e sz D)]) (fun r ob' => r = .clo fi [.ptr 1 0] ∧ ob' = fob [(0, .mp e sz D), (1, .box T (.mapr 0))])
def HSorted (P : Program) (f fi : FuncId) (T e : TypeId) (sz : Nat) (D : MD) : Prop := HFn P f [.clo fi [.ptr 1 0]] 2 (fob [(0, .mp e sz D), (1, .box T (.mapr 0))]) (fun r ob' => r = .c (.slc ((sortedKeys D).map .str)) ∧ ob' = fob [(0, .mp e sz D), (1, .box T (.mapr 0))])

theorem call_keys (h : HKeys P f fi T e sz D) (hid : ob id = some (.mp e sz D)) (hav : id ∉ av) (hfree : Free4 ob nid) (hK : K (.clo fi [.ptr nid 0]) (upd ob nid (some (.box T (.mapr id))))) : HCall P av f [.mapr id] ob nid K := by
  have h0 : sub [id] nid 0 = id := rfl
  have h1 : sub [id] nid 1 = nid := by simp [sub]
  have hloc : LocOk 1 [HV.mapr 0] (fob [(0, .mp e sz D)]) := by
    refine ⟨fun j h => ?_, fun id o h => ?_, by simp [HV.menL, HV.men]⟩
    · have : j = 0 := by omega
      subst this; exact ⟨_, rfl⟩
    · simp only [fob_at, fob_nil] at h
      split at h
      · rename_i e; subst e; cases h; exact ⟨by omega, trivial⟩
      · cases h
  refine ⟨[id], _, _, _, h, hloc, ⟨by simp, by simpa using hav⟩, by simp only [HV.renL, HV.ren, h0], fun j o hj => ?_, fun r lob' hR _ => ?_⟩
  · simp only [fob_at, fob_nil] at hj
    split at hj
    · rename_i e; subst e; cases hj; simpa [HO.ren] using hid
    · cases hj
  · obtain ⟨rfl, rfl⟩ := hR
    have e2 : obAfter ob [id] nid (fob [(0, .mp e sz D), (1, .box T (.mapr 0))]) = upd ob nid (some (.box T (.mapr id))) := by
      funext i
      by_cases e : i = id
      · subst e
        have hne : i ≠ nid := by rintro rfl; rw [hfree.1] at hid; cases hid
        rw [upd_ne _ _ hne, hid]
        simp only [obAfter, List.findIdx?_cons, beq_self_eq_true, if_true, fob_at, Option.map_some, HO.ren]
      · have e' : (id == i) = false := by simp; exact fun h => e h.symm
        simp only [obAfter, List.findIdx?_cons, e', List.findIdx?_nil, Option.map_none]
        simp only [Bool.false_eq_true, if_false]
        split
        · rename_i hr
          by_cases hin : i = nid
          · subst hin
            rw [upd_same]
            simp [fob_at, HO.ren, HV.ren, h0]
          · have h2 : [id].length + (i - nid) ≠ 0 := by simp
            have h3 : [id].length + (i - nid) ≠ 1 := by simp; omega
            rw [fob_at, if_neg h2, fob_at, if_neg h3, fob_nil, upd_ne _ _ hin]
            exact (hfree.all i hr.1 hr.2).symm
        · rename_i hr
          have hin : i ≠ nid := by omega
          rw [upd_ne _ _ hin]
    rw [e2]
    simp only [HV.ren, HV.renL, h1]
    exact hK

theorem call_sorted (h : HSorted P f fi T e sz D) (hid : ob id = some (.mp e sz D)) (hid2 : ob id2 = some (.box T (.mapr id))) (hav : id ∉ av ∧ id2 ∉ av) (hfree : Free4 ob nid) (hK : K (.c (.slc ((sortedKeys D).map .str))) ob) : HCall P av f [.clo fi [.ptr id2 0]] ob nid K := by
  have hne : id ≠ id2 := by rintro rfl; rw [hid] at hid2; cases hid2
  have h0 : sub [id, id2] nid 0 = id := rfl
  have h1 : sub [id, id2] nid 1 = id2 := rfl
  have hloc : LocOk 2 [HV.clo fi [.ptr 1 0]] (fob [(0, .mp e sz D), (1, .box T (.mapr 0))]) := by
    refine ⟨fun j h => ?_, fun id o h => ?_, by simp [HV.menL, HV.men]⟩
    · have : j = 0 ∨ j = 1 := by omega
      rcases this with rfl | rfl
      · exact ⟨_, rfl⟩
      · exact ⟨_, rfl⟩
    · simp only [fob_at, fob_nil] at h
      split at h
      · rename_i e; subst e; cases h; exact ⟨by omega, trivial⟩
      · split at h
        · rename_i e; subst e; cases h; exact ⟨by omega, by simp [HO.men, HV.men]⟩
        · cases h
  refine ⟨[id, id2], _, _, _, h, hloc, ⟨by simp [hne], by simpa using hav⟩, by simp only [HV.renL, HV.ren, h1], fun j o hj => ?_, fun r lob' hR _ => ?_⟩
  · simp only [fob_at, fob_nil] at hj
    split at hj
    · rename_i e; subst e; cases hj; simpa [HO.ren] using hid
    · split at hj
      · rename_i e; subst e; cases hj; simpa [HO.ren, HV.ren, h0] using hid2
      · cases hj
  · obtain ⟨rfl, rfl⟩ := hR
    rw [obAfter_same (by simp [hne]) (fun j hj => ?_) (fun j hj => ?_) hfree.all]
    · exact hK
    · have : j = 0 ∨ j = 1 := by simp at hj; omega
      rcases this with rfl | rfl
      · exact ⟨_, rfl, by simpa [HO.ren] using hid⟩
      · exact ⟨_, rfl, by simpa [HO.ren, HV.ren, h0] using hid2⟩
    · simp only [List.length_cons, List.length_nil] at hj
      rw [fob_at, if_neg (by omega), fob_at, if_neg (by omega)]; rfl
end

/-! ## A row of one's own, closed as it is handed on -/
theorem repHV_c' {w : World} {ρ ρ2 : Env} {X : Nat → Prop} (hst : Stay w (Owned ρ X) w (Owned ρ2 X)) : ∀ {l : List CV} {xs : List Value}, RepHV w ρ (Owned ρ X) (l.map .c) xs → RepHV w ρ2 (Owned ρ2 X) (l.map .c) xs
  | [], xs, h => by simpa only [List.map_nil, RepHV] using h
  | v :: l, xs, h => by
    rw [List.map_cons, repHV_cons] at h ⊢
    obtain ⟨y, ys, rfl, ⟨h1, h2⟩, h3⟩ := h
    exact ⟨y, ys, rfl, ⟨by simp only [RepH] at h1 ⊢; exact h1.stay hst, h2⟩, repHV_c' hst h3⟩
theorem repHV_append2 {w : World} {ρ : Env} {O : Nat → Prop} : ∀ {l1 l2 : List HV} {xs : List Value}, RepHV w ρ O (l1 ++ l2) xs ↔ ∃ y1 y2, xs = y1 ++ y2 ∧ RepHV w ρ O l1 y1 ∧ RepHV w ρ O l2 y2
  | [], l2, xs => by simp only [List.nil_append, RepHV]; exact ⟨fun h => ⟨[], xs, rfl, rfl, h⟩, fun ⟨y1, y2, h, h1, h2⟩ => by subst h1; subst h; exact h2⟩
  | v :: l1, l2, xs => by
    simp only [List.cons_append, repHV_cons, repHV_append2 (l1 := l1)]
    constructor
    · rintro ⟨y, ys, rfl, h1, a, b, rfl, h2, h3⟩
      exact ⟨y :: a, b, rfl, ⟨y, a, rfl, h1, h2⟩, h3⟩
    · rintro ⟨y1, y2, rfl, ⟨y, ys, rfl, h1, h2⟩, h3⟩
      exact ⟨y, ys ++ y2, rfl, h1, ys, y2, rfl, h2, h3⟩

theorem hfn_closeArg {P : Program} {f : FuncId} {e : TypeId} {sz : Nat} {l pre post : List CV} {R : CV → Prop} (h : HPure P f (pre ++ .slc l :: post) R) :
    HFn P f (pre.map .c ++ .own 0 l.length :: post.map .c) 1 (fob [(0, .row e sz l)]) (fun r ob' => ∃ u, r = .c u ∧ ob' = none0 ∧ R u) := by
  refine ⟨h.1, fun w ρ X xs hS hA hX => ?_⟩
  obtain ⟨hd, ys, hρ0, hl, hcs, how⟩ := hS.objs 0 (.row e sz l) rfl
  let ρc : Env := fun _ => none
  have hown : ∀ b, ¬ Own ρc b := fun b ⟨_, _, h1, _⟩ => by cases h1
  have hst : Stay w (Owned ρ X) w (Owned ρc X) := Stay.same (fun b _ hb => hb.imp (fun x => x) (fun h => (hown b h).elim))
  have hSc : RepS w ρc X none0 := ⟨fun _ _ h => (by simp [none0] at h), fun _ _ => rfl, fun _ _ _ _ _ h => (by cases h), fun _ _ _ h => (by cases h)⟩
  have hA2 : RepHV w ρc (Owned ρc X) ((pre ++ .slc l :: post).map .c) xs := by
    rw [List.map_append, List.map_cons]
    rw [repHV_append2] at hA ⊢
    obtain ⟨y1, y2, rfl, h1, h2⟩ := hA
    refine ⟨y1, y2, rfl, repHV_c' hst h1, ?_⟩
    rw [repHV_cons] at h2 ⊢
    obtain ⟨y, zs, rfl, hy, hz⟩ := h2
    refine ⟨y, zs, rfl, ?_, repHV_c' hst hz⟩
    obtain ⟨hy1, hy2⟩ := hy
    have hag : Value.isAgg' y = false := by rw [← hy2]; rfl
    rw [cells_single hag] at hy1
    simp only [RepH, List.cons.injEq, and_true] at hy1
    obtain ⟨x, rfl, hx1, hx2⟩ := hy1
    obtain ⟨q1, q2⟩ := hx2 hd hρ0
    refine repV_single ?_ rfl hag
    simp only [RepC]
    rcases how.2 with ⟨rfl, hz0⟩ | ⟨g, cap, cur, rfl, hg0, hg, hcap, _⟩
    · have := q2 (by simp [hlen, hz0])
      exact ⟨none, 0, ys, sz, by rw [this, hz0], hl.stay hst, hcs, by omega, fun _ => rfl, fun ad had => (by cases had)⟩
    · have := q2 (by simp [hlen])
      refine ⟨some ⟨g, 0, none⟩, cap, ys, sz, by rw [this], hl.stay hst, hcs, hcap, fun hh => (by cases hh), fun ad had => ?_⟩
      cases had
      refine ⟨how.cells (g := g) rfl, fun _ => ?_⟩
      rintro (hx | hx)
      · exact hS.xb 0 _ g hρ0 rfl hx
      · exact hown _ hx
  refine (h.2 w ρc X xs hSc hA2 hX).mono ?_
  rintro ex w' ⟨r, ob', ρ', x, rfl, ⟨v, rfl, hR, rfl⟩, hg⟩
  have hρ' : ∀ i, ρ' i = none := fun i => hg.s.none i rfl
  refine ⟨_, _, ρ', x, rfl, ⟨v, rfl, rfl, hR⟩, hg.v, hg.s, by simp [HV.men], fun i o ho => (by simp [none0] at ho), ?_, fun i L _ hL => (by rw [hρ' i] at hL; cases hL)⟩
  exact ⟨fun b hb _ => hg.stay.block b hb (hown b), fun b hb => (hg.stay.own b hb).imp (fun h => (hown b h).elim) (fun x => x), hg.stay.size, hg.stay.os, hg.stay.tape, hg.stay.output⟩

theorem renL_c' {m : Nat → Nat} : ∀ (l : List CV), HV.renL m (l.map .c) = l.map .c
  | [] => rfl
  | v :: l => by simp only [List.map_cons, HV.renL, HV.ren, renL_c' l]
theorem renL_append {m : Nat → Nat} : ∀ (l1 l2 : List HV), HV.renL m (l1 ++ l2) = HV.renL m l1 ++ HV.renL m l2
  | [], l2 => rfl
  | v :: l1, l2 => by simp only [List.cons_append, HV.renL, renL_append l1 l2]

theorem call_close {P : Program} {av : List Nat} {f : FuncId} {ob : Ob} {nid id n : Nat} {K : HV → Ob → Prop} {e : TypeId} {sz : Nat} {l : List CV} {R : CV → Prop} (pre post : List CV) (h : HPure P f (pre ++ .slc l :: post) R) (hid : ob id = some (.row e sz l)) (hn : n = l.length)
    (hav : id ∉ av) (hfree : Free4 ob nid) (hK : ∀ u, R u → K (.c u) (gone ob id)) : HCall P av f (pre.map .c ++ .own id n :: post.map .c) ob nid K := by
  have h0 : sub [id] nid 0 = id := rfl
  subst hn
  have hloc : LocOk 1 (pre.map HV.c ++ HV.own 0 l.length :: post.map HV.c) (fob [(0, .row e sz l)]) := by
    have := locOk_take e sz l.length l
    refine ⟨this.all, this.none, ?_⟩
    rw [HV.menL_append]
    exact ⟨HV.menL_c, by simp only [HV.menL, HV.men]; exact ⟨by omega, HV.menL_c⟩⟩
  refine ⟨[id], _, _, _, hfn_closeArg h, hloc, ⟨by simp, by simpa using hav⟩, by simp only [renL_append, renL_c', HV.renL, HV.ren, h0], fun j o hj => ?_, fun r lob' hR _ => ?_⟩
  · simp only [fob_at, fob_nil] at hj
    split at hj
    · rename_i e; subst e; cases hj; simpa [HO.ren] using hid
    · cases hj
  · obtain ⟨u, rfl, rfl, hR⟩ := hR
    rw [obAfter_gone (lob := none0) (id := id) (by simp) rfl rfl (fun j hj0 hj => ?_) (fun j hj => rfl) hfree.all]
    · exact hK u hR
    · simp at hj; omega
end Go.Hl
