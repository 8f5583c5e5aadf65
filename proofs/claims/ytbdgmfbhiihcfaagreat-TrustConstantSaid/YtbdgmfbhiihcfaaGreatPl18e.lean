/- More plain laws of the judgement. By an AI agent. -/
import Derived.Test.YtbdgmfbhiihcfaaGreatPl18b
import Derived.Sort.KeysCollected
set_option linter.unusedSimpArgs false
set_option linter.unusedVariables false
set_option linter.defProp false
namespace Go.Hl
open Go Go.RowKit

def leW (x y : List UInt8) : Bool := decide (x ≤ y)
/-- A map's keys in their order. -/
def sortedKeys (D : MD) : List (List UInt8) := (D.map (·.1)).mergeSort leW
/-- Every key stands once, and is in the map. -/
structure MOk (D : MD) : Prop where
  nd : (D.map (·.1)).Nodup
  th : ∀ p ∈ D, p.2.there = true

theorem mget_mem {D : MD} {k : List UInt8} {m : MV} (h : mget D k = some m) : (k, m) ∈ D := by
  induction D with
  | nil => simp [mget] at h
  | cons p D ih =>
    obtain ⟨k', m'⟩ := p
    unfold mget at h
    split at h
    · rename_i e; subst e; cases h; simp
    · exact List.mem_cons_of_mem _ (ih h)
theorem mget_isSome {D : MD} {k : List UInt8} : (∃ m, mget D k = some m) ↔ k ∈ D.map (·.1) := by
  constructor
  · rintro ⟨m, h⟩; exact List.mem_map.2 ⟨_, mget_mem h, rfl⟩
  · intro h
    induction D with
    | nil => simp at h
    | cons p D ih =>
      obtain ⟨k', m'⟩ := p
      unfold mget
      by_cases e : k' = k
      · exact ⟨m', by simp [e]⟩
      · rw [if_neg e]
        simp only [List.map_cons, List.mem_cons] at h
        exact ih (h.resolve_left (fun x => e x.symm))

def keyBytesV : Value → List UInt8
  | .string s => s.data.toList
  | _ => []
theorem keyBytesV_skey (k : List UInt8) : keyBytesV (skey k) = k := by simp [keyBytesV, skey]

/-- A map's block as the kit's laws see it. -/
theorem repM_owns {P : Program} {kt : TypeId} (hkt : P.underlying kt = some .string) {w : World} {O : Nat → Prop} {e : TypeId} {sz b : Nat} {D : MD} {hf : List UInt8 → Option Value} (h : RepM w O e sz D b hf) (hD : MOk D) (hl : D.length ≤ maxLen) :
    ∃ (D0 : DataW Unit), w.ownsMap P kt (fun _ => some (.nil, [])) b D.length D0 ∧ (strKeys D0).Perm (D.map (·.1)) := by
  obtain ⟨es, clock, h1, h2, h4, h5⟩ := h.blk
  let R : Value → Option (DataW Unit × List MemPlace) := fun _ => some (.nil, [])
  let K := es.toList.map fun x => keyBytesV x.key
  have hkey : ∀ x ∈ es.toList, x.key = skey (keyBytesV x.key) ∧ keyOf P kt x.key = some (.string (keyBytesV x.key)) := fun x hx => by
    obtain ⟨k, m, e1, e2, e3, e4⟩ := h4 x hx
    rw [e2, keyBytesV_skey]
    refine ⟨rfl, ?_⟩
    have hsz : (⟨k.toArray⟩ : ByteArray).size = k.length := by simp [ByteArray.size]
    simp [keyOf, hkt, mapKey, skey, hsz, e3]
  have hKk : K.map skey = es.toList.map (·.key) := by
    simp only [K, List.map_map]
    exact List.map_congr_left (fun x hx => (hkey x hx).1.symm)
  have hKnd : K.Nodup := by
    have := h2.2.2
    rw [← hKk] at this
    exact (List.pairwise_map.1 this).imp (fun h e => h (by rw [e]))
  have hKD : K.Perm (D.map (·.1)) := by
    rw [List.perm_ext_iff_of_nodup hKnd hD.nd]
    intro k
    constructor
    · intro hk
      obtain ⟨x, hx, rfl⟩ := List.mem_map.1 hk
      obtain ⟨k, m, e1, e2, _⟩ := h4 x hx
      rw [e2, keyBytesV_skey]
      exact mget_isSome.1 ⟨m, e1⟩
    · intro hk
      obtain ⟨m, hm⟩ := mget_isSome.2 hk
      obtain ⟨x, hx, ek⟩ := h5 k m hm (hD.th _ (mget_mem hm))
      exact List.mem_map.2 ⟨x, hx, by rw [ek, keyBytesV_skey]⟩
  have hsz : es.size ≤ D.length := by
    have := hKD.length_eq
    simp only [K, List.length_map, Array.length_toList] at this
    omega
  have hrd : ∀ x ∈ es.toList, Go.WideElems.rd P kt R x = some (.string (keyBytesV x.key), .nil) := fun x hx => by
    simp [Go.WideElems.rd, (hkey x hx).2, R]
  refine ⟨_, ⟨es, clock, h1, ⟨by omega, h2, fun x hx => ⟨_, hrd x hx⟩⟩, hsz, rfl⟩, ?_⟩
  simp only [strKeys]
  refine List.Perm.trans ?_ hKD
  have hp := (Go.WideShapes.sorted_perm (es.toList.map (Go.WideElems.rg P kt R))).map (fun p => strOf p.1)
  refine hp.trans (List.Perm.of_eq ?_)
  simp only [K, List.map_map]
  refine List.map_congr_left (fun x hx => ?_)
  simp [Go.WideElems.rg, hrd x hx, strOf]

theorem sort_perm {a b : List (List UInt8)} (h : a.Perm b) : a.mergeSort leW = b.mergeSort leW := by
  have tot : ∀ x y : List UInt8, (leW x y || leW y x) = true := fun x y => by
    simp only [leW, Bool.or_eq_true, decide_eq_true_eq]
    exact List.le_total x y
  have tr : ∀ x y z : List UInt8, leW x y = true → leW y z = true → leW x z = true := fun x y z => by
    simp only [leW, decide_eq_true_eq]
    exact List.le_trans
  refine List.Perm.eq_of_pairwise (le := fun x y => leW x y = true) (fun x y _ _ h1 h2 => ?_) (List.pairwise_mergeSort tr tot a) (List.pairwise_mergeSort tr tot b) ((List.mergeSort_perm a _).trans (h.trans (List.mergeSort_perm b _).symm))
  simp only [leW, decide_eq_true_eq] at h1 h2
  exact List.le_antisymm h1 h2

theorem repL_strs {w : World} {O : Nat → Prop} : ∀ (l : List (List UInt8)), RepL w O (l.map CV.str) (l.map skey)
  | [] => by simp [RepL]
  | x :: l => by simp only [List.map_cons, RepL]; exact ⟨[skey x], _, rfl, by simp [RepC, skey], repL_strs l⟩

/-- slices.Sorted at what maps.Keys hands back. -/
theorem hfn_sorted {P : Program} {fi fs : FuncId} {T kt e : TypeId} {sz : Nat} {D : MD} (hok : callOk P fs = true) (hkt : P.underlying kt = some .string) (hD : MOk D) (hl : D.length ≤ 2 ^ 40)
    (hc : ∀ (B b nn : Nat) (D0 : DataW Unit) (w : World), B < w.heap.size → w.cell? ⟨B, 0, none⟩ = some (.map (some b)) → w.ownsMap P kt (fun _ => some (.nil, [])) b nn D0 → (strKeys D0).length ≤ maxLen → (strKeys D0).length * 16 ≤ 140737488355328 →
      Calls P fs #[.func (.func fi) #[] #[.pointer (some ⟨B, 0, none⟩)]] w fun x w' => ∃ (v : Value) (ss : List (List UInt8)), x = .returned v ∧ ss.Perm (strKeys D0) ∧ w'.ownsRow w.heap.size kt 1 v ss.length ((ss.mergeSort leW).map skey) ∧ (v = .slice none 0 0 ↔ ss = []) ∧ Below w.heap.size w w') :
    HFn P fs [.clo fi [.ptr 1 0]] 2 (fob [(0, .mp e sz D), (1, .box T (.mapr 0))]) (fun r ob' => r = .c (.slc ((sortedKeys D).map .str)) ∧ ob' = fob [(0, .mp e sz D), (1, .box T (.mapr 0))]) := by
  refine ⟨fnOk_of hok, fun w ρ X xs hS hA hX => Does.of hok ?_⟩
  obtain ⟨b, hf, hρ0, hM⟩ := hS.objs 0 (.mp e sz D) rfl
  obtain ⟨B, cs, hρ1, hB, hBr⟩ := hS.objs 1 (.box T (.mapr 0)) rfl
  have hBs : B < w.heap.size := (Array.getElem?_eq_some_iff.1 hB).1
  simp only [RepH] at hBr
  obtain ⟨x, rfl, hx1, hx2⟩ := hBr
  have hxe := hx2 b hf hρ0
  subst hxe
  have hcell : w.cell? ⟨B, 0, none⟩ = some (.map (some b)) := by simp [World.cell?, hB]
  obtain ⟨D0, hown, hperm⟩ := repM_owns (P := P) hkt hM hD (by simp only [maxLen]; omega)
  have hargs : xs = [.func (.func fi) #[] #[.pointer (some ⟨B, 0, none⟩)]] := by
    rw [repHV_cons] at hA
    obtain ⟨y, zs, rfl, hy, hz⟩ := hA
    simp only [RepHV] at hz
    subst hz
    obtain ⟨hy1, hy2⟩ := hy
    have hag : Value.isAgg' y = false := by rw [← hy2]; rfl
    rw [cells_single hag] at hy1
    simp only [RepH, List.cons.injEq, and_true] at hy1
    obtain ⟨ys, rfl, hys⟩ := hy1
    rw [repHV_cons] at hys
    obtain ⟨z, zs, rfl, hz, hzs⟩ := hys
    simp only [RepHV] at hzs
    subst hzs
    obtain ⟨hz1, hz2⟩ := hz
    have hag2 : Value.isAgg' z = false := by rw [← hz2]; rfl
    rw [cells_single hag2] at hz1
    simp only [RepH, List.cons.injEq, and_true] at hz1
    obtain ⟨z', rfl, _, hz3⟩ := hz1
    rw [hz3 B hρ1]
  subst hargs
  have hlen := hperm.length_eq
  simp only [List.length_map] at hlen
  refine (hc B b D.length D0 w hBs hcell hown (by rw [hlen]; simp only [maxLen]; omega) (by rw [hlen]; omega)).mono ?_
  rintro ex w' ⟨v, ss, rfl, hss, hrow, hnil, hb⟩
  have hkeys : ss.mergeSort leW = sortedKeys D := sort_perm (hss.trans hperm)
  rw [hkeys] at hrow
  have hlss : ss.length = (sortedKeys D).length := by
    rw [← hkeys, (List.mergeSort_perm ss _).length_eq]
  have hs2 : Stay2 w (Own ρ) w' (Own ρ) := ⟨fun g hg _ => hb.block g hg, fun _ h => .inl h, hb.size, hb.os, hb.tape, hb.output⟩
  have hst := hs2.stay X
  have hblk : ∀ i L g, ρ i = some L → L.has g → w'.heap[g]? = w.heap[g]? := fun i L g h1 h2 => hb.block g (Owned.lt hS h1 h2)
  refine ⟨_, _, ρ, v, rfl, ⟨rfl, rfl⟩, ⟨?_, ⟨fun i o ho => RepO.stay (M := fun _ => True) hst (Moves.refl _ _) (by cases o <;> simp [HO.men]; exact HV.men_true _) rfl (fun L g h1 h2 => hblk i L g h1 h2) (hS.objs i o ho), hS.none, hS.apart, hS.xb⟩, by simp [HV.men], fun i o ho => ?_, hs2, Moves.refl _ _⟩⟩
  · have hag : Value.isAgg' v = false := by rcases hrow.2 with ⟨rfl, _⟩ | ⟨g, cap, cur, rfl, _⟩ <;> rfl
    refine repV_single ?_ rfl hag
    simp only [RepC]
    rcases hrow.2 with ⟨rfl, hz⟩ | ⟨g, cap, cur, rfl, hg0, hg, hcap, _⟩
    · have : sortedKeys D = [] := List.eq_nil_of_length_eq_zero (by rw [← hlss]; exact hz)
      exact ⟨none, 0, [], 1, by simp [this], by simp [this, RepL], by simp [this], by simp [this], fun _ => rfl, fun ad had => (by cases had)⟩
    · refine ⟨some ⟨g, 0, none⟩, cap, (sortedKeys D).map skey, 1, by simp [hlss], repL_strs _, fun u hu => ?_, by simp; omega, fun hh => (by cases hh), fun ad had => ?_⟩
      · obtain ⟨k, _, rfl⟩ := List.mem_map.1 hu; rfl
      · cases had
        refine ⟨hrow.cells (g := g) rfl, fun _ => ?_⟩
        rintro (hx | ⟨i, L, h1, h2⟩)
        · have : g < w.heap.size := hX g hx
          omega
        · have : g < w.heap.size := Owned.lt hS h1 h2
          omega
  · simp only [fob_at, fob_nil] at ho
    split at ho
    · rename_i e; subst e; cases ho; exact ⟨by omega, trivial⟩
    · split at ho
      · rename_i e; subst e; cases ho; exact ⟨by omega, by simp [HO.men, HV.men]⟩
      · cases ho

/-- maps.Keys. -/
theorem hfn_keys {P : Program} {fi fk : FuncId} {T e : TypeId} {sz : Nat} {D : MD} (hok : callOk P fk = true)
    (hc : ∀ (b : Nat) (w : World), Calls P fk #[.map (some b)] w fun x w' => x = .returned (.func (.func fi) #[] #[.pointer (some ⟨w.heap.size, 0, none⟩)]) ∧ w' = w.alloc (.cells #[.map (some b)] T)) :
    HFn P fk [.mapr 0] 1 (fob [(0, .mp e sz D)]) (fun r ob' => r = .clo fi [.ptr 1 0] ∧ ob' = fob [(0, .mp e sz D), (1, .box T (.mapr 0))]) := by
  refine ⟨fnOk_of hok, fun w ρ X xs hS hA hX => Does.of hok ?_⟩
  obtain ⟨b, hf, hρ0, hM⟩ := hS.objs 0 (.mp e sz D) rfl
  have hargs : xs = [.map (some b)] := by
    rw [repHV_cons] at hA
    obtain ⟨y, zs, rfl, hy, hz⟩ := hA
    simp only [RepHV] at hz
    subst hz
    obtain ⟨hy1, hy2⟩ := hy
    have hag : Value.isAgg' y = false := by rw [← hy2]; rfl
    rw [cells_single hag] at hy1
    simp only [RepH, List.cons.injEq, and_true] at hy1
    obtain ⟨x, rfl, _, hx2⟩ := hy1
    rw [hx2 b hf hρ0]
  subst hargs
  refine (hc b w).mono ?_
  rintro ex w' ⟨rfl, rfl⟩
  let ρn : Env := upd ρ 1 (some (.blk w.heap.size))
  have hρ1 : ρ 1 = none := hS.none 1 rfl
  have hown : ∀ g, Own ρn g → Own ρ g ∨ w.heap.size ≤ g := by
    rintro g ⟨i, L, h1, h2⟩
    by_cases e : i = 1
    · subst e; simp only [ρn, upd_same] at h1; cases h1; cases h2; exact .inr (Nat.le_refl _)
    · simp only [ρn, upd_ne _ _ e] at h1; exact .inl ⟨i, L, h1, h2⟩
  have hheap : ∀ g, g < w.heap.size → (w.alloc (.cells #[.map (some b)] T)).heap[g]? = w.heap[g]? := fun g hg => Below.heap_alloc _ _ _ hg
  have hs2 : Stay2 w (Own ρ) (w.alloc (.cells #[.map (some b)] T)) (Own ρn) := ⟨fun g hg _ => hheap g hg, hown, by simp, rfl, rfl, rfl⟩
  have hst := hs2.stay X
  have hmv : Moves (· < 1) ρ ρn := fun i L hi hL => by
    have : i ≠ 1 := by omega
    simp only [ρn, upd_ne _ _ this] at hL; exact ⟨L, hL, .inl rfl⟩
  have key : ∀ i L, ρn i = some L → (i = 1 ∧ L = .blk w.heap.size) ∨ (i ≠ 1 ∧ ρ i = some L) := fun i L hL => by
    by_cases e : i = 1
    · subst e; simp only [ρn, upd_same] at hL; cases hL; exact .inl ⟨rfl, rfl⟩
    · simp only [ρn, upd_ne _ _ e] at hL; exact .inr ⟨e, hL⟩
  refine ⟨_, _, ρn, _, rfl, ⟨rfl, rfl⟩, ⟨?_, ⟨fun i o ho => ?_, fun i hi => ?_, fun i j L L' g h1 h2 h3 h4 => ?_, fun i L g h1 h2 hx => ?_⟩, by simp [HV.men, HV.menL], fun i o ho => ?_, hs2, hmv⟩⟩
  · refine repV_mk ?_ rfl rfl
    simp only [RepH]
    refine ⟨[.pointer (some ⟨w.heap.size, 0, none⟩)], rfl, ?_⟩
    rw [repHV_cons]
    exact ⟨_, _, rfl, repV_ptr' (upd_same _ _ _), by simp [RepHV]⟩
  · simp only [fob_at, fob_nil] at ho
    split at ho
    · rename_i e; subst e
      cases ho
      exact RepO.stay (M := (· < 1)) hst hmv trivial (upd_ne _ _ (by decide)) (fun L g h1 h2 => hheap g (Owned.lt hS h1 h2)) (hS.objs 0 _ rfl)
    · split at ho
      · rename_i e; subst e
        cases ho
        refine ⟨w.heap.size, [.map (some b)], upd_same _ _ _, heap_alloc_new w _, ?_⟩
        simp only [RepH]
        refine ⟨_, rfl, by simp [Value.oneCell'], fun b' hf' h1 => ?_⟩
        have : ρ 0 = some (.mp b' hf') := by simpa only [ρn, upd_ne ρ _ (show (0 : Nat) ≠ 1 by decide)] using h1
        rw [hρ0] at this; cases this; rfl
      · cases ho
  · simp only [fob_at, fob_nil] at hi
    split at hi
    · cases hi
    · split at hi
      · cases hi
      · rename_i e0 e1
        simp only [ρn, upd_ne _ _ e1]
        exact hS.none i (by simp [fob_at, fob_nil, e0])
  · rcases key i L h1 with ⟨rfl, rfl⟩ | ⟨n1, e1⟩ <;> rcases key j L' h2 with ⟨rfl, rfl⟩ | ⟨n2, e2⟩
    · rfl
    · cases h3; have := Owned.lt hS e2 h4; omega
    · cases h4; have := Owned.lt hS e1 h3; omega
    · exact hS.apart i j L L' g e1 e2 h3 h4
  · rcases key i L h1 with ⟨rfl, rfl⟩ | ⟨n1, e1⟩
    · cases h2; have := hX _ hx; omega
    · exact hS.xb i L g e1 h2 hx
  · simp only [fob_at, fob_nil] at ho
    split at ho
    · rename_i e; subst e; cases ho; exact ⟨by omega, trivial⟩
    · split at ho
      · rename_i e; subst e; cases ho; exact ⟨by omega, by simp [HO.men, HV.men]⟩
      · cases ho

section
variable {P : Program} {av : List Nat} {f fi : FuncId} {ob : Ob} {nid id id2 : Nat} {K : HV → Ob → Prop} {T e : TypeId} {sz : Nat} {D : MD}
def HKeys (P : Program) (f fi : FuncId) (T e : TypeId) (sz : Nat) (D : MD) : Prop := HFn P f [.mapr 0] 1 (fob [(0, .mp e sz D)]) (fun r ob' => r = .clo fi [.ptr 1 0] ∧ ob' = fob [(0, .mp e sz D), (1, .box T (.mapr 0))])
def HSorted (P : Program) (f fi : FuncId) (T e : TypeId) (sz : Nat) (D : MD) : Prop := HFn P f [.clo fi [.ptr 1 0]] 2 (fob [(0, .mp e sz D), (1, .box T (.mapr 0))]) (fun r ob' => r = .c (.slc ((sortedKeys D).map .str)) ∧ ob' = fob [(0, .mp e sz D), (1, .box T (.mapr 0))])

theorem call_keys (h : HKeys P f fi T e sz D) (hid : ob id = some (.mp e sz D)) (hav : id ∉ av) (hfree : Free4 ob nid) (hK : K (.clo fi [.ptr nid 0]) (upd ob nid (some (.box T (.mapr id))))) : HCall P av f [.mapr id] ob nid K := by
  have h0 : sub [id] nid 0 = id := rfl
  have h1 : sub [id] nid 1 = nid := by simp [sub]
  have hloc : LocOk 1 [HV.mapr 0] (fob [(0, .mp e sz D)]) := by
    refine ⟨fun j h => ?_, fun id o h => ?_, by simp [HV.menL, HV.men]⟩
    · have : j = 0 := by omega
      subst this; exact ⟨_, rfl⟩
    · simp only [fob_at, fob_nil] at h
      split at h
      · rename_i e; subst e; cases h; exact ⟨by omega, trivial⟩
      · cases h
  refine ⟨[id], _, _, _, h, hloc, ⟨by simp, by simpa using hav⟩, by simp only [HV.renL, HV.ren, h0], fun j o hj => ?_, fun r lob' hR _ => ?_⟩
  · simp only [fob_at, fob_nil] at hj
    split at hj
    · rename_i e; subst e; cases hj; simpa [HO.ren] using hid
    · cases hj
  · obtain ⟨rfl, rfl⟩ := hR
    have e2 : obAfter ob [id] nid (fob [(0, .mp e sz D), (1, .box T (.mapr 0))]) = upd ob nid (some (.box T (.mapr id))) := by
      funext i
      by_cases e : i = id
      · subst e
        have hne : i ≠ nid := by rintro rfl; rw [hfree.1] at hid; cases hid
        rw [upd_ne _ _ hne, hid]
        simp only [obAfter, List.findIdx?_cons, beq_self_eq_true, if_true, fob_at, Option.map_some, HO.ren]
      · have e' : (id == i) = false := by simp; exact fun h => e h.symm
        simp only [obAfter, List.findIdx?_cons, e', List.findIdx?_nil, Option.map_none]
        simp only [Bool.false_eq_true, if_false]
        split
        · rename_i hr
          by_cases hin : i = nid
          · subst hin
            rw [upd_same]
            simp [fob_at, HO.ren, HV.ren, h0]
          · have h2 : [id].length + (i - nid) ≠ 0 := by simp
            have h3 : [id].length + (i - nid) ≠ 1 := by simp; omega
            rw [fob_at, if_neg h2, fob_at, if_neg h3, fob_nil, upd_ne _ _ hin]
            exact (hfree.all i hr.1 hr.2).symm
        · rename_i hr
          have hin : i ≠ nid := by omega
          rw [upd_ne _ _ hin]
    rw [e2]
    simp only [HV.ren, HV.renL, h1]
    exact hK

theorem call_sorted (h : HSorted P f fi T e sz D) (hid : ob id = some (.mp e sz D)) (hid2 : ob id2 = some (.box T (.mapr id))) (hav : id ∉ av ∧ id2 ∉ av) (hfree : Free4 ob nid) (hK : K (.c (.slc ((sortedKeys D).map .str))) ob) : HCall P av f [.clo fi [.ptr id2 0]] ob nid K := by
  have hne : id ≠ id2 := by rintro rfl; rw [hid] at hid2; cases hid2
  have h0 : sub [id, id2] nid 0 = id := rfl
  have h1 : sub [id, id2] nid 1 = id2 := rfl
  have hloc : LocOk 2 [HV.clo fi [.ptr 1 0]] (fob [(0, .mp e sz D), (1, .box T (.mapr 0))]) := by
    refine ⟨fun j h => ?_, fun id o h => ?_, by simp [HV.menL, HV.men]⟩
    · have : j = 0 ∨ j = 1 := by omega
      rcases this with rfl | rfl
      · exact ⟨_, rfl⟩
      · exact ⟨_, rfl⟩
    · simp only [fob_at, fob_nil] at h
      split at h
      · rename_i e; subst e; cases h; exact ⟨by omega, trivial⟩
      · split at h
        · rename_i e; subst e; cases h; exact ⟨by omega, by simp [HO.men, HV.men]⟩
        · cases h
  refine ⟨[id, id2], _, _, _, h, hloc, ⟨by simp [hne], by simpa using hav⟩, by simp only [HV.renL, HV.ren, h1], fun j o hj => ?_, fun r lob' hR _ => ?_⟩
  · simp only [fob_at, fob_nil] at hj
    split at hj
    · rename_i e; subst e; cases hj; simpa [HO.ren] using hid
    · split at hj
      · rename_i e; subst e; cases hj; simpa [HO.ren, HV.ren, h0] using hid2
      · cases hj
  · obtain ⟨rfl, rfl⟩ := hR
    rw [obAfter_same (by simp [hne]) (fun j hj => ?_) (fun j hj => ?_) hfree.all]
    · exact hK
    · have : j = 0 ∨ j = 1 := by simp at hj; omega
      rcases this with rfl | rfl
      · exact ⟨_, rfl, by simpa [HO.ren] using hid⟩
      · exact ⟨_, rfl, by simpa [HO.ren, HV.ren, h0] using hid2⟩
    · simp only [List.length_cons, List.length_nil] at hj
      rw [fob_at, if_neg (by omega), fob_at, if_neg (by omega)]; rfl
end

/-! ## A row of one's own, closed as it is handed on -/
theorem repHV_c' {w : World} {ρ ρ2 : Env} {X : Nat → Prop} (hst : Stay w (Owned ρ X) w (Owned ρ2 X)) : ∀ {l : List CV} {xs : List Value}, RepHV w ρ (Owned ρ X) (l.map .c) xs → RepHV w ρ2 (Owned ρ2 X) (l.map .c) xs
  | [], xs, h => by simpa only [List.map_nil, RepHV] using h
  | v :: l, xs, h => by
    rw [List.map_cons, repHV_cons] at h ⊢
    obtain ⟨y, ys, rfl, ⟨h1, h2⟩, h3⟩ := h
    exact ⟨y, ys, rfl, ⟨by simp only [RepH] at h1 ⊢; exact h1.stay hst, h2⟩, repHV_c' hst h3⟩
theorem repHV_append2 {w : World} {ρ : Env} {O : Nat → Prop} : ∀ {l1 l2 : List HV} {xs : List Value}, RepHV w ρ O (l1 ++ l2) xs ↔ ∃ y1 y2, xs = y1 ++ y2 ∧ RepHV w ρ O l1 y1 ∧ RepHV w ρ O l2 y2
  | [], l2, xs => by simp only [List.nil_append, RepHV]; exact ⟨fun h => ⟨[], xs, rfl, rfl, h⟩, fun ⟨y1, y2, h, h1, h2⟩ => by subst h1; subst h; exact h2⟩
  | v :: l1, l2, xs => by
    simp only [List.cons_append, repHV_cons, repHV_append2 (l1 := l1)]
    constructor
    · rintro ⟨y, ys, rfl, h1, a, b, rfl, h2, h3⟩
      exact ⟨y :: a, b, rfl, ⟨y, a, rfl, h1, h2⟩, h3⟩
    · rintro ⟨y1, y2, rfl, ⟨y, ys, rfl, h1, h2⟩, h3⟩
      exact ⟨y, ys ++ y2, rfl, h1, ys, y2, rfl, h2, h3⟩

theorem hfn_closeArg {P : Program} {f : FuncId} {e : TypeId} {sz : Nat} {l pre post : List CV} {R : CV → Prop} (h : HPure P f (pre ++ .slc l :: post) R) :
    HFn P f (pre.map .c ++ .own 0 l.length :: post.map .c) 1 (fob [(0, .row e sz l)]) (fun r ob' => ∃ u, r = .c u ∧ ob' = none0 ∧ R u) := by
  refine ⟨h.1, fun w ρ X xs hS hA hX => ?_⟩
  obtain ⟨hd, ys, hρ0, hl, hcs, how⟩ := hS.objs 0 (.row e sz l) rfl
  let ρc : Env := fun _ => none
  have hown : ∀ b, ¬ Own ρc b := fun b ⟨_, _, h1, _⟩ => by cases h1
  have hst : Stay w (Owned ρ X) w (Owned ρc X) := Stay.same (fun b _ hb => hb.imp (fun x => x) (fun h => (hown b h).elim))
  have hSc : RepS w ρc X none0 := ⟨fun _ _ h => (by simp [none0] at h), fun _ _ => rfl, fun _ _ _ _ _ h => (by cases h), fun _ _ _ h => (by cases h)⟩
  have hA2 : RepHV w ρc (Owned ρc X) ((pre ++ .slc l :: post).map .c) xs := by
    rw [List.map_append, List.map_cons]
    rw [repHV_append2] at hA ⊢
    obtain ⟨y1, y2, rfl, h1, h2⟩ := hA
    refine ⟨y1, y2, rfl, repHV_c' hst h1, ?_⟩
    rw [repHV_cons] at h2 ⊢
    obtain ⟨y, zs, rfl, hy, hz⟩ := h2
    refine ⟨y, zs, rfl, ?_, repHV_c' hst hz⟩
    obtain ⟨hy1, hy2⟩ := hy
    have hag : Value.isAgg' y = false := by rw [← hy2]; rfl
    rw [cells_single hag] at hy1
    simp only [RepH, List.cons.injEq, and_true] at hy1
    obtain ⟨x, rfl, hx1, hx2⟩ := hy1
    obtain ⟨q1, q2⟩ := hx2 hd hρ0
    refine repV_single ?_ rfl hag
    simp only [RepC]
    rcases how.2 with ⟨rfl, hz0⟩ | ⟨g, cap, cur, rfl, hg0, hg, hcap, _⟩
    · have := q2 (by simp [hlen, hz0])
      exact ⟨none, 0, ys, sz, by rw [this, hz0], hl.stay hst, hcs, by omega, fun _ => rfl, fun ad had => (by cases had)⟩
    · have := q2 (by simp [hlen])
      refine ⟨some ⟨g, 0, none⟩, cap, ys, sz, by rw [this], hl.stay hst, hcs, hcap, fun hh => (by cases hh), fun ad had => ?_⟩
      cases had
      refine ⟨how.cells (g := g) rfl, fun _ => ?_⟩
      rintro (hx | hx)
      · exact hS.xb 0 _ g hρ0 rfl hx
      · exact hown _ hx
  refine (h.2 w ρc X xs hSc hA2 hX).mono ?_
  rintro ex w' ⟨r, ob', ρ', x, rfl, ⟨v, rfl, hR, rfl⟩, hg⟩
  have hρ' : ∀ i, ρ' i = none := fun i => hg.s.none i rfl
  refine ⟨_, _, ρ', x, rfl, ⟨v, rfl, rfl, hR⟩, hg.v, hg.s, by simp [HV.men], fun i o ho => (by simp [none0] at ho), ?_, fun i L _ hL => (by rw [hρ' i] at hL; cases hL)⟩
  exact ⟨fun b hb _ => hg.stay.block b hb (hown b), fun b hb => (hg.stay.own b hb).imp (fun h => (hown b h).elim) (fun x => x), hg.stay.size, hg.stay.os, hg.stay.tape, hg.stay.output⟩

theorem renL_c' {m : Nat → Nat} : ∀ (l : List CV), HV.renL m (l.map .c) = l.map .c
  | [] => rfl
  | v :: l => by simp only [List.map_cons, HV.renL, HV.ren, renL_c' l]
theorem renL_append {m : Nat → Nat} : ∀ (l1 l2 : List HV), HV.renL m (l1 ++ l2) = HV.renL m l1 ++ HV.renL m l2
  | [], l2 => rfl
  | v :: l1, l2 => by simp only [List.cons_append, HV.renL, renL_append l1 l2]

theorem call_close {P : Program} {av : List Nat} {f : FuncId} {ob : Ob} {nid id n : Nat} {K : HV → Ob → Prop} {e : TypeId} {sz : Nat} {l : List CV} {R : CV → Prop} (pre post : List CV) (h : HPure P f (pre ++ .slc l :: post) R) (hid : ob id = some (.row e sz l)) (hn : n = l.length)
    (hav : id ∉ av) (hfree : Free4 ob nid) (hK : ∀ u, R u → K (.c u) (gone ob id)) : HCall P av f (pre.map .c ++ .own id n :: post.map .c) ob nid K := by
  have h0 : sub [id] nid 0 = id := rfl
  subst hn
  have hloc : LocOk 1 (pre.map HV.c ++ HV.own 0 l.length :: post.map HV.c) (fob [(0, .row e sz l)]) := by
    have := locOk_take e sz l.length l
    refine ⟨this.all, this.none, ?_⟩
    rw [HV.menL_append]
    exact ⟨HV.menL_c, by simp only [HV.menL, HV.men]; exact ⟨by omega, HV.menL_c⟩⟩
  refine ⟨[id], _, _, _, hfn_closeArg h, hloc, ⟨by simp, by simpa using hav⟩, by simp only [renL_append, renL_c', HV.renL, HV.ren, h0], fun j o hj => ?_, fun r lob' hR _ => ?_⟩
  · simp only [fob_at, fob_nil] at hj
    split at hj
    · rename_i e; subst e; cases hj; simpa [HO.ren] using hid
    · cases hj
  · obtain ⟨u, rfl, rfl, hR⟩ := hR
    rw [obAfter_gone (lob := none0) (id := id) (by simp) rfl rfl (fun j hj0 hj => ?_) (fun j hj => rfl) hfree.all]
    · exact hK u hR
    · simp at hj; omega
end Go.Hl

namespace Go.Pl
open Go Go.Hl

theorem Rb.getSub (x : Rb) : CV.getAt 1 96 true x.cv = some (.agg [dg x.p.s, dg x.p.r, dg x.p.o]) := by
  simp [Rb.cv, Rp.cv, CV.getAt, CV.getAtL, CV.cells, CV.cellsL, dg_cells]
theorem Rb.getTime (x : Rb) : CV.getAt 97 1 false x.cv = some (.int .i64 x.p.at_) := by
  simp [Rb.cv, Rp.cv, CV.getAt, CV.getAtL, CV.cells, CV.cellsL, dg_cells]

theorem rowOf_pend (l : List CV) : rowOf (some (.pend l)) = l := rfl
theorem rowOf_row (l : List CV) : rowOf (some (.row l)) = l := rfl
theorem isRowP_pend (l : List CV) : isRowP (some (.pend l)) = true := rfl
theorem isRowM_row (l : List CV) : isRowM (some (.row l)) = true := rfl

def addR (D : MD) (x : Rb) : MD := mput D x.w (.row (rowOf (mget D x.w) ++ [x.p.cv]))
def grp (m : List Rb) : MD := m.foldl addR []
def repsOf (m : List Rb) (w : Word) : List Rp := (m.filter fun x => x.w == w).map (·.p)
theorem grp_snoc (m : List Rb) (x : Rb) : grp (m ++ [x]) = addR (grp m) x := by simp [grp, List.foldl_append]

theorem keys_put (D : MD) (k : Word) (v : MV) : (mput D k v).map (·.1) = if k ∈ D.map (·.1) then D.map (·.1) else D.map (·.1) ++ [k] := by
  induction D with
  | nil => simp [mput]
  | cons p D ih =>
    obtain ⟨k', v'⟩ := p
    by_cases e : k' = k
    · simp [mput, e]
    · have e2 : ¬ k = k' := fun h => e h.symm
      simp only [mput, e, if_false, List.map_cons, ih, List.mem_cons, e2, false_or]
      split <;> rfl
theorem mem_put (D : MD) (k : Word) (v : MV) (p : Word × MV) (h : p ∈ mput D k v) : p ∈ D ∨ p = (k, v) := by
  induction D with
  | nil => simp [mput] at h; exact .inr h
  | cons q D ih =>
    obtain ⟨k', v'⟩ := q
    by_cases e : k' = k
    · simp only [mput, e, if_true, List.mem_cons] at h
      rcases h with h | h
      · exact .inr h
      · exact .inl (List.mem_cons_of_mem _ h)
    · simp only [mput, e, if_false, List.mem_cons] at h
      rcases h with h | h
      · exact .inl (by rw [h]; simp)
      · exact (ih h).imp (List.mem_cons_of_mem _) (fun x => x)
theorem mok_put {D : MD} (h : MOk D) (k : Word) {v : MV} (hv : v.there = true) : MOk (mput D k v) := by
  refine ⟨?_, fun p hp => ?_⟩
  · rw [keys_put]
    split
    · exact h.nd
    · rename_i hk
      rw [List.nodup_append]
      refine ⟨h.nd, by simp, fun a ha b hb => ?_⟩
      simp only [List.mem_singleton] at hb
      subst hb
      intro e; subst e; exact hk ha
  · rcases mem_put D k v p hp with hp | rfl
    · exact h.th p hp
    · exact hv

theorem grp_spec : ∀ (m : List Rb), MOk (grp m) ∧ (grp m).length ≤ m.length ∧ ∀ w, mget (grp m) w = if repsOf m w = [] then none else some (.row ((repsOf m w).map Rp.cv)) := by
  intro m
  induction m using List.reverseRecOn' with
  | nil => exact ⟨⟨by simp [grp], by simp [grp]⟩, by simp [grp], fun w => by simp [grp, mget, repsOf]⟩
  | snoc m x ih =>
    obtain ⟨h1, h2, h3⟩ := ih
    rw [grp_snoc]
    refine ⟨mok_put h1 _ rfl, ?_, fun w => ?_⟩
    · unfold addR
      rw [mput_length]
      split <;> simp <;> omega
    · have hr : rowOf (mget (grp m) x.w) = (repsOf m x.w).map Rp.cv := by
        rw [h3]; split
        · rename_i h; rw [h]; rfl
        · rfl
      have hs : repsOf (m ++ [x]) w = repsOf m w ++ if x.w == w then [x.p] else [] := by
        simp only [repsOf, List.filter_append, List.map_append, List.filter_cons, List.filter_nil]
        split <;> simp
      unfold addR
      by_cases e : w = x.w
      · subst e
        rw [mget_put_same, hr, hs]
        simp
      · have e2 : (x.w == w) = false := by simp; exact fun h => e h.symm
        rw [mget_put_other _ _ e, h3, hs, e2]
        simp
where
  List.reverseRecOn' {α : Type} {C : List α → Prop} (m : List α) (nil : C []) (snoc : ∀ m x, C m → C (m ++ [x])) : C m := by
    have : ∀ r : List α, C r.reverse := fun r => by
      induction r with
      | nil => exact nil
      | cons x r ih => rw [List.reverse_cons]; exact snoc _ _ ih
    have := this m.reverse
    rwa [List.reverse_reverse] at this
theorem grp_isRowM (m : List Rb) (w : Word) : isRowM (mget (grp m) w) = true := by
  rw [(grp_spec m).2.2]; split <;> rfl
theorem grp_isRowP (m : List Rb) (w : Word) : isRowP (mget (grp m) w) = true := by
  rw [(grp_spec m).2.2]; split <;> rfl
theorem grp_row (m : List Rb) (w : Word) : rowOf (mget (grp m) w) = (repsOf m w).map Rp.cv := by
  rw [(grp_spec m).2.2]; split
  · rename_i h; rw [h]; rfl
  · rfl
theorem repsOf_len (m : List Rb) (w : Word) : (repsOf m w).length ≤ m.length := by
  simp only [repsOf, List.length_map]; exact List.length_filter_le _ _
theorem grp_rowLen (m : List Rb) (w : Word) : (rowOf (mget (grp m) w)).length ≤ m.length := by
  rw [grp_row, List.length_map]; exact repsOf_len m w

/-- The owners in their order. -/
def keysOf (m : List Rb) : List Word := sortedKeys (grp m)
theorem keysOf_perm (m : List Rb) : (keysOf m).Perm ((grp m).map (·.1)) := List.mergeSort_perm _ _
theorem keysOf_nodup (m : List Rb) : (keysOf m).Nodup := (keysOf_perm m).nodup_iff.2 (grp_spec m).1.nd
theorem keysOf_len (m : List Rb) : (keysOf m).length ≤ m.length := by
  rw [(keysOf_perm m).length_eq, List.length_map]; exact (grp_spec m).2.1
theorem mem_keysOf {m : List Rb} {w : Word} : w ∈ keysOf m ↔ repsOf m w ≠ [] := by
  rw [(keysOf_perm m).mem_iff, ← mget_isSome, (grp_spec m).2.2]
  split
  · rename_i h; simp [h]
  · rename_i h; simp [h]
theorem repsOf_ne {m : List Rb} {w : Word} : repsOf m w ≠ [] ↔ ∃ x ∈ m, x.w = w := by
  simp only [repsOf, ne_eq, List.map_eq_nil_iff, List.filter_eq_nil_iff, beq_iff_eq]
  constructor
  · intro h
    apply Classical.byContradiction
    intro h2
    exact h (fun x hx e => h2 ⟨x, hx, e⟩)
  · rintro ⟨x, hx, e⟩ h; exact h x hx e

def lends (D : MD) (ks : List Word) : MD := ks.foldl (fun D k => mput D k .lent) D
theorem lends_get (D : MD) : ∀ (ks : List Word) {w : Word}, w ∉ ks → mget (lends D ks) w = mget D w
  | [], w, _ => rfl
  | k :: ks, w, h => by
    simp only [List.mem_cons, not_or] at h
    have := lends_get (mput D k .lent) ks h.2
    simp only [lends, List.foldl_cons] at this ⊢
    rw [this, mget_put_other _ _ h.1]
theorem lends_succ (D : MD) {ks : List Word} {i : Nat} (h : i < ks.length) : lends D (ks.take (i + 1)) = mput (lends D (ks.take i)) ks[i] .lent := foldl_take _ _ _ _ h
theorem keys_fresh (m : List Rb) {i : Nat} (h : i < (keysOf m).length) : (keysOf m)[i] ∉ (keysOf m).take i := by
  have hn := keysOf_nodup m
  intro hm
  obtain ⟨j, hj, e⟩ := List.mem_take_iff_getElem.1 hm
  have := (List.pairwise_iff_getElem.1 hn) j i (by omega) h (by omega)
  exact this e
theorem lends_row (m : List Rb) {i : Nat} (h : i < (keysOf m).length) : mget (lends (grp m) ((keysOf m).take i)) (keysOf m)[i] = some (.row ((repsOf m (keysOf m)[i]).map Rp.cv)) := by
  rw [lends_get _ _ (keys_fresh m h), (grp_spec m).2.2, if_neg (mem_keysOf.1 (List.getElem_mem h))]

/-! ## The latest reports -/
theorem maxAt_spec : ∀ (l : List Rp) (a : Int), a ≤ maxAt a l ∧ (∀ r ∈ l, r.at_ ≤ maxAt a l) ∧ (maxAt a l = a ∨ ∃ r ∈ l, r.at_ = maxAt a l)
  | [], a => by simp [maxAt]
  | x :: l, a => by
    have ih := maxAt_spec l (if x.at_ > a then x.at_ else a)
    simp only [maxAt, List.foldl_cons] at ih ⊢
    generalize hm : List.foldl (fun a r => if r.at_ > a then r.at_ else a) (if x.at_ > a then x.at_ else a) l = mx at ih ⊢
    obtain ⟨h1, h2, h3⟩ := ih
    refine ⟨by split at h1 <;> omega, fun r hr => ?_, ?_⟩
    · rcases List.mem_cons.1 hr with rfl | hr
      · split at h1 <;> omega
      · exact h2 r hr
    · rcases h3 with h3 | ⟨r, hr, e⟩
      · split at h3
        · exact .inr ⟨x, by simp, h3.symm⟩
        · exact .inl h3
      · exact .inr ⟨r, List.mem_cons_of_mem _ hr, e⟩
theorem mem_latest {l : List Rp} {r : Rp} : r ∈ latestL l ↔ r ∈ l ∧ ∀ q ∈ l, q.at_ ≤ r.at_ := by
  cases l with
  | nil => simp [latestL]
  | cons x l =>
    obtain ⟨h1, h2, h3⟩ := maxAt_spec (x :: l) x.at_
    simp only [latestL, List.mem_filter, beq_iff_eq]
    constructor
    · rintro ⟨hr, e⟩; exact ⟨hr, fun q hq => by rw [e]; exact h2 q hq⟩
    · rintro ⟨hr, hq⟩
      refine ⟨hr, ?_⟩
      have := h2 r hr
      rcases h3 with h3 | ⟨q, hq', e⟩
      · have := hq x (by simp); omega
      · have := hq q hq'; omega
theorem latest_ne {l : List Rp} (h : l ≠ []) : latestL l ≠ [] := by
  cases l with
  | nil => exact absurd rfl h
  | cons x l =>
    obtain ⟨h1, h2, h3⟩ := maxAt_spec (x :: l) x.at_
    intro e
    have hx : ∃ r ∈ x :: l, r.at_ = maxAt x.at_ (x :: l) := by
      rcases h3 with h3 | h3
      · exact ⟨x, by simp, h3.symm⟩
      · exact h3
    obtain ⟨r, hr, hra⟩ := hx
    have : r ∈ latestL (x :: l) := by simp only [latestL, List.mem_filter, beq_iff_eq]; exact ⟨hr, hra⟩
    rw [e] at this; simp at this
theorem latest_len (l : List Rp) : (latestL l).length ≤ l.length := by
  cases l with
  | nil => exact Nat.le_refl _
  | cons x l => exact List.length_filter_le _ _

/-- The program's judgement. -/
def jstepR (m : List Rb) (o : Dig) (j : Jd) (w : Word) : Jd :=
  match latestL (repsOf m w) with
  | [] => j
  | x :: rs => if (x :: rs).any (fun r => !(r.o == x.o)) then { j with f := j.f ++ [w] } else if x.o == o then { j with a := j.a ++ [w] } else { j with d := j.d ++ [w] }
def judgeR (s r o : Dig) (t : Int) (l : List Rb) : Jd := (keysOf (l.filter (pick1 s r t))).foldl (jstepR (l.filter (pick1 s r t)) o) ⟨[], [], []⟩
theorem jstepR_at {m : List Rb} {o : Dig} {j : Jd} {w : Word} (h : 0 < (latestL (repsOf m w)).length) :
    jstepR m o j w = if (latestL (repsOf m w)).any (fun r => !(r.o == (latestL (repsOf m w))[0].o)) then { j with f := j.f ++ [w] } else if (latestL (repsOf m w))[0].o == o then { j with a := j.a ++ [w] } else { j with d := j.d ++ [w] } := by
  unfold jstepR
  revert h
  generalize latestL (repsOf m w) = L
  intro h
  cases L with
  | nil => simp at h
  | cons x rs => rfl
theorem jfoldR_len (m : List Rb) (o : Dig) (ks : List Word) : let j := ks.foldl (jstepR m o) ⟨[], [], []⟩; j.a.length ≤ ks.length ∧ j.d.length ≤ ks.length ∧ j.f.length ≤ ks.length := by
  have key : ∀ (ks : List Word) (j : Jd) (n : Nat), j.a.length ≤ n ∧ j.d.length ≤ n ∧ j.f.length ≤ n → let k := ks.foldl (jstepR m o) j; k.a.length ≤ n + ks.length ∧ k.d.length ≤ n + ks.length ∧ k.f.length ≤ n + ks.length := by
    intro ks
    induction ks with
    | nil => intro j n h; simpa using h
    | cons x l ih =>
      intro j n h
      have h1 : (jstepR m o j x).a.length ≤ n + 1 ∧ (jstepR m o j x).d.length ≤ n + 1 ∧ (jstepR m o j x).f.length ≤ n + 1 := by
        unfold jstepR
        split
        · omega
        · split
          · simp only [List.length_append, List.length_singleton]; omega
          · split <;> simp only [List.length_append, List.length_singleton] <;> omega
      have := ih (jstepR m o j x) (n + 1) h1
      simp only [List.foldl_cons, List.length_cons] at this ⊢
      omega
  have := key ks ⟨[], [], []⟩ 0 (by simp)
  simpa using this
end Go.Pl

namespace Go.Pl
open Go Go.Hl

/-! ## Words in their order -/
abbrev Asc (l : List Word) : Prop := l.Pairwise (· < ·)
theorem bl_iff : ∀ (a b : Word), Op.bytesLess a b = true ↔ a < b
  | _, [] => by simp [Op.bytesLess]
  | [], _ :: _ => by simp [Op.bytesLess]
  | a :: x, b :: y => by
    simp only [Op.bytesLess, Bool.or_eq_true, decide_eq_true_eq, Bool.and_eq_true, beq_iff_eq, bl_iff x y, List.cons_lt_cons_iff]
theorem slt_iff {a b : Word} : slt a b = true ↔ a < b := bl_iff a b
theorem asc_ext {a b : List Word} (ha : Asc a) (hb : Asc b) (h : ∀ w, w ∈ a ↔ w ∈ b) : a = b := by
  have nd : ∀ {l : List Word}, Asc l → l.Nodup := fun hl => hl.imp (fun {x y} h e => by subst e; exact List.lt_irrefl _ h)
  refine List.Perm.eq_of_pairwise (le := (· < ·)) (fun x y _ _ h1 h2 => absurd (List.lt_trans h1 h2) (List.lt_irrefl _)) ha hb ((List.perm_ext_iff_of_nodup (nd ha) (nd hb)).2 h)
theorem lt_of_le_ne {a b : Word} (h : a ≤ b) (hne : a ≠ b) : a < b := by
  apply Classical.byContradiction
  intro h2
  exact hne (List.le_antisymm h (List.not_lt.1 h2))
theorem asc_keys (m : List Rb) : Asc (keysOf m) := by
  have h1 : (keysOf m).Pairwise (fun x y => leW x y = true) := by
    refine List.pairwise_mergeSort (fun x y z => ?_) (fun x y => ?_) _
    · simp only [leW, decide_eq_true_eq]; exact List.le_trans
    · simp only [leW, Bool.or_eq_true, decide_eq_true_eq]; exact List.le_total x y
  have h2 := keysOf_nodup m
  exact (List.pairwise_and_iff.2 ⟨h1, h2⟩).imp (fun {x y} ⟨h, hne⟩ => lt_of_le_ne (by simpa [leW] using h) hne)

theorem mem_tw {α : Type} {p : α → Bool} : ∀ {l : List α} {x : α}, x ∈ l.takeWhile p → p x = true
  | [], x, h => by simp at h
  | a :: l, x, h => by
    by_cases ha : p a = true
    · rw [List.takeWhile_cons_of_pos ha, List.mem_cons] at h
      rcases h with rfl | h
      · exact ha
      · exact mem_tw h
    · rw [List.takeWhile_cons_of_neg ha] at h; simp at h
theorem mem_addW {l : List Word} {w v : Word} : v ∈ addW l w ↔ v ∈ l ∨ v = w := by
  unfold addW
  split
  · rename_i h
    have : w ∈ l := by simpa using h
    constructor
    · exact .inl
    · rintro (h | rfl)
      · exact h
      · exact this
  · have : l = l.takeWhile (slt · w) ++ l.dropWhile (slt · w) := (List.takeWhile_append_dropWhile).symm
    constructor
    · intro h
      simp only [List.mem_append, List.mem_cons] at h
      rcases h with h | rfl | h
      · exact .inl (by rw [this]; exact List.mem_append_left _ h)
      · exact .inr rfl
      · exact .inl (by rw [this]; exact List.mem_append_right _ h)
    · rintro (h | rfl)
      · rw [this] at h
        simp only [List.mem_append, List.mem_cons]
        rcases List.mem_append.1 h with h | h
        · exact .inl h
        · exact .inr (.inr h)
      · simp
theorem asc_addW {l : List Word} (h : Asc l) (w : Word) : Asc (addW l w) := by
  unfold addW
  split
  · exact h
  · rename_i hc
    have hw : w ∉ l := by simpa using hc
    have e : l = l.takeWhile (slt · w) ++ l.dropWhile (slt · w) := (List.takeWhile_append_dropWhile).symm
    have h' := h
    rw [e] at h'
    obtain ⟨p1, p2, p3⟩ := List.pairwise_append.1 h'
    have t1 : ∀ x ∈ l.takeWhile (slt · w), x < w := fun x hx => slt_iff.1 (mem_tw (p := (slt · w)) hx)
    have t2 : ∀ y ∈ l.dropWhile (slt · w), w < y := by
      cases hd : l.dropWhile (slt · w) with
      | nil => simp
      | cons y r =>
        rw [hd] at p2 e
        have hy : slt y w = false := by
          have := List.head_dropWhile_not (slt · w) (l := l) (by rw [hd]; simp)
          simpa [hd] using this
        have hyl : y ∈ l := by rw [e]; simp
        have hwy : w < y := by
          have h1 : ¬ y < w := fun h => by rw [slt_iff.2 h] at hy; cases hy
          exact lt_of_le_ne (List.not_lt.1 h1) (fun h => hw (h ▸ hyl))
        intro z hz
        rcases List.mem_cons.1 hz with rfl | hz
        · exact hwy
        · exact List.lt_trans hwy ((List.pairwise_cons.1 p2).1 z hz)
    refine List.pairwise_append.2 ⟨p1, List.pairwise_cons.2 ⟨t2, p2⟩, fun x hx y hy => ?_⟩
    rcases List.mem_cons.1 hy with rfl | hy
    · exact t1 x hx
    · exact List.lt_trans (t1 x hx) (t2 y hy)

/-! ## Who is judged how -/
/-- The reports that count: no later one of the same owner. -/
def SM (s r : Dig) (t : Int) (l : List Rb) (x : Rb) : Prop := x ∈ l ∧ pick1 s r t x = true ∧ ∀ y ∈ l, pick1 s r t y = true → y.w = x.w → y.p.at_ ≤ x.p.at_
def InA (s r o : Dig) (t : Int) (l : List Rb) (w : Word) : Prop := (∃ x, SM s r t l x ∧ x.w = w) ∧ ∀ x, SM s r t l x → x.w = w → x.p.o = o
def InF (s r : Dig) (t : Int) (l : List Rb) (w : Word) : Prop := ∃ x y, SM s r t l x ∧ SM s r t l y ∧ x.w = w ∧ y.w = w ∧ x.p.o ≠ y.p.o
def InD (s r o : Dig) (t : Int) (l : List Rb) (w : Word) : Prop := (∃ x, SM s r t l x ∧ x.w = w ∧ x.p.o ≠ o) ∧ ¬ InF s r t l w

section
variable {s r o : Dig} {t : Int} {l : List Rb}
theorem mem_considered {x : Rb} : x ∈ considered s r t l ↔ SM s r t l x := by
  simp only [considered, later, SM, List.mem_filter, List.all_eq_true, Bool.or_eq_true, Bool.not_eq_true', beq_eq_false_iff_ne, decide_eq_true_eq]
  constructor
  · rintro ⟨⟨h1, h2⟩, h3⟩
    exact ⟨h1, h2, fun y hy hp hw => (h3 y ⟨hy, hp⟩).resolve_left (fun h => h hw)⟩
  · rintro ⟨h1, h2, h3⟩
    refine ⟨⟨h1, h2⟩, fun y ⟨hy, hp⟩ => ?_⟩
    by_cases hw : y.w = x.w
    · exact .inr (h3 y hy hp hw)
    · exact .inl hw
theorem faulty_iff {x : Rb} (hx : SM s r t l x) : faulty (considered s r t l) x = true ↔ InF s r t l x.w := by
  simp only [faulty, List.any_eq_true, Bool.and_eq_true, beq_iff_eq, Bool.not_eq_true', beq_eq_false_iff_ne, mem_considered]
  constructor
  · rintro ⟨y, hy, hw, ho⟩
    exact ⟨x, y, hx, hy, rfl, hw, fun e => ho e.symm⟩
  · rintro ⟨y, z, hy, hz, hyw, hzw, hne⟩
    by_cases e : y.p.o = x.p.o
    · exact ⟨z, hz, hzw, fun e2 => hne (e.trans e2.symm)⟩
    · exact ⟨y, hy, hyw, e⟩
theorem fold18 (xs : List Rb) (sm : List Rb) (j : Jd) : let k := xs.foldl (jstep sm o) j
    (∀ w, w ∈ k.f ↔ w ∈ j.f ∨ ∃ x ∈ xs, x.w = w ∧ faulty sm x = true) ∧ (∀ w, w ∈ k.a ↔ w ∈ j.a ∨ ∃ x ∈ xs, x.w = w ∧ faulty sm x = false ∧ x.p.o = o) ∧
      (∀ w, w ∈ k.d ↔ w ∈ j.d ∨ ∃ x ∈ xs, x.w = w ∧ faulty sm x = false ∧ x.p.o ≠ o) ∧ (Asc j.a → Asc k.a) ∧ (Asc j.d → Asc k.d) ∧ (Asc j.f → Asc k.f) := by
  induction xs generalizing j with
  | nil => simp
  | cons x xs ih =>
    have := ih (jstep sm o j x)
    simp only [List.foldl_cons] at this ⊢
    obtain ⟨h1, h2, h3, h4, h5, h6⟩ := this
    unfold jstep at *
    by_cases hf : faulty sm x = true
    · rw [if_pos hf] at h1 h2 h3 h4 h5 h6 ⊢
      refine ⟨fun w => ?_, fun w => ?_, fun w => ?_, h4, h5, fun h => h6 (asc_addW h _)⟩
      · rw [h1]; simp only [mem_addW, List.mem_cons]
        constructor
        · rintro ((h | rfl) | ⟨y, hy, h⟩)
          · exact .inl h
          · exact .inr ⟨x, .inl rfl, rfl, hf⟩
          · exact .inr ⟨y, .inr hy, h⟩
        · rintro (h | ⟨y, rfl | hy, h, hh⟩)
          · exact .inl (.inl h)
          · exact .inl (.inr h.symm)
          · exact .inr ⟨y, hy, h, hh⟩
      · rw [h2]; simp only [List.mem_cons]
        constructor
        · rintro (h | ⟨y, hy, h⟩)
          · exact .inl h
          · exact .inr ⟨y, .inr hy, h⟩
        · rintro (h | ⟨y, rfl | hy, h, hh, hhh⟩)
          · exact .inl h
          · rw [hf] at hh; cases hh
          · exact .inr ⟨y, hy, h, hh, hhh⟩
      · rw [h3]; simp only [List.mem_cons]
        constructor
        · rintro (h | ⟨y, hy, h⟩)
          · exact .inl h
          · exact .inr ⟨y, .inr hy, h⟩
        · rintro (h | ⟨y, rfl | hy, h, hh, hhh⟩)
          · exact .inl h
          · rw [hf] at hh; cases hh
          · exact .inr ⟨y, hy, h, hh, hhh⟩
    · have hf' : faulty sm x = false := by simpa using hf
      rw [if_neg hf] at h1 h2 h3 h4 h5 h6 ⊢
      have ff : ∀ w, (w ∈ j.f ∨ ∃ y ∈ xs, y.w = w ∧ faulty sm y = true) ↔ (w ∈ j.f ∨ ∃ y ∈ x :: xs, y.w = w ∧ faulty sm y = true) := fun w => by
        simp only [List.mem_cons]
        constructor
        · rintro (h | ⟨y, hy, h⟩)
          · exact .inl h
          · exact .inr ⟨y, .inr hy, h⟩
        · rintro (h | ⟨y, rfl | hy, h, hh⟩)
          · exact .inl h
          · rw [hf'] at hh; cases hh
          · exact .inr ⟨y, hy, h, hh⟩
      by_cases ho : x.p.o = o
      · have ho' : (x.p.o == o) = true := beq_iff_eq.2 ho
        rw [if_pos ho'] at h1 h2 h3 h4 h5 h6 ⊢
        refine ⟨fun w => by rw [h1]; exact ff w, fun w => ?_, fun w => ?_, fun h => h4 (asc_addW h _), h5, h6⟩
        · rw [h2]; simp only [mem_addW, List.mem_cons]
          constructor
          · rintro ((h | rfl) | ⟨y, hy, h⟩)
            · exact .inl h
            · exact .inr ⟨x, .inl rfl, rfl, hf', ho⟩
            · exact .inr ⟨y, .inr hy, h⟩
          · rintro (h | ⟨y, rfl | hy, h, hh⟩)
            · exact .inl (.inl h)
            · exact .inl (.inr h.symm)
            · exact .inr ⟨y, hy, h, hh⟩
        · rw [h3]; simp only [List.mem_cons]
          constructor
          · rintro (h | ⟨y, hy, h⟩)
            · exact .inl h
            · exact .inr ⟨y, .inr hy, h⟩
          · rintro (h | ⟨y, rfl | hy, h, hh, hhh⟩)
            · exact .inl h
            · exact absurd ho hhh
            · exact .inr ⟨y, hy, h, hh, hhh⟩
      · have ho' : ¬ (x.p.o == o) = true := fun h => ho (beq_iff_eq.1 h)
        rw [if_neg ho'] at h1 h2 h3 h4 h5 h6 ⊢
        refine ⟨fun w => by rw [h1]; exact ff w, fun w => ?_, fun w => ?_, h4, fun h => h5 (asc_addW h _), h6⟩
        · rw [h2]; simp only [List.mem_cons]
          constructor
          · rintro (h | ⟨y, hy, h⟩)
            · exact .inl h
            · exact .inr ⟨y, .inr hy, h⟩
          · rintro (h | ⟨y, rfl | hy, h, hh, hhh⟩)
            · exact .inl h
            · exact absurd hhh ho
            · exact .inr ⟨y, hy, h, hh, hhh⟩
        · rw [h3]; simp only [mem_addW, List.mem_cons]
          constructor
          · rintro ((h | rfl) | ⟨y, hy, h⟩)
            · exact .inl h
            · exact .inr ⟨x, .inl rfl, rfl, hf', ho⟩
            · exact .inr ⟨y, .inr hy, h⟩
          · rintro (h | ⟨y, rfl | hy, h, hh⟩)
            · exact .inl (.inl h)
            · exact .inl (.inr h.symm)
            · exact .inr ⟨y, hy, h, hh⟩

/-- What the reference says. -/
theorem judge18_spec : (∀ w, w ∈ (judge18 s r o t l).a ↔ InA s r o t l w) ∧ (∀ w, w ∈ (judge18 s r o t l).d ↔ InD s r o t l w) ∧ (∀ w, w ∈ (judge18 s r o t l).f ↔ InF s r t l w) ∧
    Asc (judge18 s r o t l).a ∧ Asc (judge18 s r o t l).d ∧ Asc (judge18 s r o t l).f := by
  obtain ⟨h1, h2, h3, h4, h5, h6⟩ := fold18 (o := o) (considered s r t l) (considered s r t l) ⟨[], [], []⟩
  refine ⟨fun w => ?_, fun w => ?_, fun w => ?_, h4 (by simp), h5 (by simp), h6 (by simp)⟩
  · have := h2 w
    simp only [List.not_mem_nil, false_or] at this
    unfold judge18
    rw [this]
    constructor
    · rintro ⟨x, hx, rfl, hf, ho⟩
      have hx' := mem_considered.1 hx
      refine ⟨⟨x, hx', rfl⟩, fun y hy hw => ?_⟩
      apply Classical.byContradiction
      intro hne
      have : faulty (considered s r t l) x = true := (faulty_iff hx').2 ⟨x, y, hx', hy, rfl, hw, fun e => hne (e.symm.trans ho)⟩
      rw [hf] at this; cases this
    · rintro ⟨⟨x, hx, rfl⟩, h⟩
      refine ⟨x, mem_considered.2 hx, rfl, ?_, h x hx rfl⟩
      cases hf : faulty (considered s r t l) x with
      | false => rfl
      | true =>
        obtain ⟨y, z, hy, hz, hyw, hzw, hne⟩ := (faulty_iff hx).1 hf
        exact absurd ((h y hy hyw).trans (h z hz hzw).symm) hne
  · have := h3 w
    simp only [List.not_mem_nil, false_or] at this
    unfold judge18
    rw [this]
    constructor
    · rintro ⟨x, hx, rfl, hf, ho⟩
      have hx' := mem_considered.1 hx
      exact ⟨⟨x, hx', rfl, ho⟩, fun h => by rw [(faulty_iff hx').2 h] at hf; cases hf⟩
    · rintro ⟨⟨x, hx, rfl, ho⟩, hn⟩
      refine ⟨x, mem_considered.2 hx, rfl, ?_, ho⟩
      cases hf : faulty (considered s r t l) x with
      | false => rfl
      | true => exact absurd ((faulty_iff hx).1 hf) hn
  · have := h1 w
    simp only [List.not_mem_nil, false_or] at this
    unfold judge18
    rw [this]
    constructor
    · rintro ⟨x, hx, rfl, hf⟩; exact (faulty_iff (mem_considered.1 hx)).1 hf
    · rintro ⟨x, y, hx, hy, rfl, hyw, hne⟩
      exact ⟨x, mem_considered.2 hx, rfl, (faulty_iff hx).2 ⟨x, y, hx, hy, rfl, hyw, hne⟩⟩

theorem mem_repsL {w : Word} {p : Rp} : p ∈ latestL (repsOf (l.filter (pick1 s r t)) w) ↔ ∃ x, SM s r t l x ∧ x.w = w ∧ x.p = p := by
  rw [mem_latest]
  simp only [repsOf, List.mem_map, List.mem_filter, beq_iff_eq]
  constructor
  · rintro ⟨⟨x, ⟨⟨h1, h2⟩, h3⟩, rfl⟩, h4⟩
    refine ⟨x, ⟨h1, h2, fun y hy hp hw => h4 _ ⟨y, ⟨⟨hy, hp⟩, hw.trans h3⟩, rfl⟩⟩, h3, rfl⟩
  · rintro ⟨x, ⟨h1, h2, h3⟩, rfl, rfl⟩
    refine ⟨⟨x, ⟨⟨h1, h2⟩, rfl⟩, rfl⟩, ?_⟩
    rintro q ⟨y, ⟨⟨hy, hp⟩, hw⟩, rfl⟩
    exact h3 y hy hp hw

def clsR (m : List Rb) (o : Dig) (w : Word) : Nat :=
  match latestL (repsOf m w) with
  | [] => 3
  | x :: rs => if (x :: rs).any (fun r => !(r.o == x.o)) then 2 else if x.o == o then 0 else 1
theorem foldR (m : List Rb) (o : Dig) (ks : List Word) (j : Jd) : ks.foldl (jstepR m o) j = ⟨j.a ++ ks.filter (fun w => clsR m o w == 0), j.d ++ ks.filter (fun w => clsR m o w == 1), j.f ++ ks.filter (fun w => clsR m o w == 2)⟩ := by
  induction ks generalizing j with
  | nil => simp
  | cons w ks ih =>
    rw [List.foldl_cons, ih]
    unfold jstepR
    cases hL : latestL (repsOf m w) with
    | nil =>
      have hc : clsR m o w = 3 := by unfold clsR; rw [hL]
      simp [List.filter_cons, hc]
    | cons x rs =>
      simp only
      by_cases h1 : (x :: rs).any (fun r => !(r.o == x.o)) = true
      · have hc : clsR m o w = 2 := by unfold clsR; rw [hL]; simp only; rw [if_pos h1]
        rw [if_pos h1]
        simp [List.filter_cons, hc]
      · rw [if_neg h1]
        by_cases h2 : (x.o == o) = true
        · have hc : clsR m o w = 0 := by unfold clsR; rw [hL]; simp only; rw [if_neg h1, if_pos h2]
          rw [if_pos h2]
          simp [List.filter_cons, hc]
        · have hc : clsR m o w = 1 := by unfold clsR; rw [hL]; simp only; rw [if_neg h1, if_neg h2]
          rw [if_neg h2]
          simp [List.filter_cons, hc]

theorem clsR_spec {w : Word} (hw : w ∈ keysOf (l.filter (pick1 s r t))) : (clsR (l.filter (pick1 s r t)) o w = 0 ↔ InA s r o t l w) ∧ (clsR (l.filter (pick1 s r t)) o w = 1 ↔ InD s r o t l w) ∧ (clsR (l.filter (pick1 s r t)) o w = 2 ↔ InF s r t l w) := by
  have hne := latest_ne (mem_keysOf.1 hw)
  have hm := fun p => mem_repsL (s := s) (r := r) (t := t) (l := l) (w := w) (p := p)
  unfold clsR
  cases hL : latestL (repsOf (l.filter (pick1 s r t)) w) with
  | nil => exact absurd hL hne
  | cons x rs =>
    rw [hL] at hm
    simp only
    obtain ⟨x0, hx0, hx0w, hx0p⟩ := (hm x).1 (by simp)
    by_cases h1 : (x :: rs).any (fun r => !(r.o == x.o)) = true
    · rw [if_pos h1]
      obtain ⟨q, hq, hqo⟩ := List.any_eq_true.1 h1
      simp only [Bool.not_eq_true', beq_eq_false_iff_ne] at hqo
      obtain ⟨y, hy, hyw, hyp⟩ := (hm q).1 hq
      have hF : InF s r t l w := ⟨y, x0, hy, hx0, hyw, hx0w, by rw [hyp, hx0p]; exact hqo⟩
      refine ⟨⟨fun h => (by cases h), fun h => ?_⟩, ⟨fun h => (by cases h), fun h => absurd hF h.2⟩, ⟨fun _ => hF, fun _ => rfl⟩⟩
      obtain ⟨_, h⟩ := h
      exact absurd (by rw [← hyp, ← hx0p, h y hy hyw, h x0 hx0 hx0w]) hqo
    · have hall : ∀ z, SM s r t l z → z.w = w → z.p.o = x.o := fun z hz hzw => by
        have hzm := (hm z.p).2 ⟨z, hz, hzw, rfl⟩
        apply Classical.byContradiction
        intro hne'
        exact h1 (List.any_eq_true.2 ⟨z.p, hzm, by rw [Bool.not_eq_true', beq_eq_false_iff_ne]; exact hne'⟩)
      have hnF : ¬ InF s r t l w := by
        rintro ⟨y, z, hy, hz, hyw, hzw, hne'⟩
        exact hne' ((hall y hy hyw).trans (hall z hz hzw).symm)
      rw [if_neg h1]
      by_cases h2 : x.o = o
      · rw [if_pos (beq_iff_eq.2 h2)]
        refine ⟨⟨fun _ => ⟨⟨x0, hx0, hx0w⟩, fun z hz hzw => (hall z hz hzw).trans h2⟩, fun _ => rfl⟩, ⟨fun h => (by cases h), fun h => ?_⟩, ⟨fun h => (by cases h), fun h => absurd h hnF⟩⟩
        obtain ⟨⟨y, hy, hyw, hyo⟩, _⟩ := h
        exact absurd ((hall y hy hyw).trans h2) hyo
      · rw [if_neg (fun h => h2 (beq_iff_eq.1 h))]
        refine ⟨⟨fun h => (by cases h), fun h => ?_⟩, ⟨fun _ => ⟨⟨x0, hx0, hx0w, by rw [hx0p]; exact h2⟩, hnF⟩, fun _ => rfl⟩, ⟨fun h => (by cases h), fun h => absurd h hnF⟩⟩
        have := h.2 x0 hx0 hx0w
        rw [hx0p] at this; exact absurd this h2

theorem keys_of_SM {x : Rb} (hx : SM s r t l x) : x.w ∈ keysOf (l.filter (pick1 s r t)) :=
  mem_keysOf.2 (repsOf_ne.2 ⟨x, List.mem_filter.2 ⟨hx.1, hx.2.1⟩, rfl⟩)

/-- What the program says. -/
theorem judgeR_spec : (∀ w, w ∈ (judgeR s r o t l).a ↔ InA s r o t l w) ∧ (∀ w, w ∈ (judgeR s r o t l).d ↔ InD s r o t l w) ∧ (∀ w, w ∈ (judgeR s r o t l).f ↔ InF s r t l w) ∧
    Asc (judgeR s r o t l).a ∧ Asc (judgeR s r o t l).d ∧ Asc (judgeR s r o t l).f := by
  unfold judgeR
  rw [foldR]
  simp only [List.nil_append]
  have hk := asc_keys (l.filter (pick1 s r t))
  refine ⟨fun w => ?_, fun w => ?_, fun w => ?_, hk.filter _, hk.filter _, hk.filter _⟩
  · rw [List.mem_filter, beq_iff_eq]
    constructor
    · rintro ⟨h1, h2⟩; exact (clsR_spec h1).1.1 h2
    · intro h
      have h' := h
      obtain ⟨⟨x, hx, rfl⟩, _⟩ := h
      exact ⟨keys_of_SM hx, (clsR_spec (keys_of_SM hx)).1.2 h'⟩
  · rw [List.mem_filter, beq_iff_eq]
    constructor
    · rintro ⟨h1, h2⟩; exact (clsR_spec h1).2.1.1 h2
    · intro h
      have h' := h
      obtain ⟨⟨x, hx, rfl, _⟩, _⟩ := h
      exact ⟨keys_of_SM hx, (clsR_spec (keys_of_SM hx)).2.1.2 h'⟩
  · rw [List.mem_filter, beq_iff_eq]
    constructor
    · rintro ⟨h1, h2⟩; exact (clsR_spec h1).2.2.1 h2
    · intro h
      have h' := h
      obtain ⟨x, y, hx, _, rfl, _⟩ := h
      exact ⟨keys_of_SM hx, (clsR_spec (keys_of_SM hx)).2.2.2 h'⟩

/-- THE SAME. -/
theorem judge_same : judgeR s r o t l = judge18 s r o t l := by
  obtain ⟨a1, a2, a3, a4, a5, a6⟩ := judgeR_spec (s := s) (r := r) (o := o) (t := t) (l := l)
  obtain ⟨b1, b2, b3, b4, b5, b6⟩ := judge18_spec (s := s) (r := r) (o := o) (t := t) (l := l)
  have e1 := asc_ext a4 b4 (fun w => (a1 w).trans (b1 w).symm)
  have e2 := asc_ext a5 b5 (fun w => (a2 w).trans (b2 w).symm)
  have e3 := asc_ext a6 b6 (fun w => (a3 w).trans (b3 w).symm)
  generalize judgeR s r o t l = j at *
  generalize judge18 s r o t l = k at *
  cases j; cases k
  simp only at e1 e2 e3
  rw [e1, e2, e3]
end
end Go.Pl

namespace Go.Pl
open Go Go.Hl

section
variable {s r o : Dig} {t : Int} {l l' : List Rb}
theorem SM_congr (h : ∀ x, x ∈ l ↔ x ∈ l') {x : Rb} : SM s r t l x ↔ SM s r t l' x := by
  simp only [SM, h]
theorem judge_congr (h : ∀ x, x ∈ l ↔ x ∈ l') : judge18 s r o t l = judge18 s r o t l' := by
  obtain ⟨a1, a2, a3, a4, a5, a6⟩ := judge18_spec (s := s) (r := r) (o := o) (t := t) (l := l)
  obtain ⟨b1, b2, b3, b4, b5, b6⟩ := judge18_spec (s := s) (r := r) (o := o) (t := t) (l := l')
  have hs : ∀ x, SM s r t l x ↔ SM s r t l' x := fun x => SM_congr h
  have f : ∀ w, InF s r t l w ↔ InF s r t l' w := fun w => by simp only [InF, hs]
  have e1 := asc_ext a4 b4 (fun w => (a1 w).trans ((by simp only [InA, hs] : InA s r o t l w ↔ InA s r o t l' w).trans (b1 w).symm))
  have e2 := asc_ext a5 b5 (fun w => (a2 w).trans ((by simp only [InD, hs, f] : InD s r o t l w ↔ InD s r o t l' w).trans (b2 w).symm))
  have e3 := asc_ext a6 b6 (fun w => (a3 w).trans ((f w).trans (b3 w).symm))
  generalize judge18 s r o t l = j at *
  generalize judge18 s r o t l' = k at *
  cases j; cases k
  simp only at e1 e2 e3
  rw [e1, e2, e3]
theorem judge_apart {w : Word} (h : w ∈ (judge18 s r o t l).a) : w ∉ (judge18 s r o t l).d ∧ w ∉ (judge18 s r o t l).f := by
  obtain ⟨a1, a2, a3, _⟩ := judge18_spec (s := s) (r := r) (o := o) (t := t) (l := l)
  rw [a1] at h
  rw [a2, a3]
  refine ⟨fun ⟨⟨x, hx, hw, ho⟩, _⟩ => ho (h.2 x hx hw), fun ⟨x, y, hx, hy, hxw, hyw, hne⟩ => hne ((h.2 x hx hxw).trans (h.2 y hy hyw).symm)⟩
end
theorem asc_ascB : ∀ {l : List Word}, Asc l → ascB l = true
  | [], _ => rfl
  | [a], _ => rfl
  | a :: b :: l, h => by
    obtain ⟨h1, h2⟩ := List.pairwise_cons.1 h
    simp only [ascB, Bool.and_eq_true]
    exact ⟨slt_iff.2 (h1 b (by simp)), asc_ascB h2⟩
theorem contains_false {l : List Word} {w : Word} (h : w ∉ l) : l.contains w = false := by simpa using h
theorem cv_cells {l : List CV} (m : List Rb) (h : ∀ v ∈ l, v ∈ m.map Rb.cv) : ∀ v ∈ l, v.cells = 98 := fun v hv => by
  obtain ⟨x, _, rfl⟩ := List.mem_map.1 (h v hv); exact Rb.cells x

theorem rot_mem {m : List Rb} {k i : Nat} (hi : i < m.length) (x : Rb) : x ∈ (m.drop k ++ m.take k) ++ [m[i]] ↔ x ∈ m := by
  simp only [List.mem_append, List.mem_singleton]
  constructor
  · rintro ((h | h) | rfl)
    · exact List.mem_of_mem_drop h
    · exact List.mem_of_mem_take h
    · exact List.getElem_mem hi
  · intro h
    rw [← List.take_append_drop k m] at h
    rcases List.mem_append.1 h with h | h
    · exact .inl (.inr h)
    · exact .inl (.inl h)

theorem nodup_len : ∀ (s l : List Word), l.Nodup → (∀ x ∈ l, x ∈ s) → l.length ≤ s.length
  | [], l, _, h => by
    cases l with
    | nil => exact Nat.le_refl _
    | cons x l => exact absurd (h x (by simp)) (by simp)
  | a :: s, l, hn, h => by
    by_cases ha : a ∈ l
    · have h1 := nodup_len s (l.erase a) (hn.erase a) (fun x hx => by
        obtain ⟨hne, hx⟩ := (List.Nodup.mem_erase_iff hn).1 hx
        exact (List.mem_cons.1 (h x hx)).resolve_left hne)
      rw [List.length_erase_of_mem ha] at h1
      simp only [List.length_cons]; omega
    · have h1 := nodup_len s l hn (fun x hx => (List.mem_cons.1 (h x hx)).resolve_left (fun e => ha (e ▸ hx)))
      simp only [List.length_cons]; omega
theorem honest {s r o d : Dig} {t : Int} {l : List Rb} {ws : List Word} (h : ∀ x ∈ l, x.w ∈ ws ∨ x.p.o = d) (hlt : ws.length < (judge18 s r o t l).a.length) : d = o := by
  obtain ⟨a1, _, _, h4, _, _⟩ := judge18_spec (s := s) (r := r) (o := o) (t := t) (l := l)
  have nd : (judge18 s r o t l).a.Nodup := h4.imp (fun {x y} h e => by subst e; exact List.lt_irrefl _ h)
  apply Classical.byContradiction
  intro hne
  have := nodup_len ws _ nd (fun w hw => by
    obtain ⟨⟨x, hx, rfl⟩, hall⟩ := (a1 w).1 hw
    rcases h x hx.1 with h | h
    · exact h
    · exact absurd (h.symm.trans (hall x hx rfl)) hne)
  omega

section
variable {s r o d : Dig} {t : Int} {m : List Rb} {w : Word}
/-- A later report of an owner. -/
theorem SM_later (hm : ∀ x ∈ m, x.p.at_ < 15) (ht : 15 ≤ t) {x : Rb} (hx : x.w = w) : SM s r t (m ++ [⟨w, ⟨s, r, d, 15⟩⟩]) x ↔ x = ⟨w, ⟨s, r, d, 15⟩⟩ := by
  have hp : pick1 s r t ⟨w, ⟨s, r, d, 15⟩⟩ = true := by simp [pick1, ht]
  simp only [SM, List.mem_append, List.mem_singleton]
  constructor
  · rintro ⟨h1, h2, h3⟩
    rcases h1 with h1 | h1
    · have := h3 _ (.inr rfl) hp hx.symm
      have h4 := hm x h1
      simp only at this
      omega
    · exact h1
  · rintro rfl
    refine ⟨.inr rfl, hp, fun y hy _ _ => ?_⟩
    rcases hy with hy | rfl
    · have := hm y hy; simp only; omega
    · exact Int.le_refl _
theorem SM_other {x : Rb} (hx : x.w ≠ w) : SM s r t (m ++ [⟨w, ⟨s, r, d, 15⟩⟩]) x ↔ SM s r t m x := by
  simp only [SM, List.mem_append, List.mem_singleton]
  constructor
  · rintro ⟨h1, h2, h3⟩
    refine ⟨h1.resolve_right (fun e => hx (by rw [e])), h2, fun y hy => h3 y (.inl hy)⟩
  · rintro ⟨h1, h2, h3⟩
    refine ⟨.inl h1, h2, fun y hy hp hw => ?_⟩
    rcases hy with hy | rfl
    · exact h3 y hy hp hw
    · exact absurd hw.symm hx
theorem replaced (hm : ∀ x ∈ m, x.p.at_ < 15) (ht : 15 ≤ t) : let j := judge18 s r o t (m ++ [⟨w, ⟨s, r, d, 15⟩⟩])
    (j.a.contains w = (d == o)) ∧ (j.d.contains w = !(d == o)) ∧ j.f.contains w = false := by
  obtain ⟨a1, a2, a3, _⟩ := judge18_spec (s := s) (r := r) (o := o) (t := t) (l := m ++ [⟨w, ⟨s, r, d, 15⟩⟩])
  have hs := fun x hx => SM_later (s := s) (r := r) (d := d) (t := t) (m := m) (w := w) hm ht (x := x) hx
  have hF : ¬ InF s r t (m ++ [⟨w, ⟨s, r, d, 15⟩⟩]) w := by
    rintro ⟨x, y, hx, hy, hxw, hyw, hne⟩
    rw [(hs x hxw).1 hx, (hs y hyw).1 hy] at hne
    exact hne rfl
  have hA : InA s r o t (m ++ [⟨w, ⟨s, r, d, 15⟩⟩]) w ↔ d = o := by
    constructor
    · rintro ⟨_, h⟩; exact h _ ((hs _ rfl).2 rfl) rfl
    · rintro rfl
      exact ⟨⟨_, (hs _ rfl).2 rfl, rfl⟩, fun x hx hxw => by rw [(hs x hxw).1 hx]⟩
  have hD : InD s r o t (m ++ [⟨w, ⟨s, r, d, 15⟩⟩]) w ↔ d ≠ o := by
    constructor
    · rintro ⟨⟨x, hx, hxw, ho⟩, _⟩; rw [(hs x hxw).1 hx] at ho; exact ho
    · intro h; exact ⟨⟨_, (hs _ rfl).2 rfl, rfl, h⟩, hF⟩
  refine ⟨?_, ?_, ?_⟩
  · rw [Bool.eq_iff_iff, List.contains_iff_mem, a1, hA, beq_iff_eq]
  · rw [Bool.eq_iff_iff, List.contains_iff_mem, a2, hD, Bool.not_eq_true', beq_eq_false_iff_ne]
  · exact contains_false (fun h => hF ((a3 w).1 h))
theorem replaced_other {p : Word} (hp : p ≠ w) : let j := judge18 s r o t m
    let k := judge18 s r o t (m ++ [⟨w, ⟨s, r, d, 15⟩⟩])
    (j.a.contains p = k.a.contains p) ∧ (j.d.contains p = k.d.contains p) ∧ (j.f.contains p = k.f.contains p) := by
  obtain ⟨a1, a2, a3, _⟩ := judge18_spec (s := s) (r := r) (o := o) (t := t) (l := m ++ [⟨w, ⟨s, r, d, 15⟩⟩])
  obtain ⟨b1, b2, b3, _⟩ := judge18_spec (s := s) (r := r) (o := o) (t := t) (l := m)
  have hs := fun x (hx : x.w = p) => SM_other (s := s) (r := r) (d := d) (t := t) (m := m) (w := w) (x := x) (by rw [hx]; exact hp)
  have hF : InF s r t (m ++ [⟨w, ⟨s, r, d, 15⟩⟩]) p ↔ InF s r t m p := by
    constructor
    · rintro ⟨x, y, hx, hy, hxw, hyw, hne⟩; exact ⟨x, y, (hs x hxw).1 hx, (hs y hyw).1 hy, hxw, hyw, hne⟩
    · rintro ⟨x, y, hx, hy, hxw, hyw, hne⟩; exact ⟨x, y, (hs x hxw).2 hx, (hs y hyw).2 hy, hxw, hyw, hne⟩
  refine ⟨?_, ?_, ?_⟩
  · rw [Bool.eq_iff_iff, List.contains_iff_mem, List.contains_iff_mem, a1, b1]
    constructor
    · rintro ⟨⟨x, hx, hxw⟩, h⟩; exact ⟨⟨x, (hs x hxw).2 hx, hxw⟩, fun y hy hyw => h y ((hs y hyw).1 hy) hyw⟩
    · rintro ⟨⟨x, hx, hxw⟩, h⟩; exact ⟨⟨x, (hs x hxw).1 hx, hxw⟩, fun y hy hyw => h y ((hs y hyw).2 hy) hyw⟩
  · rw [Bool.eq_iff_iff, List.contains_iff_mem, List.contains_iff_mem, a2, b2]
    constructor
    · rintro ⟨⟨x, hx, hxw, h⟩, hn⟩; exact ⟨⟨x, (hs x hxw).2 hx, hxw, h⟩, fun h => hn (hF.1 h)⟩
    · rintro ⟨⟨x, hx, hxw, h⟩, hn⟩; exact ⟨⟨x, (hs x hxw).1 hx, hxw, h⟩, fun h => hn (hF.2 h)⟩
  · rw [Bool.eq_iff_iff, List.contains_iff_mem, List.contains_iff_mem, a3, b3, hF]
end
theorem dg1_inj {a b : UInt8} (h : dg1 a = dg1 b) : a = b := by
  have := congrArg Subtype.val h
  simp only [dg1, List.cons.injEq] at this
  exact this.1
end Go.Pl
