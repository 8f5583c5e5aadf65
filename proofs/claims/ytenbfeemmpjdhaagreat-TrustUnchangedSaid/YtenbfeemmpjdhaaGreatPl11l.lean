/- Plain Lean: owners found one by one; what is live. By an AI agent. -/
import Derived.Test.YtenbfeemmpjdhaaGreatHlZb
import Derived.Test.YtenbfeemmpjdhaaGreatHlSo
import Derived.Test.YtenbfeemmpjdhaaGreatPl18b
import Derived.Shelf.GgSortFunc.InsertionK
import Derived.Sort.Statements
import Derived.Test.YtenbfeemmpjdhaaGreatPl11h
import Derived.Shelf.SlSortCmp.InsertionK
import Derived.Test.YtenbfeemmpjdhaaGreatHxSb
import Derived.Deep.QuietTactic
import Derived.BigQuiet
import Derived.Test.YtenbfeemmpjdhaaGreatChecked
import Derived.Shelf.SortM.Plain
import Derived.Shelf.SortM.SortNone
import Derived.Shelf.SlSortCmp.NoneTotal
import Derived.Ground.SlgmProg
import Derived.Ground.SlsfProg
import Derived.Shelf.Slices.Clone
import Derived.Ground.Names2Prog
set_option linter.unusedSimpArgs false
set_option linter.unusedVariables false
set_option linter.defProp false
namespace Go.Hl
open Go

def HShr (P : Program) (f : FuncId) (e : TypeId) (sz : Nat) (l : List CV) (rest : List HV) (R : List CV → Prop) : Prop :=
  HFn P f (.own 0 l.length :: rest) 1 (fob [(0, .row e sz l)]) (fun r ob' => ∃ l', r = .own 1 l'.length ∧ ob' = fob [(1, .row e sz l')] ∧ R l')
def shrR (e : TypeId) (sz : Nat) (R : List CV → Prop) (r : HV) (ob' : Ob) : Prop :=
  ∃ (l' : List CV) (m : Nat), (r = .osl 0 l'.length 0 sz m ∧ 0 < l'.length ∨ r = .own 0 l'.length ∧ m = l'.length) ∧ m ≤ l'.length ∧ ob' = fob [(0, .row e sz l')] ∧ R (l'.take m)

theorem hret_shr {ob : Ob} {e : TypeId} {sz : Nat} {R : List CV → Prop} {m n : Nat} (l' : List CV) (h : ob 0 = some (.row e sz l')) (hn : n = l'.length) (h0 : 0 < l'.length) (hm : m ≤ l'.length) (hR : R (l'.take m)) : HRet 1 (.osl 0 n 0 sz m) ob (shrR e sz R) := by
  subst hn
  refine ⟨[], id, .osl 0 l'.length 0 sz m, fob [(0, .row e sz l')], ⟨l', m, .inl ⟨rfl, h0⟩, hm, rfl, hR⟩, by simp only [HV.close, List.contains_nil, Bool.false_eq_true, if_false, HV.norm, HV.toC, HV.ren, id], fun _ _ => rfl, fun _ _ _ _ h => h, by simp [HV.men], fun j o ho => ?_⟩
  simp only [fob_at, fob_nil] at ho
  split at ho
  · rename_i e0; subst e0; cases ho
    exact ⟨by omega, trivial, by simp, .row e sz l', h, rfl⟩
  · cases ho
theorem hret_shr_own {ob : Ob} {e : TypeId} {sz : Nat} {R : List CV → Prop} {n : Nat} (l' : List CV) (h : ob 0 = some (.row e sz l')) (hn : n = l'.length) (hR : R l') : HRet 1 (.own 0 n) ob (shrR e sz R) := by
  subst hn
  refine ⟨[], id, .own 0 l'.length, fob [(0, .row e sz l')], ⟨l', l'.length, .inr ⟨rfl, rfl⟩, Nat.le_refl _, rfl, by rw [List.take_length]; exact hR⟩, by simp only [HV.close, List.contains_nil, Bool.false_eq_true, if_false, HV.norm, HV.toC, HV.ren, id], fun _ _ => rfl, fun _ _ _ _ h => h, by simp [HV.men], fun j o ho => ?_⟩
  simp only [fob_at, fob_nil] at ho
  split at ho
  · rename_i e0; subst e0; cases ho
    exact ⟨by omega, trivial, by simp, .row e sz l', h, rfl⟩
  · cases ho

theorem hfn_shr {P : Program} {f : FuncId} {e : TypeId} {sz : Nat} {l : List CV} {rest : List HV} {R : List CV → Prop}
    (h : HFn P f (.own 0 l.length :: rest) 1 (fob [(0, .row e sz l)]) (shrR e sz R)) : HShr P f e sz l rest R := by
  refine ⟨h.1, fun w ρ X xs hS hA hX => (h.2 w ρ X xs hS hA hX).mono ?_⟩
  rintro ex w' ⟨r, ob', ρ', x, rfl, ⟨l', m, hr, hm, rfl, hR⟩, hg⟩
  obtain ⟨h0, ys, hρ, hL, hcs, how⟩ := hg.s.objs 0 (.row e sz l') rfl
  have hh : hlen h0 = l'.length := ownsRow_size how
  -- the header that is handed back
  have hx : (x = h0 ∧ m = l'.length) ∨ ∃ g cap, h0 = .slice (some ⟨g, 0, none⟩) l'.length cap ∧ x = .slice (some ⟨g, 0, none⟩) m cap := by
    have hv := hg.v
    rcases hr with ⟨rfl, hpos⟩ | ⟨rfl, rfl⟩
    · right
      rcases how.2 with ⟨_, hz⟩ | ⟨g, cap, cur, rfl, _, hgc, hcap, _⟩
      · omega
      · obtain ⟨hv1, hv2⟩ := hv
        have hag : Value.isAgg' x = false := by rw [← hv2]; rfl
        rw [cells_single hag] at hv1
        simp only [RepH, List.cons.injEq, and_true] at hv1
        obtain ⟨y, rfl, _, hy, _⟩ := hv1
        have := (hy _ hρ).2 hh g cap rfl
        refine ⟨g, cap, rfl, ?_⟩
        rw [this]
        simp
    · left
      obtain ⟨hv1, hv2⟩ := hv
      have hag : Value.isAgg' x = false := by rw [← hv2]; rfl
      rw [cells_single hag] at hv1
      simp only [RepH, List.cons.injEq, and_true] at hv1
      obtain ⟨y, rfl, _, hy⟩ := hv1
      exact ⟨(hy _ hρ).2 hh, rfl⟩
  have hlm : (l'.take m).length = m := by simp; omega
  have hrow : w'.ownsRow 0 e sz x (l'.take m).length (ys.take (m * sz)) := by
    rw [hlm]
    rcases hx with ⟨rfl, rfl⟩ | ⟨g, cap, rfl, rfl⟩
    · rw [List.take_of_length_le (by rw [how.1]; exact Nat.le_refl _)]; exact how
    · refine ⟨by rw [List.length_take, how.1]; exact Nat.min_eq_left (Nat.mul_le_mul_right _ hm), ?_⟩
      rcases how.2 with ⟨hn, _⟩ | ⟨g', cap', cur, he, hb, hgc, hcap, hmax, hsz, htk⟩
      · cases hn
      · cases he
        exact .inr ⟨g, cap, cur, rfl, hb, hgc, by omega, hmax, hsz, by rw [← htk, List.take_take, Nat.min_eq_left (Nat.mul_le_mul_right _ hm)]⟩
  have hown1 : ∀ b, (Loc.hdr x).has b → (Loc.hdr h0).has b := fun b hb => by
    rcases hx with ⟨rfl, _⟩ | ⟨g, cap, rfl, rfl⟩
    · exact hb
    · exact hb
  have hx1 : x.oneCell' = true := by
    rcases hx with ⟨rfl, _⟩ | ⟨g, cap, _, rfl⟩
    · rcases how.2 with ⟨rfl, _⟩ | ⟨g', cap', cur, rfl, _⟩ <;> rfl
    · rfl
  have hxa : Value.isAgg' x = false := by
    rcases hx with ⟨rfl, _⟩ | ⟨g, cap, _, rfl⟩
    · rcases how.2 with ⟨rfl, _⟩ | ⟨g', cap', cur, rfl, _⟩ <;> rfl
    · rfl
  have hxl : hlen x = m := by
    rcases hx with ⟨rfl, rfl⟩ | ⟨g, cap, _, rfl⟩
    · exact hh
    · rfl
  let ρn : Env := fun i => if i = 1 then some (.hdr x) else none
  have hn1 : ∀ i L, ρn i = some L → i = 1 ∧ L = .hdr x := fun i L hi => by
    simp only [ρn] at hi
    split at hi
    · cases hi; exact ⟨by assumption, rfl⟩
    · cases hi
  have hownn : ∀ b, Own ρn b → Own ρ' b := fun b ⟨i, L, h1, h2⟩ => by
    obtain ⟨rfl, rfl⟩ := hn1 i L h1
    exact ⟨0, _, hρ, hown1 b h2⟩
  have hst : Stay w' (Owned ρ' X) w' (Owned ρn X) := Stay.same (fun b _ hb => hb.imp (fun x => x) (hownn b))
  have hcs' : ∀ v ∈ l'.take m, v.cells = sz := fun v hv => hcs v (List.mem_of_mem_take hv)
  refine ⟨.own 1 (l'.take m).length, fob [(1, .row e sz (l'.take m))], ρn, x, rfl, ⟨l'.take m, rfl, rfl, hR⟩, ?_, ⟨fun i o ho => ?_, fun i hi => ?_, fun i j L L' b h1 h2 _ _ => ?_, fun i L b h1 h2 => ?_⟩, by simp [HV.men], fun i o ho => ?_, ⟨hg.stay.block, fun b hb => hg.stay.own b (hownn b hb), hg.stay.size, hg.stay.os, hg.stay.tape, hg.stay.output⟩, fun i L hi hL => ?_⟩
  · refine ⟨?_, by rw [hxa]; rfl⟩
    rw [cells_single hxa]
    simp only [RepH]
    refine ⟨x, rfl, hx1, fun h hh' => ?_⟩
    have := (hn1 1 _ hh').2
    cases this
    rw [hlm]
    exact ⟨by omega, fun _ => rfl⟩
  · simp only [fob_at, fob_nil] at ho
    split at ho
    · rename_i e0; subst e0; cases ho
      exact ⟨x, ys.take (m * sz), by simp [ρn], (repL_take2 m hL hcs).stay hst, hcs', hrow⟩
    · cases ho
  · simp only [fob_at, fob_nil] at hi
    simp only [ρn]
    split at hi
    · cases hi
    · rename_i h1; rw [if_neg h1]
  · rw [(hn1 i L h1).1, (hn1 j L' h2).1]
  · obtain ⟨rfl, rfl⟩ := hn1 i L h1
    exact hg.s.xb 0 _ b hρ (hown1 b h2)
  · simp only [fob_at, fob_nil] at ho
    split at ho
    · rename_i e0; subst e0; cases ho; exact ⟨by omega, trivial⟩
    · cases ho
  · have := (hn1 i L hL).1
    omega

theorem locOk_shr {e : TypeId} {sz n : Nat} {l : List CV} {rest : List HV} (hm : HV.menL (· < 0) rest) : LocOk 1 (.own 0 n :: rest) (fob [(0, .row e sz l)]) := by
  have := locOk_take e sz n l
  refine ⟨this.all, this.none, ?_⟩
  simp only [HV.menL, HV.men]
  exact ⟨by omega, HV.menL_mono (fun i h => by omega) hm⟩

section
variable {P : Program} {av : List Nat} {f : FuncId} {ob : Ob} {nid id n : Nat} {K : HV → Ob → Prop} {T e : TypeId} {sz : Nat} {v : CV} {l : List CV} {rest : List HV}
theorem call_shr {R : List CV → Prop} (h : HShr P f e sz l rest R) (hm : HV.menL (· < 0) rest) (hr : ∀ m, HV.renL m rest = rest) (hid : ob id = some (.row e sz l)) (hn : n = l.length) (hav : id ∉ av) (hfree : Free4 ob nid)
    (hK : ∀ l', R l' → K (.own nid l'.length) (upd (gone ob id) nid (some (.row e sz l')))) : HCall P av f (.own id n :: rest) ob nid K := by
  have h0 : sub [id] nid 0 = id := rfl
  have h1 : sub [id] nid 1 = nid := by simp [sub]
  subst hn
  refine ⟨[id], _, _, _, h, locOk_shr hm, ⟨by simp, by simpa using hav⟩, by simp only [HV.renL, HV.ren, h0, hr], fun j o hj => ?_, fun r lob' hR _ => ?_⟩
  · simp only [fob_at, fob_nil] at hj
    split at hj
    · rename_i e; subst e; cases hj; simpa [HO.ren] using hid
    · cases hj
  · obtain ⟨l', rfl, rfl, hR⟩ := hR
    have e2 : obAfter ob [id] nid (fob [(1, .row e sz l')]) = upd (gone ob id) nid (some (.row e sz l')) := by
      funext i
      by_cases e0 : i = id
      · subst e0
        have hne : i ≠ nid := by rintro rfl; rw [hfree.1] at hid; cases hid
        rw [upd_ne _ _ hne]
        simp only [obAfter, List.findIdx?_cons, beq_self_eq_true, if_true, gone]
        simp [fob_at, fob_nil]
      · have e' : (id == i) = false := by simp; exact fun h => e0 h.symm
        simp only [obAfter, List.findIdx?_cons, e', List.findIdx?_nil, Option.map_none]
        simp only [Bool.false_eq_true, if_false]
        split
        · rename_i hr
          by_cases hin : i = nid
          · subst hin
            rw [upd_same]
            simp [fob_at, HO.ren]
          · have h3 : [id].length + (i - nid) ≠ 1 := by simp; omega
            rw [fob_at, if_neg h3, fob_nil, upd_ne _ _ hin]
            simp only [gone, if_neg e0]
            exact (hfree.all i hr.1 hr.2).symm
        · rename_i hr
          have hin : i ≠ nid := by omega
          rw [upd_ne _ _ hin]
          simp only [gone, if_neg e0]
    rw [e2]
    simp only [HV.ren, h1]
    exact hK l' hR

def HLendH (P : Program) (f : FuncId) (e : TypeId) (sz : Nat) (l : List CV) (rest : List HV) (R : CV → Prop) : Prop :=
  HFn P f (.own 0 l.length :: rest) 1 (fob [(0, .row e sz l)]) (fun r ob' => ∃ u, r = .c u ∧ ob' = fob [(0, .row e sz l)] ∧ R u)
theorem call_lendh {R : CV → Prop} (h : HLendH P f e sz l rest R) (hm : HV.menL (· < 0) rest) (hr : ∀ m, HV.renL m rest = rest) (hid : ob id = some (.row e sz l)) (hn : n = l.length) (hav : id ∉ av) (hfree : Free4 ob nid) (hK : ∀ u, R u → K (.c u) ob) :
    HCall P av f (.own id n :: rest) ob nid K := by
  have h0 : sub [id] nid 0 = id := rfl
  subst hn
  refine ⟨[id], _, _, _, h, locOk_shr hm, ⟨by simp, by simpa using hav⟩, by simp only [HV.renL, HV.ren, h0, hr], fun j o hj => ?_, fun r lob' hR _ => ?_⟩
  · simp only [fob_at, fob_nil] at hj
    split at hj
    · rename_i e; subst e; cases hj; simpa [HO.ren] using hid
    · cases hj
  · obtain ⟨u, rfl, rfl, hR⟩ := hR
    rw [obAfter_same (by simp) (fun j hj => ?_) (fun j hj => ?_) hfree.all]
    · exact hK u hR
    · have : j = 0 := by simp at hj; omega
      subst this; exact ⟨_, rfl, by simpa [HO.ren] using hid⟩
    · simp only [List.length_cons, List.length_nil] at hj
      rw [fob_at, if_neg (by omega)]; rfl
end

theorem htake_of_shr {P : Program} {f : FuncId} {e : TypeId} {sz : Nat} {l : List CV} {R : List CV → Prop} {R' : CV → Prop} (h : HShr P f e sz l [] R) (hR : ∀ l', R l' → R' (.slc l')) : HTake P f e sz l R' := by
  refine ⟨h.1, fun w ρ X xs hS hA hX => (h.2 w ρ X xs hS hA hX).mono ?_⟩
  rintro ex w' ⟨r, ob', ρ', x, rfl, ⟨l', rfl, rfl, hRl⟩, hg⟩
  obtain ⟨h0, ys, hρ, hL, hcs, how⟩ := hg.s.objs 1 (.row e sz l') rfl
  have hh : hlen h0 = l'.length := ownsRow_size how
  have hxh : x = h0 ∧ Value.isAgg' x = false := by
    obtain ⟨hv1, hv2⟩ := hg.v
    have hag : Value.isAgg' x = false := by rw [← hv2]; rfl
    rw [cells_single hag] at hv1
    simp only [RepH, List.cons.injEq, and_true] at hv1
    obtain ⟨y, rfl, _, hy⟩ := hv1
    exact ⟨(hy _ hρ).2 hh, hag⟩
  obtain ⟨rfl, hag⟩ := hxh
  let ρn : Env := fun _ => none
  have hno : ∀ b, ¬ Own ρn b := fun b ⟨i, L, h1, _⟩ => by cases h1
  have hst : Stay w' (Owned ρ' X) w' (Owned ρn X) := Stay.same (fun b _ hb => hb.imp (fun x => x) (fun h => absurd h (hno b)))
  refine ⟨.c (.slc l'), none0, ρn, x, rfl, ⟨_, rfl, rfl, hR l' hRl⟩, repV_single ?_ rfl hag, ⟨fun i o ho => by simp [none0] at ho, fun _ _ => rfl, fun i j L L' b h1 => (by cases h1), fun i L b h1 => (by cases h1)⟩, by simp [HV.men], fun i o ho => by simp [none0] at ho, ⟨hg.stay.block, fun b hb => absurd hb (hno b), hg.stay.size, hg.stay.os, hg.stay.tape, hg.stay.output⟩, fun i L _ hL => by cases hL⟩
  simp only [RepC]
  rcases how.2 with ⟨rfl, hz⟩ | ⟨g, cap, cur, rfl, hg0, hgc, hcap, _⟩
  · exact ⟨none, 0, ys, sz, by rw [hz], hL.stay hst, hcs, by omega, fun _ => rfl, fun ad had => (by cases had)⟩
  · refine ⟨some ⟨g, 0, none⟩, cap, ys, sz, rfl, hL.stay hst, hcs, hcap, fun hh => (by cases hh), fun ad had => ?_⟩
    cases had
    refine ⟨how.cells (g := g) rfl, fun _ => ?_⟩
    rintro (hx | hx)
    · exact hg.s.xb 1 _ g hρ rfl hx
    · exact hno g hx

def HPure3 (P : Program) (f : FuncId) (args : List CV) (R : CV → CV → CV → Prop) : Prop :=
  HFn P f (args.map .c) 0 none0 (fun r ob' => ∃ u v x, r = .tup [.c u, .c v, .c x] ∧ R u v x ∧ ob' = none0)
theorem hret_pure3 {ob : Ob} {r : HV} {R : CV → CV → CV → Prop} (cl : List Nat) (u v x : CV) (h : (r.close ob cl).norm = .tup [.c u, .c v, .c x]) (hR : R u v x) : HRet 0 r ob (fun r ob' => ∃ u v x, r = .tup [.c u, .c v, .c x] ∧ R u v x ∧ ob' = none0) :=
  ⟨cl, id, .tup [.c u, .c v, .c x], none0, ⟨u, v, x, rfl, hR, rfl⟩, by rw [h]; rfl, fun _ h => by omega, fun _ _ _ _ h => h, by simp [HV.men, HV.menL], fun j o h => by simp [none0] at h⟩
theorem call_pure3 {P : Program} {av : List Nat} {f : FuncId} {ob : Ob} {nid : Nat} {K : HV → Ob → Prop} {args : List CV} {R : CV → CV → CV → Prop} (h : HPure3 P f args R) (hfree : Free4 ob nid) (hK : ∀ u v x, R u v x → K (.tup [.c u, .c v, .c x]) ob) :
    HCall P av f (args.map .c) ob nid K := by
  refine ⟨[], args.map .c, none0, _, h, locOk_nil args, ⟨List.nodup_nil, by simp⟩, (HV.renL_c _ _).symm, fun j o h => by simp [none0] at h, fun r lob' hR _ => ?_⟩
  obtain ⟨u, v, x, rfl, hv, rfl⟩ := hR
  rw [obAfter_nil hfree.all]
  exact hK u v x hv
def HBoxL2 (P : Program) (f : FuncId) (T : TypeId) (v : CV) (args : List CV) (R : CV → CV → CV → Prop) : Prop :=
  HFn P f (args.map .c ++ [.ptr 0 0]) 1 (fob [(0, .box T (.c v))]) (fun r ob' => ∃ u x v', r = .tup [.c u, .c x] ∧ ob' = fob [(0, .box T (.c v'))] ∧ R u x v')
theorem hret_boxl2 {ob : Ob} {r w : HV} {T : TypeId} {R : CV → CV → CV → Prop} (cl : List Nat) (u x v' : CV) (h : (r.close ob cl).norm = .tup [.c u, .c x]) (hb : ob 0 = some (.box T w)) (hw : (w.close ob cl).norm = .c v') (h0 : 0 ∉ cl) (hR : R u x v') :
    HRet 1 r ob (fun r ob' => ∃ u x v', r = .tup [.c u, .c x] ∧ ob' = fob [(0, .box T (.c v'))] ∧ R u x v') := by
  refine ⟨cl, id, .tup [.c u, .c x], fob [(0, .box T (.c v'))], ⟨u, x, v', rfl, rfl, hR⟩, by rw [h]; simp only [HV.ren, HV.renL], fun _ _ => rfl, fun _ _ _ _ h => h, by simp [HV.men, HV.menL], fun j o ho => ?_⟩
  by_cases e : j = 0
  · subst e
    simp only [fob_at, if_true, Option.some.injEq] at ho
    subst ho
    refine ⟨by omega, by simp [HO.men, HV.men], h0, .box T w, hb, ?_⟩
    simp only [hw]
    rfl
  · simp [fob_at, fob_nil, e] at ho
theorem call_boxl2 {P : Program} {av : List Nat} {f : FuncId} {ob : Ob} {nid id : Nat} {K : HV → Ob → Prop} {T : TypeId} {v : CV} {args : List CV} {R : CV → CV → CV → Prop} (h : HBoxL2 P f T v args R) (hid : ob id = some (.box T (.c v))) (hav : id ∉ av)
    (hfree : Free4 ob nid) (hK : ∀ u x v', R u x v' → K (.tup [.c u, .c x]) (upd ob id (some (.box T (.c v'))))) :
    HCall P av f (args.map .c ++ [.ptr id 0]) ob nid K := by
  refine ⟨[id], args.map HV.c ++ [HV.ptr 0 0], _, _, h, locOk_clo T v args, ⟨by simp, by simpa using hav⟩, ?_, fun j o hj => ?_, fun r lob' hR _ => ?_⟩
  · simp only [renL_append, renL_c', HV.renL, HV.ren]
    rfl
  · by_cases e : j = 0
    · subst e
      simp only [fob_at, if_true, Option.some.injEq] at hj
      subst hj
      simpa [HO.ren, HV.ren] using hid
    · simp [fob_at, fob_nil, e] at hj
  · obtain ⟨u, x, v', rfl, rfl, hR⟩ := hR
    rw [obAfter_upd hfree]
    exact hK u x v' hR
end Go.Hl

namespace Go.Hl
open Go Go.RowKit Go.Sort Go.Pl Go.Proofs

def encD (d : Dig) : List Value := d.1.map fun b => .int .u8 b.toNat
theorem encD_len (d : Dig) : (encD d).length = 32 := by simp [encD, d.2]
instance : Inhabited Dig := ⟨zdg⟩
theorem repL_u8d {w : World} {O : Nat → Prop} : ∀ {l : List UInt8} {xs : List Value}, RepL w O (l.map fun b => CV.int .u8 b.toNat) xs ↔ xs = l.map fun b => Value.int .u8 b.toNat
  | [], xs => by simp only [List.map_nil, RepL]
  | b :: l, xs => by
    simp only [List.map_cons, RepL, RepC, repL_u8d]
    constructor
    · rintro ⟨c1, c2, rfl, rfl, rfl⟩; rfl
    · rintro rfl; exact ⟨_, _, rfl, rfl, rfl⟩
theorem repL_digs {w : World} {O : Nat → Prop} : ∀ {l : List Dig} {xs : List Value}, RepL w O (l.map dg) xs ↔ xs = l.flatMap encD
  | [], xs => by simp only [List.map_nil, RepL, List.flatMap_nil]
  | d :: l, xs => by
    have e : ∀ c, RepC w O (dg d) c ↔ c = encD d := fun c => by simp only [dg, dgl, RepC, repL_u8d, encD]
    simp only [List.map_cons, RepL, List.flatMap_cons, repL_digs, e]
    constructor
    · rintro ⟨c1, c2, rfl, rfl, rfl⟩; rfl
    · rintro rfl; exact ⟨_, _, rfl, rfl, rfl⟩
theorem flat_len (l : List Dig) : (l.flatMap encD).length = l.length * 32 := by
  induction l with
  | nil => rfl
  | cons d l ih => rw [List.flatMap_cons, List.length_append, encD_len, ih, List.length_cons]; omega
theorem flat_get : ∀ (l : List Dig) (t : Nat) (h : t < l.length * 32), (l.flatMap encD)[t]? = (encD (l.toArray[t / 32]!))[t % 32]?
  | [], t, h => by simp at h
  | d :: l, t, h => by
    rw [List.flatMap_cons]
    by_cases ht : t < 32
    · rw [List.getElem?_append_left (by rw [encD_len]; exact ht), Nat.div_eq_of_lt ht, Nat.mod_eq_of_lt ht]
      simp
    · rw [List.getElem?_append_right (by rw [encD_len]; omega), encD_len, flat_get l (t - 32) (by simp only [List.length_cons] at h; omega)]
      obtain ⟨s, rfl⟩ : ∃ s, t = s + 32 := ⟨t - 32, by omega⟩
      rw [Nat.add_sub_cancel, Nat.add_mod_right, Nat.add_div_right _ (by omega)]
      simp
theorem flatK_list (l : List Dig) : (flatK encD 32 l.toArray).toList = l.flatMap encD := by
  apply List.ext_getElem?
  intro t
  by_cases ht : t < l.length * 32
  · rw [flat_get l t ht, Array.getElem?_toList, Array.getElem?_eq_getElem (by simpa using ht)]
    have h1 := get_flatK encD 32 l.toArray t (by simpa using ht)
    rw [getElem!_pos _ t (by simpa using ht)] at h1
    rw [h1]
    have h2 : t % 32 < (encD l.toArray[t / 32]!).length := by rw [encD_len]; omega
    rw [List.getElem?_eq_getElem h2, getElem!_pos (encD l.toArray[t / 32]!) (t % 32) h2]
  · rw [List.getElem?_eq_none (by simp; omega), List.getElem?_eq_none (by rw [flat_len]; omega)]
theorem putCells_takeF (F cur : Array Value) (h : F.size ≤ cur.size) : (putCells id 0 F cur).toList.take F.size = F.toList := by
  apply List.ext_getElem?
  intro i
  by_cases hi : i < F.size
  · rw [List.getElem?_take, if_pos hi]
    have hc : i < cur.size := by omega
    simp only [putCells, Array.getElem?_toList, Array.getElem?_mapIdx, Array.getElem?_eq_getElem hc, Option.map_some, Array.getElem?_eq_getElem hi]
    simp [hi]
  · rw [List.getElem?_take, if_neg hi, List.getElem?_eq_none (by simpa using hi)]

def HSortD (P : Program) (f g : FuncId) (e : TypeId) (l : List Dig) : Prop :=
  HFn P f [.own 0 l.length, .c (.fn g)] 1 (fob [(0, .row e 32 (l.map dg))]) (fun r ob' => r = .tup [] ∧ ∃ l' : List Dig, l'.Perm l ∧ ob' = fob [(0, .row e 32 (l'.map dg))])

theorem hfn_sortd {P : Program} {f g : FuncId} {e : TypeId} {l : List Dig} (hok : callOk P f = true)
    (hc : ∀ (blk cap : Nat) (w : World), HoldsK encD 32 w blk 0 l.toArray → blk < w.heap.size → Calls P f #[.slice (some ⟨blk, 0, none⟩) l.length cap, .func (.func g) #[] #[]] w fun x w' => x = .returned (.tuple #[]) ∧ ∃ (d' : Array Dig) (n : Nat) (os : Array Obj), PermIn 0 l.length l.toArray d' ∧ w' = sortWorldK encD 32 w blk 0 n d' os)
    (hc0 : ∀ (cap : Nat) (w : World), Calls P f #[.slice none 0 cap, .func (.func g) #[] #[]] w fun x w' => x = .returned (.tuple #[]) ∧ w' = w) : HSortD P f g e l := by
  refine ⟨fnOk_of hok, fun w ρ X xs hS hA hX => Does.of hok ?_⟩
  obtain ⟨h, ys, hρ, hL, hcs, how⟩ := hS.objs 0 (.row e 32 (l.map dg)) rfl
  have hys := repL_digs.1 hL
  subst hys
  have hlen : hlen h = l.length := by have := ownsRow_size how; simpa using this
  have hargs : xs = [h, .func (.func g) #[] #[]] := by
    rw [repHV_cons] at hA
    obtain ⟨y, zs, rfl, hy, hz⟩ := hA
    rw [repHV_cons] at hz
    obtain ⟨y2, zs2, rfl, hy2', hz2⟩ := hz
    simp only [RepHV] at hz2
    subst hz2
    obtain ⟨hy1, hy2⟩ := hy
    have hag : Value.isAgg' y = false := by rw [← hy2]; rfl
    rw [cells_single hag] at hy1
    simp only [RepH, List.cons.injEq, and_true] at hy1
    obtain ⟨x, rfl, _, hx⟩ := hy1
    obtain ⟨hz1, hz2⟩ := hy2'
    have hag2 : Value.isAgg' y2 = false := by rw [← hz2]; rfl
    rw [cells_single hag2] at hz1
    simp only [RepH, RepC, List.cons.injEq, and_true] at hz1
    rw [(hx h hρ).2 hlen, hz1]
  subst hargs
  have hrt : ∀ w' : World, RepV w' ρ (Owned ρ X) (.tup []) (.tuple #[]) := fun w' => by
    refine ⟨?_, rfl⟩
    simp only [RepH]
    exact ⟨[], rfl, by simp [RepHV]⟩
  rcases how.2 with ⟨rfl, hz⟩ | ⟨g', cap, cur, rfl, hg0, hg, hcap, hmax, hcsz, htake⟩
  · have : l = [] := List.eq_nil_of_length_eq_zero (by simpa using hz)
    subst this
    refine (hc0 0 w).mono ?_
    rintro ex w' ⟨rfl, rfl⟩
    refine ⟨.tup [], _, ρ, .tuple #[], rfl, ⟨rfl, [], List.Perm.refl _, rfl⟩, ⟨hrt _, by simpa using hS, by simp [HV.men, HV.menL], fun i o ho => ?_, Stay2.refl _ _, Moves.refl _ _⟩⟩
    simp only [fob_at, fob_nil] at ho
    split at ho
    · rename_i e0; subst e0; cases ho; exact ⟨by omega, trivial⟩
    · cases ho
  · simp only [List.length_map] at hcap hcsz htake
    have hgs : g' < w.heap.size := (Array.getElem?_eq_some_iff.1 hg).1
    have hH : HoldsK encD 32 w g' 0 l.toArray := fun j hj => by
      have hj' : j < l.length * 32 := by simpa using hj
      refine ⟨?_, by simp [World.frozen?, hg]⟩
      have e1 : cur.toList[j]? = some (flatK encD 32 l.toArray)[j]! := by
        have e0 : (l.flatMap encD)[j]? = some (flatK encD 32 l.toArray)[j]! := by
          rw [← flatK_list, Array.getElem?_toList, Array.getElem?_eq_getElem (by simpa using hj'), getElem!_pos _ j (by simpa using hj')]
        have : (cur.toList.take (l.length * 32))[j]? = (l.flatMap encD)[j]? := by rw [htake]
        rwa [List.getElem?_take, if_pos hj', e0] at this
      rw [Array.getElem?_toList] at e1
      simp only [World.cell?, hg, Nat.zero_add, e1, Option.isSome_none, Bool.false_eq_true, if_false, id]
    simp only [List.length_map]
    refine (hc g' cap w hH hgs).mono ?_
    rintro ex w' ⟨rfl, d', n, os, ⟨hps, -, hpp⟩, rfl⟩
    obtain ⟨S, rfl⟩ : ∃ S : List Dig, d' = S.toArray := ⟨d'.toList, by simp⟩
    have hSl : S.length = l.length := by simpa using hps
    have hperm : S.Perm l := by
      have h1 : (S.toArray.extract 0 l.length).toList = S := by rw [← hSl]; simp
      have h2 : (l.toArray.extract 0 l.length).toList = l := by simp
      rwa [h1, h2] at hpp
    have hother : ∀ b, b < w.heap.size → b ≠ g' → (sortWorldK encD 32 w g' 0 n S.toArray os).heap[b]? = w.heap[b]? := fun b hb hne => by
      simp only [sortWorldK, putRowK, grow, putRow, mapBlock, Sort.ahead]
      rw [Array.getElem?_append_left (by simpa using hb), Array.getElem?_modify, if_neg (fun h => hne h.symm)]
    have hthis : (sortWorldK encD 32 w g' 0 n S.toArray os).heap[g']? = some (.cells (putCells id 0 (flatK encD 32 S.toArray) cur) e (0, 0)) := by
      simp only [sortWorldK, putRowK, grow, putRow, mapBlock, Sort.ahead]
      rw [Array.getElem?_append_left (by simpa using hgs), Array.getElem?_modify, if_pos rfl, hg]
      rfl
    have hs2 : Stay2 w (Own ρ) (sortWorldK encD 32 w g' 0 n S.toArray os) (Own ρ) := ⟨fun b hb hno => hother b hb (fun e' => hno ⟨0, _, hρ, by rw [e']; rfl⟩), fun _ h => .inl h, by simp [sortWorldK, putRowK, grow, putRow, mapBlock, Sort.ahead], rfl, rfl, rfl⟩
    refine ⟨.tup [], _, ρ, .tuple #[], rfl, ⟨rfl, S, hperm, rfl⟩, ⟨hrt _, ⟨fun i o ho => ?_, fun i hi => hS.none i ?_, hS.apart, hS.xb⟩, by simp [HV.men, HV.menL], fun i o ho => ?_, hs2, Moves.refl _ _⟩⟩
    · simp only [fob_at, fob_nil] at ho
      split at ho
      · rename_i e0; subst e0; cases ho
        refine ⟨_, S.flatMap encD, hρ, repL_digs.2 rfl, fun v hv => ?_, by rw [flat_len, List.length_map], .inr ⟨g', cap, putCells id 0 (flatK encD 32 S.toArray) cur, by simp [hSl], Nat.zero_le _, hthis, by simp [hSl]; exact hcap, hmax, ?_, ?_⟩⟩
        · obtain ⟨s, _, rfl⟩ := List.mem_map.1 hv; exact dg_cells s
        · rw [← hcsz]; simp [putCells]
        · have h1 := putCells_takeF (flatK encD 32 S.toArray) cur (by rw [size_flatK, hcsz]; simp only [List.size_toArray, hSl]; exact Nat.mul_le_mul_right _ hcap)
          rw [flatK_list, size_flatK] at h1
          simpa using h1
      · cases ho
    · simp only [fob_at, fob_nil] at hi ⊢
      split at hi
      · cases hi
      · rename_i hne; rw [if_neg hne]
    · simp only [fob_at, fob_nil] at ho
      split at ho
      · rename_i e0; subst e0; cases ho; exact ⟨by omega, trivial⟩
      · cases ho

theorem call_sortd {P : Program} {av : List Nat} {f g : FuncId} {ob : Ob} {nid id n : Nat} {K : HV → Ob → Prop} {e : TypeId} {l : List Dig} (h : HSortD P f g e l) (hid : ob id = some (.row e 32 (l.map dg))) (hn : n = l.length) (hav : id ∉ av)
    (hfree : Free4 ob nid) (hK : ∀ l' : List Dig, l'.Perm l → K (.tup []) (upd ob id (some (.row e 32 (l'.map dg))))) : HCall P av f [.own id n, .c (.fn g)] ob nid K := by
  have h0 : sub [id] nid 0 = id := rfl
  subst hn
  refine ⟨[id], _, _, _, h, locOk_shr (by simp [HV.menL, HV.men]), ⟨by simp, by simpa using hav⟩, by simp only [HV.renL, HV.ren, h0], fun j o hj => ?_, fun r lob' hR _ => ?_⟩
  · simp only [fob_at, fob_nil] at hj
    split at hj
    · rename_i e0; subst e0; cases hj; simpa [HO.ren] using hid
    · cases hj
  · obtain ⟨rfl, l', hp, rfl⟩ := hR
    rw [obAfter_upd hfree]
    exact hK l' hp
end Go.Hl

namespace Go.Proofs.YtenbfeemmpjdhaaGreat
open Go Go.Hl Go.Pl Go.Sort Go.RowKit
set_option maxRecDepth 100000
theorem bcmp_calls (x y : Dig) (b c : Nat) (W : World) (h : (callFunc 90 #[.slice (some ⟨b, 0, none⟩) 32 32, .slice (some ⟨c, 0, none⟩) 32 32]).run Tryz.prog W = .ok (.value (.int .i64 (cmpB x.1 y.1))) W) :
    Calls Tryz.prog 62 #[.slice (some ⟨b, 0, none⟩) 32 32, .slice (some ⟨c, 0, none⟩) 32 32] W fun e w' => e = .returned (.int .i64 (cmpB x.1 y.1)) ∧ w' = W := by
  generalize cmpB x.1 y.1 = r at h ⊢
  go_enter Tryz.func62, Tryz.ntmps62
  go_wp2_with fail
  go_ret
  exact ⟨rfl, rfl⟩
theorem order_world (x y : Dig) (W : World)
    (hc : ∀ W' : World, W'.heap = ((W.alloc (Obj.cells (encD x).toArray 44)).alloc (Obj.cells (encD y).toArray 44)).heap → Calls Tryz.prog 62 #[.slice (some ⟨W.heap.size, 0, none⟩) 32 32, .slice (some ⟨W.heap.size + 1, 0, none⟩) 32 32] W' fun e w' => e = .returned (.int .i64 (cmpB x.1 y.1)) ∧ w' = W') :
    Calls Tryz.prog 30 #[.agg (encD x).toArray, .agg (encD y).toArray] W fun e w' => e = .returned (.int .i64 (cmpB x.1 y.1)) ∧ ∃ q os', w' = grow (W.drewN q) os' := by
  go_enter Tryz.func30, Tryz.ntmps30
  go_wp2_with fail
  go_quiet (first | (go_at_call 62; refine Calls.quiet_of_same (hc _ rfl)))
  go_wp2
  go_ret
  exact ⟨rfl, nq, _, by rw [alloc_eq_grow, alloc_eq_grow, grow_grow]; rfl⟩
theorem rep_block {W : World} {b : Nat} {d : Dig} {t : TypeId} {ρ : Env} (hb : W.heap[b]? = some (.cells (encD d).toArray t (0, 0))) : RepV W ρ (fun _ => False) (.c (.slc (d.1.map u8))) (.slice (some ⟨b, 0, none⟩) 32 32) := by
  refine repV_single ?_ rfl rfl
  simp only [RepC]
  refine ⟨some ⟨b, 0, none⟩, 32, encD d, 1, by simp [d.2], repL_u8d.2 rfl, fun v hv => ?_, by simp [d.2], fun h => (by cases h), fun ad h => ?_⟩
  · obtain ⟨x, _, rfl⟩ := List.mem_map.1 hv; rfl
  · cases h
    refine ⟨fun j u hj => ?_, fun _ h => h⟩
    have h1 : (encD d).toArray[j]? = some u := by simpa using hj
    rw [show (⟨b, 0, none⟩ : Addr).add j = ⟨b, j, none⟩ from by unfold Addr.add; split <;> simp_all]
    simp only [World.cell?, hb, h1, Option.isSome_none, Bool.false_eq_true, if_false]
theorem order_calls (x y : Dig) (W : World) : Calls Tryz.prog 30 #[.agg (encD x).toArray, .agg (encD y).toArray] W fun e w' => e = .returned (.int .i64 (cmpB x.1 y.1)) ∧ ∃ q os', w' = grow (W.drewN q) os' :=
  order_world x y W fun W' hW => bcmp_calls x y _ _ W' (by
    have h1 : W'.heap[W.heap.size]? = some (.cells (encD x).toArray 44 (0, 0)) := by
      rw [hW]; simp only [World.alloc, Array.getElem?_push, Array.size_push]; rw [if_neg (by omega), if_true]
    have h2 : W'.heap[W.heap.size + 1]? = some (.cells (encD y).toArray 44 (0, 0)) := by
      rw [hW]; simp only [World.alloc, Array.getElem?_push, Array.size_push]; rw [if_true]
    have hr := cmp_run (P := Tryz.prog) (rep_block (ρ := fun _ => none) h1) (rep_block (ρ := fun _ => none) h2)
    rw [run_callFunc_extern Tryz.func90 (by kernel_rfl) (by kernel_rfl) (by kernel_rfl) (e := Extern.BytealgCompare.compare) (by kernel_rfl), hr]; rfl)
theorem order_lays (blk size : Nat) (w : World) : CmpLays Tryz.prog 30 #[] encD 32 (fun x y => cmpB x.1 y.1) blk 0 size w := fun _ _ _ _ x y => order_calls x y _
theorem swo_cmpB : SWO (ltOf fun x y : Dig => cmpB x.1 y.1) := by
  have e : ∀ x y : Dig, ltOf (fun x y : Dig => cmpB x.1 y.1) x y = true ↔ x.1 < y.1 := fun x y => by
    rw [← slt_iff]
    show decide (cmpB x.1 y.1 < 0) = true ↔ slt x.1 y.1 = true
    unfold cmpB
    by_cases h : slt x.1 y.1 = true
    · simp [h]
    · have h' : slt x.1 y.1 = false := by simpa using h
      rw [h']
      by_cases h2 : x.1 = y.1 <;> simp [h2]
  have e2 : ∀ x y : Dig, ltOf (fun x y : Dig => cmpB x.1 y.1) x y = false ↔ y.1 ≤ x.1 := fun x y => by
    rw [← List.not_lt, ← e, Bool.not_eq_true]
  refine ⟨fun x => (e2 x x).2 (List.le_refl _), fun x y z h1 h2 => (e x z).2 (List.lt_trans ((e x y).1 h1) ((e y z).1 h2)), fun x y z h1 h2 => (e2 x z).2 (List.le_trans ((e2 y z).1 h2) ((e2 x y).1 h1))⟩
end Go.Proofs.YtenbfeemmpjdhaaGreat

namespace Go.Hl
open Go Go.RowKit

theorem hpure_clone {P : Program} {f : FuncId} {e : TypeId} {l : List (List UInt8)} (hok : callOk P f = true) (hbig : l.length * 16 ≤ 140737488355328)
    (hc : ∀ (b off c : Nat) (w : World), (∀ j, j < l.length → w.cell? ⟨b, off + j, none⟩ = some (skey (l.getD j []))) → Calls P f #[.slice (some ⟨b, off, none⟩) l.length c] w fun x w' => ∃ v', x = .returned v' ∧ w'.ownsRow w.heap.size e 1 v' l.length (l.map skey) ∧ v' ≠ .slice none 0 0 ∧ Below w.heap.size w w')
    (hc0 : ∀ (c : Nat) (w : World), Calls P f #[.slice none 0 c] w fun x w' => x = .returned (.slice none 0 0) ∧ w' = w)
    (hcz : ∀ (a : Addr) (c : Nat) (w : World), Calls P f #[.slice (some a) 0 c] w fun x w' => ∃ v', x = .returned v' ∧ w'.ownsRow w.heap.size e 1 v' 0 [] ∧ v' ≠ .slice none 0 0 ∧ Below w.heap.size w w') :
    HPure P f [.slc (l.map .str)] (fun v => v = .slc (l.map .str)) := by
  refine ⟨fnOk_of hok, fun w ρ X xs hS hA hX => Does.of hok ?_⟩
  have done : ∀ (w' : World) (v : Value), w'.ownsRow w.heap.size e 1 v l.length (l.map skey) → Below w.heap.size w w' → ∃ r ob' ρ' x, Ending.returned v = .returned x ∧ (∃ u, r = HV.c u ∧ u = .slc (l.map .str) ∧ ob' = none0) ∧ Gave w ρ X 0 r ob' w' ρ' x := by
    intro w' v hrow hb
    have hs2 : Stay2 w (Own ρ) w' (Own ρ) := ⟨fun g hg _ => hb.block g hg, fun _ h => .inl h, hb.size, hb.os, hb.tape, hb.output⟩
    have hst := hs2.stay X
    refine ⟨_, _, ρ, v, rfl, ⟨_, rfl, rfl, rfl⟩, ⟨?_, ⟨fun i o ho => by simp [none0] at ho, hS.none, hS.apart, hS.xb⟩, by simp [HV.men], fun i o ho => by simp [none0] at ho, hs2, Moves.refl _ _⟩⟩
    have hag : Value.isAgg' v = false := by rcases hrow.2 with ⟨rfl, _⟩ | ⟨g, cap, cur, rfl, _⟩ <;> rfl
    refine repV_single ?_ rfl hag
    simp only [RepC]
    rcases hrow.2 with ⟨rfl, hz⟩ | ⟨g, cap, cur, rfl, hg0, hg, hcap, _⟩
    · have : l = [] := List.eq_nil_of_length_eq_zero hz
      exact ⟨none, 0, [], 1, by simp [this], by simp [this, RepL], by simp [this], by simp [this], fun _ => rfl, fun ad had => (by cases had)⟩
    · refine ⟨some ⟨g, 0, none⟩, cap, l.map skey, 1, by simp, repL_strs _, fun u hu => ?_, by simp; omega, fun hh => (by cases hh), fun ad had => ?_⟩
      · obtain ⟨k, _, rfl⟩ := List.mem_map.1 hu; rfl
      · cases had
        refine ⟨hrow.cells (g := g) rfl, fun _ => ?_⟩
        rintro (hx | ⟨i, L, h1, h2⟩)
        · have : g < w.heap.size := hX g hx
          omega
        · have : g < w.heap.size := Owned.lt hS h1 h2
          omega
  simp only [List.map_cons, List.map_nil, repHV_cons, RepHV] at hA
  obtain ⟨x, zs, rfl, hx, rfl⟩ := hA
  have h1 := RepV.single hx rfl
  simp only [RepC, List.cons.injEq, and_true] at h1
  obtain ⟨a, cap, ys, sz, rfl, h2, _, h4, h5, h6⟩ := h1
  have hys := repL_strs_inv h2
  subst hys
  simp only [List.length_map]
  cases a with
  | none =>
    have hz := h5 rfl
    have hl0 : l = [] := by
      refine List.eq_nil_of_length_eq_zero ?_
      simp only [List.length_map] at h4; omega
    subst hl0
    refine (hc0 cap w).mono ?_
    rintro ex w' ⟨rfl, rfl⟩
    exact done w' _ ⟨rfl, .inl ⟨rfl, rfl⟩⟩ (Below.refl _ _)
  | some ad =>
    have hr := (h6 ad rfl).1
    by_cases hl0 : l = []
    · subst hl0
      refine (hcz ad cap w).mono ?_
      rintro ex w' ⟨v', rfl, hrow, _, hb⟩
      exact done w' v' hrow hb
    · have hpos : 0 < l.length := List.length_pos_iff.2 hl0
      have hspot : ad.spot = none := by
        have := hr 0 (skey l[0]) (by simp [hpos])
        simp only [World.cell?] at this
        split at this
        · split at this
          · cases this
          · rename_i hh; simpa [Addr.add] using hh
        · cases this
      obtain ⟨b, off, spot⟩ := ad
      simp only at hspot
      subst hspot
      refine (hc b off cap w fun j hj => ?_).mono ?_
      · have := hr j (skey l[j]) (by simp [hj])
        have e : (⟨b, off, none⟩ : Addr).add j = ⟨b, off + j, none⟩ := by
          by_cases h0 : j = 0
          · subst h0; rfl
          · simp [Addr.add, h0]
        rw [e] at this
        rw [this]
        simp [hj]
      · rintro ex w' ⟨v', rfl, hrow, _, hb⟩
        exact done w' v' hrow hb
end Go.Hl

namespace Go.Proofs.YtenbfeemmpjdhaaGreat
open Go.RowKit Go.Sort Go.Shelf

def sort31_ren : Go.Shelf.Ren := ⟨fun | 6 => 31 | 8 => 61 | 9 => 63 | 19 => 88 | 20 => 89 | 21 => 91 | 22 => 92 | 23 => 93 | 24 => 94 | 25 => 95 | 26 => 96 | 27 => 97 | 28 => 98 | 29 => 99 | 36 => 112 | 31 => 108 | 32 => 109 | 37 => 113 | 38 => 114 | 39 => 115 | 41 => 119 | n => n, fun | 27 => 37 | 29 => 9 | 3 => 3 | 32 => 98 | 26 => 37 | 0 => 0 | 44 => 115 | 46 => 119 | 4 => 4 | 36 => 126 | 35 => 125 | 41 => 130 | 5 => 5 | 9 => 9 | 53 => 144 | 57 => 148 | 63 => 152 | 64 => 153 | n => n, fun | n => n⟩
theorem sort31 : Go.Proofs.SlLaysM.n6 Tryz.prog sort31_ren := {
 mixed := by kernel_rfl
 f6 := ⟨Tryz.f31.name, by decide, Tryz.func31.trans (congrArg some (by kernel_rfl))⟩
 f8 := Tryz.func61.trans (congrArg some (by kernel_rfl))
 f9 := ⟨Tryz.f63.name, by decide, Tryz.func63.trans (congrArg some (by kernel_rfl))⟩
 f19 := Tryz.func88.trans (congrArg some (by kernel_rfl))
 f20 := Tryz.func89.trans (congrArg some (by kernel_rfl))
 f21 := ⟨Tryz.f91.name, by decide, Tryz.func91.trans (congrArg some (by kernel_rfl))⟩
 f22 := ⟨Tryz.f92.name, by decide, Tryz.func92.trans (congrArg some (by kernel_rfl))⟩
 f23 := ⟨Tryz.f93.name, by decide, Tryz.func93.trans (congrArg some (by kernel_rfl))⟩
 f24 := ⟨Tryz.f94.name, by decide, Tryz.func94.trans (congrArg some (by kernel_rfl))⟩
 f25 := ⟨Tryz.f95.name, by decide, Tryz.func95.trans (congrArg some (by kernel_rfl))⟩
 f26 := ⟨Tryz.f96.name, by decide, Tryz.func96.trans (congrArg some (by kernel_rfl))⟩
 f27 := ⟨Tryz.f97.name, by decide, Tryz.func97.trans (congrArg some (by kernel_rfl))⟩
 f28 := ⟨Tryz.f98.name, by decide, Tryz.func98.trans (congrArg some (by kernel_rfl))⟩
 f29 := ⟨Tryz.f99.name, by decide, Tryz.func99.trans (congrArg some (by kernel_rfl))⟩
 f31 := Tryz.func108.trans (congrArg some (by kernel_rfl))
 f32 := Tryz.func109.trans (congrArg some (by kernel_rfl))
 f36 := ⟨Tryz.f112.name, by decide, Tryz.func112.trans (congrArg some (by kernel_rfl))⟩
 f37 := ⟨Tryz.f113.name, by decide, Tryz.func113.trans (congrArg some (by kernel_rfl))⟩
 f38 := ⟨Tryz.f114.name, by decide, Tryz.func114.trans (congrArg some (by kernel_rfl))⟩
 f39 := ⟨Tryz.f115.name, by decide, Tryz.func115.trans (congrArg some (by kernel_rfl))⟩
 f41 := ⟨Tryz.f119.name, by decide, Tryz.func119.trans (congrArg some (by kernel_rfl))⟩
 t0 := Tryz.underlying0
 a0 := Tryz.isAgg0
 z0 := Tryz.sizeOf0
 v0 := Tryz.zeroValue0
 t3 := Tryz.underlying3
 a3 := Tryz.isAgg3
 z3 := Tryz.sizeOf3
 v3 := Tryz.zeroValue3
 t4 := Tryz.underlying4
 a4 := Tryz.isAgg4
 z4 := Tryz.sizeOf4
 v4 := Tryz.zeroValue4
 t5 := Tryz.underlying5
 a5 := Tryz.isAgg5
 z5 := Tryz.sizeOf5
 v5 := Tryz.zeroValue5
 t9 := Tryz.underlying9
 a9 := Tryz.isAgg9
 z9 := Tryz.sizeOf9
 v9 := Tryz.zeroValue9
 t26 := Tryz.underlying37
 a26 := Tryz.isAgg37
 z26 := Tryz.sizeOf37
 v26 := Tryz.zeroValue37
 t27 := Tryz.underlying37
 a27 := Tryz.isAgg37
 z27 := Tryz.sizeOf37
 v27 := Tryz.zeroValue37
 t29 := Tryz.underlying9
 a29 := Tryz.isAgg9
 z29 := Tryz.sizeOf9
 v29 := Tryz.zeroValue9
 t32 := Tryz.underlying98
 a32 := Tryz.isAgg98
 z32 := Tryz.sizeOf98
 v32 := Tryz.zeroValue98
 t35 := Tryz.underlying125
 a35 := Tryz.isAgg125
 z35 := Tryz.sizeOf125
 v35 := Tryz.zeroValue125
 t36 := Tryz.underlying126
 a36 := Tryz.isAgg126
 z36 := Tryz.sizeOf126
 v36 := Tryz.zeroValue126
 t41 := Tryz.underlying130
 a41 := Tryz.isAgg130
 z41 := Tryz.sizeOf130
 v41 := Tryz.zeroValue130
 t44 := Tryz.underlying115
 a44 := Tryz.isAgg115
 z44 := Tryz.sizeOf115
 v44 := Tryz.zeroValue115
 t46 := Tryz.underlying119
 a46 := Tryz.isAgg119
 z46 := Tryz.sizeOf119
 v46 := Tryz.zeroValue119
 t53 := Tryz.underlying144
 a53 := Tryz.isAgg144
 z53 := Tryz.sizeOf144
 v53 := Tryz.zeroValue144
 t57 := Tryz.underlying148
 a57 := Tryz.isAgg148
 z57 := Tryz.sizeOf148
 v57 := Tryz.zeroValue148
 t63 := Tryz.underlying152
 a63 := Tryz.isAgg152
 z63 := Tryz.sizeOf152
 v63 := Tryz.zeroValue152
 t64 := Tryz.underlying153
 a64 := Tryz.isAgg153
 z64 := Tryz.sizeOf153
 v64 := Tryz.zeroValue153 }
def sortd29_ren : Go.Shelf.Ren := ⟨fun | 6 => 29 | 15 => 61 | 14 => 60 | 28 => 88 | 29 => 89 | 20 => 80 | 21 => 81 | 22 => 82 | 23 => 83 | 24 => 84 | 25 => 85 | 26 => 86 | 27 => 87 | 46 => 107 | 47 => 108 | 48 => 109 | 49 => 110 | 50 => 111 | 57 => 118 | n => n, fun | 22 => 32 | 24 => 44 | 25 => 73 | 3 => 3 | 39 => 98 | 0 => 0 | 53 => 115 | 55 => 119 | 4 => 4 | 46 => 126 | 45 => 125 | 50 => 130 | 5 => 5 | 9 => 9 | 66 => 144 | 70 => 148 | 76 => 152 | 77 => 153 | n => n, fun | n => n⟩
theorem sortd29 : Go.Proofs.SlLaysF0.n6 Tryz.prog sortd29_ren := {
 mixed := by kernel_rfl
 f6 := ⟨Tryz.f29.name, by decide, Tryz.func29.trans (congrArg some (by kernel_rfl))⟩
 f14 := ⟨Tryz.f60.name, by decide, Tryz.func60.trans (congrArg some (by kernel_rfl))⟩
 f15 := Tryz.func61.trans (congrArg some (by kernel_rfl))
 f20 := ⟨Tryz.f80.name, by decide, Tryz.func80.trans (congrArg some (by kernel_rfl))⟩
 f21 := ⟨Tryz.f81.name, by decide, Tryz.func81.trans (congrArg some (by kernel_rfl))⟩
 f22 := ⟨Tryz.f82.name, by decide, Tryz.func82.trans (congrArg some (by kernel_rfl))⟩
 f23 := ⟨Tryz.f83.name, by decide, Tryz.func83.trans (congrArg some (by kernel_rfl))⟩
 f24 := ⟨Tryz.f84.name, by decide, Tryz.func84.trans (congrArg some (by kernel_rfl))⟩
 f25 := ⟨Tryz.f85.name, by decide, Tryz.func85.trans (congrArg some (by kernel_rfl))⟩
 f26 := ⟨Tryz.f86.name, by decide, Tryz.func86.trans (congrArg some (by kernel_rfl))⟩
 f27 := ⟨Tryz.f87.name, by decide, Tryz.func87.trans (congrArg some (by kernel_rfl))⟩
 f28 := Tryz.func88.trans (congrArg some (by kernel_rfl))
 f29 := Tryz.func89.trans (congrArg some (by kernel_rfl))
 f46 := ⟨Tryz.f107.name, by decide, Tryz.func107.trans (congrArg some (by kernel_rfl))⟩
 f47 := Tryz.func108.trans (congrArg some (by kernel_rfl))
 f48 := Tryz.func109.trans (congrArg some (by kernel_rfl))
 f49 := ⟨Tryz.f110.name, by decide, Tryz.func110.trans (congrArg some (by kernel_rfl))⟩
 f50 := ⟨Tryz.f111.name, by decide, Tryz.func111.trans (congrArg some (by kernel_rfl))⟩
 f57 := ⟨Tryz.f118.name, by decide, Tryz.func118.trans (congrArg some (by kernel_rfl))⟩
 t0 := Tryz.underlying0
 a0 := Tryz.isAgg0
 z0 := Tryz.sizeOf0
 v0 := Tryz.zeroValue0
 t3 := Tryz.underlying3
 a3 := Tryz.isAgg3
 z3 := Tryz.sizeOf3
 v3 := Tryz.zeroValue3
 t4 := Tryz.underlying4
 a4 := Tryz.isAgg4
 z4 := Tryz.sizeOf4
 v4 := Tryz.zeroValue4
 t5 := Tryz.underlying5
 a5 := Tryz.isAgg5
 z5 := Tryz.sizeOf5
 v5 := Tryz.zeroValue5
 t9 := Tryz.underlying9
 a9 := Tryz.isAgg9
 z9 := Tryz.sizeOf9
 v9 := Tryz.zeroValue9
 t22 := Tryz.underlying32
 a22 := Tryz.isAgg32
 z22 := Tryz.sizeOf32
 v22 := Tryz.zeroValue32
 t25 := Tryz.underlying73
 a25 := Tryz.isAgg73
 z25 := Tryz.sizeOf73
 v25 := Tryz.zeroValue73
 t39 := Tryz.underlying98
 a39 := Tryz.isAgg98
 z39 := Tryz.sizeOf98
 v39 := Tryz.zeroValue98
 t45 := Tryz.underlying125
 a45 := Tryz.isAgg125
 z45 := Tryz.sizeOf125
 v45 := Tryz.zeroValue125
 t46 := Tryz.underlying126
 a46 := Tryz.isAgg126
 z46 := Tryz.sizeOf126
 v46 := Tryz.zeroValue126
 t50 := Tryz.underlying130
 a50 := Tryz.isAgg130
 z50 := Tryz.sizeOf130
 v50 := Tryz.zeroValue130
 t53 := Tryz.underlying115
 a53 := Tryz.isAgg115
 z53 := Tryz.sizeOf115
 v53 := Tryz.zeroValue115
 t55 := Tryz.underlying119
 a55 := Tryz.isAgg119
 z55 := Tryz.sizeOf119
 v55 := Tryz.zeroValue119
 t66 := Tryz.underlying144
 a66 := Tryz.isAgg144
 z66 := Tryz.sizeOf144
 v66 := Tryz.zeroValue144
 t70 := Tryz.underlying148
 a70 := Tryz.isAgg148
 z70 := Tryz.sizeOf148
 v70 := Tryz.zeroValue148
 t76 := Tryz.underlying152
 a76 := Tryz.isAgg152
 z76 := Tryz.sizeOf152
 v76 := Tryz.zeroValue152
 t77 := Tryz.underlying153
 a77 := Tryz.isAgg153
 z77 := Tryz.sizeOf153
 v77 := Tryz.zeroValue153 }
def clone100_ren : Go.Shelf.Ren := ⟨fun | 16 => 100 | n => n, fun | 24 => 37 | 9 => 9 | 4 => 4 | n => n, fun | n => n⟩
theorem clone100 : Go.Proofs.Lays2.n16 Tryz.prog clone100_ren := {
 mixed := by kernel_rfl
 f16 := Tryz.func100.trans (congrArg some (by kernel_rfl))
 t4 := Tryz.underlying4
 a4 := Tryz.isAgg4
 z4 := Tryz.sizeOf4
 v4 := Tryz.zeroValue4
 t9 := Tryz.underlying9
 a9 := Tryz.isAgg9
 z9 := Tryz.sizeOf9
 v9 := Tryz.zeroValue9
 t24 := Tryz.underlying37
 a24 := Tryz.isAgg37
 z24 := Tryz.sizeOf37
 v24 := Tryz.zeroValue37
 i9 := by kernel_rfl }

theorem sort_ok (ss : List (List UInt8)) (hl : ss.length < 2 ^ 40) : Hl.HSort Tryz.prog 31 9 ss :=
 Hl.hfn_sort (by kernel_rfl) (fun blk cap w hH hb => AnyM.slices_Sort_string sort31 blk 0 cap ss w hH hb (by omega)) (fun cap w => AnyM.slices_Sort_string_none sort31 none cap w)
theorem sortd_ok (l : List Pl.Dig) (hl : l.length < 2 ^ 40) : Hl.HSortD Tryz.prog 29 30 44 l :=
 Hl.hfn_sortd (by kernel_rfl) (fun blk cap w hH hb => (AnyQ.slices_SortFunc sortd29 32 Tryz.isAgg44 Tryz.sizeOf44 Hl.encD Hl.encD_len (fun x v hv => by obtain ⟨b, _, rfl⟩ := List.mem_map.1 hv; rfl) (fun x y => Hl.cmpB x.1 y.1) swo_cmpB 30 #[] blk 0 cap l.toArray w
  (enters_of Tryz.func30 (by kernel_rfl) rfl) (order_lays blk _ w) hH hb (by simp; omega)).mono (fun _ _ ⟨h1, d', n, os, h2, _, h3⟩ => ⟨h1, d', n, os, by simpa using h2, h3⟩)) (fun cap w => AnyF.slices_SortFunc_none sortd29 none cap _ w)
theorem clone_ok (l : List (List UInt8)) (hl : l.length < 2 ^ 40) : Hl.HPure Tryz.prog 100 [.slc (l.map .str)] (fun v => v = .slc (l.map .str)) := by
 refine Hl.hpure_clone (e := 9) (by kernel_rfl) (by omega) (fun b off c w hc => ?_) (fun c w => Any.slices_Clone_string_nil clone100 0 c w) (fun a c w => Any.slices_Clone_string_zero clone100 a c w)
 have := Any.slices_Clone_string clone100 b off l.length c (l.map fun s => ⟨s.toArray⟩) w (by simp) (by omega) (fun j hj => by
  have hj' : j < l.length := by simpa using hj
  rw [hc j hj']
  simp [hj', Hl.skey])
 refine this.mono ?_
 rintro x w' ⟨v', h1, h2, h3, h4⟩
 refine ⟨v', h1, ?_, h3, h4⟩
 have e : ((l.map fun s => (⟨s.toArray⟩ : ByteArray)).take l.length).map Value.string = l.map Hl.skey := by
  rw [List.take_of_length_le (by simp), List.map_map]
  rfl
 rw [e] at h2
 exact h2
end Go.Proofs.YtenbfeemmpjdhaaGreat

namespace Go.Pl
open Go Go.Hl

theorem dedup_snoc (a b : Word) : ∀ p : List Word, dedup (p ++ [a, b]) = if a == b then dedup (p ++ [a]) else dedup (p ++ [a]) ++ [b]
  | [] => by
    simp only [List.nil_append, dedup]
    split
    · rename_i h
      rw [eq_of_beq h]
    · rfl
  | [x] => by
    have ih := dedup_snoc a b []
    simp only [List.nil_append] at ih
    simp only [List.cons_append, List.nil_append]
    have e1 : dedup (x :: a :: [b]) = if x == a then dedup [a, b] else x :: dedup [a, b] := by rw [dedup]
    have e2 : dedup (x :: a :: []) = if x == a then dedup [a] else x :: dedup [a] := by rw [dedup]
    rw [e1, e2, ih]
    by_cases h1 : (x == a) = true <;> by_cases h2 : (a == b) = true <;> simp [h1, h2]
  | x :: y :: p => by
    have ih := dedup_snoc a b (y :: p)
    simp only [List.cons_append] at ih ⊢
    have e1 : dedup (x :: y :: (p ++ [a, b])) = if x == y then dedup (y :: (p ++ [a, b])) else x :: dedup (y :: (p ++ [a, b])) := by rw [dedup]
    have e2 : dedup (x :: y :: (p ++ [a])) = if x == y then dedup (y :: (p ++ [a])) else x :: dedup (y :: (p ++ [a])) := by rw [dedup]
    rw [e1, e2, ih]
    by_cases h1 : (x == y) = true <;> by_cases h2 : (a == b) = true <;> simp [h1, h2]
theorem dedup_take {l : List Word} {j : Nat} (h0 : 1 ≤ j) (h : j < l.length) : dedup (l.take (j + 1)) = if l[j] == l[j - 1] then dedup (l.take j) else dedup (l.take j) ++ [l[j]] := by
  have e1 : l.take j = l.take (j - 1) ++ [l[j - 1]] := by
    have := List.take_succ_eq_append_getElem (show j - 1 < l.length by omega)
    rwa [show j - 1 + 1 = j by omega] at this
  rw [List.take_succ_eq_append_getElem h, e1, List.append_assoc]
  have := dedup_snoc l[j - 1] l[j] (l.take (j - 1))
  simp only [List.singleton_append]
  rw [this]
  have e2 : (l[j - 1] == l[j]) = (l[j] == l[j - 1]) := by rw [Bool.eq_iff_iff]; simp only [beq_iff_eq]; exact eq_comm
  rw [e2]
theorem dedup_short : ∀ {l : List Word}, l.length < 2 → dedup l = l
  | [], _ => rfl
  | [_], _ => rfl
  | _ :: _ :: _, h => by simp at h; omega
theorem dedup_keep {l : List Word} {k : Nat} (h0 : 1 ≤ k) (h : k < l.length) (hne : (l[k] == l[k - 1]) = false) (hd : dedup (l.take k) = l.take k) : dedup (l.take (k + 1)) = l.take (k + 1) := by
  rw [dedup_take h0 h, hne, hd, List.take_succ_eq_append_getElem h]; rfl
theorem dedup_skip {l : List Word} {k : Nat} (h0 : 1 ≤ k) (h : k < l.length) (he : (l[k] == l[k - 1]) = true) : dedup (l.take (k + 1)) = dedup (l.take k) := by
  rw [dedup_take h0 h, he]; rfl
theorem dedup_put {l : List Word} {k : Nat} (h0 : 1 ≤ k) (h : k < l.length) (hne : (l[k] == l[k - 1]) = false) : dedup (l.take (k + 1)) = dedup (l.take k) ++ [l[k]] := by
  rw [dedup_take h0 h, hne]; rfl
end Go.Pl

namespace Go.Proofs.YtenbfeemmpjdhaaGreat
open Go Go.Hl Go.Pl
set_option maxRecDepth 10000
set_option maxHeartbeats 4000000
set_option linter.unusedSimpArgs false
set_option linter.unusedVariables false

theorem compacts_ok (l : List Word) (hl : l.length < 2 ^ 40) : HShr Tryz.prog 37 9 1 (l.map .str) [] (fun l' => l' = (dedup l).map .str) := by
 refine hfn_shr ?_
 show HFn _ _ [.own 0 (l.map CV.str).length] 1 _ _
 rw [List.length_map]
 refine hfn_walk (args := [.own 0 l.length]) Tryz.func37 rfl (by kernel_rfl) (locOk_take 9 1 l.length _) (Nat.le_of_ble_eq_true rfl) ?_
 refine hw_seq fun K hK => hw_region (by kernel_rfl) ?_
 simp (maxSteps := 4000000) only [↓sP, sA, tyS, simprocAttr]
 repeat refine AI ?_
 refine hK _ _ _ ?_
 clear hK K
 refine hw_seq fun K hK => ?_
 refine hw_seq fun K hK => hw_region (by kernel_rfl) ?_
 simp (maxSteps := 4000000) only [↓sP, sA, tyS, simprocAttr]
 repeat refine AI ?_
 refine hK _ _ _ ?_
 clear hK K
 refine hw_cond (b := decide ((l.length : Int) < 2)) rfl (fun hb => ?_) (fun hb => ?_)
 ·
  refine hw_seq fun K hK => hw_region (by kernel_rfl) ?_
  simp (maxSteps := 4000000) only [↓sP, sA, tyS, simprocAttr]
  repeat refine AI ?_
  refine hK _ _ _ ?_
  clear hK K
  refine hw_ret ?_
  simp (maxSteps := 4000000) only [hpost, Tryz.results37, hresL, hres1, tupOf, ↓sP, sA, tyS, simprocAttr]
  exact hret_shr_own (l.map .str) rfl (by simp) (by rw [dedup_short (by simp at hb; omega)])
 refine hw_skip ?_
 simp (maxSteps := 4000000) only [↓sP, sA, tyS, simprocAttr]
 repeat refine AI ?_
 refine hK _ _ _ ?_
 clear hK K
 refine hw_seq fun K hK => ?_
 refine hw_seq fun K hK => hw_region (by kernel_rfl) ?_
 simp (maxSteps := 4000000) only [↓sP, sA, tyS, simprocAttr]
 repeat refine AI ?_
 refine hK _ _ _ ?_
 clear hK K
 refine hw_block ?_
 have h2 : 2 ≤ l.length := by simp at hb; omega
 refine hw_loop (α := {k : Nat // 1 ≤ k ∧ k ≤ l.length ∧ dedup (l.take k) = l.take k}) (fun k => (fin [(0, .own 0 l.length), (3, .c (.int .i64 k.1))], fob [(0, .row 9 1 (l.map .str))])) 100 (fun k => l.length - k.1) ⟨1, by omega, by omega, dedup_short (by simp; omega)⟩ (fits_fin (by omega) (by simp [FinOk, fin_at, finA_at, upd_at, HV.men, HV.menL, HV.norm, HV.toC, HV.toCL]) (by simp [FobOk, fob_at, upd_at, none0_at, gone, HO.men, HV.men, HV.menL, HV.norm, HV.toC, HV.toCL])) ?_
 clear hb
 rintro ⟨k, hk1, hk, hd⟩
 refine hw_seq fun K hK => ?_
 refine hw_seq fun K hK => hw_region (by kernel_rfl) ?_
 simp only [sR, simprocAttr]
 iterate 4
  (refine hlex_step (g := none) rfl rfl fun K' hK' => ?_; simp only [sH, ↓sP, sA, tyS, simprocAttr]; (repeat refine AI ?_); refine hK' _ _ ?_; clear hK' K')
 simp only [sE, ↓reduceIte, simprocAttr]
 repeat refine AI ?_
 refine hK _ _ _ ?_
 clear hK K
 refine hw_cond (b := decide ((k : Int) < l.length)) rfl (fun hb => ?_) (fun hb => ?_)
 ·
  have hlt : k < l.length := by simpa using hb
  have hlt1 : k - 1 < l.length := by omega
  have m1 : IntKind.i64.wrap ((k : Int) - 1) = ((k - 1 : Nat) : Int) := by rw [IntWalk.i64_in _ (by omega)]; omega
  refine hw_skip ?_
  simp (maxSteps := 4000000) only [↓sP, sA, tyS, simprocAttr]
  repeat refine AI ?_
  refine hK _ _ _ ?_
  clear hK K
  refine hw_seq fun K hK => ?_
  refine hw_block ?_
  refine hw_seq fun K hK => hw_quiet mixed (by kernel_rfl) (by kernel_rfl) (by kernel_rfl) ?_
  simp only [sR, simprocAttr]
  iterate 10
   (refine hlex_step (g := none) rfl rfl fun K' hK' => ?_; simp only [sH, ↓sP, sA, tyS, simprocAttr, m1, Int.natCast_nonneg, Int.ofNat_lt, hlt, hlt1, nth_map hlt, nth_map hlt1]; (repeat refine AI ?_); refine hK' _ _ ?_; clear hK' K')
  simp only [sE, ↓reduceIte, simprocAttr]
  repeat refine AI ?_
  refine hK _ _ _ ?_
  clear hK K
  refine hw_cond (b := l[k] == l[k - 1]) rfl (fun hb => ?_) (fun hb => ?_)
  ·
   refine hw_seq fun K hK => hw_region (by kernel_rfl) ?_
   simp only [sR, simprocAttr]
   iterate 4
    (refine hlex_step (g := none) rfl rfl fun K' hK' => ?_; simp only [sH, ↓sP, sA, tyS, simprocAttr]; (repeat refine AI ?_); refine hK' _ _ ?_; clear hK' K')
   simp only [sE, ↓reduceIte, simprocAttr]
   repeat refine AI ?_
   refine hK _ _ _ ?_
   clear hK K
   refine hw_seq fun K hK => ?_
   refine hw_seq fun K hK => hw_region (by kernel_rfl) ?_
   simp (maxSteps := 4000000) only [↓sP, sA, tyS, simprocAttr]
   repeat refine AI ?_
   refine hK _ _ _ ?_
   clear hK K
   refine hw_block ?_
   refine hw_loop (α := {x : Nat × Nat × List Word // x.2.2.length = l.length ∧ 1 ≤ x.1 ∧ x.1 < x.2.1 ∧ x.2.1 ≤ l.length ∧ k < x.2.1 ∧ x.2.2.take x.1 = dedup (l.take x.2.1) ∧ x.2.2.drop (x.2.1 - 1) = l.drop (x.2.1 - 1)}) (fun x => (fin [(0, .own 0 l.length), (3, .c (.int .i64 x.1.1)), (4, .osl 0 l.length k 1 l.length), (5, .c (.int .i64 ((x.1.2.1 - k : Nat) : Int)))], fob [(0, .row 9 1 (x.1.2.2.map .str))])) 300 (fun x => l.length - x.1.2.1) ⟨(k, k + 1, l), rfl, hk1, by simp, hlt, by simp, by rw [dedup_skip hk1 hlt hb, hd], rfl⟩ (fits_fin (by omega) (by simp [FinOk, fin_at, finA_at, upd_at, HV.men, HV.menL, HV.norm, HV.toC, HV.toCL]) (by simp [FobOk, fob_at, upd_at, none0_at, gone, HO.men, HV.men, HV.menL, HV.norm, HV.toC, HV.toCL])) ?_
   rintro ⟨⟨i, j, r⟩, hr, hi1, hij, hj, hkj, g1, g2⟩
   simp only at hr hi1 hij hj hkj g1 g2 ⊢
   have hrl : (r.map CV.str).length = l.length := by rw [List.length_map, hr]
   have p0 : 0 < l.length := by omega
   have e9 : (List.take (l.length - k) (List.drop k (r.map CV.str))).length = l.length - k := by simp [hr]
   refine hw_seq fun K hK => ?_
   refine hw_seq fun K hK => hw_region (by kernel_rfl) ?_
   simp only [sR, simprocAttr]
   iterate 4
    (refine hlex_step (g := none) rfl rfl fun K' hK' => ?_; simp only [sH, ↓sP, sA, tyS, simprocAttr, hr, p0, hk, Nat.le_refl, e9]; (repeat refine AI ?_); refine hK' _ _ ?_; clear hK' K')
   simp only [sE, ↓reduceIte, simprocAttr]
   repeat refine AI ?_
   refine hK _ _ _ ?_
   clear hK K
   refine hw_cond (b := decide (((j - k : Nat) : Int) < ((l.length - k : Nat) : Int))) rfl (fun hb => ?_) (fun hb => ?_)
   ·
    have hjl : j < l.length := by simp at hb; omega
    have hjr : j < r.length := by omega
    have hj1r : j - 1 < r.length := by omega
    have hir : i < r.length := by omega
    have hil : i < l.length := by omega
    have hj1l : j - 1 < l.length := by omega
    have z1 : ((j - k : Nat) : Int) < ((l.length - k : Nat) : Int) := by omega
    have z2 : ((j - k - 1 : Nat) : Int) < ((l.length - k : Nat) : Int) := by omega
    have e1 : k + (j - k) = j := by omega
    have e2 : k + (j - k - 1) = j - 1 := by omega
    have m2 : IntKind.i64.wrap (((j - k : Nat) : Int) - 1) = ((j - k - 1 : Nat) : Int) := by rw [IntWalk.i64_in _ (by omega)]; omega
    have m3 : IntKind.i64.wrap (((j - k : Nat) : Int) + 1) = ((j + 1 - k : Nat) : Int) := by rw [IntWalk.i64_in _ (by omega)]; omega
    have q0 : r[j - 1] = l[j - 1] ∧ r[j] = l[j] := by
     have a1 : (r.drop (j - 1))[0]? = (l.drop (j - 1))[0]? := by rw [g2]
     have a2 : (r.drop (j - 1))[1]? = (l.drop (j - 1))[1]? := by rw [g2]
     simp only [List.getElem?_drop, Nat.add_zero, show j - 1 + 1 = j by omega, List.getElem?_eq_getElem hjr, List.getElem?_eq_getElem hj1r, List.getElem?_eq_getElem hjl, List.getElem?_eq_getElem hj1l, Option.some.injEq] at a1 a2
     exact ⟨a1, a2⟩
    have q1 : nth (r.map CV.str) j = .str l[j] := by rw [nth_map hjr, q0.2]
    have q2 : nth (r.map CV.str) (j - 1) = .str l[j - 1] := by rw [nth_map hj1r, q0.1]
    have g3 : r.drop j = l.drop j := by
     have : (r.drop (j - 1)).drop 1 = (l.drop (j - 1)).drop 1 := by rw [g2]
     rwa [List.drop_drop, List.drop_drop, show j - 1 + 1 = j by omega] at this
    refine hw_skip ?_
    simp (maxSteps := 4000000) only [↓sP, sA, tyS, simprocAttr]
    repeat refine AI ?_
    refine hK _ _ _ ?_
    clear hK K
    refine hw_seq fun K hK => ?_
    have key : ∀ (i' : Nat) (r' : List Word) fr ob nx, r'.length = l.length → 1 ≤ i' → i' < j + 1 → r'.take i' = dedup (l.take (j + 1)) → r'.drop j = l.drop j → Fits 1 fr ob (fin [(0, .own 0 l.length), (3, .c (.int .i64 i')), (4, .osl 0 l.length k 1 l.length), (5, .c (.int .i64 ((j - k : Nat) : Int)))]) (fob [(0, .row 9 1 (r'.map .str))]) 500 → K fr ob nx := by
     rintro i' r' fr ob nx w1 w2 w3 w4 w5 hf
     refine hK _ _ _ (hw_fits hf ?_)
     clear hf hK K
     refine hw_region (by kernel_rfl) ?_
     simp (maxSteps := 4000000) only [↓sP, sA, tyS, simprocAttr, m3]
     refine ⟨⟨(i', j + 1, r'), w1, w2, w3, hjl, by simp only; omega, w4, w5⟩, fits_fin (by omega) (by simp [FinOk, fin_at, finA_at, upd_at, HV.men, HV.menL, HV.norm, HV.toC, HV.toCL]) (by simp [FobOk, fob_at, upd_at, none0_at, gone, HO.men, HV.men, HV.menL, HV.norm, HV.toC, HV.toCL]), ?_⟩
     show l.length - (j + 1) < l.length - j
     omega
    refine hw_block ?_
    refine hw_seq fun K hK => hw_quiet mixed (by kernel_rfl) (by kernel_rfl) (by kernel_rfl) ?_
    simp only [sR, simprocAttr]
    iterate 10
     (refine hlex_step (g := none) rfl rfl fun K' hK' => ?_; simp only [sH, ↓sP, sA, tyS, simprocAttr, hr, m2, e1, e2, z1, z2, q1, q2, hjl, hj1l, hjr, hj1r, Int.natCast_nonneg, Int.ofNat_lt]; (repeat refine AI ?_); refine hK' _ _ ?_; clear hK' K')
    simp only [sE, ↓reduceIte, simprocAttr]
    repeat refine AI ?_
    refine hK _ _ _ ?_
    clear hK K
    refine hw_cond (b := !(l[j] == l[j - 1])) rfl (fun hb => ?_) (fun hb => ?_)
    ·
     refine hw_seq fun K hK => hw_region (by kernel_rfl) ?_
     simp only [sR, simprocAttr]
     iterate 8
      (refine hlex_step (g := none) rfl rfl fun K' hK' => ?_; simp only [sH, ↓sP, sA, tyS, simprocAttr, hr, e1, z1, q1, nth_map hir, hil, hir, hjl, hjr, Int.natCast_nonneg, Int.ofNat_lt, ← List.map_set]; (repeat refine AI ?_); refine hK' _ _ ?_; clear hK' K')
     simp only [sE, ↓reduceIte, simprocAttr]
     repeat refine AI ?_
     refine hK _ _ _ ?_
     clear hK K
     refine hw_region (by kernel_rfl) ?_
     simp (maxSteps := 4000000) only [↓sP, sA, tyS, simprocAttr, IntWalk.i64_in _ (show -9223372036854775808 ≤ (i : Int) + 1 ∧ (i : Int) + 1 ≤ 9223372036854775807 by omega)]
     refine key (i + 1) (r.set i l[j]) _ _ _ (by simp [hr]) (by omega) (by omega) ?_ ?_ (fits_fin (by omega) (by simp [FinOk, fin_at, finA_at, upd_at, HV.men, HV.menL, HV.norm, HV.toC, HV.toCL]) (by simp [FobOk, fob_at, upd_at, none0_at, gone, HO.men, HV.men, HV.menL, HV.norm, HV.toC, HV.toCL]))
     ·
      rw [dedup_put (by omega) hjl (by simpa using hb), ← g1, List.take_succ_eq_append_getElem (by simp; omega), List.take_set_of_le (by omega)]
      simp
     rw [List.drop_set_of_lt (by omega), g3]
    refine hw_skip ?_
    simp (maxSteps := 4000000) only [↓sP, sA, tyS, simprocAttr]
    exact key i r _ _ _ hr hi1 (by omega) (by rw [dedup_skip (by omega) hjl (by simpa using hb), g1]) g3 (fits_fin (by omega) (by simp [FinOk, fin_at, finA_at, upd_at, HV.men, HV.menL, HV.norm, HV.toC, HV.toCL]) (by simp [FobOk, fob_at, upd_at, none0_at, gone, HO.men, HV.men, HV.menL, HV.norm, HV.toC, HV.toCL]))
   have hjl : j = l.length := by simp at hb; omega
   subst hjl
   rw [List.take_length] at g1
   refine hw_exit ?_
   simp (maxSteps := 4000000) only [↓sP, sA, tyS, simprocAttr]
   clear hK K
   repeat refine AI ?_
   refine hK _ _ _ ?_
   clear hK K
   refine hw_seq fun K hK => hw_region (by kernel_rfl) ?_
   simp only [sR, simprocAttr]
   iterate 4
    (refine hlex_step (g := none) rfl rfl fun K' hK' => ?_; simp only [sH, ↓sP, sA, tyS, simprocAttr, hr]; (repeat refine AI ?_); refine hK' _ _ ?_; clear hK' K')
   simp only [sE, ↓reduceIte, simprocAttr]
   repeat refine AI ?_
   refine hK _ _ _ ?_
   clear hK K
   refine hw_seq fun K hK => hw_region (by kernel_rfl) ?_
   simp only [sR, simprocAttr]
   iterate 4
    (refine hlex_step (g := none) rfl rfl fun K' hK' => ?_; simp only [sH, ↓sP, sA, tyS, simprocAttr, hr]; (repeat refine AI ?_); refine hK' _ _ ?_; clear hK' K')
   simp only [sE, ↓reduceIte, simprocAttr]
   repeat refine AI ?_
   refine hK _ _ _ ?_
   clear hK K
   refine hw_ret ?_
   simp (maxSteps := 4000000) only [hpost, Tryz.results37, hresL, hres1, tupOf, ↓sP, sA, tyS, simprocAttr]
   refine hret_shr _ rfl ?_ ?_ ?_ ?_
   ·
    simp [hr]; omega
   ·
    simp [hr]; omega
   ·
    simp [hr]; omega
   rw [← g1]
   simp [hr]
   rw [List.take_append_of_le_length (by simp [hr]; omega), List.take_take, Nat.min_self]
  refine hw_skip ?_
  simp (maxSteps := 4000000) only [↓sP, sA, tyS, simprocAttr]
  repeat refine AI ?_
  refine hK _ _ _ ?_
  clear hK K
  refine hw_region (by kernel_rfl) ?_
  simp (maxSteps := 4000000) only [↓sP, sA, tyS, simprocAttr, IntWalk.i64_in _ (show -9223372036854775808 ≤ (k : Int) + 1 ∧ (k : Int) + 1 ≤ 9223372036854775807 by omega)]
  refine ⟨⟨k + 1, by omega, hlt, dedup_keep hk1 hlt hb hd⟩, fits_fin (by omega) (by simp [FinOk, fin_at, finA_at, upd_at, HV.men, HV.menL, HV.norm, HV.toC, HV.toCL]) (by simp [FobOk, fob_at, upd_at, none0_at, gone, HO.men, HV.men, HV.menL, HV.norm, HV.toC, HV.toCL]), ?_⟩
  show l.length - (k + 1) < l.length - k
  omega
 refine hw_exit ?_
 simp (maxSteps := 4000000) only [↓sP, sA, tyS, simprocAttr]
 clear hK K
 repeat refine AI ?_
 refine hK _ _ _ ?_
 clear hK K
 refine hw_seq fun K hK => hw_region (by kernel_rfl) ?_
 simp (maxSteps := 4000000) only [↓sP, sA, tyS, simprocAttr]
 repeat refine AI ?_
 refine hK _ _ _ ?_
 clear hK K
 refine hw_ret ?_
 simp (maxSteps := 4000000) only [hpost, Tryz.results37, hresL, hres1, tupOf, ↓sP, sA, tyS, simprocAttr]
 have hkl : k = l.length := by simp at hb; omega
 subst hkl
 rw [List.take_length] at hd
 exact hret_shr_own (l.map .str) rfl (by simp) (by rw [hd])


theorem compact_ok (l : List Word) (hl : l.length < 2 ^ 40) : HTake Tryz.prog 37 9 1 (l.map .str) (fun u => u = .slc ((dedup l).map .str)) := htake_of_shr (compacts_ok l hl) fun l' h => by rw [h]
end Go.Proofs.YtenbfeemmpjdhaaGreat

namespace Go.Pl
open Go Go.Hl

theorem ownF_take {l : List Ky} {role : Word} {p : Ky → Bool} {i : Nat} (h : i < l.length) : ownF (l.take (i + 1)) role p = ownF (l.take i) role p ++ (if l[i].rs.contains role && p l[i] then [l[i].o] else []) := by
  unfold ownF
  rw [List.take_succ_eq_append_getElem h, List.filter_append, List.map_append]
  congr 1
  cases hc : (l[i].rs.contains role && p l[i])
  · simp only [List.filter_cons, hc, List.filter_nil]; rfl
  · simp only [List.filter_cons, hc, List.filter_nil]; rfl
theorem ownF_len (l : List Ky) (role : Word) (p : Ky → Bool) : (ownF l role p).length ≤ l.length := by
  unfold ownF; rw [List.length_map]; exact List.length_filter_le _ _
theorem sorted_ms (l : List Word) : (l.mergeSort leW).Pairwise (· ≤ ·) := by
  have tot : ∀ x y : List UInt8, (leW x y || leW y x) = true := fun x y => by
    simp only [leW, Bool.or_eq_true, decide_eq_true_eq]
    exact List.le_total x y
  have tr : ∀ x y z : List UInt8, leW x y = true → leW y z = true → leW x z = true := fun x y z => by
    simp only [leW, decide_eq_true_eq]
    exact List.le_trans
  exact (List.pairwise_mergeSort tr tot l).imp (fun h => by simpa [leW] using h)
theorem dedup_ms (l : List Word) : dedup (l.mergeSort leW) = setW l := dedup_sort (sorted_ms l) fun w => (List.mergeSort_perm l leW).mem_iff
theorem live_code (r : Rt) (k : Ky) (t : Int) : liveB r k t = (decide (k.fr ≤ t) && (decide (t < k.un) && (decide (t < r.e) && !(revS r.x (pid k.p) && decide (revZ r.x (pid k.p) ≤ t))))) := by
  unfold liveB; rw [gone_rev]; rfl
theorem valid_code (r : Rt) : validR r = ((decide (1 ≤ r.v) && decide (r.v ≤ maxN)) && ((decide (0 ≤ r.e) && decide (r.e ≤ maxN)) && (quotasB r.q && (keysB r.k && (revsB r.x && (decide (0 < need r.q wRoot) && decide (need r.q wRoot ≤ (ownB r.k wRoot fun _ => true).length))))))) := rfl
theorem hpureh_fn {P : Program} {f g : FuncId} {a b : HV} {R : CV → Prop} (h : HPureH P f [a, b, .clo g []] R) : HPureH P f [a, b, .c (.fn g)] R := by
  refine ⟨h.1, fun w ρ X xs hS hA hX => h.2 w ρ X xs hS ?_ hX⟩
  rw [repHV_cons] at hA ⊢
  obtain ⟨y1, z1, rfl, hy1, hA⟩ := hA
  refine ⟨y1, z1, rfl, hy1, ?_⟩
  rw [repHV_cons] at hA ⊢
  obtain ⟨y2, z2, rfl, hy2, hA⟩ := hA
  refine ⟨y2, z2, rfl, hy2, ?_⟩
  rw [repHV_cons] at hA ⊢
  obtain ⟨y3, z3, rfl, hy3, hA⟩ := hA
  refine ⟨y3, z3, rfl, ?_, hA⟩
  obtain ⟨h1, h2⟩ := hy3
  refine ⟨?_, by rw [← h2]; rfl⟩
  simp only [RepH, RepC] at h1 ⊢
  exact ⟨[], h1, by simp [RepHV]⟩
end Go.Pl
