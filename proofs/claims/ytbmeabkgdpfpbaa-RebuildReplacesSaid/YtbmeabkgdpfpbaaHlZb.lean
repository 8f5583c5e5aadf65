/- HL: rows that a function makes and hands back as the caller's own; rows that are lent. By an AI agent. -/
import Derived.Test.YtbmeabkgdpfpbaaHlZ
set_option linter.unusedSimpArgs false
set_option linter.unusedVariables false
namespace Go.Hl
open Go

/-- A function that is handed a box by its address, and hands back a new row, the caller's own. -/
def HBoxOwn (P : Program) (f : FuncId) (T : TypeId) (v : CV) (e : TypeId) (sz : Nat) (R : List CV → CV → Prop) : Prop :=
  HFn P f [.ptr 0 0] 1 (fob [(0, .box T (.c v))]) (fun r ob' => ∃ l v', r = .own 1 l.length ∧ ob' = fob [(0, .box T (.c v')), (1, .row e sz l)] ∧ R l v')
/-- A function that reads a row of the caller's own, and leaves it. -/
def HLend (P : Program) (f : FuncId) (pre post : List CV) (e : TypeId) (sz : Nat) (l : List CV) (R : CV → Prop) : Prop :=
  HFn P f (pre.map .c ++ .own 0 l.length :: post.map .c) 1 (fob [(0, .row e sz l)]) (fun r ob' => ∃ u, r = .c u ∧ ob' = fob [(0, .row e sz l)] ∧ R u)

theorem hret_own {ob : Ob} {T e : TypeId} {sz : Nat} {l : List CV} {R : List CV → CV → Prop} {w : HV} {id n : Nat} (v' : CV) (hb : ob 0 = some (.box T w)) (hw : (w.close ob []).norm = .c v') (hr : ob id = some (.row e sz l)) (hn : n = l.length) (hid : id ≠ 0) (hR : R l v') :
    HRet 1 (.own id n) ob (fun r ob' => ∃ l v', r = .own 1 l.length ∧ ob' = fob [(0, .box T (.c v')), (1, .row e sz l)] ∧ R l v') := by
  let τ : Nat → Nat := fun j => if j = 0 then 0 else if j = 1 then id else id + j
  subst hn
  refine ⟨[], τ, .own 1 l.length, fob [(0, .box T (.c v')), (1, .row e sz l)], ⟨l, v', rfl, rfl, hR⟩, ?_, fun j hj => ?_, fun i j _ _ h => ?_, by simp [HV.men], fun j o ho => ?_⟩
  · simp only [HV.close, List.contains_nil, Bool.false_eq_true, if_false, HV.norm, HV.toC, HV.ren]
    rfl
  · have : j = 0 := by omega
    subst this; rfl
  · simp only [τ] at h
    split at h <;> split at h <;> (try split at h) <;> (try split at h) <;> omega
  · simp only [fob_at, fob_nil] at ho
    split at ho
    · rename_i e0; subst e0; cases ho
      refine ⟨by omega, by simp [HO.men, HV.men], by simp, .box T w, hb, ?_⟩
      simp only [hw]; rfl
    · split at ho
      · rename_i e0; subst e0; cases ho
        exact ⟨by omega, trivial, by simp, .row e sz l, hr, rfl⟩
      · cases ho

theorem hret_lend {ob : Ob} {r : HV} {e : TypeId} {sz : Nat} {l : List CV} {R : CV → Prop} (cl : List Nat) (u : CV) (h : (r.close ob cl).norm = .c u) (hb : ob 0 = some (.row e sz l)) (h0 : 0 ∉ cl) (hR : R u) :
    HRet 1 r ob (fun r ob' => ∃ u, r = .c u ∧ ob' = fob [(0, .row e sz l)] ∧ R u) := by
  refine ⟨cl, id, .c u, fob [(0, .row e sz l)], ⟨u, rfl, rfl, hR⟩, by rw [h]; rfl, fun _ _ => rfl, fun _ _ _ _ h => h, by simp [HV.men], fun j o ho => ?_⟩
  simp only [fob_at, fob_nil] at ho
  split at ho
  · rename_i e0; subst e0; cases ho
    exact ⟨by omega, trivial, h0, .row e sz l, hb, rfl⟩
  · cases ho

section
variable {P : Program} {av : List Nat} {f : FuncId} {ob : Ob} {nid id n : Nat} {K : HV → Ob → Prop} {T e : TypeId} {sz : Nat} {v : CV} {l : List CV}
theorem call_box_own {R : List CV → CV → Prop} (h : HBoxOwn P f T v e sz R) (hid : ob id = some (.box T (.c v))) (hav : id ∉ av) (hfree : Free4 ob nid) (hK : ∀ l v', R l v' → K (.own nid l.length) (upd (upd ob id (some (.box T (.c v')))) nid (some (.row e sz l)))) :
    HCall P av f [.ptr id 0] ob nid K := by
  have h0 : sub [id] nid 0 = id := rfl
  have h1 : sub [id] nid 1 = nid := by simp [sub]
  refine ⟨[id], _, _, _, h, locOk_box T v [], ⟨by simp, by simpa using hav⟩, by simp only [HV.renL, HV.ren, h0], fun j o hj => ?_, fun r lob' hR _ => ?_⟩
  · simp only [fob_at, fob_nil] at hj
    split at hj
    · rename_i e; subst e; cases hj; simpa [HO.ren, HV.ren] using hid
    · cases hj
  · obtain ⟨l, v', rfl, rfl, hR⟩ := hR
    have e2 : obAfter ob [id] nid (fob [(0, .box T (.c v')), (1, .row e sz l)]) = upd (upd ob id (some (.box T (.c v')))) nid (some (.row e sz l)) := by
      funext i
      by_cases e0 : i = id
      · subst e0
        have hne : i ≠ nid := by rintro rfl; rw [hfree.1] at hid; cases hid
        rw [upd_ne _ _ hne, upd_same]
        simp only [obAfter, List.findIdx?_cons, beq_self_eq_true, if_true, fob_at, Option.map_some, HO.ren, HV.ren]
      · have e' : (id == i) = false := by simp; exact fun h => e0 h.symm
        simp only [obAfter, List.findIdx?_cons, e', List.findIdx?_nil, Option.map_none]
        simp only [Bool.false_eq_true, if_false]
        split
        · rename_i hr
          by_cases hin : i = nid
          · subst hin
            rw [upd_same]
            simp [fob_at, HO.ren]
          · have h2 : [id].length + (i - nid) ≠ 0 := by simp
            have h3 : [id].length + (i - nid) ≠ 1 := by simp; omega
            rw [fob_at, if_neg h2, fob_at, if_neg h3, fob_nil, upd_ne _ _ hin, upd_ne _ _ e0]
            exact (hfree.all i hr.1 hr.2).symm
        · rename_i hr
          have hin : i ≠ nid := by omega
          rw [upd_ne _ _ hin, upd_ne _ _ e0]
    rw [e2]
    simp only [HV.ren, h1]
    exact hK l v' hR

theorem locOk_lend (pre post : List CV) (e : TypeId) (sz : Nat) (l : List CV) : LocOk 1 (pre.map HV.c ++ HV.own 0 l.length :: post.map HV.c) (fob [(0, .row e sz l)]) := by
  have := locOk_take e sz l.length l
  refine ⟨this.all, this.none, ?_⟩
  rw [HV.menL_append]
  exact ⟨HV.menL_c, by simp only [HV.menL, HV.men]; exact ⟨by omega, HV.menL_c⟩⟩
theorem call_lend {R : CV → Prop} (pre post : List CV) (h : HLend P f pre post e sz l R) (hid : ob id = some (.row e sz l)) (hn : n = l.length) (hav : id ∉ av) (hfree : Free4 ob nid) (hK : ∀ u, R u → K (.c u) ob) :
    HCall P av f (pre.map .c ++ .own id n :: post.map .c) ob nid K := by
  have h0 : sub [id] nid 0 = id := rfl
  subst hn
  refine ⟨[id], _, _, _, h, locOk_lend pre post e sz l, ⟨by simp, by simpa using hav⟩, by simp only [renL_append, renL_c', HV.renL, HV.ren, h0], fun j o hj => ?_, fun r lob' hR _ => ?_⟩
  · simp only [fob_at, fob_nil] at hj
    split at hj
    · rename_i e; subst e; cases hj; simpa [HO.ren] using hid
    · cases hj
  · obtain ⟨u, rfl, rfl, hR⟩ := hR
    rw [obAfter_same (by simp) (fun j hj => ?_) (fun j hj => ?_) hfree.all]
    · exact hK u hR
    · have : j = 0 := by simp at hj; omega
      subst this; exact ⟨_, rfl, by simpa [HO.ren] using hid⟩
    · simp only [List.length_cons, List.length_nil] at hj
      rw [fob_at, if_neg (by omega)]; rfl
end
end Go.Hl
