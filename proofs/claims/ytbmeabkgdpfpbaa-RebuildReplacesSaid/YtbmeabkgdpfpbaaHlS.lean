/- HL, part S: finite frames and heaps; pure functions. By an AI agent. -/
import Derived.Test.YtbmeabkgdpfpbaaHlR
import Derived.IntWalk
set_option linter.unusedSimpArgs false
set_option linter.unusedVariables false
namespace Go.Hl
open Go

/-! ## Finite frames, finite heaps -/
def fin : List (Nat × HV) → Fr
  | [] => fun _ => .junk
  | (t, v) :: l => upd (fin l) t v
def fob : List (Nat × HO) → Ob
  | [] => fun _ => none
  | (t, v) :: l => upd (fob l) t (some v)
def FinOk (nx : Nat) (fr : Fr) : List (Nat × HV) → Prop
  | [] => True
  | (t, v) :: l => fr t = v ∧ v.men (· < nx) ∧ FinOk nx fr l
def FobOk (nx : Nat) (ob : Ob) : List (Nat × HO) → Prop
  | [] => True
  | (t, v) :: l => ob t = some v ∧ t < nx ∧ v.men (· < nx) ∧ FobOk nx ob l

theorem finOk_eq {nx : Nat} {fr : Fr} : ∀ {l : List (Nat × HV)}, FinOk nx fr l → ∀ t, (fin l t = .junk ∨ fin l t = fr t) ∧ (fin l t).men (· < nx)
  | [], _, t => ⟨.inl rfl, by simp [fin, HV.men]⟩
  | (t', v) :: l, h, t => by
    simp only [FinOk] at h
    by_cases ht : t = t'
    · subst ht
      simp only [fin, upd_same]
      exact ⟨.inr h.1.symm, h.2.1⟩
    · simp only [fin, upd_ne _ _ ht]
      exact finOk_eq h.2.2 t
theorem fobOk_eq {nx : Nat} {ob : Ob} : ∀ {l : List (Nat × HO)}, FobOk nx ob l → ∀ t o, fob l t = some o → ob t = some o ∧ t < nx ∧ o.men (· < nx)
  | [], _, t, o, ho => by simp [fob] at ho
  | (t', v) :: l, h, t, o, ho => by
    simp only [FobOk] at h
    by_cases ht : t = t'
    · subst ht
      simp only [fob, upd_same, Option.some.injEq] at ho
      subst ho
      exact ⟨h.1, h.2.1, h.2.2.1⟩
    · simp only [fob, upd_ne _ _ ht] at ho
      exact fobOk_eq h.2.2.2 t o ho

theorem fits_fin {k nx2 : Nat} {fr : Fr} {ob : Ob} {l : List (Nat × HV)} {h : List (Nat × HO)} (hk : k ≤ nx2) (h1 : FinOk nx2 fr l) (h2 : FobOk nx2 ob h) : Fits k fr ob (fin l) (fob h) nx2 :=
  ⟨fun t => (finOk_eq h1 t).1, fun id o ho => (fobOk_eq h2 id o ho).1, fun t => (finOk_eq h1 t).2, fun id o ho => (fobOk_eq h2 id o ho).2, hk⟩

theorem upd_at {α : Type} (f : Nat → α) (d : Nat) (v : α) (t : Nat) : upd f d v t = if t = d then v else f t := rfl
theorem fin_at (t : Nat) (v : HV) (l : List (Nat × HV)) (t' : Nat) : fin ((t, v) :: l) t' = if t' = t then v else fin l t' := rfl
theorem fin_nil (t : Nat) : fin [] t = .junk := rfl
theorem fob_at (t : Nat) (v : HO) (l : List (Nat × HO)) (t' : Nat) : fob ((t, v) :: l) t' = if t' = t then some v else fob l t' := rfl
theorem fob_nil (t : Nat) : fob [] t = none := rfl
theorem nth_map {α : Type} {f : α → CV} {l : List α} {i : Nat} (h : i < l.length) : nth (l.map f) i = f l[i] := by simp [nth, h]

/-! ## Regions that only read -/
theorem hopI_quiet {P : Program} {ops : Array Oper} {nx i : Nat} {av : List Nat} {fr : Fr} {ob : Ob} {K K' : Fr → Ob → Prop} (hq : ops.all (fun o => isQuiet o.op) = true) (hav : ∀ id ∈ av, ob id = none) (hK : ∀ fr', K fr' ob → K' fr' ob)
    (h : hopI P ops nx [] i K fr ob) : hopI P ops nx av i K' fr ob := by
  unfold hopI at h ⊢
  cases ho : ops[i]? with
  | none => rw [ho] at h; exact h
  | some o =>
    rw [ho] at h
    simp only at h ⊢
    have hqo : isQuiet o.op = true := Array.all_eq_true_iff_forall_mem.1 hq o (Array.mem_of_getElem? ho)
    have hc : hcallOf o.op = none := by
      cases hop' : o.op <;> simp only [hcallOf]
      rename_i c
      rw [hop'] at hqo
      cases hcc : c.callee <;> simp_all [isQuiet]
    cases hg : hguard ops o fr with
    | none => rw [hg] at h; exact h
    | some b =>
      rw [hg] at h
      cases b with
      | false => exact hK _ h
      | true =>
        simp only [hstep, hc] at h ⊢
        refine ⟨fun id hid => ⟨fun hin => ?_, (h.1 id hid).2⟩, ?_⟩
        · have := (h.1 id hid).2
          rw [hav id hin] at this; cases this
        · obtain ⟨v, u, h1, h2, h3, h4⟩ := hop_form2 h.2
          have hu := h4 hqo
          subst hu
          exact h2 ob (fun _ _ => rfl) _ (hK _ h1)

theorem hlex_walk {P : Program} {ops : Array Oper} {nx : Nat} {wt : Nat → Nat → Bool} {Q : Fr → Ob → Prop} {ob : Ob} (hq : ops.all (fun o => isQuiet o.op) = true) (hf : ∀ id, nx ≤ id → ob id = none) :
    ∀ (l : List Nat) (C : Pend) (fr : Fr), hlex P ops nx Q l fr ob → hwalk P ops nx wt Q l C fr ob
  | [], C, fr, h => h
  | i :: l, C, fr, h => by
    simp only [hlex, hwalk] at h ⊢
    have hi : isEff (ops.getD i default).op = false ∨ ops[i]? = none := by
      cases ho : ops[i]? with
      | none => exact .inr rfl
      | some o =>
        left
        have hqo : isQuiet o.op = true := Array.all_eq_true_iff_forall_mem.1 hq o (Array.mem_of_getElem? ho)
        have : ops.getD i default = o := by simp [Array.getD_eq_getD_getElem?, ho]
        rw [this]
        cases hop' : o.op <;> simp only [isEff] <;> rw [hop'] at hqo <;> simp [isQuiet] at hqo
        rename_i c
        cases hcc : c.callee <;> simp_all [isEff]
        rename_i b
        cases b <;> simp_all
    refine hopI_quiet hq (fun id hid => hf id ?_) (fun fr' hK => hlex_walk hq hf l _ fr' hK) h
    simp only [avoid, List.mem_flatMap] at hid
    obtain ⟨p, _, hp⟩ := hid
    split at hp
    · simp at hp
    · have : ((ops[i]?).map (fun o => isEff o.op)).getD true = true → ops[i]? = none := by
        intro he
        rcases hi with hi | hi
        · cases ho : ops[i]? with
          | none => rfl
          | some o =>
            have : ops.getD i default = o := by simp [Array.getD_eq_getD_getElem?, ho]
            rw [this] at hi
            rw [ho] at he
            simp [hi] at he
        · exact hi
      rcases List.mem_append.1 hp with hp | hp
      · simp only [List.mem_cons, List.not_mem_nil, or_false] at hp
        omega
      · split at hp
        · rename_i he
          rw [hopI, this he] at h
          exact h.elim
        · simp at hp

theorem hw_quiet {P : Program} {n k : Nat} {Q : HPost} {fr : Fr} {ob : Ob} {nx id : Nat} {ops : Array Oper} (hm : P.follows .mixedOrders = true) (hd : dstOk n ops = true) (hp : planOk ops (List.range ops.size) (Array.replicate ops.size false) = true) (hq : ops.all (fun o => isQuiet o.op) = true)
    (h : hlex P ops nx (fun fr' ob' => Q .normal fr' ob' (nx + 4 * ops.size)) (List.range ops.size) fr ob) : Hw P n k (.region id ops true) Q fr ob nx := by
  intro c a w hn hk hA
  have hf : ∀ id, nx ≤ id → ob id = none := fun id hid => by
    obtain ⟨ρ, hA'⟩ := hA
    exact (hA'.nid_none (nid := id) (by omega)).1
  exact hw_draw hm (List.range ops.size) [] hd hp rfl rfl (by simp) (hlex_walk hq hf _ _ _ h) c a w hn hk hA

/-! ## Pure functions -/
def none0 : Ob := fun _ => none
theorem none0_at (t : Nat) : none0 t = none := rfl
/-- Closed arguments, a closed result, no objects. -/
def HPure (P : Program) (f : FuncId) (args : List CV) (R : CV → Prop) : Prop :=
  HFn P f (args.map .c) 0 none0 (fun r ob' => ∃ v, r = .c v ∧ R v ∧ ob' = none0)

theorem hret_pure {ob : Ob} {r : HV} {R : CV → Prop} (cl : List Nat) (v : CV) (h : (r.close ob cl).norm = .c v) (hR : R v) : HRet 0 r ob (fun r ob' => ∃ v, r = .c v ∧ R v ∧ ob' = none0) :=
  ⟨cl, id, .c v, none0, ⟨v, rfl, hR, rfl⟩, by rw [h]; rfl, fun _ h => by omega, fun _ _ _ _ h => h, by simp [HV.men], fun j o h => by simp [none0] at h⟩

theorem obAfter_nil {ob : Ob} {nid : Nat} (h : ∀ i, nid ≤ i → i < nid + 4 → ob i = none) : obAfter ob [] nid none0 = ob := by
  funext id
  simp only [obAfter, List.findIdx?_nil, none0, Option.map_none]
  split
  · rename_i h'; exact (h id h'.1 h'.2).symm
  · rfl

theorem locOk_nil (args : List CV) : LocOk 0 (args.map .c) none0 := ⟨fun j h => by omega, fun id o h => by simp [none0] at h, HV.menL_c⟩

/-- The arguments' slots. -/
def finA : Nat → List HV → Fr
  | _, [] => fun _ => .junk
  | k, v :: l => upd (finA (k + 1) l) k v
theorem finA_at (k : Nat) (v : HV) (l : List HV) (t : Nat) : finA k (v :: l) t = if t = k then v else finA (k + 1) l t := rfl
theorem finA_nil (k t : Nat) : finA k [] t = .junk := rfl
theorem finA_eq : ∀ (l : List HV) (k t : Nat), finA k l t = if t < k then .junk else l.getD (t - k) .junk
  | [], k, t => by simp [finA]
  | v :: l, k, t => by
    by_cases h : t = k
    · subst h; simp [finA, upd_same]
    · simp only [finA, upd_ne _ _ h, finA_eq l (k + 1) t]
      rcases Nat.lt_or_ge t k with h1 | h1
      · rw [if_pos (by omega), if_pos h1]
      · rw [if_neg (by omega), if_neg (by omega), show t - k = (t - (k + 1)) + 1 from by omega]
        simp
theorem hfn_walk {P : Program} {f : FuncId} {fn : Func} {code : Code} {args : List HV} {k : Nat} {ob : Ob} {R : HV → Ob → Prop} (hf : P.funcs[f]? = some fn) (hb : fn.body = some code) (hok : callOk P f = true) (hloc : LocOk k args ob) (hn : args.length ≤ fn.ntmps)
    (h : Hw P fn.ntmps k code (hpost P fn.results.toList k R) (finA 0 args) ob k) : HFn P f args k ob R := by
  refine hfn_of_hw hf hb hok hloc hn ?_
  have : (fun t => args.getD t HV.junk) = finA 0 args := by funext t; simp [finA_eq]
  rw [this]; exact h
end Go.Hl
