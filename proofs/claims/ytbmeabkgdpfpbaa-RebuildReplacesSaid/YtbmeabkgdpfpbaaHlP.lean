/- HL, part P: from the calculus to the model: steps, regions, control. By an AI agent. -/
import Derived.Test.YtbmeabkgdpfpbaaHlO
set_option linter.unusedSimpArgs false
set_option linter.unusedVariables false
namespace Go.Hl
open Go

section
variable {P : Program} {c : Ctx} {M M' : Nat → Prop} {fr : Fr} {ob : Ob} {a : Act} {w : World} {ρ : Env}

theorem getD_tmps {a : Act} {d : Nat} {v : Value} (h : a.tmps.getD d undef = v) (hv : v ≠ undef) : a.tmps[d]? = some v := by
  rw [Array.getD_eq_getD_getElem?] at h
  cases hx : a.tmps[d]? with
  | none => rw [hx] at h; exact absurd h.symm hv
  | some x => rw [hx] at h; rw [← h]; rfl

theorem hguard_wanted (h : RepA' c M fr ob a w ρ) {ops : Array Oper} {o : Oper} {b : Bool} (hg : hguard ops o fr = some b) : Region.wanted o (yielded ops a.tmps) = b := by
  unfold hguard at hg
  unfold Region.wanted
  split at hg
  · rename_i hn; rw [hn]; cases hg; rfl
  · rename_i j want hn
    rw [hn]
    split at hg
    · rename_i d hd
      split at hg
      · rename_i t ht
        cases hg
        have hr := h.f d (by rw [ht]; simp)
        rw [ht] at hr
        have := getD_tmps hr.bool (by simp [undef])
        simp only [yielded, hd, Option.bind_some, this]
        cases t <;> cases want <;> rfl
      · rename_i l ht
        cases hg
        have hr := repV_ref (h.f d (by rw [ht]; simp)) (by rw [ht]; rfl)
        rw [ht] at hr
        simp only [RepH, List.cons.injEq, and_true] at hr
        obtain ⟨⟨xs, hx, _⟩, _⟩ := hr
        have : yielded ops a.tmps j = none := by
          simp only [yielded, hd, Option.bind_some]
          rw [Array.getD_eq_getD_getElem?] at hx
          cases hq : a.tmps[d]? with
          | none => rfl
          | some y => rw [hq] at hx; simp only [Option.getD_some] at hx; rw [hx]
        simp only [this]
        rfl
      · cases hg
    · cases hg

theorem repHV_append {w : World} {ρ : Env} {O : Nat → Prop} : ∀ {l l' : List HV} {xs ys : List Value}, RepHV w ρ O l xs → RepHV w ρ O l' ys → RepHV w ρ O (l ++ l') (xs ++ ys)
  | [], _, xs, ys, h, h' => by simp only [RepHV] at h; subst h; simpa using h'
  | v :: vs, l', xs, ys, h, h' => by
    rw [repHV_cons] at h
    obtain ⟨z, zs, rfl, h1, h2⟩ := h
    rw [List.cons_append, repHV_cons]
    exact ⟨z, zs ++ ys, rfl, h1, repHV_append h2 h'⟩

theorem repHV_den (h : RepA' c M fr ob a w ρ) : ∀ (l : List Operand), (∀ x ∈ l, ev fr x ≠ .junk) → RepHV w ρ (Owned ρ c.X) (l.map fun x => (ev fr x).den) (l.map a.eval)
  | [], _ => by simp [RepHV]
  | x :: xs, hj => by
    simp only [List.map_cons, repHV_cons]
    exact ⟨_, _, rfl, HV.den_rep (h.ev x (hj _ (by simp))), repHV_den h xs (fun y hy => hj y (by simp [hy]))⟩

/-- ONE STEP. -/
theorem hstep_sound {Q : Exit → Act → World → Prop} (h : RepA' c M fr ob a w ρ) {nid : Nat} (hnid : ∀ t, t < 4 → ¬ M (nid + t)) (hM : ∀ i, M i → M' i) (hM' : ∀ t, t < 4 → M' (nid + t)) {av : List Nat} {o : Oper} {K : HV → Ob → Prop}
    (hl : hstep P av nid o.op (ev fr) ob K) (hd : ∀ k, o.dst = some k → k < c.n) : o.wp P a w (fun a' w' => ∃ v ob', K v ob' ∧ RepA c M' (updo fr o.dst v) ob' a' w') Q := by
  unfold hstep at hl
  split at hl
  · rename_i f xs hc
    obtain ⟨hj, hl⟩ := hl
    have hop : ∃ cl : Call, o.op = .call cl ∧ cl.callee = .value f ∧ cl.args.toList = xs := by
      unfold hcallOf at hc
      split at hc
      · rename_i cl hcl
        split at hc
        · rename_i g hg; cases hc; exact ⟨cl, hcl, hg, rfl⟩
        · cases hc
      · cases hc
    obtain ⟨cl, hocl, hcal, hargs⟩ := hop
    have hr := repHV_den h xs hj
    have hargs' : cl.args.map a.eval = (xs.map a.eval).toArray := by rw [← hargs, ← Array.toList_map, Array.toArray_toList]
    have fin : ∀ (g : FuncId) (first : Array Value) (caps : List Value) (extra : List HV), a.eval f = .func (.func g) #[] caps.toArray → RepHV w ρ (Owned ρ c.X) extra caps → HV.menL M extra → HCall P av g ((xs.map fun x => (ev fr x).den) ++ extra) ob nid K →
        o.wp P a w (fun a' w' => ∃ v ob', K v ob' ∧ RepA c M' (updo fr o.dst v) ob' a' w') Q := by
      intro g first caps extra hf hex _ hcallx
      have happ : RepHV w ρ (Owned ρ c.X) ((xs.map fun x => (ev fr x).den) ++ extra) (xs.map a.eval ++ caps) := repHV_append hr hex
      obtain ⟨hok, hcalls⟩ := hcall_sound h hnid hM hM' happ hcallx o.dst hd
      unfold Oper.wp
      have hrun : (execOp a.eval o).run P w = .ok (.enter g (xs.map a.eval ++ caps).toArray) w := by
        unfold callOk at hok
        cases hfn : P.funcs[g]? with
        | none => rw [hfn] at hok; cases hok
        | some fn =>
          rw [hfn] at hok
          simp only [Bool.and_eq_true, Bool.not_eq_true'] at hok
          have hb : fn.body ≠ none := by intro e; rw [e] at hok; simp at hok
          have hnm : fn.name ≠ "runtime.NumGoroutine" := by simpa using hok.2
          simp [execOp, hocl, resolve, hcal, hf, Deferred.ofValue, invoke, callFunc, hfn, hnm, hb, hargs']
      rw [hrun]
      simp only [Oper.upon]
      refine hcalls.mono ?_
      rintro e w' ⟨y, v, ob', ρ', rfl, hK, hA⟩
      exact ⟨v, ob', hK, ρ', hA⟩
    split at hl
    · rename_i g hf
      have hrf := h.ev f (by rw [hf]; simp)
      rw [hf] at hrf
      have := hrf.single rfl
      simp only [RepC, List.cons.injEq, and_true] at this
      exact fin g #[] [] [] this (by simp [RepHV]) (by simp [HV.menL]) (by simpa using hl)
    · rename_i g caps hf
      have hrf := repV_ref (h.ev f (by rw [hf]; simp)) (by rw [hf]; rfl)
      have hm := h.evm f
      rw [hf] at hrf hm
      simp only [RepH, List.cons.injEq, and_true, HV.men] at hrf hm
      obtain ⟨⟨ys, hy, hys⟩, _⟩ := hrf
      exact fin g #[] ys caps hy hys hm hl
    · exact hl.elim
  · obtain ⟨_, hl⟩ := hl
    obtain ⟨y, w', ⟨v, ob', ρ', hK, hA⟩, hr⟩ := hop_sound (M' := M') h (by simpa using hnid 0 (by omega)) hM (by simpa using hM' 0 (by omega)) hl hd
    unfold Oper.wp
    rcases hr with hr | ⟨hr, rfl⟩
    · rw [hr]; exact ⟨v, ob', hK, ρ', hA⟩
    · rw [hr]; exact ⟨v, ob', hK, ρ', hA⟩
end
end Go.Hl
