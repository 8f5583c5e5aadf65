/- HL, part R: functions: what they return, their contracts; steps that only change what is known. By an AI agent. -/
import Derived.Test.YtbmeabkgdpfpbaaHlQ
set_option linter.unusedSimpArgs false
set_option linter.unusedVariables false
namespace Go.Hl
open Go

/- References that are closed: a slice of one's own that nobody will write any more. -/
mutual
def HV.close (ob : Ob) (cl : List Nat) : HV → HV
  | .c v => .c v.denil
  | .own id n => if cl.contains id = true then (match ob id with
    | some (.row _ _ l) => if n = l.length then .c (.slc l) else .own id n
    | _ => .own id n) else .own id n
  | .osl id n lo sz hi => if cl.contains id = true then (match ob id with
    | some (.row _ sz' l) => if n = l.length ∧ 0 < n ∧ sz = sz' ∧ lo ≤ hi ∧ hi ≤ n then .c (.slc ((l.drop lo).take (hi - lo))) else .osl id n lo sz hi
    | _ => .osl id n lo sz hi) else .osl id n lo sz hi
  | .agg l => .agg (HV.closeL ob cl l)
  | .tup l => .tup (HV.closeL ob cl l)
  | v => v
def HV.closeL (ob : Ob) (cl : List Nat) : List HV → List HV
  | [] => []
  | v :: vs => (v.close ob cl).norm :: HV.closeL ob cl vs
end

section
variable {P : Program} {w : World} {ρ ρ2 : Env} {X : Nat → Prop} {ob : Ob} {cl : List Nat}

theorem HV.close_agg (v : HV) : (v.close ob cl).isAgg = v.isAgg := by
  cases v with
  | c v => simp only [HV.close, HV.isAgg, CV.denil_isAgg]
  | own id n =>
    simp only [HV.close]
    split
    · split
      · split <;> rfl
      · rfl
    · rfl
  | osl id n lo sz hi =>
    simp only [HV.close]
    split
    · split
      · split <;> rfl
      · rfl
    · rfl
  | _ => simp only [HV.close, HV.isAgg]

theorem own_close (hS : RepS w ρ X ob) (hcl : ∀ id ∈ cl, ρ2 id = none) (hρ : ∀ id L, ρ2 id = some L → ρ id = some L) (hst : Stay w (Owned ρ X) w (Owned ρ2 X)) {id n : Nat} {cs : List Value}
    (h : RepH w ρ (Owned ρ X) (.own id n) cs) : RepH w ρ2 (Owned ρ2 X) ((HV.own id n).close ob cl) cs := by
  have stale : RepH w ρ2 (Owned ρ2 X) (.own id n) cs := by
    simp only [RepH] at h ⊢
    obtain ⟨x, h1, h2, h3⟩ := h
    exact ⟨x, h1, h2, fun hd hh => h3 hd (hρ _ _ hh)⟩
  simp only [HV.close]
  split
  · rename_i hin
    split
    · rename_i e sz l ho
      split
      · rename_i hn
        simp only [RepH, RepC] at h ⊢
        obtain ⟨x, rfl, h2, h3⟩ := h
        obtain ⟨hd, xs, hρ1, hl, hcs, how⟩ := hS.objs id _ ho
        obtain ⟨e1, e2⟩ := h3 hd hρ1
        have hin' : id ∈ cl := by simpa using hin
        rcases how.2 with ⟨rfl, hz⟩ | ⟨g, cap, cur, rfl, hg0, hg, hcap, _⟩
        · have hx := e2 (by simp [hlen, hn, hz])
          exact ⟨none, 0, xs, sz, by rw [hx, hz], hl.stay hst, hcs, by omega, fun _ => rfl, fun ad had => (by cases had)⟩
        · have hx := e2 (by simp [hlen, hn])
          refine ⟨some ⟨g, 0, none⟩, cap, xs, sz, by rw [hx], hl.stay hst, hcs, hcap, fun hh => (by cases hh), fun ad had => ?_⟩
          cases had
          refine ⟨how.cells (g := g) rfl, fun _ => ?_⟩
          rintro (hx2 | ⟨id', L, h4, h5⟩)
          · exact hS.xb id _ g hρ1 rfl hx2
          · have := hS.apart id' id L _ g (hρ _ _ h4) hρ1 h5 rfl
            subst this
            rw [hcl id' hin'] at h4; cases h4
      · exact stale
    · exact stale
  · exact stale

theorem osl_close (hS : RepS w ρ X ob) (hcl : ∀ id ∈ cl, ρ2 id = none) (hρ : ∀ id L, ρ2 id = some L → ρ id = some L) (hst : Stay w (Owned ρ X) w (Owned ρ2 X)) {id n lo sz hi : Nat} {cs : List Value}
    (h : RepH w ρ (Owned ρ X) (.osl id n lo sz hi) cs) : RepH w ρ2 (Owned ρ2 X) ((HV.osl id n lo sz hi).close ob cl) cs := by
  have stale : RepH w ρ2 (Owned ρ2 X) (.osl id n lo sz hi) cs := by
    simp only [RepH] at h ⊢
    obtain ⟨x, h1, h2, h3⟩ := h
    exact ⟨x, h1, h2, fun hd hh => h3 hd (hρ _ _ hh)⟩
  simp only [HV.close]
  split
  · rename_i hin
    split
    · rename_i e sz' l ho
      split
      · rename_i hc
        obtain ⟨hn, hn0, rfl, hlo, hhi⟩ := hc
        simp only [RepH, RepC] at h ⊢
        obtain ⟨x, rfl, h2, h3⟩ := h
        obtain ⟨hd, xs, hρ1, hl, hcs, how⟩ := hS.objs id _ ho
        obtain ⟨e1, e2⟩ := h3 hd hρ1
        have hin' : id ∈ cl := by simpa using hin
        rcases how.2 with ⟨rfl, hz⟩ | ⟨g, cap, cur, rfl, hg0, hg, hcap, _⟩
        · omega
        · have hx := e2 (by simp [hlen, hn]) g cap (by rw [hn])
          have hlen' : ((l.drop lo).take (hi - lo)).length = hi - lo := by simp; omega
          refine ⟨_, cap - lo, (xs.drop (lo * sz)).take ((hi - lo) * sz), sz, by rw [hx, hlen'], (repL_take2 _ (repL_drop2 _ hl hcs) (fun v hv => hcs v (List.mem_of_mem_drop hv))).stay hst, fun v hv => hcs v (List.mem_of_mem_drop (List.mem_of_mem_take hv)), by omega, fun hh => (by cases hh), fun ad had => ?_⟩
          cases had
          have hcell := how.cells (g := g) rfl
          refine ⟨fun j u hj => ?_, fun _ => ?_⟩
          · by_cases hce : cap = lo
            · have : hi - lo = 0 := by omega
              rw [this] at hj; simp at hj
            · rw [if_neg hce]
              have hj2 := hj
              rw [List.getElem?_take] at hj2
              split at hj2
              · rw [List.getElem?_drop] at hj2
                have := hcell _ _ hj2
                by_cases hj0 : j = 0
                · subst hj0
                  by_cases hz : lo * sz = 0
                  · simpa [Addr.add, hz] using this
                  · simpa [Addr.add, hz] using this
                · simpa [Addr.add, hj0, Nat.add_comm, Nat.add_left_comm] using this
              · cases hj2
          · rintro (hx2 | ⟨id', L, h4, h5⟩)
            · exact hS.xb id _ g hρ1 rfl hx2
            · have := hS.apart id' id L _ g (hρ _ _ h4) hρ1 h5 rfl
              subst this
              rw [hcl id' hin'] at h4; cases h4
      · exact stale
    · exact stale
  · exact stale

mutual
theorem close_rep (hS : RepS w ρ X ob) (hcl : ∀ id ∈ cl, ρ2 id = none) (hρ : ∀ id L, ρ2 id = some L → ρ id = some L) (hst : Stay w (Owned ρ X) w (Owned ρ2 X)) : ∀ {v : HV} {cs : List Value}, RepH w ρ (Owned ρ X) v cs → RepH w ρ2 (Owned ρ2 X) (v.close ob cl) cs
  | .c v, cs, h => by simp only [RepH, HV.close] at h ⊢; exact CV.denil_rep (h.stay hst)
  | .own id n, cs, h => own_close hS hcl hρ hst h
  | .agg l, cs, h => by simp only [RepH, HV.close] at h ⊢; exact closeL_rep hS hcl hρ hst h
  | .tup l, cs, h => by
    simp only [RepH, HV.close] at h ⊢
    obtain ⟨xs, h1, h2⟩ := h
    exact ⟨xs, h1, closeV_rep hS hcl hρ hst h2⟩
  | .junk, cs, h => by simp only [RepH] at h
  | .ptr id off, cs, h => by
    simp only [RepH, HV.close] at h ⊢
    obtain ⟨x, h1, h2, h3⟩ := h
    exact ⟨x, h1, h2, fun hd hh => h3 hd (hρ _ _ hh)⟩
  | .eptr id n i sz off, cs, h => by
    simp only [RepH, HV.close] at h ⊢
    obtain ⟨x, h1, h2, h3⟩ := h
    exact ⟨x, h1, h2, fun hd hh => h3 hd (hρ _ _ hh)⟩
  | .osl .., cs, h => osl_close hS hcl hρ hst h
  | .mapr id, cs, h => by
    simp only [RepH, HV.close] at h ⊢
    obtain ⟨x, h1, h2, h3⟩ := h
    exact ⟨x, h1, h2, fun hd hf hh => h3 hd hf (hρ _ _ hh)⟩
  | .mrow id k n, cs, h => by
    simp only [RepH, HV.close] at h ⊢
    obtain ⟨x, h1, h2, h3⟩ := h
    exact ⟨x, h1, h2, fun hd hf h hh => h3 hd hf h (hρ _ _ hh)⟩
  | .clo f caps, cs, h => by
    simp only [RepH, HV.close] at h ⊢
    obtain ⟨xs, h1, h2⟩ := h
    exact ⟨xs, h1, RepHV.stay (M := fun _ => True) hst (fun id L _ hL => ⟨L, hρ _ _ hL, .inl rfl⟩) (HV.menL_true _) h2⟩
theorem closeL_rep (hS : RepS w ρ X ob) (hcl : ∀ id ∈ cl, ρ2 id = none) (hρ : ∀ id L, ρ2 id = some L → ρ id = some L) (hst : Stay w (Owned ρ X) w (Owned ρ2 X)) : ∀ {l : List HV} {cs : List Value}, RepHL w ρ (Owned ρ X) l cs → RepHL w ρ2 (Owned ρ2 X) (HV.closeL ob cl l) cs
  | [], cs, h => by simpa only [RepHL, HV.closeL] using h
  | v :: vs, cs, h => by
    simp only [RepHL, HV.closeL] at h ⊢
    obtain ⟨c1, c2, h1, h2, h3⟩ := h
    exact ⟨c1, c2, h1, HV.norm_rep (close_rep hS hcl hρ hst h2), closeL_rep hS hcl hρ hst h3⟩
theorem closeV_rep (hS : RepS w ρ X ob) (hcl : ∀ id ∈ cl, ρ2 id = none) (hρ : ∀ id L, ρ2 id = some L → ρ id = some L) (hst : Stay w (Owned ρ X) w (Owned ρ2 X)) : ∀ {l : List HV} {xs : List Value}, RepHV w ρ (Owned ρ X) l xs → RepHV w ρ2 (Owned ρ2 X) (HV.closeL ob cl l) xs
  | [], xs, h => by simpa only [RepHV, HV.closeL] using h
  | v :: vs, xs, h => by
    simp only [RepHV, HV.closeL] at h ⊢
    obtain ⟨y, ys, h1, ⟨h2, h2'⟩, h3⟩ := h
    exact ⟨y, ys, h1, ⟨HV.norm_rep (close_rep hS hcl hρ hst h2), by rw [HV.norm_agg, HV.close_agg]; exact h2'⟩, closeV_rep hS hcl hρ hst h3⟩
end
end

/-! ## Results -/
def hres1 (P : Program) (fr : Fr) (ob : Ob) (r : ResultVar) (K : HV → Prop) : Prop :=
  match r with
  | .tmp t => fr t ≠ .junk ∧ K (fr t)
  | .cell t ty => hlift (tyOf P ty) fun ti => HO.isBox (match fr t with | .ptr id _ => ob id | _ => none) = true ∧ hload ti (fr t) ob K
def hresL (P : Program) (fr : Fr) (ob : Ob) : List ResultVar → (List HV → Prop) → Prop
  | [], K => K []
  | r :: rs, K => hres1 P fr ob r fun v => hresL P fr ob rs fun vs => K (v :: vs)
def tupOf (l : List HV) : HV := match l with | [v] => v | l => .tup l

/-- How a function's end is seen by its caller. -/
def HRet (k : Nat) (r : HV) (ob : Ob) (R : HV → Ob → Prop) : Prop :=
  ∃ (cl : List Nat) (τ : Nat → Nat) (r' : HV) (ob' : Ob), R r' ob' ∧ (r.close ob cl).norm = r'.ren τ ∧ (∀ j, j < k → τ j = j) ∧ (∀ i j, i < k + 4 → j < k + 4 → τ i = τ j → i = j) ∧ r'.men (· < k + 4) ∧
    ∀ j o, ob' j = some o → j < k + 4 ∧ o.men (· < k + 4) ∧ τ j ∉ cl ∧ ∃ o0, ob (τ j) = some o0 ∧ (match o0 with | .box t v => HO.box t (v.close ob cl).norm | .row e sz l => .row e sz l | .mp e sz D => .mp e sz D) = o.ren τ

def hpost (P : Program) (rs : List ResultVar) (k : Nat) (R : HV → Ob → Prop) : HPost := fun e fr ob _ =>
  match e with
  | .normal | .ret => hresL P fr ob rs fun vs => HRet k (tupOf vs) ob R
  | _ => False

section
variable {P : Program} {c : Ctx} {M : Nat → Prop} {fr : Fr} {ob : Ob} {a : Act} {w : World} {ρ : Env}

/-- What one result is read as. -/
def resOf (tm : Array Value) (r : ResultVar) : Sem Value :=
  match r with
  | .tmp t => pure (tm.getD t undef)
  | .cell ad t => do loadVar t (← asAddr (tm.getD ad undef))

theorem hres1_sound (h : RepA' c M fr ob a w ρ) {r : ResultVar} {K : HV → Prop} (hl : hres1 P fr ob r K) :
    ∃ v x, K v ∧ RepV w ρ (Owned ρ c.X) v x ∧ (resOf a.tmps r).run P w = .ok x w := by
  cases r with
  | tmp t => exact ⟨_, _, hl.2, h.f t hl.1, rfl⟩
  | cell ad t =>
    simp only [hres1] at hl
    rw [hlift_iff] at hl
    obtain ⟨ti, ht, hb, hl⟩ := hl
    obtain ⟨u, y, hK, hr, hv, _⟩ := load_sound (P := P) h ht (x := .tmp ad) hl
    refine ⟨u, y, hK, hv, ?_⟩
    have hp : ∃ p, a.tmps.getD ad undef = .pointer (some p) := by
      cases hf : fr ad with
      | ptr id off =>
        rw [hf] at hb
        obtain ⟨b, _, he⟩ := ptr_live (x := .tmp ad) h hf hb
        exact ⟨_, he⟩
      | _ => rw [hf] at hb; cases hb
    obtain ⟨p, hp⟩ := hp
    have hr' : (Instr.loadAt t (.pointer (some p))).run P w = .ok y w := by rw [← hp]; exact hr
    simp only [resOf, hp, asAddr, Sem.run_bind, Sem.run_pure, Result.andThen_ok]
    simpa [Instr.loadAt, Instr.sureAddr] using hr'

theorem hresL_sound (h : RepA' c M fr ob a w ρ) : ∀ {rs : List ResultVar} {K : List HV → Prop}, hresL P fr ob rs K →
    ∃ vs xs, K vs ∧ RepHV w ρ (Owned ρ c.X) vs xs ∧ (rs.mapM (resOf a.tmps)).run P w = .ok xs w
  | [], K, hl => ⟨[], [], hl, by simp [RepHV], by simp⟩
  | r :: rs, K, hl => by
    simp only [hresL] at hl
    obtain ⟨v, x, hK, hv, hr⟩ := hres1_sound h hl
    obtain ⟨vs, xs, hK2, hvs, hrs⟩ := hresL_sound h hK
    refine ⟨v :: vs, x :: xs, hK2, by rw [repHV_cons]; exact ⟨x, xs, rfl, hv, hvs⟩, ?_⟩
    simp only [List.mapM_cons, Sem.run_bind, hr, hrs, Result.andThen_ok, Sem.run_pure]

theorem tupOf_rep {w : World} {ρ : Env} {O : Nat → Prop} {vs : List HV} {xs : List Value} (h : RepHV w ρ O vs xs) : RepV w ρ O (tupOf vs) (if h : xs.toArray.size = 1 then xs.toArray[0] else .tuple xs.toArray) := by
  match vs, h with
  | [], h => simp only [RepHV] at h; subst h; exact ⟨by simp only [tupOf, RepH]; exact ⟨[], rfl, by simp [RepHV]⟩, rfl⟩
  | [v], h =>
    rw [repHV_cons] at h
    obtain ⟨y, ys, rfl, h1, h2⟩ := h
    simp only [RepHV] at h2
    subst h2
    simpa [tupOf] using h1
  | v :: u :: vs, h =>
    have hlen : ∀ {l : List HV} {xs : List Value}, RepHV w ρ O l xs → xs.length = l.length := by
      intro l
      induction l with
      | nil => intro xs h; simp only [RepHV] at h; simp [h]
      | cons x l ih => intro xs h; rw [repHV_cons] at h; obtain ⟨y, ys, rfl, _, h2⟩ := h; simp [ih h2]
    have hl := hlen h
    rw [dif_neg (by simp [hl])]
    exact ⟨by simp only [tupOf, RepH]; exact ⟨xs, rfl, h⟩, rfl⟩

/-- A FUNCTION's CONTRACT FROM ITS WALK. -/
theorem hfn_of_hw {f : FuncId} {fn : Func} {code : Code} {args : List HV} {k : Nat} {ob : Ob} {R : HV → Ob → Prop} (hf : P.funcs[f]? = some fn) (hb : fn.body = some code) (hok : callOk P f = true) (hloc : LocOk k args ob) (hn : args.length ≤ fn.ntmps)
    (h : Hw P fn.ntmps k code (hpost P fn.results.toList k R) (fun t => args.getD t .junk) ob k) : HFn P f args k ob R := by
  refine ⟨hok, fun w ρ X xs hS hA hX => ?_⟩
  have hlen : xs.length = args.length := by
    clear h hn hloc
    induction args generalizing xs with
    | nil => simp only [RepHV] at hA; simp [hA]
    | cons x l ih => rw [repHV_cons] at hA; obtain ⟨y, ys, rfl, _, h2⟩ := hA; simp [ih ys h2]
  refine calls_of_wp hf hb ?_
  let c : Ctx := { w0 := w, ρ0 := ρ, X := X, M0 := (· < k), n := fn.ntmps }
  have hget : ∀ (l : List HV) (ys : List Value) (t : Nat), RepHV w ρ (Owned ρ X) l ys → t < l.length → RepV w ρ (Owned ρ X) (l.getD t .junk) (ys.getD t undef) := by
    intro l
    induction l with
    | nil => intro ys t _ ht; simp at ht
    | cons x l ih =>
      intro ys t hl ht
      rw [repHV_cons] at hl
      obtain ⟨y, ys', rfl, h1, h2⟩ := hl
      cases t with
      | zero => simpa using h1
      | succ t => simpa using ih ys' t h2 (by simpa using ht)
  have hmen : ∀ (l : List HV) (t : Nat), HV.menL (· < k) l → (l.getD t .junk).men (· < k) := by
    intro l
    induction l with
    | nil => intro t _; simp [HV.men]
    | cons x l ih =>
      intro t hl
      simp only [HV.menL] at hl
      cases t with
      | zero => simpa using hl.1
      | succ t => simpa using ih t hl.2
  have h0 : RepA c (· < k) (fun t => args.getD t .junk) ob { tmps := xs.toArray ++ Array.replicate (fn.ntmps - xs.toArray.size) undef, defers := [] } w := by
    refine ⟨ρ, hS, fun t ht => ?_, fun t => hmen args t hloc.args, hloc.none, fun id hid => hid, Stay2.refl _ _, Moves.refl _ _, rfl, by simp [c]; omega, hX⟩
    have htl : t < args.length := by
      rcases Nat.lt_or_ge t args.length with h' | h'
      · exact h'
      · exact absurd (by simp [List.getElem?_eq_none h']) ht
    have := hget args xs t hA htl
    have e : (xs.toArray ++ Array.replicate (fn.ntmps - xs.toArray.size) undef).getD t undef = xs.getD t undef := by
      rw [Array.getD_eq_getD_getElem?, Array.getElem?_append_left (by simp; omega)]
      simp
    rw [e]; exact this
  refine wp_mono (h c _ w rfl rfl h0) ?_
  rintro e a' w' ⟨fr', ob', nx', hq, ρ', hA'⟩
  have fin : hresL P fr' ob' fn.results.toList (fun vs => HRet k (tupOf vs) ob' R) → a'.defers = [] ∧ ∃ v, (results fn a'.tmps).run P w' = .ok v w' ∧ ∃ r ob' ρ' x, Ending.returned v = Ending.returned x ∧ R r ob' ∧ Gave w ρ X k r ob' w' ρ' x := by
    intro hq
    refine ⟨hA'.defers, ?_⟩
    obtain ⟨vs, ys, ⟨cl, τ, r', ob2, hR, hr, ht1, ht2, hm, ho⟩, hvs, hrun⟩ := hresL_sound hA' hq
    refine ⟨(if h : ys.toArray.size = 1 then ys.toArray[0] else .tuple ys.toArray), ?_, r', ob2, ?_⟩
    · unfold results
      rw [Array.mapM_eq_mapM_toList]
      simp only [Sem.run_bind, Sem.run_map]
      have : (fn.results.toList.mapM (fun r => match r with | .tmp t => pure (a'.tmps.getD t undef) | .cell ad t => do loadVar t (← asAddr (a'.tmps.getD ad undef)) : ResultVar → Sem Value)).run P w' = .ok ys w' := hrun
      erw [this]
      rfl
    · let ρ2 : Env := fun id => match (if cl.contains id = true then none else ob' id) with | some _ => (if ∃ j, j < k + 4 ∧ τ j = id ∧ (ob2 j).isSome = true then ρ' id else none) | none => none
      have hρ2 : ∀ id L, ρ2 id = some L → ρ' id = some L := fun id L hL => by
        simp only [ρ2] at hL
        split at hL
        · split at hL
          · exact hL
          · cases hL
        · cases hL
      have hcl : ∀ id ∈ cl, ρ2 id = none := fun id hid => by
        have : cl.contains id = true := by simpa using hid
        simp only [ρ2, this, if_true]
      have hown : ∀ b, Own ρ2 b → Own ρ' b := fun b ⟨id, L, h1, h2⟩ => ⟨id, L, hρ2 id L h1, h2⟩
      have hst : Stay w' (Owned ρ' X) w' (Owned ρ2 X) := Stay.same (fun b _ hb => hb.imp id (hown b))
      have hval := tupOf_rep hvs
      have hc1 : RepV w' ρ2 (Owned ρ2 X) ((tupOf vs).close ob' cl).norm _ := ⟨HV.norm_rep (close_rep hA'.s hcl hρ2 hst hval.1), by rw [HV.norm_agg, HV.close_agg]; exact hval.2⟩
      rw [hr] at hc1
      -- the caller's view
      let ρ3 : Env := fun j => match ob2 j with | some _ => ρ2 (τ j) | none => none
      have h23 : ∀ j, j < k + 4 → (ob2 j).isSome = true → ρ2 (τ j) = ρ' (τ j) := fun j hj hs => by
        obtain ⟨o, ho'⟩ := Option.isSome_iff_exists.1 hs
        obtain ⟨_, _, hncl, o0, ho0, _⟩ := ho j o ho'
        have hn : cl.contains (τ j) = false := by simpa using hncl
        simp only [ρ2, hn, ho0, Bool.false_eq_true, if_false]
        rw [if_pos ⟨j, hj, rfl, hs⟩]
      have hρ3 : ∀ j L, ρ3 j = some L → j < k + 4 ∧ ρ' (τ j) = some L ∧ (ob2 j).isSome = true := fun j L hL => by
        simp only [ρ3] at hL
        split at hL
        · rename_i o ho'
          exact ⟨(ho j o ho').1, hρ2 _ _ hL, by rw [ho']; rfl⟩
        · cases hL
      have hown3 : ∀ b, Own ρ3 b ↔ Own ρ2 b := by
        intro b
        constructor
        · rintro ⟨j, L, h1, h2⟩
          simp only [ρ3] at h1
          split at h1
          · exact ⟨_, L, h1, h2⟩
          · cases h1
        · rintro ⟨id, L, h1, h2⟩
          have h1' := h1
          simp only [ρ2] at h1
          split at h1
          · split at h1
            · rename_i hex
              obtain ⟨j, hj, rfl, hs⟩ := hex
              obtain ⟨o, ho'⟩ := Option.isSome_iff_exists.1 hs
              exact ⟨j, L, by simp only [ρ3, ho']; exact h1', h2⟩
            · cases h1
          · cases h1
      have hst3 : Stay w' (Owned ρ2 X) w' (Owned ρ3 X) := Stay.same (fun b _ hb => hb.imp id (hown3 b).1)
      have hmv3 : Moves (· < k + 4) (fun i => ρ2 (τ i)) ρ3 := fun id L _ hL => by
        simp only [ρ3] at hL
        split at hL
        · exact ⟨L, hL, .inl rfl⟩
        · cases hL
      refine ⟨ρ3, _, rfl, hR, ⟨RepH.stay hst3 hmv3 hm (repH_ren.1 hc1.1), by rw [← hc1.2, HV.ren_isAgg]⟩, ⟨fun j o hj => ?_, fun j hj => ?_, fun i j L L' b h1 h2 h3 h4 => ?_, fun j L b h1 h2 => ?_⟩, hm, fun j o hj => ⟨(ho j o hj).1, (ho j o hj).2.1⟩, ?_, ?_⟩
      · obtain ⟨hj4, hom, hncl, o0, ho0, hren⟩ := ho j o hj
        have h5 := h23 j hj4 (by rw [hj]; rfl)
        have h6 : ρ3 j = ρ2 (τ j) := by simp only [ρ3, hj]
        have hobj := hA'.s.objs _ _ ho0
        have : RepO w' ρ2 (Owned ρ2 X) (τ j) (o.ren τ) := by
          rw [← hren]
          cases o0 with
          | box t v =>
            obtain ⟨b, cs, e1, e2, e3⟩ := hobj
            exact ⟨b, cs, by rw [h5]; exact e1, e2, HV.norm_rep (close_rep hA'.s hcl hρ2 hst e3)⟩
          | row e sz l =>
            obtain ⟨hd, xs, e1, e2, e3, e4⟩ := hobj
            exact ⟨hd, xs, by rw [h5]; exact e1, e2.stay hst, e3, e4⟩
          | mp e sz D =>
            obtain ⟨b, hf, e1, e2⟩ := hobj
            exact ⟨b, hf, by rw [h5]; exact e1, e2.stay hst rfl (fun _ _ _ _ _ => rfl)⟩
        exact RepO.sub hst3 hmv3 hom h6 this
      · simp only [ρ3, hj]
      · obtain ⟨g1, g2, _⟩ := hρ3 i L h1
        obtain ⟨g3, g4, _⟩ := hρ3 j L' h2
        exact ht2 i j g1 g3 (hA'.s.apart _ _ L L' b g2 g4 h3 h4)
      · obtain ⟨g1, g2, _⟩ := hρ3 j L h1
        exact hA'.s.xb _ L b g2 h2
      · refine ⟨hA'.base.block, fun b hb => hA'.base.own b (hown b ((hown3 b).1 hb)), hA'.base.size, hA'.base.os, hA'.base.tape, hA'.base.output⟩
      · intro j L' hj hL
        obtain ⟨g1, g2, _⟩ := hρ3 j L' hL
        rw [ht1 j hj] at g2
        exact hA'.moves j L' hj g2
  cases e with
  | normal => exact fin hq
  | ret => exact fin hq
  | _ => exact hq.elim
end
end Go.Hl
