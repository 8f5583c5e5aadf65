/- HL, part I: append. By an AI agent. -/
import Derived.Test.YtbmeabkgdpfpbaaHlH
set_option linter.unusedSimpArgs false
set_option linter.unusedVariables false
namespace Go.Hl
open Go

section
variable {P : Program} {c : Ctx} {M M' : Nat → Prop} {fr : Fr} {ob : Ob} {a : Act} {w w' : World} {ρ : Env}

/-- A slice of one's own gets a new header (a new one, or one that has grown). -/
theorem RepA'.rehdr {d : Option Nat} {id0 n' sz : Nat} {e : TypeId} {l' : List CV} {v' : Value}
    (h : RepA' c M fr ob a w ρ) (hM : ∀ i, M i → M' i) (hM' : M' id0) (hold : (¬ M id0) ∨ ∃ h0, ρ id0 = some (.hdr h0) ∧ hlen h0 < hlen v')
    (e1 : w'.os = w.os) (e2 : w'.tape = w.tape) (e3 : w'.output = w.output) (e4 : w.heap.size ≤ w'.heap.size)
    (hb : ∀ b, b < w.heap.size → (∀ L, ρ id0 = some L → ¬ L.has b) → w'.heap[b]? = w.heap[b]?)
    (hv : ∀ g, v'.ownBlock = some g → w.heap.size ≤ g ∨ ∃ L, ρ id0 = some L ∧ L.has g)
    (hv1 : v'.oneCell' = true) (hn : hlen v' = n')
    (hO : Stay w (Owned ρ c.X) w' (Owned (upd ρ id0 (some (.hdr v'))) c.X) → RepO w' (upd ρ id0 (some (.hdr v'))) (Owned (upd ρ id0 (some (.hdr v'))) c.X) id0 (.row e sz l'))
    (hd : ∀ k, d = some k → k < c.n) :
    RepA' c M' (updo fr d (.own id0 n')) (upd ob id0 (some (.row e sz l'))) (a.put d v') w' (upd ρ id0 (some (.hdr v'))) := by
  have hown : ∀ b, Own (upd ρ id0 (some (.hdr v'))) b → Own ρ b ∨ w.heap.size ≤ b := by
    rintro b ⟨id, L', h1, h2⟩
    by_cases e : id = id0
    · subst e
      rw [upd_same] at h1
      cases h1
      rcases hv b h2 with h | ⟨L, h3, h4⟩
      · exact .inr h
      · exact .inl ⟨id, L, h3, h4⟩
    · rw [upd_ne _ _ e] at h1; exact .inl ⟨id, L', h1, h2⟩
  have hs : Stay2 w (Own ρ) w' (Own (upd ρ id0 (some (.hdr v')))) :=
    ⟨fun b hb' hO => hb b hb' (fun L h1 h2 => hO ⟨id0, L, h1, h2⟩), hown, e4, e1, e2, e3⟩
  have hmv : Moves M ρ (upd ρ id0 (some (.hdr v'))) := by
    intro id L' hm h1
    by_cases e : id = id0
    · subst e
      rw [upd_same] at h1
      cases h1
      rcases hold with h2 | ⟨h0, h2, h3⟩
      · exact absurd hm h2
      · exact ⟨_, h2, .inr (.inl ⟨h0, v', rfl, rfl, h3⟩)⟩
    · rw [upd_ne _ _ e] at h1; exact ⟨L', h1, .inl rfl⟩
  refine h.step hM hs hmv ⟨fun id o' ho' => ?_, fun id hid => ?_, ?_, ?_⟩ (.inr ?_) (by simpa [HV.men] using hM') (fun id o' ho' => ?_) hd
  · by_cases e : id = id0
    · subst e
      rw [upd_same] at ho'
      cases ho'
      exact hO (hs.stay c.X)
    · rw [upd_ne _ _ e] at ho'
      refine RepO.stay (hs.stay c.X) hmv (h.mo id o' ho').2 (upd_ne _ _ e) (fun L b h1 h2 => hb b (Owned.lt h.s h1 h2) (fun L' h3 h4 => ?_)) (h.s.objs id o' ho')
      exact e (h.s.apart id id0 L L' b h1 h3 h2 h4)
  · by_cases e : id = id0
    · subst e; rw [upd_same] at hid; cases hid
    · rw [upd_ne _ _ e] at hid ⊢; exact h.s.none id hid
  · have key : ∀ id' L2 b, id' ≠ id0 → ρ id' = some L2 → L2.has b → v'.ownBlock = some b → False := by
      intro id' L2 b hne h2 h4 h3
      have hlt' := Owned.lt h.s h2 h4
      rcases hv b h3 with h5 | ⟨L, h5, h6⟩
      · omega
      · exact hne (h.s.apart id' id0 L2 L b h2 h5 h4 h6)
    intro id id' L1 L2 b h1 h2 h3 h4
    by_cases e : id = id0 <;> by_cases e' : id' = id0
    · rw [e, e']
    · subst e
      rw [upd_same] at h1; rw [upd_ne _ _ e'] at h2
      cases h1
      exact (key id' L2 b e' h2 h4 h3).elim
    · subst e'
      rw [upd_same] at h2; rw [upd_ne _ _ e] at h1
      cases h2
      exact (key id L1 b e h1 h3 h4).elim
    · rw [upd_ne _ _ e] at h1; rw [upd_ne _ _ e'] at h2
      exact h.s.apart id id' L1 L2 b h1 h2 h3 h4
  · intro id L' b h1 h2
    by_cases e : id = id0
    · subst e
      rw [upd_same] at h1
      cases h1
      rcases hv b h2 with h5 | ⟨L, h5, h6⟩
      · exact fun hx => absurd (Nat.lt_of_lt_of_le (h.xlt _ hx) h.base.size) (by omega)
      · exact h.s.xb id L b h5 h6
    · rw [upd_ne _ _ e] at h1
      exact h.s.xb id L' b h1 h2
  · refine repV_mk ?_ rfl (oneCell_isAgg hv1)
    simp only [RepH]
    refine ⟨_, rfl, hv1, fun hd' hρ => ?_⟩
    rw [upd_same] at hρ
    cases hρ
    exact ⟨Nat.le_of_eq hn.symm, fun _ => rfl⟩
  · by_cases e : id = id0
    · subst e; rw [upd_same] at ho'; cases ho'; exact ⟨hM', trivial⟩
    · rw [upd_ne _ _ e] at ho'
      obtain ⟨h1, h2⟩ := h.mo id o' ho'
      refine ⟨hM _ h1, ?_⟩
      cases o' with
      | box t v => exact HV.men_mono hM h2
      | row _ _ _ => trivial
      | mp _ _ _ => trivial

/-- A slice that is only read. -/
def hread (x : HV) (ob : Ob) : Option (List CV) :=
  match x with
  | .c (.slc l) => some l
  | .c .nils => some []
  | .own id n => match ob id with
    | some (.row _ _ l) => if n = l.length then some l else none
    | _ => none
  | _ => none

theorem read_sound (h : RepA' c M fr ob a w ρ) {x : Operand} {l : List CV} (hx : hread (ev fr x) ob = some l) :
    ∃ ad m cap xs, a.eval x = .slice ad m cap ∧ m = l.length ∧ RepL w (Owned ρ c.X) l xs ∧ (ad = none → m = 0) ∧ (∀ b, ad = some b → ∀ j u, xs[j]? = some u → w.cell? (b.add j) = some u) ∧ m ≤ cap ∧ (ad = none → cap = 0) := by
  unfold hread at hx
  split at hx
  · rename_i l' he
    cases hx
    obtain ⟨ad, cap, xs, sz, h1, h2, h3, h4, h5, h6⟩ := slc_of h he
    exact ⟨ad, _, cap, xs, h1, rfl, h2, fun hn => by have := h5 hn; omega, fun b hb => (h6 b hb).1, h4, h5⟩
  · rename_i he
    cases hx
    exact ⟨none, 0, 0, [], nils_of h he, rfl, by simp [RepL], fun _ => rfl, fun b hb => (by cases hb), Nat.le_refl _, fun _ => rfl⟩
  · rename_i id n he
    split at hx
    · rename_i t sz l' ho
      split at hx
      · rename_i hn
        cases hx
        obtain ⟨hd, xs, h1, h2, h3, h4, h5, h6⟩ := own_live h he ho hn
        rcases h6.2 with ⟨rfl, hz⟩ | ⟨g, cap, cur, rfl, hg0, hg, hcap, _⟩
        · have hxs : xs = [] := List.eq_nil_of_length_eq_zero (by rw [h6.1, hz]; simp)
          exact ⟨none, 0, 0, xs, h2, by rw [← hn, hz], h4, fun _ => rfl, fun b hb => (by cases hb), Nat.le_refl _, fun _ => rfl⟩
        · refine ⟨some ⟨g, 0, none⟩, n, cap, xs, h2, hn, h4, fun hb => (by cases hb), fun b hb => ?_, hcap, fun hb => (by cases hb)⟩
          cases hb
          exact h6.cells (g := g) rfl
      · cases hx
    · cases hx
  · cases hx

def happend (P : Program) (t : TypeId) (s x : HV) (nid : Nat) (ob : Ob) (K : HV → Ob → Prop) : Prop :=
  hlift (tyOf P t) fun ti => match ti.d with
    | .slice e => hlift (tyOf P e) fun te => hlift (hread x ob) fun l2 => (∀ v ∈ l2, v.cells = te.size) ∧
      match s with
      | .own id n => match ob id with
        | some (.row e' sz l) => (n = l.length ∧ e' = e ∧ sz = te.size) ∧ (l.length + l2.length) * te.bytes ≤ 140737488355328 ∧ l.length + l2.length ≤ maxLen ∧ K (.own id (l ++ l2).length) (upd ob id (some (.row e sz (l ++ l2))))
        | _ => False
      | .c .nils => l2.length * te.bytes ≤ 140737488355328 ∧ l2.length ≤ maxLen ∧ K (.own nid l2.length) (upd ob nid (some (.row e te.size l2)))
      | _ => False
    | _ => False

theorem ownsRow_size {base : Nat} {e : TypeId} {sz n : Nat} {v : Value} {xs : List Value} (h : w.ownsRow base e sz v n xs) : hlen v = n := by
  rcases h.2 with ⟨rfl, hz⟩ | ⟨g, cap, cur, rfl, _⟩
  · simp [hlen, hz]
  · simp [hlen]

/-- THE APPEND's RUN, with its exact worlds. -/
theorem append_exact {t ty e : TypeId} {i : TypeInfo} {z : Value} (ht : P.underlying t = some (.slice e)) (hi : P.info? e = some i) (hz : i.zero = some z) (hzs : z.cells.size = i.size)
    (v : Value) (n : Nat) (xs : List Value) (hown : w.ownsRow 0 e i.size v n xs) (ad : Option Addr) (m cp : Nat) (news : List Value) (hl : news.length = m * i.size) (hnone : ad = none → m = 0)
    (hnews : ∀ b, ad = some b → ∀ j u, news[j]? = some u → w.cell? (b.add j) = some u) (h1 : ∀ u ∈ news, u.oneCell' = true)
    (h63 : n + m ≤ maxLen) (hbytes : (n + m) * i.bytes ≤ 140737488355328) :
    ∃ v' w', (Builtin.append_ #[t, t] ty #[v, .slice ad m cp]).run P w = .ok v' w' ∧ w'.ownsRow 0 e i.size v' (n + m) (xs ++ news) ∧ w.grownBy w' v.ownBlock ∧
      (v'.ownBlock = v.ownBlock ∨ v'.ownBlock = some w.heap.size) ∧ (m = 0 → v' = v ∧ w' = w) := by
  by_cases hm : m = 0
  · subst hm
    have hn0 : news = [] := List.eq_nil_of_length_eq_zero (by rw [hl]; simp)
    subst hn0
    have hfc : ∀ w : World, (Builtin.firstCells i.size 0 (.slice ad 0 cp)).run P w = .ok #[] w := by
      intro w; cases ad <;> simp [Builtin.firstCells, loadCells, loadCellsFrom]
    refine ⟨v, w, ?_, by simpa using hown, ⟨rfl, rfl, rfl, Nat.le_refl _, fun _ _ _ => rfl⟩, .inl rfl, fun _ => ⟨rfl, rfl⟩⟩
    rcases hown.2 with ⟨rfl, rfl⟩ | ⟨g, cap, cur, rfl, _, hg, hnc, _⟩
    · simp [Builtin.append_, run_underlying ht, sizeOf, typeInfo, hi, Builtin.lenOf, hfc]
    · simp [Builtin.append_, run_underlying ht, sizeOf, typeInfo, hi, Builtin.lenOf, hfc, hnc, storeCells]
  · cases ad with
    | none => exact absurd (hnone rfl) hm
    | some b =>
      have hnews := hnews b rfl
      have hlen : (xs ++ news).length = (n + m) * i.size := by rw [List.length_append, hown.1, hl, Nat.add_mul]
      have hsmall : n + m ≤ 9223372036854775807 := by simp only [maxLen] at h63; omega
      have grown : ∀ (old : Nat), old < n + m → ∀ (row : Option Nat),
          (w.drew.alloc (.cells (xs.toArray ++ news.toArray ++ Builtin.zeroCells z.cells (grownCap w (n + m) old e - (n + m))) e)).ownsRow 0 e i.size
            (.slice (some ⟨w.heap.size, 0, none⟩) (n + m) (grownCap w (n + m) old e)) (n + m) (xs ++ news) ∧
          w.grownBy (w.drew.alloc (.cells (xs.toArray ++ news.toArray ++ Builtin.zeroCells z.cells (grownCap w (n + m) old e - (n + m))) e)) row := by
        intro old _ row
        have hge := grownCap_ge w (n + m) old e
        have hcm : grownCap w (n + m) old e ≤ maxLen := grownCap_le_maxLen w (n + m) old e h63
        refine ⟨⟨hlen, .inr ⟨w.heap.size, _, _, rfl, Nat.zero_le _, heap_alloc_new w.drew _, hge, hcm, ?_, ?_⟩⟩, ⟨rfl, rfl, rfl, by simp, fun k hk _ => Go.heap_alloc_old w.drew _ hk⟩⟩
        · simp only [Array.size_append, List.size_toArray, size_zeroCells, hzs, hown.1, hl, ← Nat.add_mul]
          congr 1
          omega
        · simp only [Array.toList_append, List.append_assoc]
          rw [← List.append_assoc, ← hlen]
          exact List.take_left
      rcases hown.2 with ⟨rfl, rfl⟩ | ⟨g, cap, cur, rfl, hbg, hg, hnc, hcm, hcs, htake⟩
      · have hx : xs = [] := List.eq_nil_of_length_eq_zero (by simpa using hown.1)
        subst hx
        have hr := run_append_nil (P := P) w t ty e i z ht hi hz b m cp news hl hnews (by omega) (by omega) (by have hb := hbytes; simp only [Nat.zero_add] at hb; omega)
        have hgr := grown 0 (by omega) (Value.ownBlock (.slice none 0 0))
        simp only [Nat.zero_add, List.nil_append, Array.empty_append] at hgr ⊢
        exact ⟨_, _, hr, hgr.1, hgr.2, .inr (by simp [Value.ownBlock]), fun h => absurd h hm⟩
      · by_cases hroom : n + m ≤ cap
        · have hfit : n * i.size + news.length ≤ cur.size := by rw [hl, hcs, ← Nat.add_mul]; exact Nat.mul_le_mul_right _ hroom
          have hr := run_append_room (P := P) w t ty e i ht hi g n cap cur hg b m cp news hl hnews h1 hroom hfit
          refine ⟨_, _, hr, ⟨hlen, .inr ⟨g, cap, _, rfl, hbg, setRow_heap w g cur _ e _ hg, hroom, hcm, ?_, ?_⟩⟩, ⟨rfl, rfl, rfl, by simp, fun k _ hk => setRow_other w g k _ (fun e => hk (by simp [Value.ownBlock, e]))⟩, .inl (by simp [Value.ownBlock]), fun h => absurd h hm⟩
          · simp only [List.size_toArray, List.length_append, List.length_take, List.length_drop, Array.length_toList]
            omega
          · rw [htake, ← hlen]
            exact List.take_left
        · have holds : ∀ j u, xs[j]? = some u → w.cell? ((⟨g, 0, none⟩ : Addr).add j) = some u := hown.cells (g := g) rfl
          have hr := run_append_grow (P := P) w t ty e i z ht hi hz ⟨g, 0, none⟩ n cap xs hown.1 holds b m cp news hl hnews (by omega) (by omega) (growslice_fits (by omega) hbytes)
          have hgr := grown cap (by omega) (Value.ownBlock (.slice (some ⟨g, 0, none⟩) n cap))
          exact ⟨_, _, hr, hgr.1, hgr.2, .inr (by simp [Value.ownBlock]), fun h => absurd h hm⟩

theorem repL_len_mul {O : Nat → Prop} {sz : Nat} : ∀ {l : List CV} {xs : List Value}, RepL w O l xs → (∀ v ∈ l, v.cells = sz) → xs.length = l.length * sz
  | [], xs, h, _ => by simp only [RepL] at h; simp [h]
  | v :: vs, xs, h, hc => by
    simp only [RepL] at h
    obtain ⟨c1, c2, rfl, h1, h2⟩ := h
    rw [List.length_append, repC_len h1, hc v (by simp), repL_len_mul h2 (fun u hu => hc u (by simp [hu])), List.length_cons, Nat.add_mul]
    omega

theorem append_sound (h : RepA' c M fr ob a w ρ) {nid : Nat} (hn : ¬ M nid) (hM : ∀ i, M i → M' i) (hM' : M' nid) {t ty : TypeId} {s x : Operand} {K : HV → Ob → Prop}
    (hl : happend P t (ev fr s) (ev fr x) nid ob K) (d : Option Nat) (hd : ∀ k, d = some k → k < c.n) :
    ∃ v ob' y w' ρ', K v ob' ∧ (Builtin.append_ #[t, t] ty #[a.eval s, a.eval x]).run P w = .ok y w' ∧ RepA' c M' (updo fr d v) ob' (a.put d y) w' ρ' := by
  unfold happend at hl
  rw [hlift_iff] at hl
  obtain ⟨ti, ht, hl⟩ := hl
  obtain ⟨i0, d0, zv0, hty⟩ := tyOf_ok ht
  split at hl
  · rename_i e hde
    rw [hlift_iff] at hl
    obtain ⟨te, hte, hl⟩ := hl
    obtain ⟨ie, de, zve, htye⟩ := tyOf_ok hte
    rw [hlift_iff] at hl
    obtain ⟨l2, hx, hc2, hl⟩ := hl
    have hdd := hty.d_
    rw [hde] at hdd
    have hu : P.underlying t = some (.slice e) := by
      rw [hty.under]; congr 1
      cases d0 <;> simp [tyd] at hdd
      rw [hdd]
    obtain ⟨ad, m, cp, news, he, hm, hrl, hnone, hcells, _, _⟩ := read_sound h hx
    have hnl : news.length = m * ie.size := by rw [repL_len_mul hrl hc2, hm, htye.size]
    have hzs : zve.cells.size = ie.size := by rw [htye.zsize, htye.size]
    split at hl
    · rename_i id n hs
      split at hl
      · rename_i e' sz l ho
        obtain ⟨⟨rfl, rfl, rfl⟩, hb, hmx, hK⟩ := hl
        obtain ⟨hdv, xs, hρ, hse, hlen, hl1, hcs, how⟩ := own_live h hs ho rfl
        rw [← htye.size] at how
        obtain ⟨v', w', hrun, how', hgr, hblk, hm0⟩ := append_exact (P := P) (ty := ty) hu htye.info htye.zero hzs hdv l.length xs how ad m cp news hnl hnone hcells (repL_one hrl) (by rw [hm]; exact hmx) (by rw [hm, htye.bytes]; exact hb)
        by_cases hmz : m = 0
        · obtain ⟨hv', hw'⟩ := hm0 hmz
          rw [hv', hw'] at hrun
          have hl2 : l2 = [] := List.eq_nil_of_length_eq_zero (by rw [← hm]; exact hmz)
          subst hl2
          refine ⟨_, _, _, _, ρ, hK, by rw [hse, he]; exact hrun, ?_⟩
          have hob : upd ob id (some (.row e' te.size (l ++ []))) = ob := by
            funext k
            by_cases hk : k = id
            · subst hk; rw [upd_same, ho]; simp
            · rw [upd_ne _ _ hk]
          rw [hob]
          have hmen : HV.men M (.own id (l ++ []).length) := by simpa [HV.men] using (h.mo id _ ho).1
          have hv2 : RepV w ρ (Owned ρ c.X) (.own id (l ++ []).length) hdv := by
            refine repV_mk ?_ rfl ?_
            · simp only [RepH]
              refine ⟨_, rfl, ?_, fun hd' h1 => ?_⟩
              · rcases how.2 with ⟨rfl, _⟩ | ⟨g, cap, cur, rfl, _⟩ <;> simp [Value.oneCell']
              · rw [hρ] at h1; cases h1; exact ⟨by simp [hlen], fun _ => rfl⟩
            · rcases how.2 with ⟨rfl, _⟩ | ⟨g, cap, cur, rfl, _⟩ <;> simp [Value.isAgg']
          have := h.value (d := d) (.inr hv2) hmen hd
          exact ⟨this.s, this.f, fun t => HV.men_mono hM (this.mf t), fun id o ho => ⟨hM _ (this.mo id o ho).1, by
            have h2 := (this.mo id o ho).2
            cases o with
            | box t v => exact HV.men_mono hM h2
            | row _ _ _ => trivial
            | mp _ _ _ => trivial⟩, fun id hid => hM _ (this.m0 id hid), this.base, this.moves, this.defers, this.size, this.xlt⟩
        · have hlv : Hl.hlen v' = l.length + m := ownsRow_size how'
          refine ⟨_, _, _, _, upd ρ id (some (.hdr v')), hK, by rw [hse, he]; exact hrun, ?_⟩
          refine h.rehdr hM (hM _ (h.mo id _ ho).1) (.inr ⟨hdv, hρ, by omega⟩) hgr.os hgr.tape hgr.output hgr.size (fun b hb' hne => hgr.block b hb' (fun e => hne _ hρ (by simpa [Loc.has] using e.symm)))
            (fun g hg => ?_) ?_ (by rw [hlv, List.length_append, hm]) (fun hst => ?_) hd
          · rcases hblk with hb2 | hb2
            · exact .inr ⟨_, hρ, by simpa [Loc.has] using hb2.symm.trans hg⟩
            · rw [hb2] at hg; cases hg; exact .inl (Nat.le_refl _)
          · rcases how'.2 with ⟨rfl, _⟩ | ⟨g, cap, cur, rfl, _⟩ <;> simp [Value.oneCell']
          · refine ⟨v', xs ++ news, upd_same _ _ _, repL_append.2 ⟨xs, news, rfl, hl1.stay hst, hrl.stay hst⟩, fun v hv => ?_, ?_⟩
            · rcases List.mem_append.1 hv with hv | hv
              · exact hcs v hv
              · exact hc2 v hv
            · rw [List.length_append, ← hm, ← htye.size]; exact how'
      · exact hl.elim
    · rename_i hs
      obtain ⟨hb, hmx, hK⟩ := hl
      obtain ⟨v', w', hrun, how', hgr, hblk, hm0⟩ := append_exact (P := P) (ty := ty) hu htye.info htye.zero hzs (.slice none 0 0) 0 [] (World.ownsRow_nil w 0 e ie.size) ad m cp news hnl hnone hcells (repL_one hrl)
        (by rw [hm]; simpa using hmx) (by rw [hm, htye.bytes]; simpa using hb)
      have hlv : Hl.hlen v' = m := by have := ownsRow_size how'; simpa using this
      obtain ⟨hob0, hρ0⟩ := h.nid_none hn
      refine ⟨_, _, _, _, upd ρ nid (some (.hdr v')), hK, by rw [nils_of h hs, he]; exact hrun, ?_⟩
      refine h.rehdr hM hM' (.inl hn) hgr.os hgr.tape hgr.output hgr.size (fun b hb' _ => hgr.block b hb' (by simp [Value.ownBlock]))
        (fun g hg => ?_) ?_ (by rw [hlv, hm]) (fun hst => ?_) hd
      · rcases hblk with hb2 | hb2
        · rw [hb2] at hg; simp [Value.ownBlock] at hg
        · rw [hb2] at hg; cases hg; exact .inl (Nat.le_refl _)
      · rcases how'.2 with ⟨rfl, _⟩ | ⟨g, cap, cur, rfl, _⟩ <;> simp [Value.oneCell']
      · refine ⟨v', news, upd_same _ _ _, hrl.stay hst, hc2, ?_⟩
        rw [← hm, ← htye.size]; simpa using how'
    · exact hl.elim
  · exact hl.elim
end
end Go.Hl
