/- HL, part V: a walk in one order, with the orders' checks made ahead. By an AI agent. -/
import Derived.Test.YtbmeabkgdpfpbaaHlU
set_option linter.unusedSimpArgs false
set_option linter.unusedVariables false
namespace Go.Hl
open Go

def quietAt (ops : Array Oper) (p : Nat) : Bool := match ops[p]? with | some o => isQuiet o.op | none => true
def effAt (ops : Array Oper) (p : Nat) : Bool := match ops[p]? with | some o => isEff o.op | none => false
def ids4 (nx p : Nat) : List Nat := [nx + 4 * p, nx + 4 * p + 1, nx + 4 * p + 2, nx + 4 * p + 3]
def getF (C : Pend) (p : Nat) : List Nat := C.flatMap fun q => if q.1 = p then q.2 else []

abbrev Plan := List (Nat × List Nat × List Nat)
def hwalk2 (P : Program) (ops : Array Oper) (nx : Nat) (Q : Fr → Ob → Prop) : Plan → Pend → Fr → Ob → Prop
  | [], _, fr, ob => Q fr ob
  | (i, cr, rd) :: rest, C, fr, ob => hopI P ops nx (cr.flatMap (ids4 nx) ++ rd.flatMap (getF C)) i (hwalk2 P ops nx Q rest (match ops[i]? with
      | some o => if isEff o.op = true then C else (i, if hguard ops o fr = some true then touch o.op (ev fr) else []) :: C
      | none => C)) fr ob

def chk (ops : Array Oper) (wt : Nat → Nat → Bool) : Plan → List Nat → Bool
  | [], _ => true
  | (i, cr, rd) :: rest, T => T.all (fun p => wt i p || ((quietAt ops p || cr.contains p) && (!(effAt ops i) || rd.contains p))) && chk ops wt rest (if effAt ops i then T else i :: T)

theorem hopI_av {P : Program} {ops : Array Oper} {nx : Nat} {av av' : List Nat} {i : Nat} {K : Fr → Ob → Prop} {fr : Fr} {ob : Ob} (hav : ∀ id, (ob id).isSome = true → id ∈ av → id ∈ av') (h : hopI P ops nx av' i K fr ob) :
    hopI P ops nx av i (fun fr' ob' => K fr' ob' ∧ (∀ id, ob id = none → (quietAt ops i = true ∨ ¬ (nx + 4 * i ≤ id ∧ id < nx + 4 * i + 4)) → ob' id = none)) fr ob := by
  unfold hopI at h ⊢
  cases ho : ops[i]? with
  | none => rw [ho] at h; exact h.elim
  | some o =>
    rw [ho] at h
    simp only at h ⊢
    cases hg : hguard ops o fr with
    | none => rw [hg] at h; exact h.elim
    | some b =>
      rw [hg] at h
      cases b with
      | false => exact ⟨h, fun id h1 _ => h1⟩
      | true =>
        simp only at h ⊢
        unfold hstep at h ⊢
        cases hc : hcallOf o.op with
        | none =>
          rw [hc] at h
          simp only at h ⊢
          obtain ⟨v, u, hK, hform, hid, hq⟩ := hop_form2 h.2
          refine ⟨fun id hi => ⟨fun hin => (h.1 id hi).1 (hav id (h.1 id hi).2 hin), (h.1 id hi).2⟩, hform ob (fun _ _ => rfl) _ ⟨hK, fun id h1 h2 => ?_⟩⟩
          rw [app_other (fun p hp e => ?_)]
          · exact h1
          · rcases hid p hp with h3 | ⟨_, h3⟩
            · rcases h2 with h2 | h2
              · simp only [quietAt, ho] at h2
                rw [hq h2] at hp; cases hp
              · exact h2 ⟨by omega, by omega⟩
            · have := (h.1 _ h3).2
              rw [e, h1] at this; cases this
        | some p =>
          obtain ⟨f, xs⟩ := p
          rw [hc] at h
          simp only at h ⊢
          refine ⟨h.1, ?_⟩
          have h := h.2
          have hnq : quietAt ops i = false := by
            simp only [quietAt, ho]
            cases hop' : o.op <;> rw [hop'] at hc <;> simp only [hcallOf] at hc <;> try cases hc
            rename_i cl
            cases hcc : cl.callee <;> rw [hcc] at hc <;> simp only at hc <;> first | (cases hc; done) | simp [isQuiet, hcc]
          have hcall : ∀ g args, HCall P av' g args ob (nx + 4 * i) (fun v ob' => K (updo fr o.dst v) ob') → HCall P av g args ob (nx + 4 * i) (fun v ob' => K (updo fr o.dst v) ob' ∧ (∀ id, ob id = none → (quietAt ops i = true ∨ ¬ (nx + 4 * i ≤ id ∧ id < nx + 4 * i + 4)) → ob' id = none)) := by
            rintro g args ⟨σ, largs, lob, R, h1, h2, h3, h5, h6, h7⟩
            have hσ : ∀ j, j < σ.length → (ob (σ.getD j 0)).isSome = true := fun j hj => by
              obtain ⟨o', ho'⟩ := h2.all j hj
              rw [h6 j o' ho']; rfl
            refine ⟨σ, largs, lob, R, h1, h2, ⟨h3.1, fun s hs hin => ?_⟩, h5, h6, fun r lob' hR hr => ⟨h7 r lob' hR hr, fun id e1 e2 => ?_⟩⟩
            · obtain ⟨j, hj, rfl⟩ := List.getElem_of_mem hs
              have := hσ j hj
              rw [List.getD_eq_getElem?_getD, List.getElem?_eq_getElem hj, Option.getD_some] at this
              exact h3.2 _ hs (hav _ this hin)
            · unfold obAfter
              split
              · rename_i j hj
                exfalso
                rw [List.findIdx?_eq_some_iff_getElem] at hj
                obtain ⟨hj1, hj2, _⟩ := hj
                have := hσ j hj1
                rw [List.getD_eq_getElem?_getD, List.getElem?_eq_getElem hj1, Option.getD_some] at this
                simp only [beq_iff_eq] at hj2
                rw [hj2, e1] at this; cases this
              · rcases e2 with e2 | e2
                · rw [hnq] at e2; cases e2
                · rw [if_neg e2]; exact e1
          split at h
          · exact hcall _ _ h
          · exact hcall _ _ h
          · exact h.elim

theorem hwalk_of2 {P : Program} {ops : Array Oper} {nx : Nat} {wt : Nat → Nat → Bool} {Q : Fr → Ob → Prop} : ∀ (plan : Plan) (C : Pend) (fr : Fr) (ob : Ob), chk ops wt plan (C.map (·.1)) = true →
    (∀ p, quietAt ops p = true → ∀ t, t < 4 → ob (nx + 4 * p + t) = none) → hwalk2 P ops nx Q plan C fr ob → hwalk P ops nx wt Q (plan.map (·.1)) C fr ob
  | [], C, fr, ob, _, _, h => h
  | (i, cr, rd) :: rest, C, fr, ob, hc, hn, h => by
    simp only [hwalk2, hwalk, List.map_cons, chk, Bool.and_eq_true] at h hc ⊢
    have hav : ∀ id, (ob id).isSome = true → id ∈ avoid ops nx wt C i → id ∈ cr.flatMap (ids4 nx) ++ rd.flatMap (getF C) := by
      intro id hs hid
      simp only [avoid, List.mem_flatMap] at hid
      obtain ⟨p, hp, hid⟩ := hid
      have hT := List.all_eq_true.1 hc.1 p.1 (List.mem_map.2 ⟨p, hp, rfl⟩)
      split at hid
      · simp at hid
      · rename_i hw
        have hw' : wt i p.1 = false := by simpa using hw
        simp only [hw', Bool.false_or, Bool.and_eq_true, Bool.or_eq_true, Bool.not_eq_true'] at hT
        rcases List.mem_append.1 hid with hid | hid
        · rcases hT.1 with hq | hq
          · simp only [List.mem_cons, List.not_mem_nil, or_false] at hid
            have : ∃ t, t < 4 ∧ id = nx + 4 * p.1 + t := by
              rcases hid with e | e | e | e
              · exact ⟨0, by omega, e⟩
              · exact ⟨1, by omega, e⟩
              · exact ⟨2, by omega, e⟩
              · exact ⟨3, by omega, e⟩
            obtain ⟨t, ht, rfl⟩ := this
            rw [hn _ hq t ht] at hs; cases hs
          · refine List.mem_append_left _ (List.mem_flatMap.2 ⟨p.1, by simpa using hq, hid⟩)
        · split at hid
          · rename_i he
            have he' : effAt ops i = true := by
              simp only [effAt]
              cases ho : ops[i]? with
              | none => exact absurd h (by simp [hopI, ho])
              | some o => rw [ho] at he; simpa using he
            rcases hT.2 with h' | h'
            · rw [he'] at h'; cases h'
            · refine List.mem_append_right _ (List.mem_flatMap.2 ⟨p.1, by simpa using h', ?_⟩)
              exact List.mem_flatMap.2 ⟨p, hp, by simpa using hid⟩
          · simp at hid
    refine hopI_mono (fun _ h => h) (fun fr' ob' hK => ?_) (hopI_av hav h)
    refine hwalk_of2 rest _ fr' ob' ?_ (fun p hq t ht => ?_) hK.1
    · have := hc.2
      cases ho : ops[i]? with
      | none => simp only [effAt, ho] at this; exact absurd h (by simp [hopI, ho])
      | some o =>
        simp only [effAt, ho] at this ⊢
        by_cases he : isEff o.op = true
        · simpa [he] using this
        · simpa [he] using this
    · refine hK.2 _ (hn p hq t ht) ?_
      by_cases e : i = p
      · subst e; exact .inl hq
      · exact .inr (by omega)

theorem hw_draw2 {P : Program} {n k : Nat} {Q : HPost} {fr : Fr} {ob : Ob} {nx id : Nat} {ops : Array Oper} (hm : P.follows .mixedOrders = true) (plan : Plan) (ms : List Nat) (hd : dstOk n ops = true) (hp : planOk ops (plan.map (·.1)) (Array.replicate ops.size false) = true) (hw1 : wtOkB ops ms = true)
    (hw2 : ms.all (fun m => decide (m < 2 ^ ms.length)) = true) (hl : plan.length = ops.size) (hc : chk ops (wtOf ms) plan [] = true)
    (h : hwalk2 P ops nx (fun fr' ob' => Q .normal fr' ob' (nx + 4 * ops.size)) plan [] fr ob) : Hw P n k (.region id ops true) Q fr ob nx := by
  intro c a w hn hk hA
  have hf : ∀ id, nx ≤ id → ob id = none := fun id hid => by
    obtain ⟨ρ, hA'⟩ := hA
    exact (hA'.nid_none (nid := id) (by omega)).1
  exact hw_draw hm (plan.map (·.1)) ms hd hp hw1 hw2 (by simpa using hl) (hwalk_of2 plan [] fr ob hc (fun p _ t _ => hf _ (by omega)) h) c a w hn hk hA

/-! ## Calls of pure functions -/
theorem call_pure {P : Program} {av : List Nat} {f : FuncId} {ob : Ob} {nid : Nat} {K : HV → Ob → Prop} {args : List CV} {R : CV → Prop} (h : HPure P f args R) (hfree : ob nid = none ∧ ob (nid + 1) = none ∧ ob (nid + 2) = none ∧ ob (nid + 3) = none) (hK : ∀ v, R v → K (.c v) ob) :
    HCall P av f (args.map .c) ob nid K := by
  refine ⟨[], args.map .c, none0, _, h, locOk_nil args, ⟨List.nodup_nil, by simp⟩, (HV.renL_c _ _).symm, fun j o h => by simp [none0] at h, fun r lob' hR _ => ?_⟩
  obtain ⟨v, rfl, hv, rfl⟩ := hR
  rw [obAfter_nil (fun i h1 h2 => ?_)]
  · exact hK v hv
  · have : i = nid ∨ i = nid + 1 ∨ i = nid + 2 ∨ i = nid + 3 := by omega
    rcases this with rfl | rfl | rfl | rfl
    · exact hfree.1
    · exact hfree.2.1
    · exact hfree.2.2.1
    · exact hfree.2.2.2

theorem denilL_map {α : Type} {f : α → CV} (h : ∀ x, (f x).denil = f x) : ∀ l : List α, CV.denilL (l.map f) = l.map f
  | [] => rfl
  | x :: l => by simp only [List.map_cons, CV.denilL, h, denilL_map h l]
theorem denilL_str (l : List (List UInt8)) : CV.denilL (l.map .str) = l.map .str := denilL_map (fun _ => rfl) l
theorem denilL_int (k : IntKind) (l : List Int) : CV.denilL (l.map (.int k)) = l.map (.int k) := denilL_map (fun _ => rfl) l
theorem cells_mem_str {l : List (List UInt8)} : (∀ v ∈ l.map CV.str, v.cells = 1) ↔ True := by simp [CV.cells]

/-! ## Functions that are handed one box by its address, and closed values -/
def HBox (P : Program) (f : FuncId) (T : TypeId) (v : CV) (args : List CV) (R : CV → CV → Prop) : Prop :=
  HFn P f (.ptr 0 0 :: args.map .c) 1 (fob [(0, .box T (.c v))]) (fun r ob' => ∃ u v', r = .c u ∧ ob' = fob [(0, .box T (.c v'))] ∧ R u v')

theorem locOk_box (T : TypeId) (v : CV) (args : List CV) : LocOk 1 (.ptr 0 0 :: args.map .c) (fob [(0, .box T (.c v))]) := by
  refine ⟨fun j h => ?_, fun id o h => ?_, ?_⟩
  · have : j = 0 := by omega
    subst this
    exact ⟨_, rfl⟩
  · by_cases e : id = 0
    · subst e
      simp only [fob_at, if_true, Option.some.injEq] at h
      subst h
      exact ⟨by omega, by simp [HO.men, HV.men]⟩
    · simp [fob_at, fob_nil, e] at h
  · simp only [HV.menL, HV.men]
    exact ⟨by omega, HV.menL_c⟩

theorem hret_box {ob : Ob} {r w : HV} {T : TypeId} {R : CV → CV → Prop} (cl : List Nat) (u v' : CV) (h : (r.close ob cl).norm = .c u) (hb : ob 0 = some (.box T w)) (hw : (w.close ob cl).norm = .c v') (h0 : 0 ∉ cl) (hR : R u v') :
    HRet 1 r ob (fun r ob' => ∃ u v', r = .c u ∧ ob' = fob [(0, .box T (.c v'))] ∧ R u v') := by
  refine ⟨cl, id, .c u, fob [(0, .box T (.c v'))], ⟨u, v', rfl, rfl, hR⟩, by rw [h]; rfl, fun _ _ => rfl, fun _ _ _ _ h => h, by simp [HV.men], fun j o ho => ?_⟩
  by_cases e : j = 0
  · subst e
    simp only [fob_at, if_true, Option.some.injEq] at ho
    subst ho
    refine ⟨by omega, by simp [HO.men, HV.men], h0, .box T w, hb, ?_⟩
    simp only [hw]
    rfl
  · simp [fob_at, fob_nil, e] at ho

theorem call_box {P : Program} {av : List Nat} {f : FuncId} {ob : Ob} {nid id : Nat} {K : HV → Ob → Prop} {T : TypeId} {v : CV} {args : List CV} {R : CV → CV → Prop} (h : HBox P f T v args R) (hid : ob id = some (.box T (.c v))) (hav : id ∉ av)
    (hfree : ob nid = none ∧ ob (nid + 1) = none ∧ ob (nid + 2) = none ∧ ob (nid + 3) = none) (hK : ∀ u v', R u v' → K (.c u) (upd ob id (some (.box T (.c v'))))) :
    HCall P av f (.ptr id 0 :: args.map .c) ob nid K := by
  refine ⟨[id], .ptr 0 0 :: args.map .c, _, _, h, locOk_box T v args, ⟨by simp, by simpa using hav⟩, ?_, fun j o hj => ?_, fun r lob' hR _ => ?_⟩
  · simp only [HV.renL, HV.ren, HV.renL_c]
    rfl
  · by_cases e : j = 0
    · subst e
      simp only [fob_at, if_true, Option.some.injEq] at hj
      subst hj
      simpa [HO.ren, HV.ren] using hid
    · simp [fob_at, fob_nil, e] at hj
  · obtain ⟨u, v', rfl, rfl, hR⟩ := hR
    have e : obAfter ob [id] nid (fob [(0, .box T (.c v'))]) = upd ob id (some (.box T (.c v'))) := by
      funext i
      by_cases e : i = id
      · subst e
        simp only [obAfter, upd_same, List.findIdx?_cons, beq_self_eq_true, if_true, fob_at, Option.map_some]
        rfl
      · have e' : (id == i) = false := by simp; exact fun h => e h.symm
        simp only [obAfter, List.findIdx?_cons, e', List.findIdx?_nil, Option.map_none, upd_ne _ _ e]
        simp only [Bool.false_eq_true, if_false]
        split
        · rename_i hr
          have h1 : [id].length + (i - nid) ≠ 0 := by simp
          rw [fob_at, if_neg h1, fob_nil]
          have : i = nid ∨ i = nid + 1 ∨ i = nid + 2 ∨ i = nid + 3 := by omega
          rcases this with rfl | rfl | rfl | rfl
          · exact hfree.1.symm
          · exact hfree.2.1.symm
          · exact hfree.2.2.1.symm
          · exact hfree.2.2.2.symm
        · rfl
    rw [e]
    exact hK u v' hR

/-! ## What the simplifier looks at first -/
section
variable {P : Program} {ti : TyI} {t t2 f nid nx i : Nat} {a a' b b' x x' y y' : HV} {ob ob' : Ob} {K : HV → Prop} {KO : HV → Ob → Prop} {KC : CV → Prop}
@[congr] theorem hload_cg (h : a = a') : hload ti a ob K = hload ti a' ob K := by rw [h]
@[congr] theorem hstore_cg (h : a = a') (h2 : b = b') : hstore ti a b ob KO = hstore ti a' b' ob KO := by rw [h, h2]
@[congr] theorem hfieldAddr_cg (h : a = a') : hfieldAddr P t a f ob K = hfieldAddr P t a' f ob K := by rw [h]
@[congr] theorem hindexAddr_cg (h : a = a') (h2 : b = b') : hindexAddr P t a b ob K = hindexAddr P t a' b' ob K := by rw [h, h2]
@[congr] theorem hbuild_cg {ps : List (Nat × Operand)} {e : Operand → HV} {ps' : List (Nat × Operand)} (h : ps = ps') : hbuild ti ps e K = hbuild ti ps' e K := by rw [h]
@[congr] theorem hslice_cg {lo lo' hi hi' : Option HV} (h : a = a') (h1 : lo = lo') (h2 : hi = hi') : hslice P t a lo hi K = hslice P t a' lo' hi' K := by rw [h, h1, h2]
@[congr] theorem hindex_cg (h : a = a') (h2 : b = b') : hindex P t a b K = hindex P t a' b' K := by rw [h, h2]
@[congr] theorem hext_cg (h : a = a') : hext a i K = hext a' i K := by rw [h]
@[congr] theorem hconv_cg (h : a = a') : hconv P t t2 a K = hconv P t t2 a' K := by rw [h]
@[congr] theorem hun_cg {op : UnOp} (h : a = a') : hun op a K = hun op a' K := by rw [h]
@[congr] theorem hclo_cg {l l' : List HV} (h : l = l') : hclo f l K = hclo f l' K := by rw [h]
@[congr] theorem hmax_cg {mx : Bool} (h : a = a') (h2 : b = b') : hmax mx a b K = hmax mx a' b' K := by rw [h, h2]
@[congr] theorem hpick_cg (h : x = x') (h1 : a = a') (h2 : b = b') : hpick x a b K = hpick x' a' b' K := by rw [h, h1, h2]
@[congr] theorem happend_cg (h : a = a') (h2 : b = b') : happend P t a b nid ob KO = happend P t a' b' nid ob KO := by rw [h, h2]
@[congr] theorem happend2_cg (h : a = a') (h2 : b = b') : happend2 P t a b nid ob KO = happend2 P t a' b' nid ob KO := by rw [h, h2]
@[congr] theorem hslice2_cg {lo lo' hi hi' : Option HV} (h : a = a') (h1 : lo = lo') (h2 : hi = hi') (h3 : ob = ob') : hslice2 P t a lo hi ob K = hslice2 P t a' lo' hi' ob' K := by rw [h, h1, h2, h3]
@[congr] theorem hclear_cg (h : a = a') : hclear P t a ob KO = hclear P t a' ob KO := by rw [h]
@[congr] theorem hlookup_cg (h : a = a') (h2 : b = b') : hlookup P t a b ob K = hlookup P t a' b' ob K := by rw [h, h2]
@[congr] theorem hmapUpdate_cg (h : a = a') (h2 : b = b') (h3 : x = x') : hmapUpdate P t a b x ob KO = hmapUpdate P t a' b' x' ob KO := by rw [h, h2, h3]
@[congr] theorem hbin_cg {op : BinOp} (h : a = a') (h2 : b = b') : hbin P op t a b KC = hbin P op t a' b' KC := by rw [h, h2]
@[congr] theorem hint_cg {op : BinOp} {k : IntKind} {m m' n n' : Int} (h : m = m') (h2 : n = n') : hint op k m n KC = hint op k m' n' KC := by rw [h, h2]
@[congr] theorem hshift_cg {op : BinOp} {k : IntKind} {m m' n n' : Int} (h : m = m') (h2 : n = n') : hshift op k m n KC = hshift op k m' n' KC := by rw [h, h2]
@[congr] theorem hstr_cg {op : BinOp} {m m' n n' : List UInt8} (h : m = m') (h2 : n = n') : hstr op m n KC = hstr op m' n' KC := by rw [h, h2]
@[congr] theorem hlex_cg {ops : Array Oper} {G : Fr → Ob → Prop} {l l' : List Nat} {fr fr' : Fr} (h : l = l') (h1 : fr = fr') (h2 : ob = ob') : hlex P ops nx G l fr ob = hlex P ops nx G l' fr' ob' := by rw [h, h1, h2]
@[congr] theorem hwalk2_cg {ops : Array Oper} {G : Fr → Ob → Prop} {l : Plan} {C C' : Pend} {fr fr' : Fr} (h : C = C') (h1 : fr = fr') (h2 : ob = ob') : hwalk2 P ops nx G l C fr ob = hwalk2 P ops nx G l C' fr' ob' := by rw [h, h1, h2]
@[congr] theorem HCall_cg {av av' : List Nat} {l l' : List HV} {n n' : Nat} (h1 : av = av') (h2 : l = l') (h3 : ob = ob') (h4 : n = n') : HCall P av f l ob n KO = HCall P av' f l' ob' n' KO := by rw [h1, h2, h3, h4]
theorem updo_at (fr : Fr) (d : Nat) (v : HV) (t : Nat) : updo fr (some d) v t = if t = d then v else fr t := rfl
theorem updo_none (fr : Fr) (v : HV) : updo fr none v = fr := rfl
theorem hbin_int {op : BinOp} {k k' : IntKind} {m n : Int} : hbin P op t (.c (.int k m)) (.c (.int k' n)) KC = if isShift op then hshift op k m n KC else k = k' ∧ hint op k m n KC := rfl
theorem hbin_str {op : BinOp} {m n : List UInt8} : hbin P op t (.c (.str m)) (.c (.str n)) KC = hstr op m n KC := rfl
theorem hbin_bool {op : BinOp} {m n : Bool} : hbin P op t (.c (.bool m)) (.c (.bool n)) KC = hlift (tyOf P t) fun ti => ti.d = .bool ∧ match op with
    | .eql => KC (.bool (m == n))
    | .neq => KC (.bool (!(m == n)))
    | _ => False := rfl
end
end Go.Hl
