/- More plain laws of the judgement. By an AI agent. -/
import Derived.Test.YtenbfeemmpjdhaaGreatDoorHlU
import Derived.Sort.KeysCollected
set_option linter.unusedSimpArgs false
set_option linter.unusedVariables false
set_option linter.defProp false
namespace Go.Hl
open Go

def kP (ops : Array Oper) (p : Nat) : Bool := match ops[p]? with | some o => bI o.op | none => true
def effAt (ops : Array Oper) (p : Nat) : Bool := match ops[p]? with | some o => isEff o.op | none => false
def ids4 (nx p : Nat) : List Nat := [nx + 4 * p, nx + 4 * p + 1, nx + 4 * p + 2, nx + 4 * p + 3]
def getF (C : iU) (p : Nat) : List Nat := C.flatMap fun q => if q.1 = p then q.2 else []

abbrev nW := List (Nat × List Nat × List Nat)
def hwalk2G (P : Program) (ops : Array Oper) (nx : Nat) (Q : Fr → Ob → Prop) : nW → iU → Fr → Ob → Prop
 | [], _, fr, ob => Q fr ob
 | (i, cr, rd) :: rest, C, fr, ob => dP P ops nx (cr.flatMap (ids4 nx) ++ rd.flatMap (getF C)) i (hwalk2G P ops nx Q rest (match ops[i]? with
   | some o => if isEff o.op = true then C else (i, if hguard ops o fr = some true then touch o.op (ev fr) else []) :: C
   | none => C)) fr ob

def chk (ops : Array Oper) (wt : Nat → Nat → Bool) : nW → List Nat → Bool
 | [], _ => true
 | (i, cr, rd) :: rest, T => T.all (fun p => wt i p || ((kP ops p || cr.contains p) && (!(effAt ops i) || rd.contains p))) && chk ops wt rest (if effAt ops i then T else i :: T)

theorem bE9 {P : Program} {ops : Array Oper} {nx : Nat} {av av' : List Nat} {i : Nat} {K : Fr → Ob → Prop} {fr : Fr} {ob : Ob} (hav : ∀ id, (ob id).isSome = true → id ∈ av → id ∈ av') (h : dP P ops nx av' i K fr ob) :
  dP P ops nx av i (fun fr' ob' => K fr' ob' ∧ (∀ id, ob id = none → (kP ops i = true ∨ ¬ (nx + 4 * i ≤ id ∧ id < nx + 4 * i + 4)) → ob' id = none)) fr ob := by
 unfold dP at h ⊢
 cases ho : ops[i]? with
 | none => rw [ho] at h; exact h.elim
 | some o =>
  rw [ho] at h
  simp only at h ⊢
  cases hg : hguard ops o fr with
  | none => rw [hg] at h; exact h.elim
  | some b =>
   rw [hg] at h
   cases b with
   | false => exact ⟨h, fun id h1 _ => h1⟩
   | true =>
    simp only at h ⊢
    unfold dZ at h ⊢
    cases hc : hcallOf o.op with
    | none =>
     rw [hc] at h
     simp only at h ⊢
     obtain ⟨v, u, hK, hform, hid, hq⟩ := tS h.2
     refine ⟨fun id hi => ⟨fun hin => (h.1 id hi).1 (hav id (h.1 id hi).2 hin), (h.1 id hi).2⟩, hform ob (fun _ _ => rfl) _ ⟨hK, fun id h1 h2 => ?_⟩⟩
     rw [jK (fun p hp e => ?_)]
     ·
      exact h1
     ·
      rcases hid p hp with h3 | ⟨_, h3⟩
      ·
       rcases h2 with h2 | h2
       ·
        simp only [kP, ho] at h2
        rw [hq h2] at hp; cases hp
       ·
        exact h2 ⟨by omega, by omega⟩
      ·
       have := (h.1 _ h3).2
       rw [e, h1] at this; cases this
    | some p =>
     obtain ⟨f, xs⟩ := p
     rw [hc] at h
     simp only at h ⊢
     refine ⟨h.1, ?_⟩
     have h := h.2
     have hnq : kP ops i = false := by
      simp only [kP, ho]
      cases hop' : o.op <;> rw [hop'] at hc <;> simp only [hcallOf] at hc <;> try cases hc
      rename_i cl
      cases hcc : cl.callee <;> rw [hcc] at hc <;> simp only at hc <;> first | (cases hc; done) | simp [bI, hcc]
     have hcall : ∀ g args, HCall P av' g args ob (nx + 4 * i) (fun v ob' => K (updo fr o.dst v) ob') → HCall P av g args ob (nx + 4 * i) (fun v ob' => K (updo fr o.dst v) ob' ∧ (∀ id, ob id = none → (kP ops i = true ∨ ¬ (nx + 4 * i ≤ id ∧ id < nx + 4 * i + 4)) → ob' id = none)) := by
      rintro g args ⟨σ, largs, lob, R, h1, h2, h3, h5, h6, h7⟩
      have hσ : ∀ j, j < σ.length → (ob (σ.getD j 0)).isSome = true := fun j hj => by
       obtain ⟨o', ho'⟩ := h2.all j hj
       rw [h6 j o' ho']; rfl
      refine ⟨σ, largs, lob, R, h1, h2, ⟨h3.1, fun s hs hin => ?_⟩, h5, h6, fun r lob' hR hr => ⟨h7 r lob' hR hr, fun id e1 e2 => ?_⟩⟩
      ·
       obtain ⟨j, hj, rfl⟩ := List.getElem_of_mem hs
       have := hσ j hj
       rw [List.getD_eq_getElem?_getD, List.getElem?_eq_getElem hj, Option.getD_some] at this
       exact h3.2 _ hs (hav _ this hin)
      ·
       unfold bD
       split
       ·
        rename_i j hj
        exfalso
        rw [List.findIdx?_eq_some_iff_getElem] at hj
        obtain ⟨hj1, hj2, _⟩ := hj
        have := hσ j hj1
        rw [List.getD_eq_getElem?_getD, List.getElem?_eq_getElem hj1, Option.getD_some] at this
        simp only [beq_iff_eq] at hj2
        rw [hj2, e1] at this; cases this
       ·
        rcases e2 with e2 | e2
        ·
         rw [hnq] at e2; cases e2
        ·
         rw [if_neg e2]; exact e1
     split at h
     ·
      exact hcall _ _ h
     ·
      exact hcall _ _ h
     ·
      exact h.elim

theorem tY {P : Program} {ops : Array Oper} {nx : Nat} {wt : Nat → Nat → Bool} {Q : Fr → Ob → Prop} : ∀ (plan : nW) (C : iU) (fr : Fr) (ob : Ob), chk ops wt plan (C.map (·.1)) = true →
  (∀ p, kP ops p = true → ∀ t, t < 4 → ob (nx + 4 * p + t) = none) → hwalk2G P ops nx Q plan C fr ob → lU P ops nx wt Q (plan.map (·.1)) C fr ob
 | [], C, fr, ob, _, _, h => h
 | (i, cr, rd) :: rest, C, fr, ob, hc, hn, h => by
  simp only [hwalk2G, lU, List.map_cons, chk, Bool.and_eq_true] at h hc ⊢
  have hav : ∀ id, (ob id).isSome = true → id ∈ gN ops nx wt C i → id ∈ cr.flatMap (ids4 nx) ++ rd.flatMap (getF C) := by
   intro id hs hid
   simp only [gN, List.mem_flatMap] at hid
   obtain ⟨p, hp, hid⟩ := hid
   have hT := List.all_eq_true.1 hc.1 p.1 (List.mem_map.2 ⟨p, hp, rfl⟩)
   split at hid
   ·
    simp at hid
   ·
    rename_i hw
    have hw' : wt i p.1 = false := by simpa using hw
    simp only [hw', Bool.false_or, Bool.and_eq_true, Bool.or_eq_true, Bool.not_eq_true'] at hT
    rcases List.mem_append.1 hid with hid | hid
    ·
     rcases hT.1 with hq | hq
     ·
      simp only [List.mem_cons, List.not_mem_nil, or_false] at hid
      have : ∃ t, t < 4 ∧ id = nx + 4 * p.1 + t := by
       rcases hid with e | e | e | e
       ·
        exact ⟨0, by omega, e⟩
       ·
        exact ⟨1, by omega, e⟩
       ·
        exact ⟨2, by omega, e⟩
       ·
        exact ⟨3, by omega, e⟩
      obtain ⟨t, ht, rfl⟩ := this
      rw [hn _ hq t ht] at hs; cases hs
     ·
      refine List.mem_append_left _ (List.mem_flatMap.2 ⟨p.1, by simpa using hq, hid⟩)
    ·
     split at hid
     ·
      rename_i he
      have he' : effAt ops i = true := by
       simp only [effAt]
       cases ho : ops[i]? with
       | none => exact absurd h (by simp [dP, ho])
       | some o => rw [ho] at he; simpa using he
      rcases hT.2 with h' | h'
      ·
       rw [he'] at h'; cases h'
      ·
       refine List.mem_append_right _ (List.mem_flatMap.2 ⟨p.1, by simpa using h', ?_⟩)
       exact List.mem_flatMap.2 ⟨p, hp, by simpa using hid⟩
     ·
      simp at hid
  refine iC (fun _ h => h) (fun fr' ob' hK => ?_) (bE9 hav h)
  refine tY rest _ fr' ob' ?_ (fun p hq t ht => ?_) hK.1
  ·
   have := hc.2
   cases ho : ops[i]? with
   | none => simp only [effAt, ho] at this; exact absurd h (by simp [dP, ho])
   | some o =>
    simp only [effAt, ho] at this ⊢
    by_cases he : isEff o.op = true
    ·
     simpa [he] using this
    ·
     simpa [he] using this
  ·
   refine hK.2 _ (hn p hq t ht) ?_
   by_cases e : i = p
   ·
    subst e; exact .inl hq
   ·
    exact .inr (by omega)

theorem xL {P : Program} {n k : Nat} {Q : dI} {fr : Fr} {ob : Ob} {nx id : Nat} {ops : Array Oper} (hm : P.follows .mixedOrders = true) (plan : nW) (ms : List Nat) (hd : iQ n ops = true) (hp : iD ops (plan.map (·.1)) (Array.replicate ops.size false) = true) (hw1 : aG3 ops ms = true)
  (hw2 : ms.all (fun m => decide (m < 2 ^ ms.length)) = true) (hl : plan.length = ops.size) (hc : chk ops (aB1 ms) plan [] = true)
  (h : hwalk2G P ops nx (fun fr' ob' => Q .normal fr' ob' (nx + 4 * ops.size)) plan [] fr ob) : Hw P n k (.region id ops true) Q fr ob nx := by
 intro c a w hn hk hz hA
 have hf : ∀ id, nx ≤ id → ob id = none := fun id hid => by
  obtain ⟨ρ, hA'⟩ := hA
  exact (hA'.nid_none (nid := id) (by omega)).1
 exact aS9 hm (plan.map (·.1)) ms hd hp hw1 hw2 (by simpa using hl) (tY plan [] fr ob hc (fun p _ t _ => hf _ (by omega)) h) c a w hn hk hz hA

def hwalk2 (P : Program) (ops : Array Oper) (nx : Nat) (Q : Fr → Ob → Prop) : nW → iU → Fr → Ob → Prop
 | [], _, fr, ob => Q fr ob
 | (i, cr, rd) :: rest, C, fr, ob => hopI P ops nx (cr.flatMap (ids4 nx) ++ rd.flatMap (getF C)) i (hwalk2 P ops nx Q rest (match ops[i]? with
   | some o => if isEff o.op = true then C else (i, if hguard ops o fr = some true then touch o.op (ev fr) else []) :: C
   | none => C)) fr ob
theorem aG6 {P : Program} {ops : Array Oper} {nx : Nat} {Q : Fr → Ob → Prop} : ∀ {l : nW} {C : iU} {fr : Fr} {ob : Ob}, hwalk2 P ops nx Q l C fr ob → hwalk2G P ops nx Q l C fr ob
 | [], _, _, _, h => h
 | (_, _, _) :: _, _, _, _, h => tU (fun _ _ => aG6) h
theorem bF0 {P : Program} {n k : Nat} {Q : dI} {fr : Fr} {ob : Ob} {nx id : Nat} {ops : Array Oper} (hm : P.follows .mixedOrders = true) (plan : nW) (ms : List Nat) (hd : iQ n ops = true) (hp : iD ops (plan.map (·.1)) (Array.replicate ops.size false) = true) (hw1 : aG3 ops ms = true)
  (hw2 : ms.all (fun m => decide (m < 2 ^ ms.length)) = true) (hl : plan.length = ops.size) (hc : chk ops (aB1 ms) plan [] = true)
  (h : hwalk2 P ops nx (fun fr' ob' => Q .normal fr' ob' (nx + 4 * ops.size)) plan [] fr ob) : Hw P n k (.region id ops true) Q fr ob nx :=
 xL hm plan ms hd hp hw1 hw2 hl hc (aG6 h)

theorem fM {P : Program} {av : List Nat} {f : FuncId} {ob : Ob} {nid : Nat} {K : HV → Ob → Prop} {args : List CV} {R : CV → Prop} (h : aW P f args R) (hfree : ob nid = none ∧ ob (nid + 1) = none ∧ ob (nid + 2) = none ∧ ob (nid + 3) = none) (hK : ∀ v, R v → K (.c v) ob) :
  HCall P av f (args.map .c) ob nid K := by
 refine ⟨[], args.map .c, bP, _, h, cS args, ⟨List.nodup_nil, by simp⟩, (HV.renL_c _ _).symm, fun j o h => by simp [bP] at h, fun r lob' hR _ => ?_⟩
 obtain ⟨v, rfl, hv, rfl⟩ := hR
 rw [iR (fun i h1 h2 => ?_)]
 ·
  exact hK v hv
 ·
  have : i = nid ∨ i = nid + 1 ∨ i = nid + 2 ∨ i = nid + 3 := by omega
  rcases this with rfl | rfl | rfl | rfl
  ·
   exact hfree.1
  ·
   exact hfree.2.1
  ·
   exact hfree.2.2.1
  ·
   exact hfree.2.2.2

def aB2 (P : Program) (f : FuncId) (args : List HV) (R : CV → Prop) : Prop :=
 HFn P f args 0 bP (fun r ob' => ∃ v, r = .c v ∧ R v ∧ ob' = bP)
theorem aT0 {args : List HV} (hm : HV.menL (· < 0) args) : LocOk 0 args bP := ⟨fun j h => by omega, fun id o h => by simp [bP] at h, hm⟩
theorem tZ {P : Program} {av : List Nat} {f : FuncId} {ob : Ob} {nid : Nat} {K : HV → Ob → Prop} {args : List HV} {R : CV → Prop} (h : aB2 P f args R) (hm : HV.menL (· < 0) args) (hr : ∀ m, HV.renL m args = args)
  (hfree : ob nid = none ∧ ob (nid + 1) = none ∧ ob (nid + 2) = none ∧ ob (nid + 3) = none) (hK : ∀ v, R v → K (.c v) ob) : HCall P av f args ob nid K := by
 refine ⟨[], args, bP, _, h, aT0 hm, ⟨List.nodup_nil, by simp⟩, (hr _).symm, fun j o h => by simp [bP] at h, fun r lob' hR _ => ?_⟩
 obtain ⟨v, rfl, hv, rfl⟩ := hR
 rw [iR (fun i h1 h2 => ?_)]
 ·
  exact hK v hv
 ·
  have : i = nid ∨ i = nid + 1 ∨ i = nid + 2 ∨ i = nid + 3 := by omega
  rcases this with rfl | rfl | rfl | rfl
  ·
   exact hfree.1
  ·
   exact hfree.2.1
  ·
   exact hfree.2.2.1
  ·
   exact hfree.2.2.2

theorem cB {α : Type} {f : α → CV} (h : ∀ x, (f x).denil = f x) : ∀ l : List α, CV.denilL (l.map f) = l.map f
 | [] => rfl
 | x :: l => by simp only [List.map_cons, CV.denilL, h, cB h l]
theorem denilL_str (l : List (List UInt8)) : CV.denilL (l.map .str) = l.map .str := cB (fun _ => rfl) l
theorem denilL_int (k : IntKind) (l : List Int) : CV.denilL (l.map (.int k)) = l.map (.int k) := cB (fun _ => rfl) l
theorem cells_mem_str {l : List (List UInt8)} : (∀ v ∈ l.map CV.str, v.cells = 1) ↔ True := by simp [CV.cells]

def bO8 (P : Program) (f : FuncId) (T : TypeId) (v : CV) (args : List CV) (R : CV → CV → Prop) : Prop :=
 HFn P f (.ptr 0 0 :: args.map .c) 1 (fob [(0, .box T (.c v))]) (fun r ob' => ∃ u v', r = .c u ∧ ob' = fob [(0, .box T (.c v'))] ∧ R u v')

theorem fY (T : TypeId) (v : CV) (args : List CV) : LocOk 1 (.ptr 0 0 :: args.map .c) (fob [(0, .box T (.c v))]) := by
 refine ⟨fun j h => ?_, fun id o h => ?_, ?_⟩
 ·
  have : j = 0 := by omega
  subst this
  exact ⟨_, rfl⟩
 ·
  by_cases e : id = 0
  ·
   subst e
   simp only [fob_at, if_true, Option.some.injEq] at h
   subst h
   exact ⟨by omega, by simp [HO.men, HV.men]⟩
  ·
   simp [fob_at, fob_nil, e] at h
 ·
  simp only [HV.menL, HV.men]
  exact ⟨by omega, HV.menL_c⟩

theorem jL {ob : Ob} {r w : HV} {T : TypeId} {R : CV → CV → Prop} (cl : List Nat) (u v' : CV) (h : (r.close ob cl).norm = .c u) (hb : ob 0 = some (.box T w)) (hw : (w.close ob cl).norm = .c v') (h0 : 0 ∉ cl) (hR : R u v') :
  oS 1 r ob (fun r ob' => ∃ u v', r = .c u ∧ ob' = fob [(0, .box T (.c v'))] ∧ R u v') := by
 refine ⟨cl, id, .c u, fob [(0, .box T (.c v'))], ⟨u, v', rfl, rfl, hR⟩, by rw [h]; rfl, fun _ _ => rfl, fun _ _ _ _ h => h, by simp [HV.men], fun j o ho => ?_⟩
 by_cases e : j = 0
 ·
  subst e
  simp only [fob_at, if_true, Option.some.injEq] at ho
  subst ho
  refine ⟨by omega, by simp [HO.men, HV.men], h0, .box T w, hb, ?_⟩
  simp only [hw]
  rfl
 ·
  simp [fob_at, fob_nil, e] at ho

theorem bU {P : Program} {av : List Nat} {f : FuncId} {ob : Ob} {nid id : Nat} {K : HV → Ob → Prop} {T : TypeId} {v : CV} {args : List CV} {R : CV → CV → Prop} (h : bO8 P f T v args R) (hid : ob id = some (.box T (.c v))) (hav : id ∉ av)
  (hfree : ob nid = none ∧ ob (nid + 1) = none ∧ ob (nid + 2) = none ∧ ob (nid + 3) = none) (hK : ∀ u v', R u v' → K (.c u) (upd ob id (some (.box T (.c v'))))) :
  HCall P av f (.ptr id 0 :: args.map .c) ob nid K := by
 refine ⟨[id], .ptr 0 0 :: args.map .c, _, _, h, fY T v args, ⟨by simp, by simpa using hav⟩, ?_, fun j o hj => ?_, fun r lob' hR _ => ?_⟩
 ·
  simp only [HV.renL, HV.ren, HV.renL_c]
  rfl
 ·
  by_cases e : j = 0
  ·
   subst e
   simp only [fob_at, if_true, Option.some.injEq] at hj
   subst hj
   simpa [HO.ren, HV.ren] using hid
  ·
   simp [fob_at, fob_nil, e] at hj
 ·
  obtain ⟨u, v', rfl, rfl, hR⟩ := hR
  have e : bD ob [id] nid (fob [(0, .box T (.c v'))]) = upd ob id (some (.box T (.c v'))) := by
   funext i
   by_cases e : i = id
   ·
    subst e
    simp only [bD, aR, List.findIdx?_cons, beq_self_eq_true, if_true, fob_at, Option.map_some]
    rfl
   ·
    have e' : (id == i) = false := by simp; exact fun h => e h.symm
    simp only [bD, List.findIdx?_cons, e', List.findIdx?_nil, Option.map_none, aV _ _ e]
    simp only [Bool.false_eq_true, if_false]
    split
    ·
     rename_i hr
     have h1 : [id].length + (i - nid) ≠ 0 := by simp
     rw [fob_at, if_neg h1, fob_nil]
     have : i = nid ∨ i = nid + 1 ∨ i = nid + 2 ∨ i = nid + 3 := by omega
     rcases this with rfl | rfl | rfl | rfl
     ·
      exact hfree.1.symm
     ·
      exact hfree.2.1.symm
     ·
      exact hfree.2.2.1.symm
     ·
      exact hfree.2.2.2.symm
    ·
     rfl
  rw [e]
  exact hK u v' hR

section
variable {P : Program} {ti : TyI} {t t2 f nid nx i : Nat} {a a' b b' x x' y y' : HV} {ob ob' : Ob} {K : HV → Prop} {KO : HV → Ob → Prop} {KC : CV → Prop}
@[congr] theorem cC6 (h : a = a') : hload ti a ob K = hload ti a' ob K := by rw [h]
@[congr] theorem cB5 (h : a = a') (h2 : b = b') : hstore ti a b ob KO = hstore ti a' b' ob KO := by rw [h, h2]
@[congr] theorem bO0 (h : a = a') : hfieldAddr P t a f ob K = hfieldAddr P t a' f ob K := by rw [h]
@[congr] theorem bO1 (h : a = a') (h2 : b = b') : hindexAddr P t a b ob K = hindexAddr P t a' b' ob K := by rw [h, h2]
@[congr] theorem cB6 {ps : List (Nat × Operand)} {e : Operand → HV} {ps' : List (Nat × Operand)} (h : ps = ps') : cP ti ps e K = cP ti ps' e K := by rw [h]
@[congr] theorem cB7 {lo lo' hi hi' : Option HV} (h : a = a') (h1 : lo = lo') (h2 : hi = hi') : hslice P t a lo hi K = hslice P t a' lo' hi' K := by rw [h, h1, h2]
@[congr] theorem cB8 (h : a = a') (h2 : b = b') : hindex P t a b K = hindex P t a' b' K := by rw [h, h2]
@[congr] theorem cE8 (h : a = a') : hext a i K = hext a' i K := by rw [h]
@[congr] theorem cC7 (h : a = a') : hconv P t t2 a K = hconv P t t2 a' K := by rw [h]
@[congr] theorem cF7 {op : UnOp} (h : a = a') : hun op a K = hun op a' K := by rw [h]
@[congr] theorem cE9 {l l' : List HV} (h : l = l') : hclo f l K = hclo f l' K := by rw [h]
@[congr] theorem cF0 {mx : Bool} (h : a = a') (h2 : b = b') : hmax mx a b K = hmax mx a' b' K := by rw [h, h2]
@[congr] theorem cC8 (h : x = x') (h1 : a = a') (h2 : b = b') : hpick x a b K = hpick x' a' b' K := by rw [h, h1, h2]
@[congr] theorem bX9 (h : a = a') (h2 : b = b') : happend P t a b nid ob KO = happend P t a' b' nid ob KO := by rw [h, h2]
@[congr] theorem bV7 (h : a = a') (h2 : b = b') : happend2 P t a b nid ob KO = happend2 P t a' b' nid ob KO := by rw [h, h2]
@[congr] theorem bY0 {lo lo' hi hi' : Option HV} (h : a = a') (h1 : lo = lo') (h2 : hi = hi') (h3 : ob = ob') : hslice2 P t a lo hi ob K = hslice2 P t a' lo' hi' ob' K := by rw [h, h1, h2, h3]
@[congr] theorem bY1 {lo lo' : Option HV} {hi hi' mx mx' : HV} (h : a = a') (h1 : lo = lo') (h2 : hi = hi') (h3 : mx = mx') : hslice3 P t a lo hi mx K = hslice3 P t a' lo' hi' mx' K := by rw [h, h1, h2, h3]
@[congr] theorem cC9 (h : a = a') (h2 : b = b') (h3 : ob = ob') : hcopy P t a b ob KO = hcopy P t a' b' ob' KO := by rw [h, h2, h3]
@[congr] theorem cB9 (h : a = a') : hclear P t a ob KO = hclear P t a' ob KO := by rw [h]
@[congr] theorem bY2 (h : a = a') (h2 : b = b') : hlookup P t a b ob K = hlookup P t a' b' ob K := by rw [h, h2]
@[congr] theorem bO2 (h : a = a') (h2 : b = b') (h3 : x = x') : hmapUpdate P t a b x ob KO = hmapUpdate P t a' b' x' ob KO := by rw [h, h2, h3]
@[congr] theorem cF1 {op : BinOp} (h : a = a') (h2 : b = b') : eV P op t a b KC = eV P op t a' b' KC := by rw [h, h2]
@[congr] theorem cF2 {op : BinOp} {k : IntKind} {m m' n n' : Int} (h : m = m') (h2 : n = n') : hint op k m n KC = hint op k m' n' KC := by rw [h, h2]
@[congr] theorem cC0 {op : BinOp} {k : IntKind} {m m' n n' : Int} (h : m = m') (h2 : n = n') : hshift op k m n KC = hshift op k m' n' KC := by rw [h, h2]
@[congr] theorem cF3 {op : BinOp} {m m' n n' : List UInt8} (h : m = m') (h2 : n = n') : hstr op m n KC = hstr op m' n' KC := by rw [h, h2]
@[congr] theorem cD0 {ops : Array Oper} {G : Fr → Ob → Prop} {l l' : List Nat} {fr fr' : Fr} (h : l = l') (h1 : fr = fr') (h2 : ob = ob') : hlexG P ops nx G l fr ob = hlexG P ops nx G l' fr' ob' := by rw [h, h1, h2]
@[congr] theorem bY3 {ops : Array Oper} {G : Fr → Ob → Prop} {l : nW} {C C' : iU} {fr fr' : Fr} (h : C = C') (h1 : fr = fr') (h2 : ob = ob') : hwalk2G P ops nx G l C fr ob = hwalk2G P ops nx G l C' fr' ob' := by rw [h, h1, h2]
@[congr] theorem cD1 {av av' : List Nat} {l l' : List HV} {n n' : Nat} (h1 : av = av') (h2 : l = l') (h3 : ob = ob') (h4 : n = n') : HCall P av f l ob n KO = HCall P av' f l' ob' n' KO := by rw [h1, h2, h3, h4]
theorem updo_at (fr : Fr) (d : Nat) (v : HV) (t : Nat) : updo fr (some d) v t = if t = d then v else fr t := rfl
theorem updo_none (fr : Fr) (v : HV) : updo fr none v = fr := rfl
theorem hbin_int {op : BinOp} {k k' : IntKind} {m n : Int} : eV P op t (.c (.int k m)) (.c (.int k' n)) KC = if isShift op then hshift op k m n KC else k = k' ∧ hint op k m n KC := rfl
theorem hbin_str {op : BinOp} {m n : List UInt8} : eV P op t (.c (.str m)) (.c (.str n)) KC = hstr op m n KC := rfl
theorem hbin_bool {op : BinOp} {m n : Bool} : eV P op t (.c (.bool m)) (.c (.bool n)) KC = hlift (aP P t) fun ti => ti.d = .bool ∧ match op with
  | .eql => KC (.bool (m == n))
  | .neq => KC (.bool (!(m == n)))
  | _ => False := rfl
end
end Go.Hl

namespace Go.Pl
open Go Go.Hl

abbrev aK := List UInt8
def oV : List aK → Bool
 | a :: b :: l => slt a b && oV (b :: l)
 | _ => true
theorem uA : ∀ {l : List aK}, oV l = true ↔ ∀ i (h : i + 1 < l.length), slt l[i] l[i + 1] = true
 | [] => by simp [oV]
 | [a] => by simp [oV]
 | a :: b :: l => by
  simp only [oV, Bool.and_eq_true, uA (l := b :: l)]
  constructor
  ·
   rintro ⟨h1, h2⟩ i hi
   cases i with
   | zero => simpa using h1
   | succ i => exact h2 i (by simpa using hi)
  ·
   intro h
   exact ⟨by simpa using h 0 (by simp), fun i hi => h (i + 1) (by simpa using hi)⟩

def oW (l : List aK) (w : aK) : List aK :=
 if l.contains w then l else l.takeWhile (slt · w) ++ w :: l.dropWhile (slt · w)
theorem aT1 {l : List aK} {w : aK} {i : Nat} (hc : l.contains w = false) (hi : i ≤ l.length) (h : ∀ j (h : j < i) (h' : j < l.length), slt l[j] w = true) (he : ∀ h : i < l.length, slt l[i] w = false) : oW l w = l.take i ++ w :: l.drop i := by
 have key : ∀ (l : List aK) (i : Nat), i ≤ l.length → (∀ j (h : j < i) (h' : j < l.length), slt l[j] w = true) → (∀ h : i < l.length, slt l[i] w = false) → l.takeWhile (slt · w) = l.take i ∧ l.dropWhile (slt · w) = l.drop i := by
  intro l
  induction l with
  | nil => intro i _ _ _; simp
  | cons a l ih =>
   intro i hi h he
   cases i with
   | zero =>
    have := he (by simp)
    simp at this
    simp [List.takeWhile_cons, List.dropWhile_cons, this]
   | succ i =>
    have h0 := h 0 (by omega) (by simp)
    simp at h0
    have := ih i (by simpa using hi) (fun j h1 h2 => h (j + 1) (by omega) (by simpa using h2)) (fun h1 => he (by simpa using h1))
    simp [List.takeWhile_cons, List.dropWhile_cons, h0, this]
 simp only [oW, hc, Bool.false_eq_true, if_false, (key l i hi h he).1, (key l i hi h he).2]
end Go.Pl

namespace Go.Pl
open Go Go.Hl

abbrev Dig := {l : List UInt8 // l.length = 32}
def dgl (d : Dig) : List CV := d.1.map fun b => .int .u8 b.toNat
def dg (d : Dig) : CV := .agg (dgl d)
def dg1 (b : UInt8) : Dig := ⟨b :: List.replicate 31 0, by simp⟩
def zdg : Dig := ⟨List.replicate 32 0, by simp⟩
def zd : CV := dg zdg
def dgi (k : IntKind) (n : Int) : CV := .agg (.int k n :: List.replicate 31 (.int .u8 0))
theorem dgi_1 : dgi .u8 1 = dg (dg1 1) := rfl
theorem dgi_2 : dgi .u8 2 = dg (dg1 2) := rfl
theorem dgi_3 : dgi .u8 3 = dg (dg1 3) := rfl
theorem rV : ∀ {α : Type} (l : List α) (k : IntKind) (f : α → Int), CV.cellsL (l.map fun b => .int k (f b)) = l.length
 | _, [], _, _ => rfl
 | _, x :: l, k, f => by simp only [List.map_cons, CV.cellsL, CV.cells, rV l, List.length_cons]; omega
theorem dg_cells (d : Dig) : (dg d).cells = 32 := by simp only [dg, dgl, CV.cells, rV, d.2]
theorem dg_isAgg (d : Dig) : (dg d).isAgg = true := rfl
theorem rW : ∀ {α : Type} (l : List α) (k : IntKind) (f : α → Int), CV.denilL (l.map fun b => .int k (f b)) = l.map fun b => .int k (f b)
 | _, [], _, _ => rfl
 | _, x :: l, k, f => by simp only [List.map_cons, CV.denilL, CV.denil, rW l]
theorem dg_denil (d : Dig) : (dg d).denil = dg d := by simp only [dg, dgl, CV.denil, rW]
theorem dg_getAt (d : Dig) : CV.getAt 0 32 true (dg d) = some (dg d) := by
 have := dg_cells d
 simp only [dg, CV.cells] at this
 simp only [dg, CV.getAt, this, and_self, if_true]
theorem dg_setAt (d : Dig) (x : HV) : CV.setAt 0 32 x (dg d) = some x := by
 have := dg_cells d
 simp only [dg, CV.cells] at this
 simp only [dg, CV.setAt, this, and_self, if_true]
theorem zd_cells : zd.cells = 32 := dg_cells _
theorem zd_isAgg : zd.isAgg = true := rfl
theorem zd_denil : zd.denil = zd := dg_denil _
theorem zd_getAt : CV.getAt 0 32 true zd = some zd := dg_getAt _
theorem zd_setAt (x : HV) : CV.setAt 0 32 x zd = some x := dg_setAt _ x
theorem dgi_cells (k : IntKind) (n : Int) : (dgi k n).cells = 32 := rfl
theorem dgi_isAgg (k : IntKind) (n : Int) : (dgi k n).isAgg = true := rfl
theorem dgi_denil (k : IntKind) (n : Int) : (dgi k n).denil = dgi k n := rfl
theorem dgi_getAt (k : IntKind) (n : Int) : CV.getAt 0 32 true (dgi k n) = some (dgi k n) := rfl

def aN4 (ti : TyI) (v : HV) (K : HV → Prop) : Prop := cP ti [(0, .tmp 0)] (fun _ => v) K
def hbuildDig (ti : TyI) (v : HV) (K : HV → Prop) : Prop :=
 match v with
 | .c (.int k n) => K (.c (dgi k n))
 | v => aN4 ti v K
@[congr] theorem bO9 {ti : TyI} {v v' : HV} {K : HV → Prop} (h : v = v') : hbuildDig ti v K = hbuildDig ti v' K := by rw [h]
theorem hbuild_dig {bytes : Nat} {t : TypeId} {e : Operand → HV} {x : Operand} {K : HV → Prop} : cP ⟨32, bytes, .array 32 t, zd⟩ [(0, x)] e K = hbuildDig ⟨32, bytes, .array 32 t, zd⟩ (e x) K := by
 have key : cP ⟨32, bytes, .array 32 t, zd⟩ [(0, x)] e K = cP ⟨32, bytes, .array 32 t, zd⟩ [(0, .tmp 0)] (fun _ => e x) K := rfl
 rw [key]
 unfold hbuildDig
 split
 ·
  rename_i k n h
  rw [h]
  have : hfill (fun _ => HV.c (.int k n)) [(0, .tmp 0)] ((dgl zdg).map .c) = some (.c (.int k n) :: (List.replicate 31 (CV.int .u8 0)).map .c) := by
   simp only [hfill]
   rfl
  simp only [cP, zd, dg, this, hlift_some]
  rfl
 ·
  rfl

theorem hbuild_agg {s bytes : Nat} {d : TyD} {zs : List CV} {ps : List (Nat × Operand)} {e : Operand → HV} {K : HV → Prop} : cP ⟨s, bytes, d, .agg zs⟩ ps e K = hlift (hfill e ps (zs.map .c)) fun hs => K (HV.norm (.agg hs)) := rfl

theorem mV : ∀ (l m : List UInt8), CV.eqvL (l.map fun b => .int .u8 b.toNat) (m.map fun b => .int .u8 b.toNat) = (l == m)
 | [], [] => rfl
 | [], _ :: _ => rfl
 | _ :: _, [] => rfl
 | a :: l, b :: m => by
  simp only [List.map_cons, CV.eqvL, CV.eqv, mV l m, List.cons_beq_cons]
  congr 1
  rw [Bool.eq_iff_iff]
  simp only [beq_iff_eq]
  constructor
  ·
   intro h; exact UInt8.toNat_inj.1 (by omega)
  ·
   rintro rfl; rfl
theorem bY4 (a b : Dig) : CV.eqv (dg a) (dg b) = (a == b) := by
 simp only [dg, dgl, CV.eqv, mV]
 rw [Bool.eq_iff_iff]
 simp only [beq_iff_eq, Subtype.ext_iff]
theorem uB {P : Program} {n : Nat} {e : TypeId} {z : CV} {s b : Nat} (he : aP P e = some ⟨s, b, .int .u8, z⟩) (l : List UInt8) : CV.ofTyA P (n + 1) e (l.map fun b => .int .u8 b.toNat) = true := by
 induction l with
 | nil => simp only [List.map_nil, CV.ofTyA]
 | cons x l ih =>
  rw [List.map_cons, CV.ofTyA, ih, Bool.and_true]
  unfold CV.ofTy
  rw [he]
  rfl
theorem aB3 {P : Program} {n : Nat} {t e : TypeId} {z z' : CV} {s b s' b' : Nat} (ht : aP P t = some ⟨s, b, .array 32 e, z⟩) (he : aP P e = some ⟨s', b', .int .u8, z'⟩) (hc : P.cellsOf e = 1) (d : Dig) : CV.ofTy P (n + 2) t (dg d) = true := by
 have h1 : (dgl d).length = 32 := by simp only [dgl, List.length_map, d.2]
 have h2 : (dgl d).all (fun v => v.cells == P.cellsOf e) = true := by
  rw [hc]
  simp only [dgl, List.all_map, List.all_eq_true, Function.comp, CV.cells, beq_self_eq_true, implies_true]
 simp only [dg, CV.ofTy, ht, h1, h2, beq_self_eq_true, Bool.true_and]
 exact uB he d.1
theorem sT {P : Program} {t e : TypeId} {z z' : CV} {s b s' b' : Nat} (ha : wZ P t = true) (ht : aP P t = some ⟨s, b, .array 32 e, z⟩) (he : aP P e = some ⟨s', b', .int .u8, z'⟩) (hc : P.cellsOf e = 1) (x y : Dig) (K : CV → Prop) :
  eV P .eql t (.c (dg x)) (.c (dg y)) K = K (.bool (x == y)) ∧ eV P .neq t (.c (dg x)) (.c (dg y)) K = K (.bool (!(x == y))) := by
 have h1 := aB3 (n := 6) ht he hc x
 have h2 := aB3 (n := 6) ht he hc y
 have h3 := bY4 x y
 simp only [dg] at h1 h2 h3
 simp only [dg, eV, ha, h1, h2, h3, and_self, true_and]

structure Rp where
 s : Dig
 r : Dig
 o : Dig
 at_ : Int
structure Rb where
 w : aK
 p : Rp
def Rp.cv (x : Rp) : CV := .agg [.agg [dg x.s, dg x.r, dg x.o], .int .i64 x.at_]
def Rb.cv (x : Rb) : CV := .agg [.str x.w, x.p.cv]
theorem Rb.denil (x : Rb) : x.cv.denil = x.cv := by simp only [Rb.cv, Rp.cv, CV.denil, CV.denilL, dg_denil]
theorem Rp.denil (x : Rp) : x.cv.denil = x.cv := by simp only [Rp.cv, CV.denil, CV.denilL, dg_denil]
theorem Rb.cells (x : Rb) : x.cv.cells = 98 := by simp [Rb.cv, Rp.cv, CV.cells, CV.cellsL, dg_cells]
theorem Rp.cells (x : Rp) : x.cv.cells = 97 := by simp [Rp.cv, CV.cells, CV.cellsL, dg_cells]
theorem Rb.getAll (x : Rb) : CV.getAt 0 98 true x.cv = some x.cv := by
 have := Rb.cells x
 simp only [Rb.cv, CV.cells] at this
 simp only [Rb.cv, CV.getAt, this, and_self, if_true]
theorem Rp.getAll (p : Rp) : CV.getAt 0 97 true p.cv = some p.cv := by
 have := Rp.cells p
 simp only [Rp.cv, CV.cells] at this
 simp only [Rp.cv, CV.getAt, this, and_self, if_true]
theorem Rb.isAgg (x : Rb) : x.cv.isAgg = true := rfl
theorem Rp.isAgg (x : Rp) : x.cv.isAgg = true := rfl

def cD2 (some : List Rb) (x : Rb) : Bool := some.all fun y => !(y.w == x.w) || decide (y.p.at_ ≤ x.p.at_)
structure Jd where
 a : List aK
 d : List aK
 f : List aK
def ns (l : List aK) : CV := if l = [] then .nils else .slc (l.map .str)
theorem ns_denil (l : List aK) : (ns l).denil = .slc (l.map .str) := by
 unfold ns
 split
 ·
  rename_i h; rw [h]; rfl
 ·
  simp only [CV.denil, denilL_str]
theorem ns_cells (l : List aK) : (ns l).cells = 1 := by unfold ns; split <;> rfl
theorem ns_isAgg (l : List aK) : (ns l).isAgg = false := by unfold ns; split <;> rfl
theorem ns_getAt (l : List aK) : CV.getAt 0 1 false (ns l) = some (ns l) := by unfold ns; split <;> rfl
theorem ns_setAt (l : List aK) (x : HV) : CV.setAt 0 1 x (ns l) = some x := by unfold ns; split <;> rfl
end Go.Pl

namespace Go.Pl
open Go Go.Hl

abbrev W32 := BitVec 32
def w32 (x : W32) : CV := .int .u32 (x.toNat : Int)
def ws (l : List W32) : CV := .agg (l.map w32)
def u8 (x : UInt8) : CV := .int .u8 (x.toNat : Int)
def us (l : List UInt8) : CV := .agg (l.map u8)

def itN {α : Type} (f : Nat → α → α) : Nat → α → α
 | 0, s => s
 | n + 1, s => f n (itN f n s)
theorem aG7 {α : Type} (f : Nat → α → α) (n : Nat) (s : α) : itN f (n + 1) s = f n (itN f n s) := rfl

def gw (l : List W32) (i : Nat) : W32 := l.getD i 0
def gb (l : List UInt8) (i : Nat) : UInt8 := l.getD i 0
def fS (x : W32) (n : Nat) : W32 := (x >>> n) ||| (x <<< (32 - n))
def bw (x : UInt8) : W32 := BitVec.ofNat 32 x.toNat
def be (b : List UInt8) (i : Nat) : W32 := ((bw (gb b (4 * i)) <<< 24 ||| bw (gb b (4 * i + 1)) <<< 16) ||| bw (gb b (4 * i + 2)) <<< 8) ||| bw (gb b (4 * i + 3))
def sg0 (x : W32) : W32 := (fS x 7 ^^^ fS x 18) ^^^ (x >>> 3)
def sg1 (x : W32) : W32 := (fS x 17 ^^^ fS x 19) ^^^ (x >>> 10)
def wA (b : List UInt8) (n : Nat) : List W32 := itN (fun i w => w.set i (be b i)) n (List.replicate 64 0)
def wB (w : List W32) (n : Nat) : List W32 := itN (fun i w => w.set (i + 16) (((gw w i + sg0 (gw w (i + 1))) + gw w (i + 9)) + sg1 (gw w (i + 14)))) n w
def eU (b : List UInt8) : List W32 := wB (wA b 16) 48

def K256 : List W32 := [
 0x428a2f98, 0x71374491, 0xb5c0fbcf, 0xe9b5dba5, 0x3956c25b, 0x59f111f1, 0x923f82a4, 0xab1c5ed5,
 0xd807aa98, 0x12835b01, 0x243185be, 0x550c7dc3, 0x72be5d74, 0x80deb1fe, 0x9bdc06a7, 0xc19bf174,
 0xe49b69c1, 0xefbe4786, 0x0fc19dc6, 0x240ca1cc, 0x2de92c6f, 0x4a7484aa, 0x5cb0a9dc, 0x76f988da,
 0x983e5152, 0xa831c66d, 0xb00327c8, 0xbf597fc7, 0xc6e00bf3, 0xd5a79147, 0x06ca6351, 0x14292967,
 0x27b70a85, 0x2e1b2138, 0x4d2c6dfc, 0x53380d13, 0x650a7354, 0x766a0abb, 0x81c2c92e, 0x92722c85,
 0xa2bfe8a1, 0xa81a664b, 0xc24b8b70, 0xc76c51a3, 0xd192e819, 0xd6990624, 0xf40e3585, 0x106aa070,
 0x19a4c116, 0x1e376c08, 0x2748774c, 0x34b0bcb5, 0x391c0cb3, 0x4ed8aa4a, 0x5b9cca4f, 0x682e6ff3,
 0x748f82ee, 0x78a5636f, 0x84c87814, 0x8cc70208, 0x90befffa, 0xa4506ceb, 0xbef9a3f7, 0xc67178f2]

structure St where
 (a b c d e f g h : W32)
def St.l (s : St) : List W32 := [s.a, s.b, s.c, s.d, s.e, s.f, s.g, s.h]
def St0 : St := ⟨0x6a09e667, 0xbb67ae85, 0x3c6ef372, 0xa54ff53a, 0x510e527f, 0x9b05688c, 0x1f83d9ab, 0x5be0cd19⟩
def t1 (s : St) (k w : W32) : W32 := (((s.h + ((fS s.e 6 ^^^ fS s.e 11) ^^^ fS s.e 25)) + ((s.e &&& s.f) ^^^ (~~~ s.e &&& s.g))) + k) + w
def t2 (s : St) : W32 := ((fS s.a 2 ^^^ fS s.a 13) ^^^ fS s.a 22) + (((s.a &&& s.b) ^^^ (s.a &&& s.c)) ^^^ (s.b &&& s.c))
def rnd (w : List W32) (i : Nat) (s : St) : St := ⟨t1 s (gw K256 i) (gw w i) + t2 s, s.a, s.b, s.c, s.d + t1 s (gw K256 i) (gw w i), s.e, s.f, s.g⟩
def cD3 (s r : St) : St := ⟨s.a + r.a, s.b + r.b, s.c + r.c, s.d + r.d, s.e + r.e, s.f + r.f, s.g + r.g, s.h + r.h⟩
def comp (s : St) (p : List UInt8) : St := cD3 s (itN (rnd (eU p)) 64 s)
def blk (p : List UInt8) (n : Nat) (s : St) : St := itN (fun i s => comp s ((p.drop (64 * i)).take 64)) n s
def zs (n : Nat) : Nat := (119 - n % 64) % 64
def uC (n : Nat) : List UInt8 := (List.range 8).map fun i => UInt8.ofNat (8 * n / 2 ^ (8 * (7 - i)))
def pad (b : List UInt8) : List UInt8 := (b ++ [0x80]) ++ List.replicate (zs b.length) 0 ++ uC b.length
def bF1 (s : St) : List UInt8 := (List.range 32).map fun i => UInt8.ofNat ((gw s.l (i / 4)) >>> (24 - 8 * (i % 4))).toNat
def sha (b : List UInt8) : Dig := ⟨bF1 (blk (pad b) ((pad b).length / 64) St0), by simp [bF1]⟩

def oX (h : UInt8) (r : List UInt8) : List UInt8 := [7, h] ++ r

theorem bF2 {n : Nat} (h : n < 4294967296) : IntKind.u32.wrap (n : Int) = (n : Int) := IntWalk.u32_in _ (by omega)
theorem kQ (x : W32) : BitVec.ofInt IntKind.u32.bits (x.toNat : Int) = x := by
 show BitVec.ofInt 32 (x.toNat : Int) = x
 simp
theorem wlt (x : W32) : x.toNat < 4294967296 := x.isLt
theorem bP0 (x : W32) : IntKind.u32.wrap (x.toNat : Int) = (x.toNat : Int) := bF2 (wlt x)
theorem jM (x y : W32) : IntKind.u32.wrap ((x.toNat : Int) + (y.toNat : Int)) = ((x + y).toNat : Int) := by
 rw [IntKind.wrap_u32, BitVec.toNat_add]
 omega
theorem aT2 (x y : W32) : IntKind.u32.wrap ((BitVec.ofInt IntKind.u32.bits (x.toNat : Int) &&& BitVec.ofInt IntKind.u32.bits (y.toNat : Int)).toNat : Int) = ((x &&& y).toNat : Int) := by
 rw [kQ, kQ]; exact bP0 _
theorem bP1 (x y : W32) : IntKind.u32.wrap ((BitVec.ofInt IntKind.u32.bits (x.toNat : Int) ||| BitVec.ofInt IntKind.u32.bits (y.toNat : Int)).toNat : Int) = ((x ||| y).toNat : Int) := by
 rw [kQ, kQ]; exact bP0 _
theorem eX (x y : W32) : IntKind.u32.wrap ((BitVec.ofInt IntKind.u32.bits (x.toNat : Int) ^^^ BitVec.ofInt IntKind.u32.bits (y.toNat : Int)).toNat : Int) = ((x ^^^ y).toNat : Int) := by
 rw [kQ, kQ]; exact bP0 _
theorem bV8 (x : W32) : IntKind.u32.wrap ((BitVec.ofInt IntKind.u32.bits (if IntKind.u32.signed then -1 else IntKind.u32.max) ^^^ BitVec.ofInt IntKind.u32.bits (x.toNat : Int)).toNat : Int) = ((~~~ x).toNat : Int) := by
 have h : BitVec.ofInt 32 4294967295 ^^^ BitVec.ofInt 32 (x.toNat : Int) = ~~~ x := by
  have h1 : BitVec.ofInt 32 (x.toNat : Int) = x := kQ x
  have h2 : (BitVec.ofInt 32 4294967295 : BitVec 32) = BitVec.allOnes 32 := by decide
  rw [h1, h2]; exact BitVec.allOnes_xor
 show IntKind.u32.wrap ((BitVec.ofInt 32 4294967295 ^^^ BitVec.ofInt 32 (x.toNat : Int)).toNat : Int) = _
 rw [h]
 exact bP0 _
theorem uD (x : W32) (n : Nat) (h : n ≤ 32) : Int.fdiv (x.toNat : Int) (2 ^ (min n IntKind.u32.bits)) = ((x >>> n).toNat : Int) := by
 have : min n IntKind.u32.bits = n := Nat.min_eq_left h
 rw [this, BitVec.toNat_ushiftRight, Nat.shiftRight_eq_div_pow, Int.fdiv_eq_ediv_of_nonneg _ (Int.pow_nonneg (by omega))]
 norm_cast
theorem aT3 (x : W32) (n : Nat) (h : n ≤ 32) : IntKind.u32.wrap ((x.toNat : Int) * 2 ^ (min n IntKind.u32.bits)) = ((x <<< n).toNat : Int) := by
 have : min n IntKind.u32.bits = n := Nat.min_eq_left h
 rw [this, BitVec.toNat_shiftLeft, Nat.shiftLeft_eq, IntKind.wrap_u32, show (2 : Nat) ^ 32 = 4294967296 from rfl]
 have hp : (x.toNat : Int) * 2 ^ n = ((x.toNat * 2 ^ n : Nat) : Int) := by rw [Int.natCast_mul, Int.natCast_pow]; rfl
 rw [hp]
 generalize x.toNat * 2 ^ n = p
 omega
theorem bF3 (b : UInt8) : IntKind.u32.wrap (b.toNat : Int) = ((bw b).toNat : Int) := by
 have h := b.toNat_lt
 rw [bF2 (by omega)]
 simp only [bw, BitVec.toNat_ofNat]
 rw [Nat.mod_eq_of_lt (by omega)]
theorem bF4 (x : W32) : IntKind.u8.wrap (x.toNat : Int) = ((UInt8.ofNat x.toNat).toNat : Int) := by
 rw [IntKind.wrap_u8, UInt8.toNat_ofNat']
 omega

section
variable {α : Type} {f : α → CV}
theorem iF (hc : ∀ x, (f x).cells = 1) : ∀ l : List α, CV.cellsL (l.map f) = l.length
 | [] => rfl
 | x :: l => by simp only [List.map_cons, CV.cellsL, hc, iF hc l, List.length_cons]; omega
theorem uE (hc : ∀ x, (f x).cells = 1) (hg : ∀ x, CV.getAt 0 1 false (f x) = some (f x)) : ∀ (l : List α) (i : Nat) (h : i < l.length), CV.getAtL i 1 false (l.map f) = some (f l[i])
 | [], i, h => by simp at h
 | x :: l, 0, h => by simp only [List.map_cons, CV.getAtL, hc, if_pos (show 0 < 1 by omega), hg, List.getElem_cons_zero]
 | x :: l, i + 1, h => by
  simp only [List.map_cons, CV.getAtL, hc, if_neg (show ¬ i + 1 < 1 by omega), Nat.add_sub_cancel, List.getElem_cons_succ]
  exact uE hc hg l i (by simpa using h)
theorem xM (hc : ∀ x, (f x).cells = 1) (hg : ∀ x, CV.getAt 0 1 false (f x) = some (f x)) {l : List α} {i : Nat} (h : i < l.length) : CV.getAt i 1 false (.agg (l.map f)) = some (f l[i]) := by
 simp only [CV.getAt, Bool.false_eq_true, and_false, if_false]
 exact uE hc hg l i h
theorem nX (hc : ∀ x, (f x).cells = 1) (hs : ∀ x y, CV.setAt 0 1 y (f x) = some y) (y : α) : ∀ (l : List α) (i : Nat), i < l.length → CV.setAtL i 1 (.c (f y)) (l.map f) = some (((l.set i y).map f).map .c)
 | [], i, h => by simp at h
 | x :: l, 0, h => by simp only [List.map_cons, CV.setAtL, hc, if_pos (show 0 < 1 by omega), hs, Option.map_some, List.set_cons_zero]
 | x :: l, i + 1, h => by
  simp only [List.map_cons, CV.setAtL, hc, if_neg (show ¬ i + 1 < 1 by omega), Nat.add_sub_cancel, List.set_cons_succ]
  rw [nX hc hs y l i (by simpa using h)]
  rfl
theorem xN (hc : ∀ x, (f x).cells = 1) (hs : ∀ x y, CV.setAt 0 1 y (f x) = some y) {y : α} {l : List α} {i : Nat} (h : i < l.length) (h2 : l.length ≠ 1) : CV.setAt i 1 (.c (f y)) (.agg (l.map f)) = some (.agg (((l.set i y).map f).map .c)) := by
 simp only [CV.setAt, iF hc, h2, and_false, if_false]
 rw [nX hc hs y l i h]
 rfl
end
theorem fG : ∀ l : List CV, HV.toCL (l.map .c) = some l
 | [] => rfl
 | x :: l => by simp only [List.map_cons, HV.toCL, HV.toC, fG l]
theorem sU (l : List CV) : HV.norm (.agg (l.map .c)) = .c (.agg l) := by simp only [HV.norm, HV.toC, fG, Option.map_some]
theorem ws_cells (l : List W32) : (ws l).cells = l.length := iF (fun _ => rfl) l
theorem us_cells (l : List UInt8) : (us l).cells = l.length := iF (fun _ => rfl) l
theorem bY5 {l : List W32} {i : Nat} (h : i < l.length) : CV.getAt i 1 false (ws l) = some (w32 l[i]) := xM (fun _ => rfl) (fun _ => rfl) h
theorem bY6 {l : List UInt8} {i : Nat} (h : i < l.length) : CV.getAt i 1 false (us l) = some (u8 l[i]) := xM (fun _ => rfl) (fun _ => rfl) h
theorem bY7 {l : List W32} {i : Nat} (y : W32) (h : i < l.length) (h2 : l.length ≠ 1) : CV.setAt i 1 (.c (w32 y)) (ws l) = some (.agg (((l.set i y).map w32).map .c)) := xN (fun _ => rfl) (fun _ _ => rfl) h h2
theorem bY8 {l : List UInt8} {i : Nat} (y : UInt8) (h : i < l.length) (h2 : l.length ≠ 1) : CV.setAt i 1 (.c (u8 y)) (us l) = some (.agg (((l.set i y).map u8).map .c)) := xN (fun _ => rfl) (fun _ _ => rfl) h h2
theorem cD4 {l : List W32} {i : Nat} (h : i < l.length) : gw l i = l[i] := by simp [gw, h]
theorem cD5 {l : List UInt8} {i : Nat} (h : i < l.length) : gb l i = l[i] := by simp [gb, h]
theorem sV {α : Type} {f : Nat → List α → List α} (hf : ∀ i l, (f i l).length = l.length) : ∀ (n : Nat) (l : List α), (itN f n l).length = l.length
 | 0, _ => rfl
 | n + 1, l => by rw [aG7, hf, sV hf n l]
theorem uF (b : List UInt8) (n : Nat) : (wA b n).length = 64 := by unfold wA; rw [sV (fun i l => by simp)]; simp
theorem aN5 (w : List W32) (n : Nat) : (wB w n).length = w.length := sV (fun i l => by simp) n w
theorem kR (b : List UInt8) : (eU b).length = 64 := by rw [eU, aN5, uF]
theorem oY : K256.length = 64 := rfl
def wz (n : Nat) : List W32 := List.replicate n 0
def uz (n : Nat) : List UInt8 := List.replicate n 0
theorem iG (n : Nat) : (wz n).length = n := by simp [wz]
theorem aN6 (n : Nat) : (uz n).length = n := by simp [uz]
end Go.Pl

namespace Go.Hl
open Go

def gd (ops : Array Oper) (o : Oper) : Option (Option (Nat × Bool)) :=
 match o.guard with
 | none => some none
 | some (j, want) => match (ops[j]?).bind (·.dst) with
  | some d => some (some (d, want))
  | none => none
def hgd (g : Option (Nat × Bool)) (fr : Fr) : Option Bool :=
 match g with
 | none => some true
 | some (d, want) => match fr d with
  | .c (.bool b) => some (b == want)
  | .tup _ => some false
  | _ => none
def hop1 (P : Program) (nid : Nat) (av : List Nat) (g : Option (Nat × Bool)) (o : Op) (d : Option Nat) (K : Fr → Ob → Prop) (fr : Fr) (ob : Ob) : Prop :=
 match hgd g fr with
 | some true => hstep P av nid o (ev fr) ob fun v ob' => K (updo fr d v) ob'
 | some false => K (updo fr d (.tup [])) ob
 | none => False
section
variable {P : Program} {ops : Array Oper} {nx i : Nat} {o : Oper} {g : Option (Nat × Bool)} {Q : Fr → Ob → Prop} {fr : Fr} {ob : Ob}

theorem jN (hg : gd ops o = some g) : hguard ops o fr = hgd g fr := by
 unfold gd at hg
 unfold hguard hgd
 cases h : o.guard with
 | none => rw [h] at hg; cases hg; rfl
 | some p =>
  obtain ⟨j, want⟩ := p
  rw [h] at hg
  simp only at hg ⊢
  cases hd : (ops[j]?).bind (·.dst) with
  | none => rw [hd] at hg; cases hg
  | some d => rw [hd] at hg; cases hg; rfl

theorem mW {av : List Nat} {K : Fr → Ob → Prop} (ho : ops[i]? = some o) (hg : gd ops o = some g) (h : hop1 P (nx + 4 * i) av g o.op o.dst K fr ob) : hopI P ops nx av i K fr ob := by
 unfold hop1 at h
 unfold hopI
 rw [ho]
 simp only [jN hg]
 exact h

theorem bA {l : List Nat} (ho : ops[i]? = some o) (hg : gd ops o = some g) (h : ∀ K : Fr → Ob → Prop, (∀ fr ob, hlex P ops nx Q l fr ob → K fr ob) → hop1 P (nx + 4 * i) [] g o.op o.dst K fr ob) : hlex P ops nx Q (i :: l) fr ob := by
 simp only [hlex]
 exact mW ho hg (h _ fun _ _ h => h)

theorem aO {cr rd : List Nat} {l : nW} {C : iU} (ho : ops[i]? = some o) (hg : gd ops o = some g)
  (h : ∀ K : Fr → Ob → Prop, (∀ fr' ob', hwalk2 P ops nx Q l (if isEff o.op = true then C else (i, if hgd g fr = some true then touch o.op (ev fr) else []) :: C) fr' ob' → K fr' ob') →
   hop1 P (nx + 4 * i) (cr.flatMap (ids4 nx) ++ rd.flatMap (getF C)) g o.op o.dst K fr ob) : hwalk2 P ops nx Q ((i, cr, rd) :: l) C fr ob := by
 simp only [hwalk2]
 refine mW ho hg (h _ fun fr' ob' h => ?_)
 rw [ho]
 simp only [jN hg]
 exact h

theorem eG {id n sz : Nat} {el : TypeId} {l : List CV} {ob : Ob} {K : HV → Ob → Prop} (hn : n = l.length) (h : K (.c (.slc l)) (upd ob id (some .dead))) : aM8 id ob K (.own id n) (upd ob id (some (.row el sz l))) :=
 ⟨n, el, sz, l, rfl, rfl, hn, h⟩
def iS (P : Program) (nid : Nat) (av : List Nat) (g : Option (Nat × Bool)) (o : Op) (d : Option Nat) (id : Nat) (K : Fr → Ob → Prop) (fr : Fr) (ob : Ob) : Prop :=
 match hgd g fr with
 | some true => (hcallOf o = none ∧ lR nid o (ev fr) = some id) ∧ (∀ i ∈ touch o (ev fr), i ∉ av ∧ (ob i).isSome = true) ∧ hop P nid o (ev fr) ob (aM8 id ob fun v ob' => K (updo fr d v) ob')
 | some false => K (updo fr d (.tup [])) ob
 | none => False
theorem rX {av : List Nat} {K : Fr → Ob → Prop} {id : Nat} (ho : ops[i]? = some o) (hg : gd ops o = some g) (h : iS P (nx + 4 * i) av g o.op o.dst id K fr ob) : dP P ops nx av i K fr ob := by
 unfold iS at h
 unfold dP
 rw [ho]
 simp only [jN hg]
 cases hb : hgd g fr with
 | none => rw [hb] at h; exact h.elim
 | some b =>
  rw [hb] at h
  cases b with
  | false => exact h
  | true =>
   obtain ⟨⟨h1, h2⟩, h3, h4⟩ := h
   simp only
   unfold dZ
   rw [h1]
   exact ⟨h3, .inr ⟨id, h2, h4⟩⟩
theorem eN {l : List Nat} (ho : ops[i]? = some o) (hg : gd ops o = some g) (h : ∀ K : Fr → Ob → Prop, (∀ fr ob, hlexG P ops nx Q l fr ob → K fr ob) → hop1 P (nx + 4 * i) [] g o.op o.dst K fr ob) : hlexG P ops nx Q (i :: l) fr ob := by
 simp only [hlexG]
 exact tU (fun _ _ h => h) (mW ho hg (h _ fun _ _ h => h))
theorem dJ {l : List Nat} (id : Nat) (ho : ops[i]? = some o) (hg : gd ops o = some g) (h : ∀ K : Fr → Ob → Prop, (∀ fr ob, hlexG P ops nx Q l fr ob → K fr ob) → iS P (nx + 4 * i) [] g o.op o.dst id K fr ob) : hlexG P ops nx Q (i :: l) fr ob := by
 simp only [hlexG]
 exact rX ho hg (h _ fun _ _ h => h)
theorem oZ {cr rd : List Nat} {l : nW} {C : iU} (ho : ops[i]? = some o) (hg : gd ops o = some g)
  (h : ∀ K : Fr → Ob → Prop, (∀ fr' ob', hwalk2G P ops nx Q l (if isEff o.op = true then C else (i, if hgd g fr = some true then touch o.op (ev fr) else []) :: C) fr' ob' → K fr' ob') →
   hop1 P (nx + 4 * i) (cr.flatMap (ids4 nx) ++ rd.flatMap (getF C)) g o.op o.dst K fr ob) : hwalk2G P ops nx Q ((i, cr, rd) :: l) C fr ob := by
 simp only [hwalk2G]
 refine tU (fun _ _ h => h) (mW ho hg (h _ fun fr' ob' h => ?_))
 rw [ho]
 simp only [jN hg]
 exact h
theorem wL {cr rd : List Nat} {l : nW} {C : iU} (id : Nat) (ho : ops[i]? = some o) (hg : gd ops o = some g)
  (h : ∀ K : Fr → Ob → Prop, (∀ fr' ob', hwalk2G P ops nx Q l (if isEff o.op = true then C else (i, if hgd g fr = some true then touch o.op (ev fr) else []) :: C) fr' ob' → K fr' ob') →
   iS P (nx + 4 * i) (cr.flatMap (ids4 nx) ++ rd.flatMap (getF C)) g o.op o.dst id K fr ob) : hwalk2G P ops nx Q ((i, cr, rd) :: l) C fr ob := by
 simp only [hwalk2G]
 refine rX ho hg (h _ fun fr' ob' h => ?_)
 rw [ho]
 simp only [jN hg]
 exact h
end
end Go.Hl

namespace Go.Hl
open Go



theorem pA {ob lob : Ob} {σ : List Nat} {nid id : Nat} (hn : σ.Nodup) (h0 : σ[0]? = some id) (hl0 : lob 0 = none) (h1 : ∀ j, 0 < j → j < σ.length → ∃ o, lob j = some o ∧ ob (σ.getD j 0) = some (o.ren (sub σ nid))) (h2 : ∀ j, σ.length ≤ j → lob j = none) (h3 : ∀ i, nid ≤ i → i < nid + 4 → ob i = none) :
  bD ob σ nid lob = bT ob id := by
 funext i
 unfold bD bT
 split
 ·
  rename_i j hj
  obtain ⟨hjl, hje, _⟩ := List.findIdx?_eq_some_iff_getElem.1 hj
  have this : σ[j] = i := by simpa using hje
  by_cases e : j = 0
  ·
   subst e
   rw [List.getElem?_eq_getElem hjl] at h0
   have e2 : i = id := by rw [← this]; exact Option.some.inj h0
   rw [hl0, if_pos e2]; rfl
  ·
   obtain ⟨o, e1, e2⟩ := h1 j (by omega) hjl
   have hne : i ≠ id := by
    intro e3
    have h0l : 0 < σ.length := by omega
    rw [List.getElem?_eq_getElem h0l] at h0
    have := (List.pairwise_iff_getElem.1 hn) 0 j h0l hjl (by omega)
    exact this ((Option.some.inj h0).trans (e3.symm.trans (by rw [← ‹σ[j] = i›])))
   have e4 : σ.getD j 0 = i := by rw [List.getD_eq_getElem?_getD, List.getElem?_eq_getElem hjl]; simpa using this
   rw [e1, if_neg hne, ← e4, e2]; rfl
 ·
  rename_i hno
  have hne : i ≠ id := by
   rintro rfl
   rw [List.findIdx?_eq_none_iff] at hno
   exact absurd (hno i (List.mem_of_getElem? h0)) (by simp)
  rw [if_neg hne]
  split
  ·
   rename_i h; rw [h2 _ (by omega), h3 i h.1 h.2]; rfl
  ·
   rfl

def Free4 (ob : Ob) (nid : Nat) : Prop := ob nid = none ∧ ob (nid + 1) = none ∧ ob (nid + 2) = none ∧ ob (nid + 3) = none
theorem Free4.all {ob : Ob} {nid : Nat} (h : Free4 ob nid) : ∀ i, nid ≤ i → i < nid + 4 → ob i = none := fun i h1 h2 => by
 have : i = nid ∨ i = nid + 1 ∨ i = nid + 2 ∨ i = nid + 3 := by omega
 rcases this with rfl | rfl | rfl | rfl
 ·
  exact h.1
 ·
  exact h.2.1
 ·
  exact h.2.2.1
 ·
  exact h.2.2.2

def bV9 (P : Program) (f : FuncId) (e : TypeId) (sz : Nat) (l : List CV) (R : CV → Prop) : Prop := HFn P f [.own 0 l.length] 1 (fob [(0, .row e sz l)]) (fun r ob' => ∃ u, r = .c u ∧ ob' = bP ∧ R u)

theorem xO (T : TypeId) (v : CV) (args : List CV) : LocOk 1 (args.map HV.c ++ [HV.ptr 0 0]) (fob [(0, .box T (.c v))]) := by
 have h := fY T v []
 exact ⟨h.all, h.none, by rw [HV.menL_append]; exact ⟨HV.menL_c, by simp [HV.menL, HV.men]⟩⟩
theorem kS (e : TypeId) (sz n : Nat) (l : List CV) : LocOk 1 [.own 0 n] (fob [(0, .row e sz l)]) := by
 refine ⟨fun j h => ?_, fun id o h => ?_, by simp [HV.menL, HV.men]⟩
 ·
  have : j = 0 := by omega
  subst this; exact ⟨_, rfl⟩
 ·
  simp only [fob_at, fob_nil] at h
  split at h
  ·
   cases h; rename_i e; subst e; exact ⟨by omega, trivial⟩
  ·
   cases h

theorem qN {ob : Ob} {r : HV} {R : CV → Prop} (cl : List Nat) (u : CV) (h : (r.close ob cl).norm = .c u) (hR : R u) : oS 1 r ob (fun r ob' => ∃ u, r = .c u ∧ ob' = bP ∧ R u) :=
 ⟨cl, id, .c u, bP, ⟨u, rfl, rfl, hR⟩, by rw [h]; rfl, fun _ _ => rfl, fun _ _ _ _ h => h, by simp [HV.men], fun j o h => by simp [bP] at h⟩

section
variable {P : Program} {av : List Nat} {f g : FuncId} {ob : Ob} {nid id id2 n : Nat} {K : HV → Ob → Prop} {T e : TypeId} {sz : Nat} {v : CV} {l : List CV} {R : CV → Prop}

theorem aX5 (h : bV9 P f e sz l R) (hid : ob id = some (.row e sz l)) (hn : n = l.length) (hav : id ∉ av) (hfree : Free4 ob nid) (hK : ∀ u, R u → K (.c u) (bT ob id)) :
  HCall P av f [.own id n] ob nid K := by
 have h0 : sub [id] nid 0 = id := rfl
 subst hn
 refine ⟨[id], _, _, _, h, kS e sz _ l, ⟨by simp, by simpa using hav⟩, by simp only [HV.renL, HV.ren, h0], fun j o hj => ?_, fun r lob' hR _ => ?_⟩
 ·
  simp only [fob_at, fob_nil] at hj
  split at hj
  ·
   rename_i e; subst e; cases hj; simpa [HO.ren] using hid
  ·
   cases hj
 ·
  obtain ⟨u, rfl, rfl, hR⟩ := hR
  rw [pA (lob := bP) (id := id) (by simp) rfl rfl (fun j hj0 hj => ?_) (fun j hj => rfl) hfree.all]
  ·
   exact hK u hR
  ·
   simp at hj; omega
end



end Go.Hl

namespace Go.Pl
open Go Go.Hl

theorem Rp.setAll (p : Rp) (x : HV) : CV.setAt 0 97 x p.cv = some x := by
 have := Rp.cells p
 simp only [Rp.cv, CV.cells] at this
 simp only [Rp.cv, CV.setAt, this, and_self, if_true]

def aB4 {α : Type} (p : α → Bool) (l : List α) : Int := match l.findIdx? p with | some i => i | none => -1

theorem aG8 {α : Type} {p : α → Bool} {l : List α} {i : Nat} (hi : i < l.length) (h : p l[i] = true) (h0 : ∀ x ∈ l.take i, p x = false) : aB4 p l = i := by
 unfold aB4
 have : l.findIdx? p = some i := by
  rw [List.findIdx?_eq_some_iff_getElem]
  refine ⟨hi, h, fun j hj => ?_⟩
  have := h0 (l[j]'(by omega)) (by rw [List.mem_take_iff_getElem]; exact ⟨j, by omega, rfl⟩)
  simp [this]
 rw [this]
theorem xP {α : Type} {p : α → Bool} {l : List α} (h0 : ∀ x ∈ l, p x = false) : aB4 p l = -1 := by
 unfold aB4
 have : l.findIdx? p = none := by rw [List.findIdx?_eq_none_iff]; exact h0
 rw [this]
theorem bP2 {α : Type} {p : α → Bool} {l : List α} : (0 ≤ aB4 p l) ↔ l.any p = true := by
 unfold aB4
 cases h : l.findIdx? p with
 | none =>
  rw [List.findIdx?_eq_none_iff] at h
  simp only [List.any_eq_true]
  constructor
  ·
   intro h'; omega
  ·
   rintro ⟨x, hx, hp⟩; rw [h x hx] at hp; cases hp
 | some i =>
  obtain ⟨hi, hp, _⟩ := List.findIdx?_eq_some_iff_getElem.1 h
  simp only [List.any_eq_true]
  exact ⟨fun _ => ⟨l[i], List.getElem_mem hi, hp⟩, fun _ => by omega⟩
end Go.Pl

namespace Go.Hl
open Go Go.RowKit

def leW (x y : List UInt8) : Bool := decide (x ≤ y)
structure MOk (D : MD) : Prop where
 nd : (D.map (·.1)).Nodup
 th : ∀ p ∈ D, p.2.there = true

theorem qO {w : World} {O : Nat → Prop} : ∀ (l : List (List UInt8)), RepL w O (l.map CV.str) (l.map cK)
 | [] => by simp [RepL]
 | x :: l => by simp only [List.map_cons, RepL]; exact ⟨[cK x], _, rfl, by simp [RepC, cK], qO l⟩

section
variable {P : Program} {av : List Nat} {f fi : FuncId} {ob : Ob} {nid id id2 : Nat} {K : HV → Ob → Prop} {T e : TypeId} {sz : Nat} {D : MD}
end

theorem uG {w : World} {ρ ρ2 : Env} {X : Nat → Prop} (hst : Stay w (Owned ρ X) w (Owned ρ2 X)) : ∀ {l : List CV} {xs : List Value}, RepHV w ρ (Owned ρ X) (l.map .c) xs → RepHV w ρ2 (Owned ρ2 X) (l.map .c) xs
 | [], xs, h => by simpa only [List.map_nil, RepHV] using h
 | v :: l, xs, h => by
  rw [List.map_cons, aX] at h ⊢
  obtain ⟨y, ys, rfl, ⟨h1, h2⟩, h3⟩ := h
  exact ⟨y, ys, rfl, ⟨by simp only [RepH] at h1 ⊢; exact h1.stay hst, h2⟩, uG hst h3⟩
theorem nP {w : World} {ρ : Env} {O : Nat → Prop} : ∀ {l1 l2 : List HV} {xs : List Value}, RepHV w ρ O (l1 ++ l2) xs ↔ ∃ y1 y2, xs = y1 ++ y2 ∧ RepHV w ρ O l1 y1 ∧ RepHV w ρ O l2 y2
 | [], l2, xs => by simp only [List.nil_append, RepHV]; exact ⟨fun h => ⟨[], xs, rfl, rfl, h⟩, fun ⟨y1, y2, h, h1, h2⟩ => by subst h1; subst h; exact h2⟩
 | v :: l1, l2, xs => by
  simp only [List.cons_append, aX, nP (l1 := l1)]
  constructor
  ·
   rintro ⟨y, ys, rfl, h1, a, b, rfl, h2, h3⟩
   exact ⟨y :: a, b, rfl, ⟨y, a, rfl, h1, h2⟩, h3⟩
  ·
   rintro ⟨y1, y2, rfl, ⟨y, ys, rfl, h1, h2⟩, h3⟩
   exact ⟨y, ys ++ y2, rfl, h1, ys, y2, rfl, h2, h3⟩

theorem aB5 {P : Program} {f : FuncId} {e : TypeId} {sz : Nat} {l pre post : List CV} {R : CV → Prop} (h : aW P f (pre ++ .slc l :: post) R) :
  HFn P f (pre.map .c ++ .own 0 l.length :: post.map .c) 1 (fob [(0, .row e sz l)]) (fun r ob' => ∃ u, r = .c u ∧ ob' = bP ∧ R u) := by
 refine ⟨h.1, fun w ρ X xs hS hA hX => ?_⟩
 obtain ⟨hd, ys, hρ0, hl, hcs, how⟩ := hS.objs 0 (.row e sz l) rfl
 let ρc : Env := fun _ => none
 have hown : ∀ b, ¬ Own ρc b := fun b ⟨_, _, h1, _⟩ => by cases h1
 have hst : Stay w (Owned ρ X) w (Owned ρc X) := Stay.same (fun b _ hb => hb.imp (fun x => x) (fun h => (hown b h).elim))
 have hSc : RepS w ρc X bP := ⟨fun _ _ h => (by simp [bP] at h), fun _ _ => rfl, fun _ _ _ _ _ h => (by cases h), fun _ _ _ h => (by cases h)⟩
 have hA2 : RepHV w ρc (Owned ρc X) ((pre ++ .slc l :: post).map .c) xs := by
  rw [List.map_append, List.map_cons]
  rw [nP] at hA ⊢
  obtain ⟨y1, y2, rfl, h1, h2⟩ := hA
  refine ⟨y1, y2, rfl, uG hst h1, ?_⟩
  rw [aX] at h2 ⊢
  obtain ⟨y, zs, rfl, hy, hz⟩ := h2
  refine ⟨y, zs, rfl, ?_, uG hst hz⟩
  obtain ⟨hy1, hy2⟩ := hy
  have hag : Value.isAgg' y = false := by rw [← hy2]; rfl
  rw [cells_single hag] at hy1
  simp only [RepH, List.cons.injEq, and_true] at hy1
  obtain ⟨x, rfl, hx1, hx2⟩ := hy1
  obtain ⟨q1, q2⟩ := hx2 hd hρ0
  refine bR ?_ rfl hag
  simp only [RepC]
  rcases how.2 with ⟨rfl, hz0⟩ | ⟨g, cap, cur, rfl, hg0, hg, hcap, _⟩
  ·
   have := q2 (by simp [hlen, hz0])
   exact ⟨none, 0, ys, sz, by rw [this, hz0], hl.stay hst, hcs, by omega, fun _ => rfl, fun ad had => (by cases had)⟩
  ·
   have := q2 (by simp [hlen])
   refine ⟨some ⟨g, 0, none⟩, cap, ys, sz, by rw [this], hl.stay hst, hcs, hcap, fun hh => (by cases hh), fun ad had => ?_⟩
   cases had
   refine ⟨how.cells (g := g) rfl, fun _ => ?_⟩
   rintro (hx | hx)
   ·
    exact hS.xb 0 _ g hρ0 rfl hx
   ·
    exact hown _ hx
 refine (h.2 w ρc X xs hSc hA2 hX).mono ?_
 rintro ex w' ⟨r, ob', ρ', x, rfl, ⟨v, rfl, hR, rfl⟩, hg⟩
 have hρ' : ∀ i, ρ' i = none := fun i => hg.s.none i rfl
 refine ⟨_, _, ρ', x, rfl, ⟨v, rfl, rfl, hR⟩, hg.v, hg.s, by simp [HV.men], fun i o ho => (by simp [bP] at ho), ?_, fun i L _ hL => (by rw [hρ' i] at hL; cases hL)⟩
 exact ⟨fun b hb _ => hg.stay.block b hb (hown b), fun b hb => (hg.stay.own b hb).imp (fun h => (hown b h).elim) (fun x => x), hg.stay.size, hg.stay.os, hg.stay.tape, hg.stay.output⟩

theorem aB6 {m : Nat → Nat} : ∀ (l : List CV), HV.renL m (l.map .c) = l.map .c
 | [] => rfl
 | v :: l => by simp only [List.map_cons, HV.renL, HV.ren, aB6 l]
theorem lX {m : Nat → Nat} : ∀ (l1 l2 : List HV), HV.renL m (l1 ++ l2) = HV.renL m l1 ++ HV.renL m l2
 | [], l2 => rfl
 | v :: l1, l2 => by simp only [List.cons_append, HV.renL, lX l1 l2]

theorem nY {P : Program} {av : List Nat} {f : FuncId} {ob : Ob} {nid id n : Nat} {K : HV → Ob → Prop} {e : TypeId} {sz : Nat} {l : List CV} {R : CV → Prop} (pre post : List CV) (h : aW P f (pre ++ .slc l :: post) R) (hid : ob id = some (.row e sz l)) (hn : n = l.length)
  (hav : id ∉ av) (hfree : Free4 ob nid) (hK : ∀ u, R u → K (.c u) (bT ob id)) : HCall P av f (pre.map .c ++ .own id n :: post.map .c) ob nid K := by
 have h0 : sub [id] nid 0 = id := rfl
 subst hn
 have hloc : LocOk 1 (pre.map HV.c ++ HV.own 0 l.length :: post.map HV.c) (fob [(0, .row e sz l)]) := by
  have := kS e sz l.length l
  refine ⟨this.all, this.none, ?_⟩
  rw [HV.menL_append]
  exact ⟨HV.menL_c, by simp only [HV.menL, HV.men]; exact ⟨by omega, HV.menL_c⟩⟩
 refine ⟨[id], _, _, _, aB5 h, hloc, ⟨by simp, by simpa using hav⟩, by simp only [lX, aB6, HV.renL, HV.ren, h0], fun j o hj => ?_, fun r lob' hR _ => ?_⟩
 ·
  simp only [fob_at, fob_nil] at hj
  split at hj
  ·
   rename_i e; subst e; cases hj; simpa [HO.ren] using hid
  ·
   cases hj
 ·
  obtain ⟨u, rfl, rfl, hR⟩ := hR
  rw [pA (lob := bP) (id := id) (by simp) rfl rfl (fun j hj0 hj => ?_) (fun j hj => rfl) hfree.all]
  ·
   exact hK u hR
  ·
   simp at hj; omega
end Go.Hl

namespace Go.Pl
open Go Go.Hl

end Go.Pl

namespace Go.Pl
open Go Go.Hl

abbrev Asc (l : List aK) : Prop := l.Pairwise (· < ·)
theorem bF5 : ∀ (a b : aK), Op.bytesLess a b = true ↔ a < b
 | _, [] => by simp [Op.bytesLess]
 | [], _ :: _ => by simp [Op.bytesLess]
 | a :: x, b :: y => by
  simp only [Op.bytesLess, Bool.or_eq_true, decide_eq_true_eq, Bool.and_eq_true, beq_iff_eq, bF5 x y, List.cons_lt_cons_iff]
theorem aB7 {a b : aK} : slt a b = true ↔ a < b := bF5 a b
theorem bP3 {a b : List aK} (ha : Asc a) (hb : Asc b) (h : ∀ w, w ∈ a ↔ w ∈ b) : a = b := by
 have nd : ∀ {l : List aK}, Asc l → l.Nodup := fun hl => hl.imp (fun {x y} h e => by subst e; exact List.lt_irrefl _ h)
 refine List.Perm.eq_of_pairwise (le := (· < ·)) (fun x y _ _ h1 h2 => absurd (List.lt_trans h1 h2) (List.lt_irrefl _)) ha hb ((List.perm_ext_iff_of_nodup (nd ha) (nd hb)).2 h)
theorem lY {a b : aK} (h : a ≤ b) (hne : a ≠ b) : a < b := by
 apply Classical.byContradiction
 intro h2
 exact hne (List.le_antisymm h (List.not_lt.1 h2))
theorem bF6 {α : Type} {p : α → Bool} : ∀ {l : List α} {x : α}, x ∈ l.takeWhile p → p x = true
 | [], x, h => by simp at h
 | a :: l, x, h => by
  by_cases ha : p a = true
  ·
   rw [List.takeWhile_cons_of_pos ha, List.mem_cons] at h
   rcases h with rfl | h
   ·
    exact ha
   ·
    exact bF6 h
  ·
   rw [List.takeWhile_cons_of_neg ha] at h; simp at h
theorem bF7 {l : List aK} {w v : aK} : v ∈ oW l w ↔ v ∈ l ∨ v = w := by
 unfold oW
 split
 ·
  rename_i h
  have : w ∈ l := by simpa using h
  constructor
  ·
   exact .inl
  ·
   rintro (h | rfl)
   ·
    exact h
   ·
    exact this
 ·
  have : l = l.takeWhile (slt · w) ++ l.dropWhile (slt · w) := (List.takeWhile_append_dropWhile).symm
  constructor
  ·
   intro h
   simp only [List.mem_append, List.mem_cons] at h
   rcases h with h | rfl | h
   ·
    exact .inl (by rw [this]; exact List.mem_append_left _ h)
   ·
    exact .inr rfl
   ·
    exact .inl (by rw [this]; exact List.mem_append_right _ h)
  ·
   rintro (h | rfl)
   ·
    rw [this] at h
    simp only [List.mem_append, List.mem_cons]
    rcases List.mem_append.1 h with h | h
    ·
     exact .inl h
    ·
     exact .inr (.inr h)
   ·
    simp
theorem bF8 {l : List aK} (h : Asc l) (w : aK) : Asc (oW l w) := by
 unfold oW
 split
 ·
  exact h
 ·
  rename_i hc
  have hw : w ∉ l := by simpa using hc
  have e : l = l.takeWhile (slt · w) ++ l.dropWhile (slt · w) := (List.takeWhile_append_dropWhile).symm
  have h' := h
  rw [e] at h'
  obtain ⟨p1, p2, p3⟩ := List.pairwise_append.1 h'
  have t1 : ∀ x ∈ l.takeWhile (slt · w), x < w := fun x hx => aB7.1 (bF6 (p := (slt · w)) hx)
  have t2 : ∀ y ∈ l.dropWhile (slt · w), w < y := by
   cases hd : l.dropWhile (slt · w) with
   | nil => simp
   | cons y r =>
    rw [hd] at p2 e
    have hy : slt y w = false := by
     have := List.head_dropWhile_not (slt · w) (l := l) (by rw [hd]; simp)
     simpa [hd] using this
    have hyl : y ∈ l := by rw [e]; simp
    have hwy : w < y := by
     have h1 : ¬ y < w := fun h => by rw [aB7.2 h] at hy; cases hy
     exact lY (List.not_lt.1 h1) (fun h => hw (h ▸ hyl))
    intro z hz
    rcases List.mem_cons.1 hz with rfl | hz
    ·
     exact hwy
    ·
     exact List.lt_trans hwy ((List.pairwise_cons.1 p2).1 z hz)
  refine List.pairwise_append.2 ⟨p1, List.pairwise_cons.2 ⟨t2, p2⟩, fun x hx y hy => ?_⟩
  rcases List.mem_cons.1 hy with rfl | hy
  ·
   exact t1 x hx
  ·
   exact List.lt_trans (t1 x hx) (t2 y hy)

section
variable {s r o : Dig} {t : Int} {l : List Rb}
end
end Go.Pl

namespace Go.Pl
open Go Go.Hl

section
variable {s r o : Dig} {t : Int} {l l' : List Rb}
end
theorem qP : ∀ (s l : List aK), l.Nodup → (∀ x ∈ l, x ∈ s) → l.length ≤ s.length
 | [], l, _, h => by
  cases l with
  | nil => exact Nat.le_refl _
  | cons x l => exact absurd (h x (by simp)) (by simp)
 | a :: s, l, hn, h => by
  by_cases ha : a ∈ l
  ·
   have h1 := qP s (l.erase a) (hn.erase a) (fun x hx => by
    obtain ⟨hne, hx⟩ := (List.Nodup.mem_erase_iff hn).1 hx
    exact (List.mem_cons.1 (h x hx)).resolve_left hne)
   rw [List.length_erase_of_mem ha] at h1
   simp only [List.length_cons]; omega
  ·
   have h1 := qP s l hn (fun x hx => (List.mem_cons.1 (h x hx)).resolve_left (fun e => ha (e ▸ hx)))
   simp only [List.length_cons]; omega
section
variable {s r o d : Dig} {t : Int} {m : List Rb} {w : aK}
end
end Go.Pl
