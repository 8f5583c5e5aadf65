/- HL, part K: the operations in one. By an AI agent. -/
import Derived.Test.YtbmeabkgdpfpbaaHlX
set_option linter.unusedSimpArgs false
set_option linter.unusedVariables false
namespace Go.Hl
open Go

def hun (op : UnOp) (x : HV) (K : HV → Prop) : Prop :=
  match op, x with
  | .not, .c (.bool b) => K (.c (.bool (!b)))
  | .neg, .c (.int k n) => K (.c (.int k (k.wrap (0 - n))))
  | .plus, x => False ∧ K x
  | _, _ => False
def hconv (P : Program) (src dst : TypeId) (x : HV) (K : HV → Prop) : Prop :=
  hlift (tyOf P src) fun ts => hlift (tyOf P dst) fun td => match ts.d, td.d, x with
    | _, .int k, .c (.int _ n) => K (.c (.int k (k.wrap n)))
    | _, .string, .c (.str s) => K (.c (.str s))
    | _, _, _ => False
def hindex (P : Program) (t : TypeId) (x i : HV) (K : HV → Prop) : Prop :=
  hlift (tyOf P t) fun ti => match ti.d, x, i with
    | .string, .c (.str s), .c (.int _ i) => (0 ≤ i ∧ i < (s.length : Int)) ∧ K (.c (.int .u8 (s.getD i.toNat 0).toNat))
    | .array m e, x, .c (.int _ i) => hlift (tyOf P e) fun te => (x.isAgg = true ∧ x.sto = true ∧ 0 ≤ i ∧ i < (m : Int)) ∧ hlift (HV.getAt (i.toNat * te.size) te.size te.d.isAgg x) K
    | _, _, _ => False
def hext (x : HV) (i : Nat) (K : HV → Prop) : Prop :=
  match x with
  | .tup l => hlift l[i]? K
  | _ => False
def hclo (f : FuncId) (caps : List HV) (K : HV → Prop) : Prop :=
  match caps with
  | [] => K (.c (.fn f))
  | caps => (∀ v ∈ caps, v ≠ .junk) ∧ K (.clo f caps)
def hmax (mx : Bool) (x y : HV) (K : HV → Prop) : Prop :=
  match x, y with
  | .c (.int k a), .c (.int k' b) => k = k' ∧ K (.c (.int k (if mx then (if b > a then b else a) else (if b < a then b else a))))
  | _, _ => False
def live (x : HV) (ob : Ob) : Prop :=
  match x with
  | .c (.rp _) => True
  | .c (.fn _) => True
  | .clo _ _ => True
  | .ptr id _ => HO.isBox (ob id) = true
  | .eptr id n _ _ _ => HO.isRow n (ob id)
  | _ => False

/-- What an operation (no call of a Go function) asks of a state, and gives. 'nid': the id of what it makes. -/
def hop (P : Program) (nid : Nat) (o : Op) (e : Operand → HV) (ob : Ob) (K : HV → Ob → Prop) : Prop :=
  match o with
  | .move x | .assign x => e x ≠ .junk ∧ K (e x) ob
  | .pick c a b => hpick (e c) (e a) (e b) fun v => v ≠ .junk ∧ K v ob
  | .alloc t => hlift (tyOf P t) fun ti => K (.ptr nid 0) (upd ob nid (some (.box t (.c ti.z))))
  | .box t x => e x ≠ .junk ∧ K (.ptr nid 0) (upd ob nid (some (.box t (e x))))
  | .build t parts => hlift (tyOf P t) fun ti => hbuild ti parts.toList e fun v => K v ob
  | .buildSlice t len parts => hlift (tyOf P t) fun ti => match ti.d with
    | .slice el => hlift (tyOf P el) fun te => hlift (hclosed e parts.toList 0 te.size) fun l => (len = l.length ∧ len * te.size ≤ 2 ^ 24) ∧ K (.own nid len) (upd ob nid (some (.row el te.size l)))
    | _ => False
  | .load t x => hlift (tyOf P t) fun ti => hload ti (e x) ob fun v => K v ob
  | .store t x y => hlift (tyOf P t) fun ti => hstore ti (e x) (e y) ob K
  | .nilCheck x => live (e x) ob ∧ K (e x) ob
  | .binOp op t x y _ => hbin P op t (e x) (e y) fun v => K (.c v) ob
  | .unOp op _ x => hun op (e x) fun v => K v ob
  | .convert s d x => hconv P s d (e x) fun v => K v ob
  | .makeFunc (.func f) first caps => first = #[] ∧ hclo f (caps.toList.map e) fun v => K v ob
  | .slice t x lo hi none => hslice2 P t (e x) (lo.map e) (hi.map e) ob fun v => K v ob
  | .makeMap t none => hmakeMap P t nid ob K
  | .lookup t m k false => hlookup P t (e m) (e k) ob fun v => K v ob
  | .mapUpdate t m k v => hmapUpdate P t (e m) (e k) (e v) ob K
  | .fieldAddr t x f => hfieldAddr P t (e x) f ob fun v => K v ob
  | .field t x f => ((e x).isAgg = true ∧ (e x).sto = true) ∧ hfield P t f fun off tf => hlift (HV.getAt off tf.size tf.d.isAgg (e x)) fun v => K v ob
  | .indexAddr t x i => hindexAddr P t (e x) (e i) ob fun v => K v ob
  | .index t x i => hindex P t (e x) (e i) fun v => K v ob
  | .extract x i => hext (e x) i fun v => v ≠ .junk ∧ K v ob
  | .call c => match c.callee, c.args.toList, c.argTypes.toList with
    | .builtin .len, [x], [t] => hlift (tyOf P t) fun ti => match ti.d with
      | .string => hlift (match e x with | .c (.str s) => some s.length | _ => none) fun n => K (.c (.int .i64 n)) ob
      | .slice _ => hlift (hread (e x) ob) fun l => K (.c (.int .i64 l.length)) ob
      | .array n _ => K (.c (.int .i64 n)) ob
      | _ => False
    | .builtin .append, [s, x], [t, t'] => t = t' ∧ happend2 P t (e s) (e x) nid ob K
    | .builtin .max, [x, y], [_, _] => hmax true (e x) (e y) fun v => K v ob
    | .builtin .min, [x, y], [_, _] => hmax false (e x) (e y) fun v => K v ob
    | .builtin .clear, [x], [t] => hclear P t (e x) ob K
    | _, _, _ => False
  | _ => False

section
variable {P : Program} {c : Ctx} {M M' : Nat → Prop} {fr : Fr} {ob : Ob} {a : Act} {w : World} {ρ : Env}

theorem RepA'.weaken (h : RepA' c M fr ob a w ρ) (hM : ∀ i, M i → M' i) : RepA' c M' fr ob a w ρ :=
  ⟨h.s, h.f, fun t => HV.men_mono hM (h.mf t), fun id o ho => ⟨hM _ (h.mo id o ho).1, by
    have h2 := (h.mo id o ho).2
    cases o with
    | box t v => exact HV.men_mono hM h2
    | row _ _ _ => trivial
    | mp _ _ _ => trivial⟩, fun id hid => hM _ (h.m0 id hid), h.base, h.moves, h.defers, h.size, h.xlt⟩

/-- What the model does at an operation that the calculus lets by. -/
def Gives (P : Program) (o : Oper) (a : Act) (w : World) (R : Value → World → Prop) : Prop :=
  ∃ y w', R y w' ∧ ((execOp a.eval o).run P w = .ok (.value y) w' ∨ ((execOp a.eval o).run P w = .ok .skip w' ∧ y = undef))

theorem Gives.val {o : Oper} {R : Value → World → Prop} {y : Value} {w' : World} (h : (execOp a.eval o).run P w = .ok (.value y) w') (hr : R y w') : Gives P o a w R := ⟨y, w', hr, .inl h⟩

theorem repHV_of (h : RepA' c M fr ob a w ρ) : ∀ (l : List Operand), (∀ v ∈ l.map (ev fr), v ≠ .junk) → RepHV w ρ (Owned ρ c.X) (l.map (ev fr)) (l.map a.eval)
  | [], _ => by simp [RepHV]
  | x :: xs, hj => by
    simp only [List.map_cons, repHV_cons]
    exact ⟨_, _, rfl, h.ev x (hj _ (by simp)), repHV_of h xs (fun v hv => hj v (by simp only [List.map_cons, List.mem_cons]; exact .inr hv))⟩
theorem menL_ev (h : RepA' c M fr ob a w ρ) : ∀ (l : List Operand), HV.menL M (l.map (ev fr))
  | [] => by simp [HV.menL]
  | x :: xs => by simp only [List.map_cons, HV.menL]; exact ⟨h.evm x, menL_ev h xs⟩

theorem run_eqGuard_ok {op : BinOp} {t : TypeId} {x y : Operand} {u v : Value} (h1 : u ≠ .nilIface) (h2 : Value.isAgg' u = true → P.eqGuardType P.depth t = false) : (eqGuard op t x y u v).run P w = .ok () w := by
  have key : op = .eql ∨ op = .neq → (eqGuard op t x y u v).run P w = .ok () w := by
    rintro (rfl | rfl) <;> unfold eqGuard <;> cases u <;> first | exact absurd rfl h1 | (cases v <;> first | rfl | simp [h2 rfl])
  cases op <;> first | exact key (.inl rfl) | exact key (.inr rfl) | rfl

theorem agg_of {x : Value} {cs : List Value} (h : Value.isAgg' x = true) (e : x.cells.toList = cs) : x = .agg cs.toArray := by
  cases x <;> simp [Value.isAgg'] at h
  simp only [Value.cells] at e
  rw [← e]

theorem repHV_get {w : World} {ρ : Env} {O : Nat → Prop} {v : HV} : ∀ {l : List HV} {xs : List Value} {i : Nat}, RepHV w ρ O l xs → l[i]? = some v → ∃ x, xs[i]? = some x ∧ RepV w ρ O v x
  | [], xs, i, _, hi => by simp at hi
  | u :: us, xs, 0, h, hi => by
    rw [repHV_cons] at h
    obtain ⟨y, ys, rfl, h1, h2⟩ := h
    simp only [List.getElem?_cons_zero, Option.some.injEq] at hi
    subst hi
    exact ⟨y, rfl, h1⟩
  | u :: us, xs, i + 1, h, hi => by
    rw [repHV_cons] at h
    obtain ⟨y, ys, rfl, h1, h2⟩ := h
    simp only [List.getElem?_cons_succ] at hi ⊢
    exact repHV_get h2 hi
theorem menL_get {M : Nat → Prop} {v : HV} : ∀ {l : List HV} {i : Nat}, HV.menL M l → l[i]? = some v → v.men M
  | [], i, _, hi => by simp at hi
  | u :: us, 0, h, hi => by simp only [List.getElem?_cons_zero, Option.some.injEq] at hi; subst hi; simp only [HV.menL] at h; exact h.1
  | u :: us, i + 1, h, hi => by simp only [List.getElem?_cons_succ] at hi; simp only [HV.menL] at h; exact menL_get h.2 hi

/-- THE OPERATIONS ARE SOUND. -/
theorem hop_sound (h : RepA' c M fr ob a w ρ) {nid : Nat} (hn : ¬ M nid) (hM : ∀ i, M i → M' i) (hM' : M' nid) {o : Oper} {K : HV → Ob → Prop} (hl : hop P nid o.op (ev fr) ob K) (hd : ∀ k, o.dst = some k → k < c.n) :
    Gives P o a w fun y w' => ∃ v ob' ρ', K v ob' ∧ RepA' c M' (updo fr o.dst v) ob' (a.put o.dst y) w' ρ' := by
  have valq : ∀ {v : HV} {y : Value}, K v ob → (execOp a.eval o).run P w = .ok (.value y) w → RepV w ρ (Owned ρ c.X) v y → v.men M →
      Gives P o a w fun y w' => ∃ v ob' ρ', K v ob' ∧ RepA' c M' (updo fr o.dst v) ob' (a.put o.dst y) w' ρ' := fun hK hr hv hm =>
    .val hr ⟨_, _, _, hK, (h.value (.inr hv) hm hd).weaken hM⟩
  unfold hop at hl
  split at hl
  · rename_i x ho
    exact valq hl.2 (by simp [execOp, ho]) (h.ev x hl.1) (h.evm x)
  · rename_i x ho
    exact valq hl.2 (by simp [execOp, ho]) (h.ev x hl.1) (h.evm x)
  · rename_i cc x y ho
    unfold hpick at hl
    split at hl
    · rename_i t hc
      have hb := bool_of h hc
      cases t with
      | true => exact valq hl.2 (by simp [execOp, ho, hb, asBool]) (h.ev x (by simpa using hl.1)) (by simpa using h.evm x)
      | false => exact valq hl.2 (by simp [execOp, ho, hb, asBool]) (h.ev y (by simpa using hl.1)) (by simpa using h.evm y)
    · exact hl.elim
  · rename_i t ho
    rw [hlift_iff] at hl
    obtain ⟨ti, ht, hK⟩ := hl
    obtain ⟨y, w', ρ', hr, hA⟩ := alloc_sound (P := P) h hn hM hM' ht o.dst hd
    exact .val (by simp [execOp, ho, hr]) ⟨_, _, _, hK, hA⟩
  · rename_i t x ho
    obtain ⟨y, w', ρ', hr, hA⟩ := box_sound (P := P) h hn hM hM' (t := t) hl.1 o.dst hd
    exact .val (by simp [execOp, ho, hr]) ⟨_, _, _, hl.2, hA⟩
  · rename_i t parts ho
    rw [hlift_iff] at hl
    obtain ⟨ti, ht, hl⟩ := hl
    obtain ⟨u, y, hK, hr, hv, hm⟩ := build_sound h ht hl
    exact valq hK (by simp [execOp, ho, hr]) hv hm
  · rename_i t len parts ho
    rw [hlift_iff] at hl
    obtain ⟨ti, ht, hl⟩ := hl
    split at hl
    · rename_i el hde
      rw [hlift_iff] at hl
      obtain ⟨te, hte, hl⟩ := hl
      rw [hlift_iff] at hl
      obtain ⟨l, hcl, ⟨h1, h2⟩, hK⟩ := hl
      obtain ⟨y, w', ρ', hr, hA⟩ := buildSlice_sound h hn hM hM' ht hde hte hcl h1 h2 o.dst hd
      exact .val (by simp [execOp, ho, hr]) ⟨_, _, _, hK, hA⟩
    · exact hl.elim
  · rename_i t x ho
    rw [hlift_iff] at hl
    obtain ⟨ti, ht, hl⟩ := hl
    obtain ⟨u, y, hK, hr, hv, hm⟩ := load_sound h ht hl
    exact valq hK (by simp [execOp, ho, hr]) hv hm
  · rename_i t x y ho
    rw [hlift_iff] at hl
    obtain ⟨ti, ht, hl⟩ := hl
    obtain ⟨ob', w', hK, hr, hA⟩ := store_sound h ht hl
    exact ⟨undef, w', ⟨_, _, _, hK, (hA o.dst undef hd).weaken hM⟩, .inr ⟨by simp [execOp, ho, hr], rfl⟩⟩
  · rename_i x ho
    obtain ⟨hlv, hK⟩ := hl
    have hj : ev fr x ≠ .junk := by intro e; rw [e] at hlv; exact hlv
    refine valq hK ?_ (h.ev x hj) (h.evm x)
    unfold live at hlv
    split at hlv
    · rename_i v hx
      obtain ⟨ad, xs, he, _⟩ := rp_of h hx
      simp [execOp, ho, he]
    · rename_i f hx
      have hr := h.ev x hj
      rw [hx] at hr
      have := hr.single rfl
      simp only [RepC, List.cons.injEq, and_true] at this
      simp [execOp, ho, this]
    · rename_i f caps hx
      have hr := repV_ref (h.ev x hj) (by rw [hx]; rfl)
      rw [hx] at hr
      simp only [RepH, List.cons.injEq, and_true] at hr
      obtain ⟨⟨xs, he, _⟩, _⟩ := hr
      simp [execOp, ho, he]
    · rename_i id off hx
      obtain ⟨b, _, he⟩ := ptr_live h hx hlv
      simp [execOp, ho, he]
    · rename_i id n i sz off hx
      obtain ⟨g, cap, _, he⟩ := eptr_live h hx hlv
      simp [execOp, ho, he]
    · exact hlv.elim
  · rename_i op t x y yt ho
    unfold hbin at hl
    have run : ∀ z, (eqGuard op t x y (a.eval x) (a.eval y)).run P w = .ok () w → (binOp op t (a.eval x) (a.eval y)).run P w = .ok z w → (execOp a.eval o).run P w = .ok (.value z) w := fun z h1 h2 => by
      simp [execOp, ho, h1, h2]
    split at hl
    · rename_i k i1 k' i2 hx hy
      obtain ⟨u, hK, hs, hr⟩ := run_binOp_int (P := P) (t := t) hl
      have ex := int_of h hx
      have ey := int_of h hy
      exact valq hK (run _ (by rw [ex]; exact run_eqGuard_ok (by simp) (by simp [Value.isAgg'])) (by rw [ex, ey]; exact hr w)) (CV.val_rep hs) (by simp [HV.men])
    · rename_i s1 s2 hx hy
      obtain ⟨u, hK, hs, hr⟩ := run_binOp_str (P := P) (t := t) hl
      have ex := str_of h hx
      have ey := str_of h hy
      exact valq hK (run _ (by rw [ex]; exact run_eqGuard_ok (by simp) (by simp [Value.isAgg'])) (by rw [ex, ey]; exact hr w)) (CV.val_rep hs) (by simp [HV.men])
    · rename_i b1 b2 hx hy
      rw [hlift_iff] at hl
      obtain ⟨ti, ht, hd1, hl⟩ := hl
      obtain ⟨i, d, zv, hty⟩ := tyOf_ok ht
      have hu : P.underlying t = some .bool := by
        have := hty.d_; rw [hd1] at this
        rw [hty.under]; congr 1; cases d <;> simp [tyd] at this; rfl
      have ex := bool_of h hx
      have ey := bool_of h hy
      have hq := run_equal_bool (P := P) w t b1 b2 hu
      split at hl
      · exact valq hl (run _ (by rw [ex]; exact run_eqGuard_ok (by simp) (by simp [Value.isAgg'])) (by rw [ex, ey]; simp [binOp, hq])) (repV_bool _ _ _ _) (by simp [HV.men])
      · exact valq hl (run _ (by rw [ex]; exact run_eqGuard_ok (by simp) (by simp [Value.isAgg'])) (by rw [ex, ey]; simp [binOp, hq])) (repV_bool _ _ _ _) (by simp [HV.men])
      · exact hl.elim
    · rename_i l1 l2 hx hy
      obtain ⟨⟨h1, h2, h3⟩, hl⟩ := hl
      simp only [aggEq, Bool.and_eq_true, Bool.not_eq_true'] at h1
      have hrx := h.ev x (by rw [hx]; simp)
      have hry := h.ev y (by rw [hy]; simp)
      rw [hx] at hrx; rw [hy] at hry
      obtain ⟨rx1, rx2⟩ := hrx
      obtain ⟨ry1, ry2⟩ := hry
      simp only [RepH] at rx1 ry1
      have hq := (eqC_all (P := P) 9992 8 t h1.1 w _ _ _ _ _ _ h2 h3 rx1 ry1).1
      have mx : mkVal (CV.agg l1).isAgg (a.eval x).cells.toList = a.eval x := mkVal_cells _ _ rx2.symm
      have my : mkVal (CV.agg l2).isAgg (a.eval y).cells.toList = a.eval y := mkVal_cells _ _ ry2.symm
      rw [mx, my] at hq
      have hax : ∃ cs, a.eval x = .agg cs := by
        cases hv : a.eval x <;> rw [hv] at rx2 <;> simp [HV.isAgg, CV.isAgg, Value.isAgg'] at rx2
        exact ⟨_, rfl⟩
      obtain ⟨cs, hcs⟩ := hax
      have hay : ∃ cs, a.eval y = .agg cs := by
        cases hv : a.eval y <;> rw [hv] at ry2 <;> simp [HV.isAgg, CV.isAgg, Value.isAgg'] at ry2
        exact ⟨_, rfl⟩
      obtain ⟨ds, hds⟩ := hay
      have hq' : (Op.equal t (.agg cs) (.agg ds)).run P w = .ok ((CV.agg l1).eqv (.agg l2)) w := by rw [← hcs, ← hds]; exact hq
      have hg := run_eqGuard_ok (P := P) (w := w) (op := op) (t := t) (x := x) (y := y) (u := a.eval x) (v := a.eval y) (by rw [hcs]; simp) (fun _ => h1.2)
      split at hl
      · exact valq hl (run _ hg (by rw [hcs, hds]; simp [binOp, hq'])) (repV_bool _ _ _ _) (by simp [HV.men])
      · exact valq hl (run _ hg (by rw [hcs, hds]; simp [binOp, hq'])) (repV_bool _ _ _ _) (by simp [HV.men])
      · exact hl.elim
    · exact hl.elim
  · rename_i op t x ho
    unfold hun at hl
    split at hl
    · rename_i b hx
      have ex := bool_of h hx
      exact valq hl (by simp [execOp, ho, ex, Op.unary]) (repV_bool _ _ _ _) (by simp [HV.men])
    · rename_i k n hx
      have ex := int_of h hx
      exact valq hl (by simp [execOp, ho, ex, Op.unary, Op.intArith]) (repV_int _ _ _ _ _) (by simp [HV.men])
    · exact hl.1.elim
    · exact hl.elim
  · rename_i sr ds x ho
    unfold hconv at hl
    rw [hlift_iff] at hl
    obtain ⟨ts, hts, hl⟩ := hl
    rw [hlift_iff] at hl
    obtain ⟨td, htd, hl⟩ := hl
    obtain ⟨is, dd, zs, hs⟩ := tyOf_ok hts
    obtain ⟨id', dd', zd, hdt⟩ := tyOf_ok htd
    split at hl
    · rename_i k k' n hd1 hx
      have ex := int_of h hx
      have hu : P.underlying ds = some (.int k) := by
        have := hdt.d_; rw [hd1] at this
        rw [hdt.under]; congr 1; cases dd' <;> simp [tyd] at this; rw [this]
      refine valq hl ?_ (repV_int _ _ _ _ _) (by simp [HV.men])
      simp [execOp, ho, ex, convert, run_underlying hs.under, run_underlying hu, Conv.intToInt]
    · rename_i s hd1 hx
      have ex := str_of h hx
      have hu : P.underlying ds = some .string := by
        have := hdt.d_; rw [hd1] at this
        rw [hdt.under]; congr 1; cases dd' <;> simp [tyd] at this; rfl
      refine valq hl ?_ (repV_str _ _ _ _) (by simp [HV.men])
      simp [execOp, ho, ex, convert, run_underlying hs.under, run_underlying hu]
    · exact hl.elim
  · rename_i f first caps ho
    obtain ⟨rfl, hl⟩ := hl
    unfold hclo at hl
    split at hl
    · rename_i hc
      have hc0 : caps = #[] := by
        have : caps.toList = [] := by simpa using hc
        exact Array.toList_eq_nil_iff.1 this
      subst hc0
      exact valq (y := .func (.func f) #[] #[]) hl (by simp [execOp, ho, Instr.makeFunc]) (repV_single (by simp [RepC]) rfl rfl) (by simp [HV.men])
    · obtain ⟨hj, hK⟩ := hl
      have hr := repHV_of h caps.toList hj
      refine valq (y := .func (.func f) #[] (caps.map a.eval)) hK (by simp [execOp, ho, Instr.makeFunc]) (repV_mk ?_ rfl rfl) (by simp only [HV.men]; exact menL_ev h _)
      simp only [RepH]
      have e : caps.map a.eval = (caps.toList.map a.eval).toArray := by rw [← Array.toList_map, Array.toArray_toList]
      exact ⟨caps.toList.map a.eval, by rw [e], hr⟩
  · rename_i t x lo hi ho
    obtain ⟨u, y, hK, hr, hv, hm⟩ := slice2_sound h hl
    exact valq hK (by simp [execOp, ho, hr]) hv hm
  · rename_i t ho
    obtain ⟨v, ob', y, w', ρ', hK, hr, hA⟩ := makeMap_sound h hn hM hM' hl o.dst hd
    exact .val (by simp [execOp, ho, hr]) ⟨_, _, _, hK, hA⟩
  · rename_i t m k ho
    obtain ⟨u, y, hK, hr, hv, hm⟩ := lookup_sound h hl
    exact valq hK (by simp [execOp, ho, hr]) hv hm
  · rename_i t m k v ho
    obtain ⟨ob', w', hK, hr, hA⟩ := mapUpdate_sound h hl
    exact ⟨undef, w', ⟨_, _, _, hK, (hA o.dst undef hd).weaken hM⟩, .inr ⟨by simp [execOp, ho, hr], rfl⟩⟩
  · rename_i t x f ho
    obtain ⟨u, y, hK, hr, hv, hm⟩ := fieldAddr_sound h hl
    exact valq hK (by simp [execOp, ho, hr]) hv hm
  · rename_i t x f ho
    obtain ⟨⟨ha, hs⟩, hl⟩ := hl
    obtain ⟨fs, fd, tf, i, d, zv, hu, hf, hty, hK⟩ := hfield_ok hl
    rw [hlift_iff] at hK
    obtain ⟨u, hg, hK⟩ := hK
    have hr := h.ev x (by intro e; rw [e] at hs; simp [HV.sto] at hs)
    obtain ⟨c1, c2, c3, e0, e1, e2, e3, e4, e5, e6⟩ := HV.getAt_spec hg hs hr.1
    have hax : a.eval x = .agg (c1 ++ c2 ++ c3).toArray := agg_of (by rw [← hr.2, ha]) e0
    have hp := run_part' (w := w) hty c1 c2 c3 e2
    rw [e1] at hp
    refine valq hK ?_ (repV_mkVal e3 e4 e5) (e6 M (h.evm x))
    simp [execOp, ho, hax, Instr.field, run_underlying hu, hf, asAgg]
    simpa using congrArg (fun r => Result.andThen r fun v w' => Result.ok (Next.value v) w') hp
  · rename_i t x i ho
    obtain ⟨u, y, hK, hr, hv, hm⟩ := indexAddr_sound h hl
    exact valq hK (by simp [execOp, ho, hr]) hv hm
  · rename_i t x ix ho
    unfold hindex at hl
    rw [hlift_iff] at hl
    obtain ⟨ti, ht, hl⟩ := hl
    obtain ⟨i0, d0, zv0, hty⟩ := tyOf_ok ht
    have hdd := hty.d_
    split at hl
    · rename_i s k i hd1 hx hi
      obtain ⟨⟨h0, h1⟩, hK⟩ := hl
      rw [hd1] at hdd
      have hu : P.underlying t = some .string := by rw [hty.under]; congr 1; cases d0 <;> simp [tyd] at hdd; rfl
      have hlt : i.toNat < s.length := by omega
      have hget : (⟨s.toArray⟩ : ByteArray)[i.toNat]? = some (s.getD i.toNat 0) := by
        have hsz : (⟨s.toArray⟩ : ByteArray).size = s.length := by simp [ByteArray.size]
        rw [getElem?_pos _ _ (by rw [hsz]; exact hlt)]
        simp [ByteArray.getElem_eq_getElem_data, hlt]
      refine valq hK ?_ (repV_int _ _ _ _ _) (by simp [HV.men])
      simp [execOp, ho, str_of h hx, int_of h hi, Instr.index, asIntOf, run_underlying hu, h0, hget]
    · rename_i m e k i hd1 hi
      rw [hd1] at hdd
      have hu : P.underlying t = some (.array m e) := by rw [hty.under]; congr 1; cases d0 <;> simp [tyd] at hdd; rw [hdd.1, hdd.2]
      rw [hlift_iff] at hl
      obtain ⟨te, hte, ⟨ha, hs, h0, h1⟩, hl⟩ := hl
      obtain ⟨ie, de, zve, htye⟩ := tyOf_ok hte
      rw [hlift_iff] at hl
      obtain ⟨u, hg, hK⟩ := hl
      have hr := h.ev x (by intro e; rw [e] at hs; simp [HV.sto] at hs)
      obtain ⟨c1, c2, c3, e0, e1, e2, e3, e4, e5, e6⟩ := HV.getAt_spec hg hs hr.1
      have hax : a.eval x = .agg (c1 ++ c2 ++ c3).toArray := agg_of (by rw [← hr.2, ha]) e0
      have hp := run_part' (w := w) htye c1 c2 c3 e2
      rw [e1] at hp
      refine valq hK ?_ (repV_mkVal e3 e4 e5) (e6 M (h.evm x))
      have hsz : (sizeOf e).run P w = .ok te.size w := by rw [run_sizeOf' htye.info, htye.size]
      simp only [execOp, ho, hax, Instr.index, asIntOf, int_of h hi, Sem.run_bind, Sem.run_pure, Result.andThen_ok, run_underlying hu, h0, h1, and_self, if_true, hsz, hp]
    · exact hl.elim
  · rename_i x i ho
    unfold hext at hl
    split at hl
    · rename_i l hx
      rw [hlift_iff] at hl
      obtain ⟨v, hv, hj, hK⟩ := hl
      have hr := repV_ref (h.ev x (by rw [hx]; simp)) (by rw [hx]; rfl)
      have hm := h.evm x
      rw [hx] at hr hm
      simp only [RepH, List.cons.injEq, and_true, HV.men] at hr hm
      obtain ⟨⟨xs, he, hxs⟩, _⟩ := hr
      obtain ⟨y, hy, hyv⟩ := repHV_get hxs hv
      exact valq hK (by simp [execOp, ho, he, Instr.extract, hy]) hyv (menL_get hm hv)
    · exact hl.elim
  · rename_i cl ho
    split at hl
    · rename_i x t hcal hargs hat
      have hargs' : cl.args = #[x] := by rw [← Array.toArray_toList (xs := cl.args), hargs]
      have hat' : cl.argTypes = #[t] := by rw [← Array.toArray_toList (xs := cl.argTypes), hat]
      rw [hlift_iff] at hl
      obtain ⟨ti, ht, hl⟩ := hl
      obtain ⟨i0, d0, zv0, hty⟩ := tyOf_ok ht
      have hdd := hty.d_
      have run : ∀ z, (Builtin.len_ #[t] o.type #[a.eval x]).run P w = .ok z w → (execOp a.eval o).run P w = .ok (.value z) w := fun z hz => by
        simp [execOp, ho, resolve, hcal, hargs', hat', invoke, builtin, hz]
      split at hl
      · rename_i hd1
        rw [hd1] at hdd
        have hu : P.underlying t = some .string := by rw [hty.under]; congr 1; cases d0 <;> simp [tyd] at hdd; rfl
        rw [hlift_iff] at hl
        obtain ⟨n, hn', hK⟩ := hl
        split at hn'
        · rename_i s hx
          cases hn'
          refine valq hK (run (.int .i64 s.length) ?_) (repV_int _ _ _ _ _) (by simp [HV.men])
          have hsz : (⟨s.toArray⟩ : ByteArray).size = s.length := by simp [ByteArray.size]
          simp only [Builtin.len_, List.getElem?_toArray, List.getElem?_cons_zero, Sem.run_bind, run_underlying hu, Result.andThen_ok, str_of h hx, Sem.run_pure, goInt, hsz]
        · cases hn'
      · rename_i e hd1
        rw [hd1] at hdd
        have hu : P.underlying t = some (.slice e) := by rw [hty.under]; congr 1; cases d0 <;> simp [tyd] at hdd; rw [hdd]
        rw [hlift_iff] at hl
        obtain ⟨l, hl1, hK⟩ := hl
        obtain ⟨ad, m, cap, xs, he, hm, _⟩ := read_sound h hl1
        refine valq hK (run (.int .i64 l.length) ?_) (repV_int _ _ _ _ _) (by simp [HV.men])
        simp [Builtin.len_, run_underlying hu, he, goInt, hm]
      · rename_i n e hd1
        rw [hd1] at hdd
        have hu : P.underlying t = some (.array n e) := by rw [hty.under]; congr 1; cases d0 <;> simp [tyd] at hdd; rw [hdd.1, hdd.2]
        refine valq hl (run (.int .i64 n) ?_) (repV_int _ _ _ _ _) (by simp [HV.men])
        simp [Builtin.len_, run_underlying hu, goInt]
      · exact hl.elim
    · rename_i s x t t' hcal hargs hat
      obtain ⟨rfl, hl⟩ := hl
      have hargs' : cl.args = #[s, x] := by rw [← Array.toArray_toList (xs := cl.args), hargs]
      have hat' : cl.argTypes = #[t, t] := by rw [← Array.toArray_toList (xs := cl.argTypes), hat]
      obtain ⟨v, ob', y, w', ρ', hK, hr, hA⟩ := append2_sound (P := P) (ty := o.type) h hn hM hM' hl o.dst hd
      exact .val (by simp [execOp, ho, resolve, hcal, hargs', hat', invoke, builtin, hr]) ⟨_, _, _, hK, hA⟩
    · rename_i x y t1 t2 hcal hargs hat
      have hargs' : cl.args = #[x, y] := by rw [← Array.toArray_toList (xs := cl.args), hargs]
      unfold hmax at hl
      split at hl
      · rename_i k i1 k' i2 hx hy
        obtain ⟨rfl, hK⟩ := hl
        refine valq hK ?_ (repV_int _ _ _ _ _) (by simp [HV.men])
        simp [execOp, ho, resolve, hcal, hargs', invoke, builtin, Builtin.max_, Builtin.max2, int_of h hx, int_of h hy]
      · exact hl.elim
    · rename_i x y t1 t2 hcal hargs hat
      have hargs' : cl.args = #[x, y] := by rw [← Array.toArray_toList (xs := cl.args), hargs]
      unfold hmax at hl
      split at hl
      · rename_i k i1 k' i2 hx hy
        obtain ⟨rfl, hK⟩ := hl
        refine valq hK ?_ (repV_int _ _ _ _ _) (by simp [HV.men])
        simp [execOp, ho, resolve, hcal, hargs', invoke, builtin, Builtin.min_, Builtin.min2, int_of h hx, int_of h hy]
      · exact hl.elim
    · rename_i x t hcal hargs hat
      have hargs' : cl.args = #[x] := by rw [← Array.toArray_toList (xs := cl.args), hargs]
      have hat' : cl.argTypes = #[t] := by rw [← Array.toArray_toList (xs := cl.argTypes), hat]
      obtain ⟨ob', w', hK, hr, hA⟩ := clear_sound (ty := o.type) h hl
      exact .val (y := .tuple #[]) (by simp [execOp, ho, resolve, hcal, hargs', hat', invoke, builtin, hr]) ⟨_, _, _, hK, (hA o.dst _ hd).weaken hM⟩
    · exact hl.elim
  · exact hl.elim
end
end Go.Hl
