/- HL, part J: numbers, strings, tests, slices of slices, tuples; the operations in one. By an AI agent. -/
import Derived.Test.YtenbfeemmpjdhaaGreatDoorHlI
import Derived.Lib.Strings
set_option linter.unusedSimpArgs false
set_option linter.unusedVariables false
set_option linter.defProp false
namespace Go.Hl
open Go

def hint (op : BinOp) (k : IntKind) (a b : Int) (K : CV → Prop) : Prop :=
 match op with
 | .add => K (.int k (k.wrap (a + b)))
 | .sub => K (.int k (k.wrap (a - b)))
 | .mul => K (.int k (k.wrap (a * b)))
 | .quo => b ≠ 0 ∧ K (.int k (k.wrap (a.tdiv b)))
 | .rem => b ≠ 0 ∧ K (.int k (a.tmod b))
 | .and => K (.int k (k.wrap (BitVec.ofInt k.bits a &&& BitVec.ofInt k.bits b).toNat))
 | .or => K (.int k (k.wrap (BitVec.ofInt k.bits a ||| BitVec.ofInt k.bits b).toNat))
 | .xor => K (.int k (k.wrap (BitVec.ofInt k.bits a ^^^ BitVec.ofInt k.bits b).toNat))
 | .andNot => K (.int k (k.wrap (BitVec.ofInt k.bits a &&& ~~~ BitVec.ofInt k.bits b).toNat))
 | .eql => K (.bool (a == b))
 | .neq => K (.bool (a != b))
 | .lss => K (.bool (decide (a < b)))
 | .leq => K (.bool (decide (a ≤ b)))
 | .gtr => K (.bool (decide (b < a)))
 | .geq => K (.bool (decide (b ≤ a)))
 | _ => False
def hshift (op : BinOp) (k : IntKind) (a b : Int) (K : CV → Prop) : Prop :=
 match op with
 | .shl => 0 ≤ b ∧ K (.int k (k.wrap (a * 2 ^ (min b.toNat k.bits))))
 | .shr => 0 ≤ b ∧ K (.int k (a.fdiv (2 ^ (min b.toNat k.bits))))
 | _ => False
def slt (a b : List UInt8) : Bool := Op.bytesLess a b
def hstr (op : BinOp) (a b : List UInt8) (K : CV → Prop) : Prop :=
 match op with
 | .add => a.length + b.length ≤ 9223372036854775807 ∧ K (.str (a ++ b))
 | .eql => K (.bool (a == b))
 | .neq => K (.bool (!(a == b)))
 | .lss => K (.bool (slt a b))
 | .leq => K (.bool (slt a b || a == b))
 | .gtr => K (.bool (!(slt a b || a == b)))
 | .geq => K (.bool (!(slt a b)))
 | _ => False
def isShift : BinOp → Bool
 | .shl | .shr => true
 | _ => false
def hbin (P : Program) (op : BinOp) (t : TypeId) (x y : HV) (K : CV → Prop) : Prop :=
 match x, y with
 | .c (.int k a), .c (.int k' b) => if isShift op then hshift op k a b K else k = k' ∧ hint op k a b K
 | .c (.str a), .c (.str b) => hstr op a b K
 | .c (.bool a), .c (.bool b) => hlift (tyOf P t) fun ti => ti.d = .bool ∧ match op with
  | .eql => K (.bool (a == b))
  | .neq => K (.bool (!(a == b)))
  | _ => False
 | .c (.agg a), .c (.agg b) => (aggEq P t = true ∧ CV.ofTy P 8 t (.agg a) = true ∧ CV.ofTy P 8 t (.agg b) = true) ∧ match op with
  | .eql => K (.bool (CV.eqv (.agg a) (.agg b)))
  | .neq => K (.bool (!(CV.eqv (.agg a) (.agg b))))
  | _ => False
 | _, _ => False

def CV.val : CV → Value
 | .bool b => .bool b
 | .int k n => .int k n
 | .str s => .string ⟨s.toArray⟩
 | _ => undef
def CV.sc : CV → Bool
 | .bool _ | .int _ _ | .str _ => true
 | _ => false
theorem CV.val_rep {w : World} {ρ : Env} {O : Nat → Prop} {u : CV} (h : u.sc = true) : RepV w ρ O (.c u) u.val := by
 cases u <;> simp [CV.sc] at h
 ·
  exact repV_bool _ _ _ _
 ·
  exact repV_int _ _ _ _ _
 ·
  exact repV_str _ _ _ _

section
variable {P : Program}

theorem run_binOp_int {op : BinOp} {t : TypeId} {k k' : IntKind} {a b : Int} {K : CV → Prop} (h : if isShift op then hshift op k a b K else k = k' ∧ hint op k a b K) :
  ∃ u, K u ∧ u.sc = true ∧ ∀ w, (binOp op t (.int k a) (.int k' b)).run P w = .ok u.val w := by
 by_cases hs : isShift op = true
 ·
  rw [if_pos hs] at h
  cases op <;> simp [isShift] at hs <;> simp only [hshift] at h
  ·
   exact ⟨_, h.2, rfl, fun w => by simp [binOp, Op.shift, Int.not_lt.2 h.1, CV.val]⟩
  ·
   exact ⟨_, h.2, rfl, fun w => by simp [binOp, Op.shift, Int.not_lt.2 h.1, CV.val]⟩
 ·
  rw [if_neg hs] at h
  obtain ⟨rfl, h⟩ := h
  cases op <;> simp [isShift] at hs <;> simp only [hint] at h
  case quo => exact ⟨_, h.2, rfl, fun w => by simp [binOp, Op.intDiv, h.1, CV.val]⟩
  case rem => exact ⟨_, h.2, rfl, fun w => by simp [binOp, Op.intDiv, h.1, CV.val]⟩
  all_goals exact ⟨_, h, rfl, fun w => by simp [binOp, Op.intArith, Op.intBits, Op.intCmp, CV.val]⟩

theorem binOp_string_op (op : BinOp) (t : TypeId) (a b : ByteArray) (h : isShift op = false) : binOp op t (.string a) (.string b) = Op.stringOp op a b := by
 cases op <;> simp [isShift] at h <;> rfl

theorem run_binOp_str {op : BinOp} {t : TypeId} {a b : List UInt8} {K : CV → Prop} (h : hstr op a b K) :
  ∃ u, K u ∧ u.sc = true ∧ ∀ w, (binOp op t (.string ⟨a.toArray⟩) (.string ⟨b.toArray⟩)).run P w = .ok u.val w := by
 have hb := str_beq a b
 have hlt : Op.bytesLess (⟨a.toArray⟩ : ByteArray).toList (⟨b.toArray⟩ : ByteArray).toList = slt a b := by rw [ByteArray.toList_mk, ByteArray.toList_mk]; rfl
 cases op <;> simp only [hstr] at h
 case add =>
  refine ⟨_, h.2, rfl, fun w => ?_⟩
  rw [binOp_string_op _ _ _ _ rfl]
  simp only [Op.stringOp]
  have h1 : ¬ ((((⟨a.toArray⟩ : ByteArray).size + (⟨b.toArray⟩ : ByteArray).size : Nat) : Int) > IntKind.i64.max) := by
   have : (⟨a.toArray⟩ : ByteArray).size = a.length := by simp [ByteArray.size]
   have h2 : (⟨b.toArray⟩ : ByteArray).size = b.length := by simp [ByteArray.size]
   rw [this, h2]
   simp only [IntKind.max, IntKind.signed, IntKind.bits]
   have := h.1
   simp only [if_true]
   omega
  rw [if_neg h1]
  simp only [Sem.run_pure, CV.val]
  have e : (⟨a.toArray⟩ : ByteArray) ++ ⟨b.toArray⟩ = ⟨(a ++ b).toArray⟩ := by apply ByteArray.ext; simp [ByteArray.data_append]
  rw [e]
 all_goals first
  | exact h.elim
  | exact ⟨_, h, rfl, fun w => by rw [binOp_string_op _ _ _ _ rfl]; simp only [Op.stringOp, hb, hlt, Sem.run_pure, CV.val]⟩
end

def HV.len (x : HV) (ob : Ob) : Option Nat :=
 match x with
 | .c (.str s) => some s.length
 | x => (hread x ob).map List.length

def hslice (P : Program) (t : TypeId) (x : HV) (lo hi : Option HV) (K : HV → Prop) : Prop :=
 hlift (tyOf P t) fun ti =>
  let bnd (n : Nat) (G : Nat → Nat → Prop) : Prop :=
   hlift (match lo with | none => some 0 | some (.c (.int _ i)) => some i | _ => none) fun (l : Int) =>
   hlift (match hi with | none => some (n : Int) | some (.c (.int _ i)) => some i | _ => none) fun (h : Int) =>
   (0 ≤ l ∧ l ≤ h ∧ h ≤ (n : Int)) ∧ G l.toNat h.toNat
  match ti.d, x with
  | .string, .c (.str s) => bnd s.length fun l h => K (.c (.str ((s.drop l).take (h - l))))
  | .slice e, .c (.slc s) => hlift (tyOf P e) fun te => (∀ v ∈ s, v.cells = te.size) ∧ bnd s.length fun l h => K (.c (.slc ((s.drop l).take (h - l))))
  | .slice e, .c .nils => hlift (tyOf P e) fun _ => bnd 0 fun _ _ => K (.c .nils)
  | .array m e, .c (.rp (.agg s)) => hlift (tyOf P e) fun te => ((∀ v ∈ s, v.cells = te.size) ∧ s.length = m) ∧ bnd m fun l h => K (.c (.slc ((s.drop l).take (h - l))))
  | _, _ => False

def hslice3 (P : Program) (t : TypeId) (x : HV) (lo : Option HV) (hi mx : HV) (K : HV → Prop) : Prop :=
 hlift (tyOf P t) fun ti =>
  match ti.d, x, hi, mx with
  | .slice e, .c (.slc s), .c (.int _ h), .c (.int _ m) => hlift (tyOf P e) fun te => (∀ v ∈ s, v.cells = te.size) ∧
   hlift (match lo with | none => some 0 | some (.c (.int _ i)) => some i | _ => none) fun (l : Int) => (0 ≤ l ∧ l ≤ h ∧ h ≤ m ∧ m ≤ (s.length : Int)) ∧ K (.c (.slc ((s.drop l.toNat).take (h.toNat - l.toNat))))
  | _, _, _, _ => False

section
variable {P : Program} {c : Ctx} {M M' : Nat → Prop} {fr : Fr} {ob : Ob} {a : Act} {w : World} {ρ : Env}

theorem bound_of (h : RepA' c M fr ob a w ρ) {lo : Option Operand} {dflt l : Int} (hl : (match lo.map (ev fr) with | none => some dflt | some (.c (.int _ i)) => some i | _ => none) = some l) :
  (lo = none ∧ l = dflt) ∨ ∃ x k, lo = some x ∧ a.eval x = .int k l := by
 cases lo with
 | none => simp at hl; exact .inl ⟨rfl, hl.symm⟩
 | some x =>
  simp only [Option.map_some] at hl
  split at hl
  ·
   rename_i he; simp at he
  ·
   rename_i k i he
   cases hl
   exact .inr ⟨x, k, rfl, int_of h (by simpa using he)⟩
  ·
   cases hl

theorem sliceBounds_run (b : Bool) (n cap : Nat) {lo hi : Option Operand} {l hh : Int}
  (h1 : (lo = none ∧ l = 0) ∨ ∃ x k, lo = some x ∧ a.eval x = .int k l) (h2 : (hi = none ∧ hh = (n : Int)) ∨ ∃ x k, hi = some x ∧ a.eval x = .int k hh)
  (hb : 0 ≤ l ∧ l ≤ hh ∧ hh ≤ (n : Int)) (hnc : n ≤ cap) :
  (Instr.sliceBounds b n cap (lo.map a.eval) (hi.map a.eval) none).run P w = .ok (l.toNat, hh.toNat, cap) w := by
 obtain ⟨b0, b1, b2⟩ := hb
 have c1 : hh ≤ (cap : Int) := by omega
 have c2 : 0 ≤ hh := by omega
 have c3 : l ≤ ((hh.toNat : Nat) : Int) := by omega
 rcases h1 with ⟨rfl, rfl⟩ | ⟨x, k, rfl, e1⟩ <;> rcases h2 with ⟨rfl, rfl⟩ | ⟨x', k', rfl, e2⟩
 ·
  simp [Instr.sliceBounds]
 ·
  simp [Instr.sliceBounds, Instr.sliceBound, e2, asIntOf, c1, c2]
 ·
  have : l ≤ (n : Int) := b1
  simp [Instr.sliceBounds, Instr.sliceBound, e1, asIntOf, b0, this]
 ·
  simp [Instr.sliceBounds, Instr.sliceBound, e1, e2, asIntOf, c1, c2, b0, b1, Int.max_eq_left c2]

theorem repL_drop {O : Nat → Prop} {sz : Nat} : ∀ {l : List CV} {cs : List Value} (k : Nat), RepL w O l cs → (∀ v ∈ l, v.cells = sz) → k ≤ l.length → ∃ c1 c2, cs = c1 ++ c2 ∧ c1.length = k * sz ∧ RepL w O (l.drop k) c2
 | l, cs, 0, h, _, _ => ⟨[], cs, by simp, by simp, by simpa using h⟩
 | [], cs, k + 1, _, _, hk => by simp at hk
 | v :: vs, cs, k + 1, h, hc, hk => by
  simp only [RepL] at h
  obtain ⟨c1, c2, rfl, h1, h2⟩ := h
  obtain ⟨d1, d2, rfl, e1, e2⟩ := repL_drop k h2 (fun u hu => hc u (by simp [hu])) (by simpa using hk)
  exact ⟨c1 ++ d1, d2, by simp, by rw [List.length_append, repC_len h1, hc v (by simp), e1, Nat.add_mul]; omega, by simpa using e2⟩
theorem repL_take {O : Nat → Prop} : ∀ {l : List CV} {cs : List Value} (k : Nat), RepL w O l cs → ∃ c1 c2, cs = c1 ++ c2 ∧ RepL w O (l.take k) c1
 | l, cs, 0, _ => ⟨[], cs, by simp, by simp [RepL]⟩
 | [], cs, k + 1, h => ⟨cs, [], by simp, by simpa using h⟩
 | v :: vs, cs, k + 1, h => by
  simp only [RepL] at h
  obtain ⟨c1, c2, rfl, h1, h2⟩ := h
  obtain ⟨d1, d2, rfl, e2⟩ := repL_take k h2
  exact ⟨c1 ++ d1, d2, by simp, by simp only [List.take_succ_cons, RepL]; exact ⟨c1, d1, rfl, h1, e2⟩⟩

theorem slice_sound (h : RepA' c M fr ob a w ρ) {t : TypeId} {x : Operand} {lo hi : Option Operand} {K : HV → Prop} (hl : hslice P t (ev fr x) (lo.map (ev fr)) (hi.map (ev fr)) K) :
  ∃ u y, K u ∧ (Instr.sliceAt t (a.eval x) (lo.map a.eval) (hi.map a.eval) none).run P w = .ok y w ∧ RepV w ρ (Owned ρ c.X) u y ∧ u.men M := by
 unfold hslice at hl
 rw [hlift_iff] at hl
 obtain ⟨ti, ht, hl⟩ := hl
 obtain ⟨i0, d0, zv0, hty⟩ := tyOf_ok ht
 have hdd := hty.d_
 simp only at hl
 split at hl
 ·
  rename_i s hd0 hx
  rw [hd0] at hdd
  have hu : P.underlying t = some .string := by rw [hty.under]; congr 1; cases d0 <;> simp [tyd] at hdd; rfl
  rw [hlift_iff] at hl
  obtain ⟨l, hlo, hl⟩ := hl
  rw [hlift_iff] at hl
  obtain ⟨hh, hhi, hb, hK⟩ := hl
  have hbr := sliceBounds_run (P := P) (w := w) (a := a) false s.length s.length (bound_of h hlo) (bound_of h hhi) hb (Nat.le_refl _)
  have hsz : (⟨s.toArray⟩ : ByteArray).size = s.length := by simp [ByteArray.size]
  refine ⟨_, .string ((⟨s.toArray⟩ : ByteArray).extract l.toNat hh.toNat), hK, ?_, ?_, by simp [HV.men]⟩
  ·
   rw [str_of h hx]
   simp only [Instr.sliceAt, Sem.run_bind, run_underlying hu, Result.andThen_ok, Instr.slice, hsz]
   simp only [Option.isSome_none, Bool.false_eq_true, if_false, Sem.run_bind, hbr, Result.andThen_ok, Sem.run_pure]
  ·
   rw [ByteArray.extract_mk]
   exact repV_str _ _ _ _
 ·
  rename_i e s hd0 hx
  rw [hd0] at hdd
  have hu : P.underlying t = some (.slice e) := by rw [hty.under]; congr 1; cases d0 <;> simp [tyd] at hdd; rw [hdd]
  rw [hlift_iff] at hl
  obtain ⟨te, hte, hcs, hl⟩ := hl
  obtain ⟨ie, de, zve, htye⟩ := tyOf_ok hte
  rw [hlift_iff] at hl
  obtain ⟨l, hlo, hl⟩ := hl
  rw [hlift_iff] at hl
  obtain ⟨hh, hhi, hb, hK⟩ := hl
  obtain ⟨ad, cap, xs, sz, he, hl2, hcs2, hcap, hn, hrd⟩ := slc_of h hx
  have hbr := sliceBounds_run (P := P) (w := w) (a := a) true s.length cap (bound_of h hlo) (bound_of h hhi) hb hcap
  have hsz : (sizeOf e).run P w = .ok te.size w := by rw [run_sizeOf' htye.info, htye.size]
  obtain ⟨b0, b1, b2⟩ := hb
  have hlen : ((s.drop l.toNat).take (hh.toNat - l.toNat)).length = hh.toNat - l.toNat := by
   rw [List.length_take, List.length_drop]; omega
  obtain ⟨c1, c2, rfl, e1, e2⟩ := repL_drop l.toNat hl2 hcs (by omega)
  obtain ⟨f1, f2, rfl, e3⟩ := repL_take (hh.toNat - l.toNat) e2
  refine ⟨_, .slice (if cap = l.toNat then ad else ad.map (·.add (l.toNat * te.size))) (hh.toNat - l.toNat) (cap - l.toNat), hK, ?_, ?_, by simp [HV.men]⟩
  ·
   rw [he]
   simp only [Instr.sliceAt, Sem.run_bind, run_underlying hu, Result.andThen_ok, Instr.slice, hbr, hsz, Sem.run_pure]
  ·
   refine repV_single ?_ rfl rfl
   simp only [RepC]
   refine ⟨_, cap - l.toNat, f1, te.size, by rw [hlen], e3, fun v hv => hcs v (List.mem_of_mem_drop (List.mem_of_mem_take hv)), by rw [hlen]; omega, ?_, ?_⟩
   ·
    intro hnone
    split at hnone
    ·
     omega
    ·
     cases ad with
     | none => have := hn rfl; omega
     | some b => simp at hnone
   ·
    intro b hb2
    split at hb2
    ·
     rename_i hc
     have hz : f1 = [] := List.eq_nil_of_length_eq_zero (by
      rw [repL_len_mul e3 (fun v hv => hcs v (List.mem_of_mem_drop (List.mem_of_mem_take hv))), hlen]
      have : hh.toNat - l.toNat = 0 := by omega
      rw [this]; simp)
     subst hz
     exact ⟨by simp, by simp⟩
    ·
     cases ad with
     | none => simp at hb2
     | some b' =>
      simp only [Option.map_some, Option.some.injEq] at hb2
      subst hb2
      rw [← e1]
      have := hrd b' rfl
      rw [← List.append_assoc] at this
      exact this.part
 ·
  rename_i e hd0 hx
  rw [hd0] at hdd
  have hu : P.underlying t = some (.slice e) := by rw [hty.under]; congr 1; cases d0 <;> simp [tyd] at hdd; rw [hdd]
  rw [hlift_iff] at hl
  obtain ⟨te, hte, hl⟩ := hl
  obtain ⟨ie, de, zve, htye⟩ := tyOf_ok hte
  rw [hlift_iff] at hl
  obtain ⟨l, hlo, hl⟩ := hl
  rw [hlift_iff] at hl
  obtain ⟨hh, hhi, hb, hK⟩ := hl
  have hbr := sliceBounds_run (P := P) (w := w) (a := a) true 0 0 (bound_of h hlo) (bound_of h hhi) hb (Nat.le_refl _)
  have hl0 : l.toNat = 0 := by omega
  have hh0 : hh.toNat = 0 := by omega
  refine ⟨_, .slice none 0 0, hK, ?_, repV_single (by simp [RepC]) rfl rfl, by simp [HV.men]⟩
  rw [nils_of h hx]
  simp only [Instr.sliceAt, Sem.run_bind, run_underlying hu, Result.andThen_ok, Instr.slice, hbr, run_sizeOf' htye.info, Sem.run_pure, hl0, hh0]
  simp
 ·
  rename_i m e s hd0 hx
  rw [hd0] at hdd
  have hu : P.underlying t = some (.array m e) := by rw [hty.under]; congr 1; cases d0 <;> simp [tyd] at hdd; rw [hdd.1, hdd.2]
  rw [hlift_iff] at hl
  obtain ⟨te, hte, ⟨hcs, hsm⟩, hl⟩ := hl
  obtain ⟨ie, de, zve, htye⟩ := tyOf_ok hte
  rw [hlift_iff] at hl
  obtain ⟨l, hlo, hl⟩ := hl
  rw [hlift_iff] at hl
  obtain ⟨hh, hhi, hb, hK⟩ := hl
  obtain ⟨ad, xs, he, hl2, hrd⟩ := rp_of h hx
  simp only [RepC] at hl2
  have hbr := sliceBounds_run (P := P) (w := w) (a := a) false m m (bound_of h hlo) (bound_of h hhi) hb (Nat.le_refl _)
  have hsz : (sizeOf e).run P w = .ok te.size w := by rw [run_sizeOf' htye.info, htye.size]
  obtain ⟨b0, b1, b2⟩ := hb
  have hlen : ((s.drop l.toNat).take (hh.toNat - l.toNat)).length = hh.toNat - l.toNat := by
   rw [List.length_take, List.length_drop]; omega
  obtain ⟨c1, c2, rfl, e1, e2⟩ := repL_drop l.toNat hl2 hcs (by omega)
  obtain ⟨f1, f2, rfl, e3⟩ := repL_take (hh.toNat - l.toNat) e2
  refine ⟨_, .slice (some (if m = l.toNat then ad else ad.add (l.toNat * te.size))) (hh.toNat - l.toNat) (m - l.toNat), hK, ?_, ?_, by simp [HV.men]⟩
  ·
   rw [he]
   simp only [Instr.sliceAt, Sem.run_bind, run_underlying hu, Result.andThen_ok, Instr.sureAddr, Sem.run_pure, hbr, hsz]
  ·
   refine repV_single ?_ rfl rfl
   simp only [RepC]
   refine ⟨_, m - l.toNat, f1, te.size, by rw [hlen], e3, fun v hv => hcs v (List.mem_of_mem_drop (List.mem_of_mem_take hv)), by rw [hlen]; omega, fun hn => (by cases hn), fun b hb2 => ?_⟩
   simp only [Option.some.injEq] at hb2
   subst hb2
   split
   ·
    have hz : f1 = [] := List.eq_nil_of_length_eq_zero (by
     rw [repL_len_mul e3 (fun v hv => hcs v (List.mem_of_mem_drop (List.mem_of_mem_take hv))), hlen]
     have : hh.toNat - l.toNat = 0 := by omega
     rw [this]; simp)
    subst hz
    exact ⟨by simp, by simp⟩
   ·
    rw [← e1]
    have := hrd
    rw [← List.append_assoc] at this
    exact this.part
 ·
  exact hl.elim
theorem slice3_sound (h : RepA' c M fr ob a w ρ) {t : TypeId} {x hi mx : Operand} {lo : Option Operand} {K : HV → Prop} (hl : hslice3 P t (ev fr x) (lo.map (ev fr)) (ev fr hi) (ev fr mx) K) :
  ∃ u y, K u ∧ (Instr.sliceAt t (a.eval x) (lo.map a.eval) (some (a.eval hi)) (some (a.eval mx))).run P w = .ok y w ∧ RepV w ρ (Owned ρ c.X) u y ∧ u.men M := by
 unfold hslice3 at hl
 rw [hlift_iff] at hl
 obtain ⟨ti, ht, hl⟩ := hl
 obtain ⟨i0, d0, zv0, hty⟩ := tyOf_ok ht
 have hdd := hty.d_
 split at hl
 ·
  rename_i e s kh hh km m hd0 hx hhi hmx
  rw [hd0] at hdd
  have hu : P.underlying t = some (.slice e) := by rw [hty.under]; congr 1; cases d0 <;> simp [tyd] at hdd; rw [hdd]
  rw [hlift_iff] at hl
  obtain ⟨te, hte, hcs, hl⟩ := hl
  obtain ⟨ie, de, zve, htye⟩ := tyOf_ok hte
  rw [hlift_iff] at hl
  obtain ⟨l, hlo, hb, hK⟩ := hl
  obtain ⟨ad, cap, xs, sz, he, hl2, hcs2, hcap, hn, hrd⟩ := slc_of h hx
  obtain ⟨b0, b1, b2, b3⟩ := hb
  have hbr : (Instr.sliceBounds true s.length cap (lo.map a.eval) (some (a.eval hi)) (some (a.eval mx))).run P w = .ok (l.toNat, hh.toNat, m.toNat) w := by
   have c1 : m ≤ (cap : Int) := by omega
   have c2 : 0 ≤ m := by omega
   have c3 : 0 ≤ hh := by omega
   have c4 : hh ≤ ((m.toNat : Nat) : Int) := by omega
   have c5 : l ≤ ((hh.toNat : Nat) : Int) := by omega
   have e1 := int_of h hmx
   have e2 := int_of h hhi
   rcases bound_of h hlo with ⟨rfl, rfl⟩ | ⟨x', k', rfl, e3⟩
   ·
    simp [Instr.sliceBounds, Instr.sliceBound, e1, e2, asIntOf, c1, c2, c3, b2, Int.max_eq_left c2]
   ·
    simp [Instr.sliceBounds, Instr.sliceBound, e1, e2, e3, asIntOf, c1, c2, c3, b0, b1, b2, Int.max_eq_left c2, Int.max_eq_left c3]
  have hsz : (sizeOf e).run P w = .ok te.size w := by rw [run_sizeOf' htye.info, htye.size]
  have hlen : ((s.drop l.toNat).take (hh.toNat - l.toNat)).length = hh.toNat - l.toNat := by
   rw [List.length_take, List.length_drop]; omega
  obtain ⟨c1, c2, rfl, e1, e2⟩ := repL_drop l.toNat hl2 hcs (by omega)
  obtain ⟨f1, f2, rfl, e3⟩ := repL_take (hh.toNat - l.toNat) e2
  refine ⟨_, .slice (if m.toNat = l.toNat then ad else ad.map (·.add (l.toNat * te.size))) (hh.toNat - l.toNat) (m.toNat - l.toNat), hK, ?_, ?_, by simp [HV.men]⟩
  ·
   rw [he]
   simp only [Instr.sliceAt, Sem.run_bind, run_underlying hu, Result.andThen_ok, Instr.slice, hbr, hsz, Sem.run_pure]
  ·
   refine repV_single ?_ rfl rfl
   simp only [RepC]
   refine ⟨_, m.toNat - l.toNat, f1, te.size, by rw [hlen], e3, fun v hv => hcs v (List.mem_of_mem_drop (List.mem_of_mem_take hv)), by rw [hlen]; omega, ?_, ?_⟩
   ·
    intro hnone
    split at hnone
    ·
     omega
    ·
     cases ad with
     | none => have := hn rfl; omega
     | some b => simp at hnone
   ·
    intro b hb2
    split at hb2
    ·
     rename_i hc
     have hz : f1 = [] := List.eq_nil_of_length_eq_zero (by
      rw [repL_len_mul e3 (fun v hv => hcs v (List.mem_of_mem_drop (List.mem_of_mem_take hv))), hlen]
      have : hh.toNat - l.toNat = 0 := by omega
      rw [this]; simp)
     subst hz
     exact ⟨by simp, by simp⟩
    ·
     cases ad with
     | none => simp at hb2
     | some b' =>
      simp only [Option.map_some, Option.some.injEq] at hb2
      subst hb2
      rw [← e1]
      have := hrd b' rfl
      rw [← List.append_assoc] at this
      exact this.part
 ·
  exact hl.elim

end
end Go.Hl
