/- Part of a proof: walks of functions of the program, by contracts, and the rules they use. By an AI agent. -/
import Derived.Test.YtlldglbooaefhaaDoorHlCl
import Derived.Test.YtlldglbooaefhaaDoorHlExt
import Derived.Test.YtlldglbooaefhaaDoorHlIt
set_option linter.unusedSimpArgs false
set_option linter.unusedVariables false
set_option linter.defProp false
namespace Go.Proofs.YtlldglbooaefhaaDoor
open Go Go.Hl Go.Pl
def rI := (And.intro (And.intro (And.intro @rpost_exit (And.intro @rpost_normal @rpost_ret)) (And.intro @hscope_exit (And.intro @hscope_normal @hscope_ret))) (And.intro (And.intro @ithen_normal (And.intro @ithen_exit @ithen_ret)) (And.intro @iblk_normal (And.intro @iblk_exit @iblk_ret))))
section
variable {n k nx i : Nat} {ops : Array Oper} {o : Oper} {g : Option (Nat × Bool)} {fr fr' : Fr} {ob ob' : Ob}
theorem T0 {a b : Prop} (h : b) (e : b → a := by intro h; simp only [↓sP, sA, tyS, simprocAttr]; (repeat refine AI ?_); exact h) : a := e h
theorem T2 {a b : Prop} (h : b) (e : b → a := by intro h; simp only [sE, ↓reduceIte, simprocAttr]; (repeat refine AI ?_); exact h) : a := e h
theorem AX {a b : Prop} (h : b) (e : b → a := by intro h; (repeat refine AI ?_); exact h) : a := e h
theorem fF {l : List (Nat × HV)} {h : List (Nat × HO)} {nx2 : Nat} (hk : k ≤ nx2 := by omega) (h1 : bB nx2 fr l := by simp [bB, fin_at, finA_at, upd_at, HV.men, HV.menL, HV.norm, HV.toC, HV.toCL])
    (h2 : bA nx2 ob h := by simp [bA, fob_at, upd_at, none0_at, cB, HO.men, HV.men, HV.menL, HV.norm, HV.toC, HV.toCL]) : Fits k fr ob (fin l) (fob h) nx2 := aN hk h1 h2
theorem Rg {id : Nat} {b : Prop} {Q : dW} (h : b) (hd : gR n ops = true := by kernel_rfl)
    (e : b → hlex Tryd.prog ops nx (fun fr' ob' => Q .normal fr' ob' (nx + 4 * ops.size)) (List.range ops.size) fr ob := by intro h; simp only [sR, simprocAttr]; exact h) : Hw Tryd.prog n k (.region id ops false) Q fr ob nx := aL hd (e h)
theorem lO (i : Nat) (h : (i : Int) < 9223372036854775807 := by omega) : IntKind.i64.wrap ((i : Int) + 1) = (i : Int) + 1 := IntWalk.i64_in _ ⟨by omega, by omega⟩
theorem R0 {id nx' : Nat} {c2 : Code} {Q : dW} (h : Hw Tryd.prog n k c2 Q fr' ob' nx') (hd : gR n ops = true := by kernel_rfl)
    (e : ∀ K : Fr → Ob → Nat → Prop, K fr' ob' nx' → hlex Tryd.prog ops nx (fun fr' ob' => hthen K Q .normal fr' ob' (nx + 4 * ops.size)) (List.range ops.size) fr ob := by intro K h; simp only [↓sP, sA, tyS, simprocAttr]; (repeat refine AI ?_); exact h) :
    Hw Tryd.prog n k (.seq (.region id ops false) c2) Q fr ob nx := aC fun K hK => aL hd (e K (hK _ _ _ h))
section
variable {Q : Fr → Ob → Prop}
theorem S0 {l : List Nat} (h : hlex Tryd.prog ops nx Q l fr' ob') (ho : ops[i]? = some o := by exact rfl) (hg : gd ops o = some g := by exact rfl)
    (e : ∀ K : Fr → Ob → Prop, K fr' ob' → hop1 Tryd.prog (nx + 4 * i) [] g o.op o.dst K fr ob := by intro K h; simp only [sH, ↓sP, sA, tyS, simprocAttr]; (repeat refine AI ?_); exact h) : hlex Tryd.prog ops nx Q (i :: l) fr ob :=
  aW ho hg fun K hK => e K (hK _ _ h)
theorem SG0 {l : List Nat} (h : hlexG Tryd.prog ops nx Q l fr' ob') (ho : ops[i]? = some o := by exact rfl) (hg : gd ops o = some g := by exact rfl)
    (e : ∀ K : Fr → Ob → Prop, K fr' ob' → hop1 Tryd.prog (nx + 4 * i) [] g o.op o.dst K fr ob := by intro K h; simp only [sH, ↓sP, sA, tyS, simprocAttr]; (repeat refine AI ?_); exact h) : hlexG Tryd.prog ops nx Q (i :: l) fr ob :=
  bJ ho hg fun K hK => e K (hK _ _ h)
variable {cr rd : List Nat} {l : mG} {C : iV}
theorem W0 (h : hwalk2 Tryd.prog ops nx Q l (if isEff o.op = true then C else (i, if hgd g fr = some true then touch o.op (ev fr) else []) :: C) fr' ob') (ho : ops[i]? = some o := by exact rfl) (hg : gd ops o = some g := by exact rfl)
    (e : ∀ K : Fr → Ob → Prop, K fr' ob' → hop1 Tryd.prog (nx + 4 * i) (cr.flatMap (ids4 nx) ++ rd.flatMap (getF C)) g o.op o.dst K fr ob := by intro K h; simp only [sH, ↓sP, sA, tyS, simprocAttr]; (repeat refine AI ?_); exact h) : hwalk2 Tryd.prog ops nx Q ((i, cr, rd) :: l) C fr ob :=
  cM ho hg fun K hK => e K (hK _ _ h)
theorem WG0 (h : hwalk2G Tryd.prog ops nx Q l (if isEff o.op = true then C else (i, if hgd g fr = some true then touch o.op (ev fr) else []) :: C) fr' ob') (ho : ops[i]? = some o := by exact rfl) (hg : gd ops o = some g := by exact rfl)
    (e : ∀ K : Fr → Ob → Prop, K fr' ob' → hop1 Tryd.prog (nx + 4 * i) (cr.flatMap (ids4 nx) ++ rd.flatMap (getF C)) g o.op o.dst K fr ob := by intro K h; simp only [sH, ↓sP, sA, tyS, simprocAttr]; (repeat refine AI ?_); exact h) : hwalk2G Tryd.prog ops nx Q ((i, cr, rd) :: l) C fr ob :=
  iL ho hg fun K hK => e K (hK _ _ h)
end
theorem nM {α : Type} {l : List α} {i : Nat} (h : i < l.length) (f : α → CV) : nth (l.map f) i = f l[i] := aY h
theorem aI {a b : Prop} (x : a) (y : b) : a ∧ b := ⟨x, y⟩
theorem TQ {a b q : Prop} (r : q) (h : b) (e : q → b → a := by intro r h; simp only [↓sP, sA, tyS, simprocAttr, r]; exact h) : a := e r h
theorem T6 {a b : Prop} (h : b) (e : b → a := by intro h; simp only [sH, ↓sP, sA, tyS, simprocAttr, F]; exact h) : a := e h
section
variable {Q : Fr → Ob → Prop}
theorem SF {l : List Nat} (h : hlex Tryd.prog ops nx Q l fr' ob') (ho : ops[i]? = some o := by exact rfl) (hg : gd ops o = some g := by exact rfl)
    (e : ∀ K : Fr → Ob → Prop, K fr' ob' → hop1 Tryd.prog (nx + 4 * i) [] g o.op o.dst K fr ob := by intro K h; simp only [sH, ↓sP, sA, tyS, simprocAttr, F]; (repeat refine AI ?_); exact h) : hlex Tryd.prog ops nx Q (i :: l) fr ob :=
  aW ho hg fun K hK => e K (hK _ _ h)
variable {cr rd : List Nat} {l : mG} {C : iV}
theorem WF (h : hwalk2 Tryd.prog ops nx Q l (if isEff o.op = true then C else (i, if hgd g fr = some true then touch o.op (ev fr) else []) :: C) fr' ob') (ho : ops[i]? = some o := by exact rfl) (hg : gd ops o = some g := by exact rfl)
    (e : ∀ K : Fr → Ob → Prop, K fr' ob' → hop1 Tryd.prog (nx + 4 * i) (cr.flatMap (ids4 nx) ++ rd.flatMap (getF C)) g o.op o.dst K fr ob := by intro K h; simp only [sH, ↓sP, sA, tyS, simprocAttr, F]; (repeat refine AI ?_); exact h) : hwalk2 Tryd.prog ops nx Q ((i, cr, rd) :: l) C fr ob :=
  cM ho hg fun K hK => e K (hK _ _ h)
theorem WGF (h : hwalk2G Tryd.prog ops nx Q l (if isEff o.op = true then C else (i, if hgd g fr = some true then touch o.op (ev fr) else []) :: C) fr' ob') (ho : ops[i]? = some o := by exact rfl) (hg : gd ops o = some g := by exact rfl)
    (e : ∀ K : Fr → Ob → Prop, K fr' ob' → hop1 Tryd.prog (nx + 4 * i) (cr.flatMap (ids4 nx) ++ rd.flatMap (getF C)) g o.op o.dst K fr ob := by intro K h; simp only [sH, ↓sP, sA, tyS, simprocAttr, F]; (repeat refine AI ?_); exact h) : hwalk2G Tryd.prog ops nx Q ((i, cr, rd) :: l) C fr ob :=
  iL ho hg fun K hK => e K (hK _ _ h)
end
section
variable {Q : Fr → Ob → Prop}
theorem SGF {l : List Nat} (h : hlexG Tryd.prog ops nx Q l fr' ob') (ho : ops[i]? = some o := by exact rfl) (hg : gd ops o = some g := by exact rfl)
    (e : ∀ K : Fr → Ob → Prop, K fr' ob' → hop1 Tryd.prog (nx + 4 * i) [] g o.op o.dst K fr ob := by intro K h; simp only [sH, ↓sP, sA, tyS, simprocAttr, F]; (repeat refine AI ?_); exact h) : hlexG Tryd.prog ops nx Q (i :: l) fr ob :=
  bJ ho hg fun K hK => e K (hK _ _ h)
end
theorem RF {id nx' : Nat} {c2 : Code} {Q : dW} (h : Hw Tryd.prog n k c2 Q fr' ob' nx') (hd : gR n ops = true := by kernel_rfl)
    (e : ∀ K : Fr → Ob → Nat → Prop, K fr' ob' nx' → hlex Tryd.prog ops nx (fun fr' ob' => hthen K Q .normal fr' ob' (nx + 4 * ops.size)) (List.range ops.size) fr ob := by intro K h; simp only [↓sP, sA, tyS, simprocAttr, F]; (repeat refine AI ?_); exact h) :
    Hw Tryd.prog n k (.seq (.region id ops false) c2) Q fr ob nx := aC fun K hK => aL hd (e K (hK _ _ _ h))
theorem RT {a b : Prop} {x y : Array ResultVar} (r : x = y) (h : b) (e : x = y → b → a := by intro r h; simp only [fX, r, fC, fW, eQ, ↓sP, sA, tyS, simprocAttr]; exact h) : a := e r h
theorem T3 {a b : Prop} (h : b) (e : b → a := by intro h; simp only [↓sP, sA, tyS, simprocAttr]; exact h) : a := e h
theorem T4 {a b : Prop} (h : b) (e : b → a := by intro h; simp only [sE, ↓reduceIte, simprocAttr]; exact h) : a := e h
theorem T5 {a b : Prop} (h : b) (e : b → a := by intro h; simp only [sH, ↓sP, sA, tyS, simprocAttr]; exact h) : a := e h
theorem CT {x y : Code} {o : Operand} {Q : dW} (hb : ev fr o = .c (.bool true)) (h : Hw Tryd.prog n k x Q fr ob nx) : Hw Tryd.prog n k (.cond o x y) Q fr ob nx := aG hb (fun _ => h) (fun hb => by cases hb)
theorem CF {x y : Code} {o : Operand} {Q : dW} (hb : ev fr o = .c (.bool false)) (h : Hw Tryd.prog n k y Q fr ob nx) : Hw Tryd.prog n k (.cond o x y) Q fr ob nx := aG hb (fun hb => by cases hb) (fun _ => h)
theorem FW {P : Program} {f : FuncId} {fn : Func} {code : Code} {args : List HV} {R : HV → Ob → Prop} (hf : P.funcs[f]? = some fn) (h : Hw P fn.ntmps k code (fX P fn.results.toList k R) (pN 0 args) ob k) (hb : fn.body = some code := by exact rfl)
    (hok : eI P f = true := by kernel_rfl) (hloc : LocOk k args ob := by exact iQ _) (hn : args.length ≤ fn.ntmps := by exact Nat.le_of_ble_eq_true rfl) : HFn P f args k ob R := bP hf hb hok hloc hn h
theorem QW {id : Nat} {Q : dW} (h : hlex Tryd.prog ops nx (fun fr' ob' => Q .normal fr' ob' (nx + 4 * ops.size)) (List.range ops.size) fr ob) (hd : gR n ops = true := by kernel_rfl) (hp : iX ops (List.range ops.size) (Array.replicate ops.size false) = true := by kernel_rfl)
    (hq : ops.all (fun o => bL o.op) = true := by kernel_rfl) : Hw Tryd.prog n k (.region id ops true) Q fr ob nx := aE7 mixed hd hp hq h
theorem QR {id : Nat} {b : Prop} {Q : dW} (h : b) (hd : gR n ops = true := by kernel_rfl) (hp : iX ops (List.range ops.size) (Array.replicate ops.size false) = true := by kernel_rfl) (hq : ops.all (fun o => bL o.op) = true := by kernel_rfl)
    (e : b → hlex Tryd.prog ops nx (fun fr' ob' => Q .normal fr' ob' (nx + 4 * ops.size)) (List.range ops.size) fr ob := by intro h; simp only [sR, simprocAttr]; exact h) : Hw Tryd.prog n k (.region id ops true) Q fr ob nx := aE7 mixed hd hp hq (e h)
theorem DW {id : Nat} {Q : dW} (plan : mG) (ms : List Nat) (h : hwalk2 Tryd.prog ops nx (fun fr' ob' => Q .normal fr' ob' (nx + 4 * ops.size)) plan [] fr ob) (hd : gR n ops = true := by kernel_rfl) (hp : iX ops (plan.map (·.1)) (Array.replicate ops.size false) = true := by kernel_rfl)
    (hw1 : aE4 ops ms = true := by kernel_rfl) (hw2 : ms.all (fun m => decide (m < 2 ^ ms.length)) = true := by kernel_rfl) (hl : plan.length = ops.size := by exact rfl) (hc : chk ops (zV ms) plan [] = true := by kernel_rfl) : Hw Tryd.prog n k (.region id ops true) Q fr ob nx :=
  bD9 mixed plan ms hd hp hw1 hw2 hl hc h
theorem HS {l : List Nat} {Q : Fr → Ob → Prop} (ho : ops[i]? = some o) (hg : gd ops o = some none) (h : ∀ K : Fr → Ob → Prop, (∀ fr ob, hlex Tryd.prog ops nx Q l fr ob → K fr ob) → hop1 Tryd.prog (nx + 4 * i) [] none o.op o.dst K fr ob) : hlex Tryd.prog ops nx Q (i :: l) fr ob := aW ho hg h
section
variable {P : Program} {av : List Nat} {f : FuncId} {nid : Nat} {K : HV → Ob → Prop} {a b c d : CV} {R : CV → Prop} {R2 : CV → CV → Prop}
theorem C1 (h : cH P f [a] R) (hK : ∀ v, R v → K (.c v) ob) (hf : ob nid = none ∧ ob (nid + 1) = none ∧ ob (nid + 2) = none ∧ ob (nid + 3) = none := by exact ⟨rfl, rfl, rfl, rfl⟩) : HCall P av f [.c a] ob nid K := nR (args := [a]) h hf hK
theorem C2 (h : cH P f [a, b] R) (hK : ∀ v, R v → K (.c v) ob) (hf : ob nid = none ∧ ob (nid + 1) = none ∧ ob (nid + 2) = none ∧ ob (nid + 3) = none := by exact ⟨rfl, rfl, rfl, rfl⟩) : HCall P av f [.c a, .c b] ob nid K := nR (args := [a, b]) h hf hK
theorem C3 (h : cH P f [a, b, c] R) (hK : ∀ v, R v → K (.c v) ob) (hf : ob nid = none ∧ ob (nid + 1) = none ∧ ob (nid + 2) = none ∧ ob (nid + 3) = none := by exact ⟨rfl, rfl, rfl, rfl⟩) : HCall P av f [.c a, .c b, .c c] ob nid K := nR (args := [a, b, c]) h hf hK
theorem D1 (h : mL P f [a] R2) (hK : ∀ u v, R2 u v → K (.tup [.c u, .c v]) ob) (hf : Free4 ob nid := by exact ⟨rfl, rfl, rfl, rfl⟩) : HCall P av f [.c a] ob nid K := aN1 (args := [a]) h hf hK
end
section
variable {Q : Fr → Ob → Prop} {l : List Nat} {f : FuncId} {args : List CV} {t : CV} {R : CV → Prop} {ff : HV → Fr}
end
structure Bx (b : Prop) : Prop where
  o : b
end
end Go.Proofs.YtlldglbooaefhaaDoor

namespace Go.Pl
open Go Go.Hl

section
variable {r : Rt} {role : aE} {a b : List Dig} {t : Int}
end
end Go.Pl

namespace Go.Pl
open Go Go.Hl

end Go.Pl

namespace Go.Pl
open Go Go.Hl

section
variable {α : Type} {p : α → Bool} {l : List α}
theorem aX9 {i : Nat} (hi : i < l.length) (h : p l[i] = false) (h0 : ∀ x ∈ l.take i, p x = false) : ∀ x ∈ l.take (i + 1), p x = false := fun x hx => by
 rw [List.take_succ_eq_append_getElem hi, List.mem_append, List.mem_singleton] at hx
 rcases hx with hx | rfl
 ·
  exact h0 x hx
 ·
  exact h
end
end Go.Pl

namespace Go.Pl
open Go Go.Hl

def alZ (c : UInt8) : Bool := (decide (97 ≤ (c.toNat : Int)) && decide ((c.toNat : Int) ≤ 122)) || (decide (48 ≤ (c.toNat : Int)) && decide ((c.toNat : Int) ≤ 57))
def puZ (c : UInt8) : Bool := ((c.toNat : Int) == 46) || (((c.toNat : Int) == 95) || ((c.toNat : Int) == 45))
def okc (i : Nat) (c : UInt8) : Bool := alZ c || (decide (0 < (i : Int)) && puZ c)
theorem cD1 (c : UInt8) : al c = alZ c := by
 have h1 : decide ((97 : UInt8) ≤ c) = decide (97 ≤ (c.toNat : Int)) := by rw [Bool.eq_iff_iff]; simp only [decide_eq_true_eq, UInt8.le_iff_toNat_le]; show 97 ≤ c.toNat ↔ _; omega
 have h2 : decide (c ≤ (122 : UInt8)) = decide ((c.toNat : Int) ≤ 122) := by rw [Bool.eq_iff_iff]; simp only [decide_eq_true_eq, UInt8.le_iff_toNat_le]; show c.toNat ≤ 122 ↔ _; omega
 have h3 : decide ((48 : UInt8) ≤ c) = decide (48 ≤ (c.toNat : Int)) := by rw [Bool.eq_iff_iff]; simp only [decide_eq_true_eq, UInt8.le_iff_toNat_le]; show 48 ≤ c.toNat ↔ _; omega
 have h4 : decide (c ≤ (57 : UInt8)) = decide ((c.toNat : Int) ≤ 57) := by rw [Bool.eq_iff_iff]; simp only [decide_eq_true_eq, UInt8.le_iff_toNat_le]; show c.toNat ≤ 57 ↔ _; omega
 grind [al, alZ]
theorem cG4 (c d : UInt8) : (c == d) = ((c.toNat : Int) == (d.toNat : Int)) := by
 rw [Bool.eq_iff_iff]
 simp only [beq_iff_eq]
 constructor
 ·
  grind
 grind [UInt8.toNat_inj]
theorem cG5 (c : UInt8) : nc c = (alZ c || puZ c) := by simp_all [nc, puZ, cD1, cG4]
theorem rG {s : aE} : eC s = true ↔ (1 ≤ s.length ∧ s.length ≤ 64) ∧ ∀ i (h : i < s.length), okc i s[i] = true := by
 cases s with
 | nil => simp [eC]
 | cons c r =>
  simp only [eC, Bool.and_eq_true, decide_eq_true_eq, List.all_eq_true, cD1, cG5]
  constructor
  ·
   rintro ⟨h1, h2, h3⟩
   refine ⟨⟨by simp, h1⟩, fun i hi => ?_⟩
   cases i with
   | zero => simp [okc, h2]
   | succ i =>
    have := h3 _ (List.getElem_mem (by grind : i < r.length))
    simp only [List.getElem_cons_succ]
    unfold okc
    grind
  ·
   rintro ⟨⟨_, h1⟩, h3⟩
   refine ⟨h1, ?_, fun x hx => ?_⟩
   ·
    grind [okc]
   ·
    obtain ⟨i, hi, rfl⟩ := List.mem_iff_getElem.1 hx
    have := h3 (i + 1) (by grind)
    simp only [List.getElem_cons_succ] at this
    unfold okc at this
    grind
theorem xZ {s : aE} (h : ¬ (1 ≤ s.length ∧ s.length ≤ 64)) : eC s = false := by grind [eC, absurd, rG]
theorem aY0 {s : aE} {i : Nat} (hi : i < s.length) (h : okc i s[i] = false) : eC s = false := by grind [eC, rG]
theorem aY1 {s : aE} {i : Nat} (hi : i < s.length) (h : okc i s[i] = true) (h0 : ∀ j (_ : j < i) (h : j < s.length), okc j s[j] = true) : ∀ j (_ : j < i + 1) (h : j < s.length), okc j s[j] = true := fun j hj h' => by grind
end Go.Pl

namespace Go.Pl
open Go Go.Hl

section
variable {α β : Type}
def aY2 (r : α → α → Bool) : List α → Bool
 | a :: b :: l => r a b && aY2 r (b :: l)
 | _ => true
theorem aH0 {r : α → α → Bool} : ∀ {l : List α}, aY2 r l = true ↔ ∀ i (h : i + 1 < l.length), r l[i] l[i + 1] = true
 | [] => by simp [aY2]
 | [a] => by simp [aY2]
 | a :: b :: l => by
  have ih := aH0 (r := r) (l := b :: l)
  simp only [aY2, Bool.and_eq_true, ih]
  constructor
  ·
   rintro ⟨h1, h2⟩ i hi
   cases i with
   | zero => exact h1
   | succ i => exact h2 i (by simpa using hi)
  ·
   intro h
   exact ⟨h 0 (by simp), fun i hi => h (i + 1) (by simpa using hi)⟩
def GoodTo (p : α → Bool) (r : α → α → Bool) (l : List α) (i : Nat) : Prop := (∀ j (h : j < l.length), j < i → p l[j] = true) ∧ ∀ j (h : j + 1 < l.length), j + 1 < i → r l[j] l[j + 1] = true
variable {p : α → Bool} {r : α → α → Bool} {l : List α}
theorem GoodTo.zero : GoodTo p r l 0 := ⟨fun j _ h => by omega, fun j _ h => by omega⟩
theorem GoodTo.one (hi : 0 < l.length) (h : p l[0] = true) : GoodTo p r l 1 := by
 refine ⟨fun j h' hj => ?_, fun j _ h => by omega⟩
 have : j = 0 := by omega
 subst this; exact h
theorem GoodTo.succ {i : Nat} (hi : i + 1 < l.length) (h : p l[i + 1] = true) (hr : r l[i] l[i + 1] = true) (h0 : GoodTo p r l (i + 1)) : GoodTo p r l (i + 1 + 1) := by
 refine ⟨fun j h' hj => ?_, fun j h' hj => ?_⟩
 ·
  rcases Nat.lt_or_ge j (i + 1) with h1 | h1
  ·
   exact h0.1 j h' h1
  ·
   have : j = i + 1 := by omega
   subst this; exact h
 ·
  rcases Nat.lt_or_ge (j + 1) (i + 1) with h1 | h1
  ·
   exact h0.2 j h' h1
  ·
   have : j = i := by omega
   subst this; exact hr
theorem GoodTo.all (h : GoodTo p r l l.length) : (l.all p && aY2 r l) = true := by
 rw [Bool.and_eq_true, List.all_eq_true, aH0]
 refine ⟨fun x hx => ?_, fun i hi => h.2 i hi hi⟩
 obtain ⟨i, hi, rfl⟩ := List.mem_iff_getElem.1 hx
 exact h.1 i hi hi
end
end Go.Pl

namespace Go.Pl
open Go Go.Hl

end Go.Pl

namespace Go.Pl
open Go Go.Hl

theorem denilL_u8 (l : List UInt8) : CV.denilL (l.map u8) = l.map u8 := bV (f := u8) (fun _ => rfl) l
def kSz (k : Ky) : Prop := k.o.length < 2 ^ 63 ∧ k.rs.length < 2 ^ 40 ∧ ∀ w ∈ k.rs, w.length < 2 ^ 63
def rSz (r : Rt) : Prop := (r.q.length < 2 ^ 40 ∧ ∀ q ∈ r.q, q.r.length < 2 ^ 63) ∧ (r.k.length < 2 ^ 40 ∧ ∀ k ∈ r.k, kSz k) ∧ r.x.length < 2 ^ 40
end Go.Pl

namespace Go.Proofs.YtlldglbooaefhaaDoor
open Go Go.Hl Go.Pl
set_option maxRecDepth 10000
set_option maxHeartbeats 16000000


theorem aA6 (s : aE) (hl : s.length < 2 ^ 63) : cH Tryd.prog 33 [.str s] (fun v => v = .bool (eC s)) := by
 refine FW Tryd.func33 ?_
 refine R0 ?_
 refine aC fun K hK => ?_
 refine aC fun K hK => Rg ?_
 iterate 4 refine S0 ?_
 refine aH 7 rfl (fun h1_7 => ?_) (fun h1_7 => ?_)
 ·
  have F := h1_7
  iterate 4 refine SF ?_
  refine T2 (hK _ _ _ ?_)
  clear hK K
  refine CT rfl ?_
  refine R0 ?_
  refine aF (RT Tryd.results33 ?_)
  exact aM [] (.bool false) rfl (by rw [xZ (by simp at h1_7; omega)])
 have F := h1_7
 iterate 4 refine SF ?_
 refine T2 (hK _ _ _ ?_)
 clear hK K
 refine aG (b := _) rfl (fun hb => ?_) (fun hb => ?_)
 ·
  refine R0 ?_
  refine aF (RT Tryd.results33 ?_)
  exact aM [] (.bool false) rfl (by rw [xZ (by simp at hb; omega)])
 refine aJ ?_
 refine T0 (hK _ _ _ ?_)
 clear hK K
 refine aC fun K hK => ?_
 refine R0 ?_
 refine aK ?_
 have hlen : 1 ≤ s.length ∧ s.length ≤ 64 := by simp at h1_7 hb; omega
 refine bO (α := {i : Nat // i ≤ s.length ∧ ∀ j (_ : j < i) (h : j < s.length), okc j s[j] = true}) (fun i => (fin [(0, .c (.str s)), (3, .c (.int .i64 i.1))], fob [])) 100 (fun i => s.length - i.1) ⟨0, by omega, fun j h => by omega⟩ (fF) ?_
 clear hb
 rintro ⟨i, hi, h0⟩
 refine aC fun K hK => ?_
 refine aC fun K hK => Rg ?_
 iterate 4 refine SF ?_
 refine T2 (hK _ _ _ ?_)
 clear hK K
 refine aG (b := decide ((i : Int) < s.length)) rfl (fun hb => ?_) (fun hb => ?_)
 ·
  have hlt : i < s.length := by simpa using hb
  have hgd : s.getD i 0 = s[i] := by simp [hlt]
  refine aJ ?_
  refine T0 (hK _ _ _ ?_)
  clear hK K
  refine aC fun K hK => ?_
  refine aK ?_
  refine aC fun K hK => Rg ?_
  iterate 4 refine S0 ?_ (e := fun _ h_ => by simp only [sH, ↓sP, sA, tyS, simprocAttr, Int.natCast_nonneg, Int.ofNat_lt, hlt, hgd, h1_7]; exact AX h_)
  refine T2 (hK _ _ _ ?_)
  clear hK K
  refine aC fun K hK => ?_
  refine aC fun K hK => ?_
  have key : ∀ (b : Bool) fr ob nx, b = okc i s[i] → Fits 0 fr ob (fin [(0, .c (.str s)), (3, .c (.int .i64 i)), (51, .c (.bool b))]) (fob []) 600 → K fr ob nx := by
   rintro b fr ob nx rfl hf
   refine hK _ _ _ (bU hf ?_)
   clear hf hK K
   refine aG (b := okc i s[i]) rfl (fun hb => ?_) (fun hb => ?_)
   ·
    refine bD (T3 ?_)
    clear hK K
    refine AX (hK _ _ _ ?_)
    clear hK K
    refine aL (by kernel_rfl) ?_
    refine TQ (lO i) ?_
    refine ⟨⟨i + 1, hlt, aY1 hlt hb h0⟩, fF, ?_⟩
    show s.length - (i + 1) < s.length - i
    omega
   refine aJ ?_
   refine T0 (hK _ _ _ ?_)
   clear hK K
   refine R0 ?_
   refine aF (RT Tryd.results33 ?_)
   exact aM [] (.bool false) rfl (by rw [aY0 hlt hb])
  refine Rg ?_
  iterate 3 refine SF ?_
  refine aH 23 rfl (fun h7_23 => ?_) (fun h7_23 => ?_)
  ·
   have F := aI h1_7 h7_23
   iterate 4 refine SF ?_
   refine aH 26 rfl (fun h7_26 => ?_) (fun h7_26 => ?_)
   ·
    have F := aI h1_7 (aI h7_23 h7_26)
    iterate 23 refine SF ?_
    refine T4 ?_
    exact key true _ _ _ (by simp only [okc, alZ, puZ, h1_7, h7_23, h7_26, Bool.and_true, Bool.and_false, Bool.true_and, Bool.false_and, Bool.or_true, Bool.true_or, Bool.false_or, Bool.or_false, Bool.and_self, Bool.or_self]) (fF)
   have F := aI h1_7 (aI h7_23 h7_26)
   iterate 3 refine SF ?_
   refine aH 30 rfl (fun h7_30 => ?_) (fun h7_30 => ?_)
   ·
    have F := aI h1_7 (aI h7_23 (aI h7_26 h7_30))
    iterate 5 refine SF ?_
    refine aH 33 rfl (fun h7_33 => ?_) (fun h7_33 => ?_)
    ·
     have F := aI h1_7 (aI h7_23 (aI h7_26 (aI h7_30 h7_33)))
     iterate 15 refine SF ?_
     refine T4 ?_
     exact key true _ _ _ (by simp only [okc, alZ, puZ, h1_7, h7_23, h7_26, h7_30, h7_33, Bool.and_true, Bool.and_false, Bool.true_and, Bool.false_and, Bool.or_true, Bool.true_or, Bool.false_or, Bool.or_false, Bool.and_self, Bool.or_self]) (fF)
    have F := aI h1_7 (aI h7_23 (aI h7_26 (aI h7_30 h7_33)))
    iterate 3 refine SF ?_
    refine aH 38 rfl (fun h7_38 => ?_) (fun h7_38 => ?_)
    ·
     have F := aI h1_7 (aI h7_23 (aI h7_26 (aI h7_30 (aI h7_33 h7_38))))
     iterate 3 refine SF ?_
     refine aH 41 rfl (fun h7_41 => ?_) (fun h7_41 => ?_)
     ·
      have F := aI h1_7 (aI h7_23 (aI h7_26 (aI h7_30 (aI h7_33 (aI h7_38 h7_41)))))
      iterate 9 refine SF ?_
      refine T4 ?_
      exact key true _ _ _ (by simp only [okc, alZ, puZ, h1_7, h7_23, h7_26, h7_30, h7_33, h7_38, h7_41, Bool.and_true, Bool.and_false, Bool.true_and, Bool.false_and, Bool.or_true, Bool.true_or, Bool.false_or, Bool.or_false, Bool.and_self, Bool.or_self]) (fF)
     have F := aI h1_7 (aI h7_23 (aI h7_26 (aI h7_30 (aI h7_33 (aI h7_38 h7_41)))))
     iterate 4 refine SF ?_
     refine aH 44 rfl (fun h7_44 => ?_) (fun h7_44 => ?_)
     ·
      have F := aI h1_7 (aI h7_23 (aI h7_26 (aI h7_30 (aI h7_33 (aI h7_38 (aI h7_41 h7_44))))))
      iterate 5 refine SF ?_
      refine T4 ?_
      exact key true _ _ _ (by simp only [okc, alZ, puZ, h1_7, h7_23, h7_26, h7_30, h7_33, h7_38, h7_41, h7_44, Bool.and_true, Bool.and_false, Bool.true_and, Bool.false_and, Bool.or_true, Bool.true_or, Bool.false_or, Bool.or_false, Bool.and_self, Bool.or_self]) (fF)
     have F := aI h1_7 (aI h7_23 (aI h7_26 (aI h7_30 (aI h7_33 (aI h7_38 (aI h7_41 h7_44))))))
     iterate 5 refine SF ?_
     refine aH 48 rfl (fun h7_48 => ?_) (fun h7_48 => ?_)
     ·
      simp only [h7_48]
      refine T4 ?_
      exact key true _ _ _ (by simp only [okc, alZ, puZ, h1_7, h7_23, h7_26, h7_30, h7_33, h7_38, h7_41, h7_44, h7_48, Bool.and_true, Bool.and_false, Bool.true_and, Bool.false_and, Bool.or_true, Bool.true_or, Bool.false_or, Bool.or_false, Bool.and_self, Bool.or_self]) (fF)
     simp only [h7_48]
     refine T4 ?_
     exact key false _ _ _ (by simp only [okc, alZ, puZ, h1_7, h7_23, h7_26, h7_30, h7_33, h7_38, h7_41, h7_44, h7_48, Bool.and_true, Bool.and_false, Bool.true_and, Bool.false_and, Bool.or_true, Bool.true_or, Bool.false_or, Bool.or_false, Bool.and_self, Bool.or_self]) (fF)
    have F := aI h1_7 (aI h7_23 (aI h7_26 (aI h7_30 (aI h7_33 h7_38))))
    iterate 12 refine SF ?_
    refine T4 ?_
    exact key false _ _ _ (by simp only [okc, alZ, puZ, h1_7, h7_23, h7_26, h7_30, h7_33, h7_38, Bool.and_true, Bool.and_false, Bool.true_and, Bool.false_and, Bool.or_true, Bool.true_or, Bool.false_or, Bool.or_false, Bool.and_self, Bool.or_self]) (fF)
   have F := aI h1_7 (aI h7_23 (aI h7_26 h7_30))
   iterate 8 refine SF ?_
   refine aH 38 rfl (fun h7_38 => ?_) (fun h7_38 => ?_)
   ·
    have F := aI h1_7 (aI h7_23 (aI h7_26 (aI h7_30 h7_38)))
    iterate 3 refine SF ?_
    refine aH 41 rfl (fun h7_41 => ?_) (fun h7_41 => ?_)
    ·
     have F := aI h1_7 (aI h7_23 (aI h7_26 (aI h7_30 (aI h7_38 h7_41))))
     iterate 9 refine SF ?_
     refine T4 ?_
     exact key true _ _ _ (by simp only [okc, alZ, puZ, h1_7, h7_23, h7_26, h7_30, h7_38, h7_41, Bool.and_true, Bool.and_false, Bool.true_and, Bool.false_and, Bool.or_true, Bool.true_or, Bool.false_or, Bool.or_false, Bool.and_self, Bool.or_self]) (fF)
    have F := aI h1_7 (aI h7_23 (aI h7_26 (aI h7_30 (aI h7_38 h7_41))))
    iterate 4 refine SF ?_
    refine aH 44 rfl (fun h7_44 => ?_) (fun h7_44 => ?_)
    ·
     have F := aI h1_7 (aI h7_23 (aI h7_26 (aI h7_30 (aI h7_38 (aI h7_41 h7_44)))))
     iterate 5 refine SF ?_
     refine T4 ?_
     exact key true _ _ _ (by simp only [okc, alZ, puZ, h1_7, h7_23, h7_26, h7_30, h7_38, h7_41, h7_44, Bool.and_true, Bool.and_false, Bool.true_and, Bool.false_and, Bool.or_true, Bool.true_or, Bool.false_or, Bool.or_false, Bool.and_self, Bool.or_self]) (fF)
    have F := aI h1_7 (aI h7_23 (aI h7_26 (aI h7_30 (aI h7_38 (aI h7_41 h7_44)))))
    iterate 5 refine SF ?_
    refine aH 48 rfl (fun h7_48 => ?_) (fun h7_48 => ?_)
    ·
     simp only [h7_48]
     refine T4 ?_
     exact key true _ _ _ (by simp only [okc, alZ, puZ, h1_7, h7_23, h7_26, h7_30, h7_38, h7_41, h7_44, h7_48, Bool.and_true, Bool.and_false, Bool.true_and, Bool.false_and, Bool.or_true, Bool.true_or, Bool.false_or, Bool.or_false, Bool.and_self, Bool.or_self]) (fF)
    simp only [h7_48]
    refine T4 ?_
    exact key false _ _ _ (by simp only [okc, alZ, puZ, h1_7, h7_23, h7_26, h7_30, h7_38, h7_41, h7_44, h7_48, Bool.and_true, Bool.and_false, Bool.true_and, Bool.false_and, Bool.or_true, Bool.true_or, Bool.false_or, Bool.or_false, Bool.and_self, Bool.or_self]) (fF)
   have F := aI h1_7 (aI h7_23 (aI h7_26 (aI h7_30 h7_38)))
   iterate 12 refine SF ?_
   refine T4 ?_
   exact key false _ _ _ (by simp only [okc, alZ, puZ, h1_7, h7_23, h7_26, h7_30, h7_38, Bool.and_true, Bool.and_false, Bool.true_and, Bool.false_and, Bool.or_true, Bool.true_or, Bool.false_or, Bool.or_false, Bool.and_self, Bool.or_self]) (fF)
  have F := aI h1_7 h7_23
  iterate 7 refine SF ?_
  refine aH 30 rfl (fun h7_30 => ?_) (fun h7_30 => ?_)
  ·
   have F := aI h1_7 (aI h7_23 h7_30)
   iterate 5 refine SF ?_
   refine aH 33 rfl (fun h7_33 => ?_) (fun h7_33 => ?_)
   ·
    have F := aI h1_7 (aI h7_23 (aI h7_30 h7_33))
    iterate 15 refine SF ?_
    refine T4 ?_
    exact key true _ _ _ (by simp only [okc, alZ, puZ, h1_7, h7_23, h7_30, h7_33, Bool.and_true, Bool.and_false, Bool.true_and, Bool.false_and, Bool.or_true, Bool.true_or, Bool.false_or, Bool.or_false, Bool.and_self, Bool.or_self]) (fF)
   have F := aI h1_7 (aI h7_23 (aI h7_30 h7_33))
   iterate 3 refine SF ?_
   refine aH 38 rfl (fun h7_38 => ?_) (fun h7_38 => ?_)
   ·
    have F := aI h1_7 (aI h7_23 (aI h7_30 (aI h7_33 h7_38)))
    iterate 3 refine SF ?_
    refine aH 41 rfl (fun h7_41 => ?_) (fun h7_41 => ?_)
    ·
     have F := aI h1_7 (aI h7_23 (aI h7_30 (aI h7_33 (aI h7_38 h7_41))))
     iterate 9 refine SF ?_
     refine T4 ?_
     exact key true _ _ _ (by simp only [okc, alZ, puZ, h1_7, h7_23, h7_30, h7_33, h7_38, h7_41, Bool.and_true, Bool.and_false, Bool.true_and, Bool.false_and, Bool.or_true, Bool.true_or, Bool.false_or, Bool.or_false, Bool.and_self, Bool.or_self]) (fF)
    have F := aI h1_7 (aI h7_23 (aI h7_30 (aI h7_33 (aI h7_38 h7_41))))
    iterate 4 refine SF ?_
    refine aH 44 rfl (fun h7_44 => ?_) (fun h7_44 => ?_)
    ·
     have F := aI h1_7 (aI h7_23 (aI h7_30 (aI h7_33 (aI h7_38 (aI h7_41 h7_44)))))
     iterate 5 refine SF ?_
     refine T4 ?_
     exact key true _ _ _ (by simp only [okc, alZ, puZ, h1_7, h7_23, h7_30, h7_33, h7_38, h7_41, h7_44, Bool.and_true, Bool.and_false, Bool.true_and, Bool.false_and, Bool.or_true, Bool.true_or, Bool.false_or, Bool.or_false, Bool.and_self, Bool.or_self]) (fF)
    have F := aI h1_7 (aI h7_23 (aI h7_30 (aI h7_33 (aI h7_38 (aI h7_41 h7_44)))))
    iterate 5 refine SF ?_
    refine aH 48 rfl (fun h7_48 => ?_) (fun h7_48 => ?_)
    ·
     simp only [h7_48]
     refine T4 ?_
     exact key true _ _ _ (by simp only [okc, alZ, puZ, h1_7, h7_23, h7_30, h7_33, h7_38, h7_41, h7_44, h7_48, Bool.and_true, Bool.and_false, Bool.true_and, Bool.false_and, Bool.or_true, Bool.true_or, Bool.false_or, Bool.or_false, Bool.and_self, Bool.or_self]) (fF)
    simp only [h7_48]
    refine T4 ?_
    exact key false _ _ _ (by simp only [okc, alZ, puZ, h1_7, h7_23, h7_30, h7_33, h7_38, h7_41, h7_44, h7_48, Bool.and_true, Bool.and_false, Bool.true_and, Bool.false_and, Bool.or_true, Bool.true_or, Bool.false_or, Bool.or_false, Bool.and_self, Bool.or_self]) (fF)
   have F := aI h1_7 (aI h7_23 (aI h7_30 (aI h7_33 h7_38)))
   iterate 12 refine SF ?_
   refine T4 ?_
   exact key false _ _ _ (by simp only [okc, alZ, puZ, h1_7, h7_23, h7_30, h7_33, h7_38, Bool.and_true, Bool.and_false, Bool.true_and, Bool.false_and, Bool.or_true, Bool.true_or, Bool.false_or, Bool.or_false, Bool.and_self, Bool.or_self]) (fF)
  have F := aI h1_7 (aI h7_23 h7_30)
  iterate 8 refine SF ?_
  refine aH 38 rfl (fun h7_38 => ?_) (fun h7_38 => ?_)
  ·
   have F := aI h1_7 (aI h7_23 (aI h7_30 h7_38))
   iterate 3 refine SF ?_
   refine aH 41 rfl (fun h7_41 => ?_) (fun h7_41 => ?_)
   ·
    have F := aI h1_7 (aI h7_23 (aI h7_30 (aI h7_38 h7_41)))
    iterate 9 refine SF ?_
    refine T4 ?_
    exact key true _ _ _ (by simp only [okc, alZ, puZ, h1_7, h7_23, h7_30, h7_38, h7_41, Bool.and_true, Bool.and_false, Bool.true_and, Bool.false_and, Bool.or_true, Bool.true_or, Bool.false_or, Bool.or_false, Bool.and_self, Bool.or_self]) (fF)
   have F := aI h1_7 (aI h7_23 (aI h7_30 (aI h7_38 h7_41)))
   iterate 4 refine SF ?_
   refine aH 44 rfl (fun h7_44 => ?_) (fun h7_44 => ?_)
   ·
    have F := aI h1_7 (aI h7_23 (aI h7_30 (aI h7_38 (aI h7_41 h7_44))))
    iterate 5 refine SF ?_
    refine T4 ?_
    exact key true _ _ _ (by simp only [okc, alZ, puZ, h1_7, h7_23, h7_30, h7_38, h7_41, h7_44, Bool.and_true, Bool.and_false, Bool.true_and, Bool.false_and, Bool.or_true, Bool.true_or, Bool.false_or, Bool.or_false, Bool.and_self, Bool.or_self]) (fF)
   have F := aI h1_7 (aI h7_23 (aI h7_30 (aI h7_38 (aI h7_41 h7_44))))
   iterate 5 refine SF ?_
   refine aH 48 rfl (fun h7_48 => ?_) (fun h7_48 => ?_)
   ·
    simp only [h7_48]
    refine T4 ?_
    exact key true _ _ _ (by simp only [okc, alZ, puZ, h1_7, h7_23, h7_30, h7_38, h7_41, h7_44, h7_48, Bool.and_true, Bool.and_false, Bool.true_and, Bool.false_and, Bool.or_true, Bool.true_or, Bool.false_or, Bool.or_false, Bool.and_self, Bool.or_self]) (fF)
   simp only [h7_48]
   refine T4 ?_
   exact key false _ _ _ (by simp only [okc, alZ, puZ, h1_7, h7_23, h7_30, h7_38, h7_41, h7_44, h7_48, Bool.and_true, Bool.and_false, Bool.true_and, Bool.false_and, Bool.or_true, Bool.true_or, Bool.false_or, Bool.or_false, Bool.and_self, Bool.or_self]) (fF)
  have F := aI h1_7 (aI h7_23 (aI h7_30 h7_38))
  iterate 12 refine SF ?_
  refine T4 ?_
  exact key false _ _ _ (by simp only [okc, alZ, puZ, h1_7, h7_23, h7_30, h7_38, Bool.and_true, Bool.and_false, Bool.true_and, Bool.false_and, Bool.or_true, Bool.true_or, Bool.false_or, Bool.or_false, Bool.and_self, Bool.or_self]) (fF)
 refine bD (T3 ?_)
 clear hK K
 refine AX (hK _ _ _ ?_)
 clear hK K
 refine R0 ?_
 refine aF (RT Tryd.results33 ?_)
 have hei : i = s.length := by simp at hb; omega
 exact aM [] (.bool true) rfl (by rw [rG.2 ⟨hlen, fun j h => h0 j (by omega) h⟩])



end Go.Proofs.YtlldglbooaefhaaDoor

namespace Go.Proofs.YtlldglbooaefhaaDoor
open Go Go.Hl Go.Pl
set_option maxRecDepth 10000
set_option maxHeartbeats 16000000

theorem pX (c : UInt8) : cH Tryd.prog 55 [.int .u8 c.toNat] (fun v => v = .bool (cQ c)) := by
 refine FW Tryd.func55 ?_
 refine R0 ?_
 refine aC fun K hK => Rg ?_
 iterate 3 refine S0 ?_
 refine aH 4 rfl (fun h1_4 => ?_) (fun h1_4 => ?_)
 ·
  have F := h1_4
  iterate 4 refine SF ?_
  refine aH 7 rfl (fun h1_7 => ?_) (fun h1_7 => ?_)
  ·
   have F := aI h1_4 h1_7
   iterate 4 refine SF ?_
   refine T2 (hK _ _ _ ?_)
   clear hK K
   refine aF (RT Tryd.results55 ?_)
   refine aM [] (.bool _) rfl ?_
   simp [h1_4, h1_7, cQ]
   all_goals first | rfl | simp_all | omega
  have F := aI h1_4 h1_7
  iterate 4 refine SF ?_
  refine T2 (hK _ _ _ ?_)
  clear hK K
  refine aF (RT Tryd.results55 ?_)
  refine aM [] (.bool _) rfl ?_
  simp [h1_4, h1_7, cQ]
  all_goals first | rfl | simp_all | omega
 have F := h1_4
 iterate 8 refine SF ?_
 refine T2 (hK _ _ _ ?_)
 clear hK K
 refine aF (RT Tryd.results55 ?_)
 refine aM [] (.bool _) rfl ?_
 simp [h1_4, cQ]
 all_goals first | rfl | simp_all | omega



theorem aS8 (w : aE) (hl : w.length < 2 ^ 40) : cH Tryd.prog 39 [.str w] (fun v => v = .int .i64 (sizeW w : Nat)) := by
 refine FW Tryd.func39 ?_
 refine R0 ?_
 refine R0 ?_
 refine aC fun K hK => ?_
 refine R0 ?_
 refine aK ?_
 refine bO (α := {i : Nat // i ≤ w.length}) (fun i => (fin [(0, .c (.str w)), (3, .c (.int .i64 (cJ (w.take i.1)).length)), (4, .c (.int .i64 i.1))], fob [])) 100 (fun i => w.length - i.1) ⟨0, by omega⟩ (fF) ?_
 rintro ⟨i, hi⟩
 have hle := oH w i
 have hle3 := uS w
 refine aC fun K hK => ?_
 refine aC fun K hK => Rg ?_
 iterate 4 refine S0 ?_
 refine T2 (hK _ _ _ ?_)
 clear hK K
 refine aG (b := decide ((i : Int) < w.length)) rfl (fun hb => ?_) (fun hb => ?_)
 ·
  have hlt : i < w.length := by simpa using hb
  have hgd : w.getD i 0 = w[i] := by simp [hlt]
  have hs := uT hlt
  refine aJ ?_
  refine T0 (hK _ _ _ ?_)
  clear hK K
  refine aC fun K hK => ?_
  refine aK ?_
  have F := IntWalk.i64_in _ (show -9223372036854775808 ≤ ((cJ (w.take i)).length : Int) + 1 ∧ ((cJ (w.take i)).length : Int) + 1 ≤ 9223372036854775807 by omega)
  refine RF ?_
  refine aC fun K hK => Rg ?_
  iterate 3 refine S0 ?_ (e := fun _ h_ => by simp only [sH, ↓sP, sA, tyS, simprocAttr, Int.natCast_nonneg, Int.ofNat_lt, hlt, hgd]; exact AX h_)
  refine HS rfl rfl fun K' hK' => ?_
  simp only [sH, ↓sP, sA, tyS, simprocAttr, Int.natCast_nonneg, Int.ofNat_lt, hlt, hgd]
  refine C1 (pX w[i]) ?_
  rintro u rfl
  refine AX (hK' _ _ ?_)
  clear hK' K'
  refine S0 ?_ (e := fun _ h_ => by simp only [sH, ↓sP, sA, tyS, simprocAttr, Int.natCast_nonneg, Int.ofNat_lt, hlt, hgd]; exact AX h_)
  refine T2 (hK _ _ _ ?_)
  clear hK K
  refine aG (b := !cQ w[i]) rfl (fun hb => ?_) (fun hb => ?_)
  ·
   refine aL (by kernel_rfl) ?_
   refine TQ (IntWalk.i64_in _ (show -9223372036854775808 ≤ ((cJ (w.take i)).length : Int) + 1 + 2 ∧ ((cJ (w.take i)).length : Int) + 1 + 2 ≤ 9223372036854775807 by omega)) ?_
   refine AX (hK _ _ _ ?_)
   clear hK K
   refine aL (by kernel_rfl) ?_
   refine TQ (lO i) ?_
   have hp : cQ w[i] = false := by simpa using hb
   have he : ((cJ (w.take i)).length : Int) + 1 + 2 = ((cJ (w.take (i + 1))).length : Int) := by
    rw [hs, List.length_append, kM, if_neg (by rw [hp]; simp)]; simp; omega
   simp only [he]
   refine ⟨⟨i + 1, hlt⟩, fF, ?_⟩
   show w.length - (i + 1) < w.length - i
   omega
  refine aJ ?_
  refine T0 (hK _ _ _ ?_)
  clear hK K
  refine aL (by kernel_rfl) ?_
  refine TQ (lO i) ?_
  have hp : cQ w[i] = true := by simpa using hb
  have he : ((cJ (w.take i)).length : Int) + 1 = ((cJ (w.take (i + 1))).length : Int) := by
   rw [hs, List.length_append, kM, if_pos hp]; simp
  simp only [he]
  refine ⟨⟨i + 1, hlt⟩, fF, ?_⟩
  show w.length - (i + 1) < w.length - i
  omega
 refine bD (T3 ?_)
 clear hK K
 refine AX (hK _ _ _ ?_)
 clear hK K
 have F := @cG1
 refine RF ?_
 refine aF (RT Tryd.results39 ?_)
 have hei : i = w.length := by simp at hb; omega
 subst hei
 exact aM [] (.int .i64 (sizeW w : Nat)) (by rw [List.take_length]; rfl) rfl


theorem aS9 (w : aE) (hl : w.length < 2 ^ 40) : cH Tryd.prog 40 [.str w] (fun v => v = .str (jI w)) := by
 refine FW Tryd.func40 ?_
 refine R0 ?_
 refine aC fun K hK => ?_
 refine R0 ?_
 refine aG (b := w == []) rfl (fun hb => ?_) (fun hb => ?_)
 ·
  refine R0 ?_
  refine aF (RT Tryd.results40 ?_)
  exact aM [] (.str [126]) rfl (by rw [jI, if_pos (by simpa using hb)])
 refine aJ ?_
 refine T0 (hK _ _ _ ?_)
 clear hK K
 have hne : w ≠ [] := by simpa using hb
 have hz : (sizeW w : Int) ≤ 140737488355328 := by have := uV w; omega
 clear hb
 refine aC fun K hK => Rg ?_
 have F := aI @Int.natCast_nonneg (aI hz @Int.mul_one)
 refine SF ?_
 refine HS rfl rfl fun K' hK' => T6 ?_
 refine C1 (aS8 w hl) ?_
 rintro u rfl
 refine AX (hK' _ _ ?_)
 clear hK' K'
 iterate 2 refine SF ?_
 refine T2 (hK _ _ _ ?_)
 clear hK K
 refine aC fun K hK => ?_
 refine R0 ?_
 refine aK ?_
 refine bO (α := {i : Nat // i ≤ w.length}) (fun i => (fin [(0, .c (.str w)), (3, .own 20 (cJ (w.take i.1)).length), (4, .c (.int .i64 i.1))], fob [(20, .row 5 1 ((cJ (w.take i.1)).map dY))])) 100 (fun i => w.length - i.1) ⟨0, by omega⟩ (fF) ?_
 rintro ⟨i, hi⟩
 have hle := oH w i
 have hle3 := uS w
 refine aC fun K hK => ?_
 refine aC fun K hK => Rg ?_
 iterate 4 refine S0 ?_
 refine T2 (hK _ _ _ ?_)
 clear hK K
 refine aG (b := decide ((i : Int) < w.length)) rfl (fun hb => ?_) (fun hb => ?_)
 ·
  have hlt : i < w.length := by simpa using hb
  have hgd : w.getD i 0 = w[i] := by simp [hlt]
  have hs := uT hlt
  refine aJ ?_
  refine T0 (hK _ _ _ ?_)
  clear hK K
  refine aC fun K hK => ?_
  refine aK ?_
  refine aC fun K hK => Rg ?_
  iterate 3 refine S0 ?_ (e := fun _ h_ => by simp only [sH, ↓sP, sA, tyS, simprocAttr, Int.natCast_nonneg, Int.ofNat_lt, hlt, hgd]; exact AX h_)
  refine HS rfl rfl fun K' hK' => ?_
  simp only [sH, ↓sP, sA, tyS, simprocAttr, Int.natCast_nonneg, Int.ofNat_lt, hlt, hgd]
  refine C1 (pX w[i]) ?_
  rintro u rfl
  refine AX (hK' _ _ ?_)
  clear hK' K'
  refine T2 (hK _ _ _ ?_)
  clear hK K
  refine aG (b := cQ w[i]) rfl (fun hb => ?_) (fun hb => ?_)
  ·
   refine Rg ?_
   iterate 7 refine S0 ?_ (e := fun _ h_ => by simp only [sH, ↓sP, sA, tyS, simprocAttr, Int.natCast_nonneg, Int.ofNat_lt, hlt, hgd, List.length_append, List.length_map]; exact AX h_)
   refine T2 (hK _ _ _ ?_)
   clear hK K
   refine aL (by kernel_rfl) ?_
   refine TQ (lO i) ?_
   refine ⟨⟨i + 1, hlt⟩, aN (by omega) ?_ ?_, ?_⟩
   ·
    rw [hs, kM, if_pos hb]
    simp [bB, upd_at, fin_at, HV.men]
   ·
    rw [hs, kM, if_pos hb, List.map_append]
    exact ⟨rfl, by omega, trivial, trivial⟩
   show w.length - (i + 1) < w.length - i
   omega
  have h16 : ((w[i].toNat / 16 : Nat) : Int) < 16 := by have := w[i].toNat_lt; omega
  have h15 : ((w[i].toNat % 16 : Nat) : Int) < 16 := by omega
  refine DW [(0, [], []), (1, [], []), (2, [], []), (3, [], []), (4, [], []), (5, [], []), (6, [], []), (7, [], []), (8, [], []), (9, [], []), (10, [], []), (11, [], []), (12, [], []), (13, [], [])] [0, 0, 0, 6, 14, 30, 0, 0, 192, 448, 960, 2046, 4095, 8191] ?_
  iterate 14 refine W0 ?_ (e := fun _ h_ => by simp only [sH, ↓sP, sA, tyS, simprocAttr, Int.natCast_nonneg, Int.ofNat_lt, hlt, hgd, List.length_append, List.length_map, cG2, cC5, h16, h15]; exact AX h_)
  refine T2 (hK _ _ _ ?_)
  clear hK K
  refine aL (by kernel_rfl) ?_
  refine TQ (lO i) ?_
  refine ⟨⟨i + 1, hlt⟩, aN (by omega) ?_ ?_, ?_⟩
  ·
   rw [hs, kM, if_neg (by rw [hb]; simp)]
   simp [bB, upd_at, fin_at, HV.men]
  ·
   rw [hs, kM, if_neg (by rw [hb]; simp), List.map_append]
   exact ⟨rfl, by omega, trivial, trivial⟩
  show w.length - (i + 1) < w.length - i
  omega
 refine bD (T3 ?_)
 clear hK K
 refine AX (hK _ _ _ ?_)
 clear hK K
 refine fD [20] (bU (fr2 := fin [(3, .c (.slc ((cJ (w.take i)).map dY)))]) (ob2 := fob []) (nx2 := 200) (aN (by omega) (by simp [bB, jY, fin_at, finA_at, upd_at, fob_at, HV.close, HV.closeL, CV.denil, CV.denilL, dS, HV.men, HV.menL, HV.norm, HV.toC, HV.toCL]) (by simp [bA, jZ, fob_at, upd_at, none0_at, cB, HO.close, HV.close, HV.closeL, HO.men, HV.men, HV.menL, HV.norm, HV.toC, HV.toCL])) ?_)
 have F := @bytesC_map
 refine RF ?_
 refine aF (RT Tryd.results40 ?_)
 have hei : i = w.length := by simp at hb; omega
 subst hei
 exact aM [] (.str (cJ w)) (by rw [List.take_length]; rfl) (by rw [jI, if_neg hne])

end Go.Proofs.YtlldglbooaefhaaDoor

namespace Go.Proofs.YtlldglbooaefhaaDoor
open Go Go.Hl Go.Pl
set_option maxRecDepth 10000
set_option maxHeartbeats 16000000

theorem aH1 (l : List aE) (hl : l.length < 2 ^ 40) : cH Tryd.prog 38 [.slc (l.map .str)] (fun v => v = .int .i64 (rA l)) := by
 refine FW Tryd.func38 ?_
 refine R0 ?_
 refine aC fun K hK => ?_
 refine aK ?_
 refine aC fun K hK => Rg ?_
 iterate 4 refine S0 ?_
 refine T2 (hK _ _ _ ?_)
 clear hK K
 refine aG (b := (l.length : Int) == 0) rfl (fun hb => ?_) (fun hb => ?_)
 ·
  refine R0 ?_
  refine aF (RT Tryd.results38 ?_)
  exact aM [] (.int .i64 1) rfl (by rw [rA, if_pos (by simp at hb; simp [hb])])
 have hn0 : l.length ≠ 0 := by simp at hb; simp [hb]
 clear hb
 refine aC fun K hK => Rg ?_
 iterate 4 refine S0 ?_
 refine T2 (hK _ _ _ ?_)
 clear hK K
 refine aG (b := decide ((120 : Int) < l.length)) rfl (fun hb => ?_) (fun hb => ?_)
 ·
  refine R0 ?_
  refine aF (RT Tryd.results38 ?_)
  exact aM [] (.int .i64 3) rfl (by rw [rA, if_neg hn0, if_pos (by simp at hb; omega)])
 refine aJ ?_
 refine T0 (hK _ _ _ ?_)
 clear hK K
 refine aC fun K hK => ?_
 have hn1 : l.length ≤ 120 := by simp at hb; omega
 clear hb
 refine R0 ?_
 refine aK ?_
 refine bO (α := {i : Nat // i ≤ l.length ∧ ∀ x ∈ l.take i, decide (32768 < x.length) = false}) (fun i => (fin [(13, .c (.slc (l.map .str))), (14, .c (.int .i64 l.length)), (15, .c (.int .i64 i.1))], fob [])) 100 (fun i => l.length - i.1) ⟨0, by omega, by simp⟩ (fF) ?_
 rintro ⟨i, hi, h0⟩
 refine R0 ?_
 refine aC fun K hK => ?_
 refine aG (b := decide ((i : Int) < l.length)) rfl (fun hb => ?_) (fun hb => ?_)
 ·
  have hlt : i < l.length := by simpa using hb
  clear hb
  refine aJ ?_
  refine T0 (hK _ _ _ ?_)
  clear hK K
  refine aC fun K hK => ?_
  refine aK ?_
  have F := aI @Int.natCast_nonneg (aI @Int.ofNat_lt (aI hlt (nM hlt)))
  refine RF ?_
  refine R0 ?_
  refine aG (b := decide ((32768 : Int) < l[i].length)) rfl (fun hb => ?_) (fun hb => ?_)
  ·
   refine R0 ?_
   refine aF (RT Tryd.results38 ?_)
   exact aM [] (.int .i64 3) rfl (by rw [rA, if_neg hn0, if_neg (by omega), if_pos]; simp only [List.any_eq_true, decide_eq_true_eq]; exact ⟨_, List.getElem_mem hlt, by simp at hb; omega⟩)
  refine aJ ?_
  refine T0 (hK _ _ _ ?_)
  clear hK K
  refine aL (by kernel_rfl) ?_
  refine TQ (lO i) ?_
  have hb2 : decide (32768 < l[i].length) = false := by simp at hb ⊢; omega
  refine ⟨⟨i + 1, hlt, aX9 (p := fun x => decide (32768 < x.length)) hlt hb2 h0⟩, fF, ?_⟩
  show l.length - (i + 1) < l.length - i
  omega
 refine bD (T3 ?_)
 clear hK K
 refine AX (hK _ _ _ ?_)
 clear hK K
 refine R0 ?_
 refine aF (RT Tryd.results38 ?_)
 have hei : i = l.length := by simp at hb; omega
 subst hei
 rw [List.take_length] at h0
 exact aM [] (.int .i64 0) rfl (by rw [rA, if_neg hn0, if_neg (by omega), if_neg]; simp only [List.any_eq_true, not_exists, not_and]; intro x hx; simp [h0 x hx])


theorem bY5 (ls : List (List aE)) (h0 : ls.length < 2 ^ 40) (h1 : ∀ l ∈ ls, l.length < 2 ^ 40) : mL Tryd.prog 21 [.slc (ls.map fun l => .slc (l.map .str))] (fun u v => u = .slc ((pQ ls).map dY) ∧ v = .int .i64 (lD ls)) := by
 refine FW Tryd.func21 ?_
 refine R0 ?_
 refine aC fun K hK => ?_
 refine R0 ?_
 refine aG (b := decide ((1000 : Int) < ls.length)) rfl (fun hb => ?_) (fun hb => ?_)
 ·
  refine R0 ?_
  refine aF (RT Tryd.results21 ?_)
  have hE := aX1 (ls := ls) (by simp at hb; omega)
  refine bF [] (.slc []) (.int .i64 3) ?_ ⟨by rw [uX (by rw [hE]; decide)]; rfl, by rw [hE]⟩
  simp [HV.close, HV.closeL, CV.denil, CV.denilL, HV.norm, HV.toC, HV.toCL]
 refine aJ ?_
 refine T0 (hK _ _ _ ?_)
 clear hK K
 refine aC fun K hK => ?_
 have hn : ls.length ≤ 1000 := by simp at hb; omega
 clear hb
 refine R0 ?_
 refine aK ?_
 refine bO (α := {i : Nat // i ≤ ls.length ∧ ∀ x ∈ ls.take i, okL x = true}) (fun i => (fin [(0, .c (.slc (ls.map fun l => .slc (l.map .str)))), (20, .c (.slc (ls.map fun l => .slc (l.map .str)))), (21, .c (.int .i64 ls.length)), (22, .c (.int .i64 i.1))], fob [])) 100 (fun i => ls.length - i.1) ⟨0, by omega, by simp⟩ (fF) ?_
 rintro ⟨i, hi, hk⟩
 refine R0 ?_
 refine aC fun K hK => ?_
 refine aG (b := decide ((i : Int) < ls.length)) rfl (fun hb => ?_) (fun hb => ?_)
 ·
  have hlt : i < ls.length := by simpa using hb
  clear hb
  have hl1 := h1 ls[i] (List.getElem_mem hlt)
  refine aJ ?_
  refine T0 (hK _ _ _ ?_)
  clear hK K
  refine aC fun K hK => ?_
  refine aK ?_
  have F := aI @Int.natCast_nonneg (aI @Int.ofNat_lt (aI hlt (nM hlt)))
  refine RF ?_
  refine aC fun K hK => Rg ?_
  refine S0 ?_
  refine HS rfl rfl fun K' hK' => T5 ?_
  refine C1 (aH1 ls[i] hl1) ?_
  rintro u rfl
  refine AX (hK' _ _ ?_)
  clear hK' K'
  refine S0 ?_
  refine T2 (hK _ _ _ ?_)
  clear hK K
  refine R0 ?_
  refine aG (b := rA ls[i] != 0) rfl (fun hb => ?_) (fun hb => ?_)
  ·
   refine R0 ?_
   refine aF (RT Tryd.results21 ?_)
   have hE := bE8 hn hlt hk (by simpa [okL] using hb)
   refine bF [] (.slc []) (.int .i64 (rA ls[i])) ?_ ⟨by rw [uX (by rw [hE]; simpa using hb)]; rfl, by rw [hE]⟩
   simp [HV.close, HV.closeL, CV.denil, CV.denilL, HV.norm, HV.toC, HV.toCL]
  refine aJ ?_
  refine T0 (hK _ _ _ ?_)
  clear hK K
  refine aL (by kernel_rfl) ?_
  refine TQ (lO i) ?_
  refine ⟨⟨i + 1, hlt, ?_⟩, fF, ?_⟩
  ·
   intro x hx
   rw [List.take_succ_eq_append_getElem hlt, List.mem_append, List.mem_singleton] at hx
   rcases hx with hx | rfl
   ·
    exact hk x hx
   simpa [okL] using hb
  show ls.length - (i + 1) < ls.length - i
  omega
 have hei : i = ls.length := by simp at hb; omega
 subst hei
 clear hb
 rw [List.take_length] at hk
 have hne : ∀ l ∈ ls, l ≠ [] := fun l hl => ((nT l).1 (hk l hl)).1
 have hsd := bP3 hk
 have hdl := uW hne
 have hE := aR9 hn hk
 have hst : ∀ j, sumD (ls.take j) ≤ sumD ls := fun j => zY ls j
 have hdt : ∀ j, (gK (ls.take j)).length ≤ sumD ls := fun j => by rw [uW fun l hl => hne l (List.mem_of_mem_take hl)]; exact hst j
 refine bD (T3 ?_)
 clear hK K
 refine AX (hK _ _ _ ?_)
 clear hK K
 refine R0 ?_
 refine aC fun K hK => ?_
 refine R0 ?_
 refine aK ?_
 refine bO (α := {i : Nat // i ≤ ls.length}) (fun i => (fin [(0, .c (.slc (ls.map fun l => .slc (l.map .str)))), (7, .c (.int .i64 (sumD (ls.take i.1) : Nat))), (32, .c (.slc (ls.map fun l => .slc (l.map .str)))), (33, .c (.int .i64 ls.length)), (34, .c (.int .i64 i.1))], fob [])) 200 (fun i => ls.length - i.1) ⟨0, by omega⟩ (fF) ?_
 rintro ⟨i, hi⟩
 refine R0 ?_
 refine aC fun K hK => ?_
 refine aG (b := decide ((i : Int) < ls.length)) rfl (fun hb => ?_) (fun hb => ?_)
 ·
  have hlt : i < ls.length := by simpa using hb
  clear hb
  have hst1 := aX0 hlt
  have hst2 := hst (i + 1)
  obtain ⟨l, hl⟩ : ∃ l, l = ls[i] := ⟨_, rfl⟩
  obtain ⟨hl0, hl1, hl2⟩ := (nT l).1 (hk l (by rw [hl]; exact List.getElem_mem hlt))
  have hln : nth (ls.map fun l => CV.slc (l.map .str)) i = .slc (l.map .str) := by rw [aY hlt, hl]
  rw [← hl] at hst1
  refine aJ ?_
  refine T0 (hK _ _ _ ?_)
  clear hK K
  refine aC fun K hK => ?_
  refine aK ?_
  have F := aI @Int.natCast_nonneg (aI @Int.ofNat_lt (aI hlt hln))
  refine RF ?_
  refine R0 ?_
  refine aK ?_
  refine bO (α := {i : Nat // i ≤ l.length}) (fun k => (fin [(0, .c (.slc (ls.map fun l => .slc (l.map .str)))), (7, .c (.int .i64 (sumD (ls.take i) + iM (l.take k.1) : Nat))), (32, .c (.slc (ls.map fun l => .slc (l.map .str)))), (33, .c (.int .i64 ls.length)), (34, .c (.int .i64 i)), (38, .c (.slc (l.map .str))), (39, .c (.int .i64 l.length)), (40, .c (.int .i64 k.1))], fob [])) 300 (fun k => l.length - k.1) ⟨0, by omega⟩ (fF) ?_
  rintro ⟨k, hk'⟩
  refine R0 ?_
  refine aC fun K hK => ?_
  refine aG (b := decide ((k : Int) < l.length)) rfl (fun hb => ?_) (fun hb => ?_)
  ·
   have hlk : k < l.length := by simpa using hb
   clear hb
   have hlt1 := aW9 hlk
   have hlt2 := pP l (k + 1)
   have hw2 := hl2 l[k] (List.getElem_mem hlk)
   refine aJ ?_
   refine T0 (hK _ _ _ ?_)
   clear hK K
   refine aC fun K hK => ?_
   refine aK ?_
   have F := aI @Int.natCast_nonneg (aI @Int.ofNat_lt (aI hlk (nM hlk)))
   refine RF ?_
   refine Rg ?_
   have F := aI (IntWalk.i64_in _ (show -9223372036854775808 ≤ ((sizeW l[k] : Nat) : Int) + 1 ∧ ((sizeW l[k] : Nat) : Int) + 1 ≤ 9223372036854775807 by omega)) (IntWalk.i64_in _ (show -9223372036854775808 ≤ ((sumD (ls.take i) + iM (l.take k) : Nat) : Int) + (((sizeW l[k] : Nat) : Int) + 1) ∧ ((sumD (ls.take i) + iM (l.take k) : Nat) : Int) + (((sizeW l[k] : Nat) : Int) + 1) ≤ 9223372036854775807 by omega))
   iterate 2 refine SF ?_
   refine HS rfl rfl fun K' hK' => T6 ?_
   refine C1 (aS8 l[k] (by omega)) ?_
   rintro u rfl
   refine AX (hK' _ _ ?_)
   clear hK' K'
   iterate 3 refine SF ?_
   refine T2 (hK _ _ _ ?_)
   clear hK K
   refine aL (by kernel_rfl) ?_
   refine TQ (lO k) ?_
   have he : ((sumD (ls.take i) + iM (l.take k) : Nat) : Int) + (((sizeW l[k] : Nat) : Int) + 1) = ((sumD (ls.take i) + iM (l.take (k + 1)) : Nat) : Int) := by omega
   simp only [he]
   refine ⟨⟨k + 1, hlk⟩, fF, ?_⟩
   show l.length - (k + 1) < l.length - k
   omega
  have hek : k = l.length := by simp at hb; omega
  subst hek
  clear hb
  refine bD (T3 ?_)
  clear hK K
  refine AX (hK _ _ _ ?_)
  clear hK K
  refine aL (by kernel_rfl) ?_
  refine TQ (lO i) ?_
  have he : ((sumD (ls.take i) + iM (l.take l.length) : Nat) : Int) = ((sumD (ls.take (i + 1)) : Nat) : Int) := by rw [List.take_length]; omega
  simp only [he]
  refine ⟨⟨i + 1, hlt⟩, fF, ?_⟩
  show ls.length - (i + 1) < ls.length - i
  omega
 have hei : i = ls.length := by simp at hb; omega
 subst hei
 clear hb
 refine bD (T3 ?_)
 clear hK K
 refine AX (hK _ _ _ ?_)
 clear hK K
 refine aC fun K hK => ?_
 have F := @List.take_length.{0}
 refine RF ?_
 refine aG (b := decide ((262144 : Int) < (sumD ls : Nat))) rfl (fun hb => ?_) (fun hb => ?_)
 ·
  refine R0 ?_
  refine aF (RT Tryd.results21 ?_)
  rw [if_pos (by rw [hdl]; simp at hb; omega)] at hE
  refine bF [] (.slc []) (.int .i64 3) ?_ ⟨by rw [uX (by rw [hE]; decide)]; rfl, by rw [hE]⟩
  simp [HV.close, HV.closeL, CV.denil, CV.denilL, HV.norm, HV.toC, HV.toCL]
 refine aJ ?_
 refine T0 (hK _ _ _ ?_)
 clear hK K
 have hle : sumD ls ≤ 262144 := by simp at hb; omega
 have hz : ((sumD ls : Nat) : Int) ≤ 140737488355328 := by omega
 clear hb
 rw [if_neg (by rw [hdl]; omega)] at hE
 have hO := zZ hE
 have F := aI @Int.natCast_nonneg (aI hz (aI @Int.mul_one @List.take_length.{0}))
 refine RF ?_
 refine aC fun K hK => ?_
 refine R0 ?_
 refine aK ?_
 refine bO (α := {i : Nat // i ≤ ls.length}) (fun i => (fin [(12, .own 216 (gK (ls.take i.1)).length), (55, .c (.slc (ls.map fun l => .slc (l.map .str)))), (56, .c (.int .i64 ls.length)), (57, .c (.int .i64 i.1))], fob [(216, .row 5 1 ((gK (ls.take i.1)).map dY))])) 400 (fun i => ls.length - i.1) ⟨0, by omega⟩ (fF) ?_
 rintro ⟨i, hi⟩
 refine R0 ?_
 refine aC fun K hK => ?_
 refine aG (b := decide ((i : Int) < ls.length)) rfl (fun hb => ?_) (fun hb => ?_)
 ·
  have hlt : i < ls.length := by simpa using hb
  clear hb
  have hdt1 := aW8 hlt
  have hdt0 := hdt i
  obtain ⟨l, hl⟩ : ∃ l, l = ls[i] := ⟨_, rfl⟩
  have hok := hk l (by rw [hl]; exact List.getElem_mem hlt)
  have hsl := aR8 hok
  obtain ⟨hl0, hl1, hl2⟩ := (nT l).1 hok
  have hln : nth (ls.map fun l => CV.slc (l.map .str)) i = .slc (l.map .str) := by rw [aY hlt, hl]
  rw [← hl] at hdt1
  refine aJ ?_
  refine T0 (hK _ _ _ ?_)
  clear hK K
  refine aC fun K hK => ?_
  refine aK ?_
  have F := aI @Int.natCast_nonneg (aI @Int.ofNat_lt (aI hlt hln))
  refine RF ?_
  refine aC fun K hK => ?_
  refine R0 ?_
  refine aK ?_
  refine bO (α := {i : Nat // i ≤ l.length}) (fun k => (fin [(12, .own 216 (gK (ls.take i) ++ gT (l.take k.1)).length), (55, .c (.slc (ls.map fun l => .slc (l.map .str)))), (56, .c (.int .i64 ls.length)), (57, .c (.int .i64 i)), (61, .c (.slc (l.map .str))), (62, .c (.int .i64 l.length)), (63, .c (.int .i64 k.1))], fob [(216, .row 5 1 ((gK (ls.take i) ++ gT (l.take k.1)).map dY))])) 500 (fun k => l.length - k.1) ⟨0, by omega⟩ (fF) ?_
  rintro ⟨k, hk'⟩
  have hsw := bP2 (l.take k)
  have hst2 := pP l k
  refine R0 ?_
  refine aC fun K hK => ?_
  refine aG (b := decide ((k : Int) < l.length)) rfl (fun hb => ?_) (fun hb => ?_)
  ·
   have hlk : k < l.length := by simpa using hb
   clear hb
   have hw2 := hl2 l[k] (List.getElem_mem hlk)
   have hel := uU l[k]
   have hsz := uV l[k]
   have hsp := aW5 l[k]
   have hpe : 0 < (jI l[k]).length := by omega
   have htk := aW7 hlk
   have hbe : (gK (ls.take i)).length + (gT (l.take k)).length + (jI l[k]).length ≤ 140737488355328 := by omega
   have hbe1 : (gK (ls.take i)).length + (gT (l.take k)).length + 1 + (jI l[k]).length ≤ 140737488355328 := by omega
   refine aJ ?_
   refine T0 (hK _ _ _ ?_)
   clear hK K
   refine aC fun K hK => ?_
   refine aK ?_
   refine aC fun K hK => Rg ?_
   have F := aI @Int.natCast_nonneg (aI @Int.ofNat_lt (aI hlk (nM hlk)))
   iterate 5 refine SF ?_
   refine T2 (hK _ _ _ ?_)
   clear hK K
   refine aC fun K hK => ?_
   refine R0 ?_
   refine aG (b := decide ((0 : Int) < k)) rfl (fun hb => ?_) (fun hb => ?_)
   ·
    refine Rg ?_
    have F := aI @List.length_append.{0} @List.length_map.{0,0}
    iterate 4 refine SF ?_
    refine T2 (hK _ _ _ ?_)
    clear hK K
    refine Rg ?_
    have F := aI @List.length_append.{0} (aI @List.length_map.{0,0} (aI hpe (aI hbe hbe1)))
    iterate 2 refine SF ?_
    refine HS rfl rfl fun K' hK' => T6 ?_
    refine C1 (aS9 l[k] (by omega)) ?_
    rintro u rfl
    refine AX (hK' _ _ ?_)
    clear hK' K'
    iterate 2 refine SF ?_
    refine T2 (hK _ _ _ ?_)
    clear hK K
    refine aL (by kernel_rfl) ?_
    refine TQ (lO k) ?_
    have hk0 : k ≠ 0 := by simp at hb; omega
    refine ⟨⟨k + 1, hlk⟩, aN (by omega) ?_ ?_, ?_⟩
    ·
     rw [htk, if_neg hk0]
     simp [bB, upd_at, fin_at, HV.men]
     omega
    ·
     rw [htk, if_neg hk0]
     simp only [List.map_append, ← List.append_assoc]
     exact ⟨rfl, by omega, trivial, trivial⟩
    show l.length - (k + 1) < l.length - k
    omega
   refine aJ ?_
   refine T0 (hK _ _ _ ?_)
   clear hK K
   refine Rg ?_
   have F := aI @List.length_append.{0} (aI @List.length_map.{0,0} (aI hpe (aI hbe hbe1)))
   iterate 2 refine SF ?_
   refine HS rfl rfl fun K' hK' => T6 ?_
   refine C1 (aS9 l[k] (by omega)) ?_
   rintro u rfl
   refine AX (hK' _ _ ?_)
   clear hK' K'
   iterate 2 refine SF ?_
   refine T2 (hK _ _ _ ?_)
   clear hK K
   refine aL (by kernel_rfl) ?_
   refine TQ (lO k) ?_
   have hk0 : k = 0 := by simp at hb; omega
   refine ⟨⟨k + 1, hlk⟩, aN (by omega) ?_ ?_, ?_⟩
   ·
    rw [htk, if_pos hk0]
    simp [bB, upd_at, fin_at, HV.men]
    omega
   ·
    rw [htk, if_pos hk0, List.nil_append]
    simp only [List.map_append, ← List.append_assoc]
    exact ⟨rfl, by omega, trivial, trivial⟩
   show l.length - (k + 1) < l.length - k
   omega
  have hek : k = l.length := by simp at hb; omega
  subst hek
  clear hb
  rw [List.take_length] at *
  refine bD (T3 ?_)
  clear hK K
  refine AX (hK _ _ _ ?_)
  clear hK K
  refine Rg ?_
  have F := aI @List.length_append.{0} @List.length_map.{0,0}
  iterate 4 refine SF ?_
  refine T2 (hK _ _ _ ?_)
  clear hK K
  refine aL (by kernel_rfl) ?_
  refine TQ (lO i) ?_
  refine ⟨⟨i + 1, hlt⟩, aN (by omega) ?_ ?_, ?_⟩
  ·
   rw [hdt1, aF4]
   simp [bB, upd_at, fin_at, HV.men]
   omega
  ·
   rw [hdt1, aF4]
   simp only [List.map_append, ← List.append_assoc]
   exact ⟨rfl, by omega, trivial, trivial⟩
  show ls.length - (i + 1) < ls.length - i
  omega
 refine bD (T3 ?_)
 clear hK K
 refine AX (hK _ _ _ ?_)
 clear hK K
 refine R0 ?_
 refine aF (RT Tryd.results21 ?_)
 have hei : i = ls.length := by simp at hb; omega
 subst hei
 refine bF [216] (.slc ((gK ls).map dY)) (.int .i64 0) ?_ ⟨by rw [hO], by rw [hE]⟩
 rw [List.take_length]
 simp [HV.close, fob_at, upd_at, HV.norm, HV.toC, HV.closeL, HV.toCL, List.take_of_length_le, CV.denil, dS]

end Go.Proofs.YtlldglbooaefhaaDoor

namespace Go.Proofs.YtlldglbooaefhaaDoor
open Go Go.Hl Go.Pl
set_option maxRecDepth 10000
set_option maxHeartbeats 16000000

theorem bQ2 (v : CV) : nth [v] 0 = v := rfl
theorem vJ (c : UInt8) : (u8 c).denil = u8 c := rfl
theorem denilL_u8 : ∀ bs : List UInt8, CV.denilL (bs.map u8) = bs.map u8
 | [] => rfl
 | b :: bs => by simp only [List.map_cons, CV.denilL, denilL_u8 bs]; rfl
theorem bQ3 (l : List UInt8) (c : UInt8) : cH Tryd.prog 88 [.slc (l.map u8), u8 c] (fun v => v = .int .i64 (dD l c)) :=
 bY1 (f := 88) (fn := Tryd.f88) Tryd.func88 (by kernel_rfl) (by kernel_rfl) (by kernel_rfl) (by kernel_rfl) l c
theorem bG3 (l : List UInt8) (c : UInt8) : cH Tryd.prog 91 [.str l, u8 c] (fun v => v = .int .i64 (dD l c)) :=
 bP5 (f := 91) (fn := Tryd.f91) Tryd.func91 (by kernel_rfl) (by kernel_rfl) (by kernel_rfl) (by kernel_rfl) l c

theorem bY6 (l : List UInt8) (c : UInt8) : cH Tryd.prog 69 [.slc (l.map u8), u8 c] (fun v => v = .int .i64 (dD l c)) := by
 refine FW Tryd.func69 ?_
 have F := rI
 refine RF ?_
 refine aC fun K hK => Rg ?_
 have F := aI rI (aI @denilL_u8 @vJ)
 iterate 2 refine SF ?_
 refine HS rfl rfl fun K' hK' => T6 ?_
 refine C2 (bQ3 l c) ?_
 rintro u rfl
 refine AX (hK' _ _ ?_)
 clear hK' K'
 refine SF ?_
 simp only [sE, ↓reduceIte, simprocAttr, rI]
 refine AX (hK _ _ _ ?_)
 clear hK K
 refine aF ?_
 simp only [fX, Tryd.results69, fC, fW, eQ, ↓sP, sA, tyS, simprocAttr, rI]
 exact aM [] (.int .i64 (dD l c)) rfl rfl


theorem bG4 (l : List UInt8) (c : UInt8) : cH Tryd.prog 75 [.str l, u8 c] (fun v => v = .int .i64 (dD l c)) := by
 refine FW Tryd.func75 ?_
 have F := rI
 refine RF ?_
 refine aC fun K hK => Rg ?_
 have F := aI rI (aI @denilL_u8 @vJ)
 iterate 2 refine SF ?_
 refine HS rfl rfl fun K' hK' => T6 ?_
 refine C2 (bG3 l c) ?_
 rintro u rfl
 refine AX (hK' _ _ ?_)
 clear hK' K'
 refine SF ?_
 simp only [sE, ↓reduceIte, simprocAttr, rI]
 refine AX (hK _ _ _ ?_)
 clear hK K
 refine aF ?_
 simp only [fX, Tryd.results75, fC, fW, eQ, ↓sP, sA, tyS, simprocAttr, rI]
 exact aM [] (.int .i64 (dD l c)) rfl rfl


theorem pY (l : List UInt8) (c : UInt8) : cH Tryd.prog 58 [.str l, u8 c] (fun v => v = .int .i64 (dD l c)) := by
 refine FW Tryd.func58 ?_
 have F := rI
 refine RF ?_
 refine aC fun K hK => Rg ?_
 have F := aI rI (aI @denilL_u8 @vJ)
 iterate 2 refine SF ?_
 refine HS rfl rfl fun K' hK' => T6 ?_
 refine C2 (bG4 l c) ?_
 rintro u rfl
 refine AX (hK' _ _ ?_)
 clear hK' K'
 refine SF ?_
 simp only [sE, ↓reduceIte, simprocAttr, rI]
 refine AX (hK _ _ _ ?_)
 clear hK K
 refine aF ?_
 simp only [fX, Tryd.results58, fC, fW, eQ, ↓sP, sA, tyS, simprocAttr, rI]
 exact aM [] (.int .i64 (dD l c)) rfl rfl


theorem yA (l : List UInt8) (c : UInt8) : cH Tryd.prog 56 [.slc (l.map u8), .slc [u8 c]] (fun v => v = .int .i64 (dD l c)) := by
 refine FW Tryd.func56 ?_
 have F := rI
 refine RF ?_
 refine RF ?_
 refine aC fun K hK => ?_
 refine aK ?_
 refine RF ?_
 refine aG (b := (1 : Int) == 0) rfl (fun hb => ?_) (fun hb => ?_)
 ·
  exact absurd hb (by decide)
 refine RF ?_
 refine aG (b := (1 : Int) == 1) rfl (fun hb => ?_) (fun hb => ?_)
 ·
  refine aC fun K hK => Rg ?_
  have F := aI rI (aI @u8.eq_1 (aI @bQ2 @denilL_u8))
  iterate 4 refine SF ?_
  refine HS rfl rfl fun K' hK' => T6 ?_
  refine C2 (bY6 l c) ?_
  rintro u rfl
  refine AX (hK' _ _ ?_)
  clear hK' K'
  refine SF ?_
  simp only [sE, ↓reduceIte, simprocAttr, rI]
  refine AX (hK _ _ _ ?_)
  clear hK K
  refine aF ?_
  simp only [fX, Tryd.results56, fC, fW, eQ, ↓sP, sA, tyS, simprocAttr, rI]
  exact aM [] (.int .i64 (dD l c)) rfl rfl
 exact absurd hb (by decide)


theorem bQ4 (l : List UInt8) (c : UInt8) (hl : l.length < 2 ^ 40) : aA1 Tryd.prog 41 [.slc (l.map u8), .slc [u8 c]] (fun x y f => ∃ (li re : List UInt8) (fd : Bool), x = .slc (li.map u8) ∧ y = .slc (re.map u8) ∧ f = .bool fd ∧ CutR l c li re fd) := by
 refine FW Tryd.func41 ?_
 have F := rI
 refine RF ?_
 refine aC fun K hK => ?_
 refine aC fun K hK => Rg ?_
 have F := aI rI @denilL_u8
 iterate 2 refine SF ?_
 refine HS rfl rfl fun K' hK' => T6 ?_
 refine C2 (yA l c) ?_
 rintro u rfl
 refine AX (hK' _ _ ?_)
 clear hK' K'
 refine SF ?_
 simp only [sE, ↓reduceIte, simprocAttr, rI]
 refine AX (hK _ _ _ ?_)
 clear hK K
 have F := rI
 refine RF ?_
 refine aG (b := decide ((0 : Int) ≤ dD l c)) rfl (fun hb => ?_) (fun hb => ?_)
 ·
  have hn : ¬ dD l c < 0 := by simp at hb; omega
  obtain ⟨i, hi, hil, hsp⟩ := dT hn
  have hi' := hi
  rw [hi]
  refine aC fun K hK => QR ?_
  have F := aI rI (aI @Int.natCast_nonneg (aI @Int.ofNat_le (aI @Int.sub_zero (aI @Nat.sub_zero (aI @List.drop_zero.{0} (aI @mH (aI @denilL_u8 (aI @List.length_map.{0,0} (show IntKind.i64.wrap ((i : Int) + 1) = ((i + 1 : Nat) : Int) from by rw [IntWalk.i64_in _ (by omega)]; rfl)))))))))
  iterate 12 refine SF ?_
  simp only [sE, ↓reduceIte, simprocAttr, rI]
  refine AX (hK _ _ _ ?_)
  clear hK K
  refine aF ?_
  simp only [fX, Tryd.results41, fC, fW, eQ, ↓sP, sA, tyS, simprocAttr, rI]
  refine iZ [] (.slc ((l.take i).map u8)) (.slc ((l.drop (i + 1)).map u8)) (.bool true) ?_ ⟨_, _, _, rfl, rfl, rfl, .inr ⟨rfl, i, hi, hil, rfl, rfl⟩⟩
  simp [HV.close, HV.closeL, HV.norm, HV.toC, HV.toCL, CV.denil, denilL_u8]
  exact ⟨by rw [← List.map_take, denilL_u8], by rw [← List.map_drop, ← List.map_take, denilL_u8, List.take_of_length_le (by simp)]⟩
 have hn : dD l c < 0 := by simp at hb; omega
 refine aJ ?_
 refine TQ rI ?_
 refine AX (hK _ _ _ ?_)
 clear hK K
 refine aC fun K hK => Rg ?_
 iterate 4 refine SF ?_
 simp only [sE, ↓reduceIte, simprocAttr, rI]
 refine AX (hK _ _ _ ?_)
 clear hK K
 refine aF ?_
 simp only [fX, Tryd.results41, fC, fW, eQ, ↓sP, sA, tyS, simprocAttr, rI]
 refine iZ [] (.slc (l.map u8)) (.slc []) (.bool false) ?_ ⟨l, [], false, rfl, rfl, rfl, .inl ⟨rfl, hn, rfl, rfl⟩⟩
 simp [HV.close, HV.closeL, HV.norm, HV.toC, HV.toCL, CV.denil, denilL_u8]


theorem bQ5 (l : List UInt8) (c : UInt8) : aS6 Tryd.prog 57 73 [.slc (l.map u8), .slc [u8 c], .int .i64 0] [(29, .slc [u8 c]), (29, .slc (l.map u8)), (3, .int .i64 0)] := by
 refine FW Tryd.func57 ?_
 refine aC fun K hK => Rg ?_
 have F := rI
 iterate 4 refine SF ?_
 simp only [sE, ↓reduceIte, simprocAttr, rI]
 refine AX (hK _ _ _ ?_)
 clear hK K
 refine RF ?_
 refine aF ?_
 simp only [fX, Tryd.results57, fC, fW, eQ, ↓sP, sA, tyS, simprocAttr, rI]
 refine rF (gf := 73) (bs := [(29, .slc [u8 c]), (29, .slc (l.map u8)), (3, .int .i64 0)]) (ids := [4, 0, 8]) rfl (by simp) (by decide) ?_ ?_
 ·
  intro j x hx
  match j, hx with
  | 0, hx => cases hx; rfl
  | 1, hx => cases hx; rfl
  | 2, hx => cases hx; rfl
 intro x hx
 simp only [List.mem_cons, List.not_mem_nil, or_false] at hx
 rcases hx with rfl | rfl | rfl
 ·
  rfl
 ·
  exact congrArg CV.slc (denilL_u8 l)
 rfl


theorem aY3 (l : List UInt8) (c : UInt8) : aS6 Tryd.prog 42 73 [.slc (l.map u8), .slc [u8 c]] [(29, .slc [u8 c]), (29, .slc (l.map u8)), (3, .int .i64 0)] := by
 refine FW Tryd.func42 ?_
 have F := rI
 refine RF ?_
 refine aC fun K hK => Rg ?_
 iterate 2 refine S0 ?_ (e := fun _ h_ => by simp only [sH, ↓sP, sA, tyS, simprocAttr, rI, denilL_u8, lN, gA, List.range', List.map_cons, List.map_nil]; exact AX h_)
 refine HS rfl rfl fun K' hK' => ?_
 simp only [sH, ↓sP, sA, tyS, simprocAttr, rI, denilL_u8, lN, gA, List.range', List.map_cons, List.map_nil]
 refine rE (args := [_, _, _]) (bQ5 l c) (by simp) ⟨rfl, rfl, rfl, rfl⟩ ?_
 refine AX (hK' _ _ ?_)
 clear hK' K'
 refine S0 ?_ (e := fun _ h_ => by simp only [sH, ↓sP, sA, tyS, simprocAttr, rI, denilL_u8, lN, gA, List.range', List.map_cons, List.map_nil]; exact AX h_)
 simp only [sE, ↓reduceIte, simprocAttr, rI]
 refine AX (hK _ _ _ ?_)
 clear hK K
 refine aF ?_
 simp only [fX, Tryd.results42, fC, fW, eQ, ↓sP, sA, tyS, simprocAttr, rI]
 refine rF (gf := 73) (bs := [(29, .slc [u8 c]), (29, .slc (l.map u8)), (3, .int .i64 0)]) (ids := [12, 13, 14]) rfl (by simp) (by decide) ?_ ?_
 ·
  intro j x hx
  match j, hx with
  | 0, hx => cases hx; rfl
  | 1, hx => cases hx; rfl
  | 2, hx => cases hx; rfl
 intro x hx
 simp only [List.mem_cons, List.not_mem_nil, or_false] at hx
 rcases hx with rfl | rfl | rfl
 ·
  rfl
 ·
  exact congrArg CV.slc (denilL_u8 l)
 rfl

end Go.Proofs.YtlldglbooaefhaaDoor
