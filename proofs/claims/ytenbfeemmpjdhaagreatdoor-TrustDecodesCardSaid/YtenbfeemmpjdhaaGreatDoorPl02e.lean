/- Encoded words and documents (2.1, 2.2), in plain Lean. By an AI agent. -/
import Derived.Test.YtenbfeemmpjdhaaGreatDoorHySb
import Derived.Test.YtenbfeemmpjdhaaGreatDoorPl18e
import Derived.Test.YtenbfeemmpjdhaaGreatDoorHlIt
import Derived.Test.YtenbfeemmpjdhaaGreatDoorPl11h
import Derived.Test.YtenbfeemmpjdhaaGreatDoorHlK
set_option linter.unusedSimpArgs false
set_option linter.unusedVariables false
set_option linter.defProp false
namespace Go.Proofs.YtenbfeemmpjdhaaGreatDoor
open Go Go.Hl Go.Pl
def rI := (And.intro (And.intro (And.intro @rpost_exit (And.intro @rpost_normal @rpost_ret)) (And.intro @hscope_exit (And.intro @hscope_normal @hscope_ret))) (And.intro (And.intro @ithen_normal (And.intro @ithen_exit @ithen_ret)) (And.intro @iblk_normal (And.intro @iblk_exit @iblk_ret))))
section
variable {n k nx i : Nat} {ops : Array Oper} {o : Oper} {g : Option (Nat × Bool)} {fr fr' : Fr} {ob ob' : Ob}
theorem T0 {a b : Prop} (h : b) (e : b → a := by intro h; simp only [↓sP, sA, tyS, simprocAttr]; (repeat refine AI ?_); exact h) : a := e h
theorem T2 {a b : Prop} (h : b) (e : b → a := by intro h; simp only [sE, ↓reduceIte, simprocAttr]; (repeat refine AI ?_); exact h) : a := e h
theorem AX {a b : Prop} (h : b) (e : b → a := by intro h; (repeat refine AI ?_); exact h) : a := e h
theorem fF {l : List (Nat × HV)} {h : List (Nat × HO)} {nx2 : Nat} (hk : k ≤ nx2 := by omega) (h1 : aY nx2 fr l := by simp [aY, fin_at, finA_at, upd_at, HV.men, HV.menL, HV.norm, HV.toC, HV.toCL])
    (h2 : bC nx2 ob h := by simp [bC, fob_at, upd_at, none0_at, bT, HO.men, HV.men, HV.menL, HV.norm, HV.toC, HV.toCL]) : Fits k fr ob (fin l) (fob h) nx2 := aQ hk h1 h2
theorem Rg {id : Nat} {b : Prop} {Q : dI} (h : b) (hd : iQ n ops = true := by kernel_rfl)
    (e : b → hlex Tryz.prog ops nx (fun fr' ob' => Q .normal fr' ob' (nx + 4 * ops.size)) (List.range ops.size) fr ob := by intro h; simp only [sR, simprocAttr]; exact h) : Hw Tryz.prog n k (.region id ops false) Q fr ob nx := aL hd (e h)
theorem bK (i : Nat) (h : (i : Int) < 9223372036854775807 := by omega) : IntKind.i64.wrap ((i : Int) + 1) = (i : Int) + 1 := IntWalk.i64_in _ ⟨by omega, by omega⟩
theorem R0 {id nx' : Nat} {c2 : Code} {Q : dI} (h : Hw Tryz.prog n k c2 Q fr' ob' nx') (hd : iQ n ops = true := by kernel_rfl)
    (e : ∀ K : Fr → Ob → Nat → Prop, K fr' ob' nx' → hlex Tryz.prog ops nx (fun fr' ob' => hthen K Q .normal fr' ob' (nx + 4 * ops.size)) (List.range ops.size) fr ob := by intro K h; simp only [↓sP, sA, tyS, simprocAttr]; (repeat refine AI ?_); exact h) :
    Hw Tryz.prog n k (.seq (.region id ops false) c2) Q fr ob nx := aB fun K hK => aL hd (e K (hK _ _ _ h))
section
variable {Q : Fr → Ob → Prop}
theorem S0 {l : List Nat} (h : hlex Tryz.prog ops nx Q l fr' ob') (ho : ops[i]? = some o := by exact rfl) (hg : gd ops o = some g := by exact rfl)
    (e : ∀ K : Fr → Ob → Prop, K fr' ob' → hop1 Tryz.prog (nx + 4 * i) [] g o.op o.dst K fr ob := by intro K h; simp only [sH, ↓sP, sA, tyS, simprocAttr]; (repeat refine AI ?_); exact h) : hlex Tryz.prog ops nx Q (i :: l) fr ob :=
  bA ho hg fun K hK => e K (hK _ _ h)
theorem SG0 {l : List Nat} (h : hlexG Tryz.prog ops nx Q l fr' ob') (ho : ops[i]? = some o := by exact rfl) (hg : gd ops o = some g := by exact rfl)
    (e : ∀ K : Fr → Ob → Prop, K fr' ob' → hop1 Tryz.prog (nx + 4 * i) [] g o.op o.dst K fr ob := by intro K h; simp only [sH, ↓sP, sA, tyS, simprocAttr]; (repeat refine AI ?_); exact h) : hlexG Tryz.prog ops nx Q (i :: l) fr ob :=
  eN ho hg fun K hK => e K (hK _ _ h)
variable {cr rd : List Nat} {l : nW} {C : iU}
theorem W0 (h : hwalk2 Tryz.prog ops nx Q l (if isEff o.op = true then C else (i, if hgd g fr = some true then touch o.op (ev fr) else []) :: C) fr' ob') (ho : ops[i]? = some o := by exact rfl) (hg : gd ops o = some g := by exact rfl)
    (e : ∀ K : Fr → Ob → Prop, K fr' ob' → hop1 Tryz.prog (nx + 4 * i) (cr.flatMap (ids4 nx) ++ rd.flatMap (getF C)) g o.op o.dst K fr ob := by intro K h; simp only [sH, ↓sP, sA, tyS, simprocAttr]; (repeat refine AI ?_); exact h) : hwalk2 Tryz.prog ops nx Q ((i, cr, rd) :: l) C fr ob :=
  aO ho hg fun K hK => e K (hK _ _ h)
end
theorem nM {α : Type} {l : List α} {i : Nat} (h : i < l.length) (f : α → CV) : nth (l.map f) i = f l[i] := aN h
theorem aI {a b : Prop} (x : a) (y : b) : a ∧ b := ⟨x, y⟩
theorem TQ {a b q : Prop} (r : q) (h : b) (e : q → b → a := by intro r h; simp only [↓sP, sA, tyS, simprocAttr, r]; exact h) : a := e r h
theorem T6 {a b : Prop} (h : b) (e : b → a := by intro h; simp only [sH, ↓sP, sA, tyS, simprocAttr, F]; exact h) : a := e h
section
variable {Q : Fr → Ob → Prop}
theorem SF {l : List Nat} (h : hlex Tryz.prog ops nx Q l fr' ob') (ho : ops[i]? = some o := by exact rfl) (hg : gd ops o = some g := by exact rfl)
    (e : ∀ K : Fr → Ob → Prop, K fr' ob' → hop1 Tryz.prog (nx + 4 * i) [] g o.op o.dst K fr ob := by intro K h; simp only [sH, ↓sP, sA, tyS, simprocAttr, F]; (repeat refine AI ?_); exact h) : hlex Tryz.prog ops nx Q (i :: l) fr ob :=
  bA ho hg fun K hK => e K (hK _ _ h)
variable {cr rd : List Nat} {l : nW} {C : iU}
theorem WF (h : hwalk2 Tryz.prog ops nx Q l (if isEff o.op = true then C else (i, if hgd g fr = some true then touch o.op (ev fr) else []) :: C) fr' ob') (ho : ops[i]? = some o := by exact rfl) (hg : gd ops o = some g := by exact rfl)
    (e : ∀ K : Fr → Ob → Prop, K fr' ob' → hop1 Tryz.prog (nx + 4 * i) (cr.flatMap (ids4 nx) ++ rd.flatMap (getF C)) g o.op o.dst K fr ob := by intro K h; simp only [sH, ↓sP, sA, tyS, simprocAttr, F]; (repeat refine AI ?_); exact h) : hwalk2 Tryz.prog ops nx Q ((i, cr, rd) :: l) C fr ob :=
  aO ho hg fun K hK => e K (hK _ _ h)
theorem WGF (h : hwalk2G Tryz.prog ops nx Q l (if isEff o.op = true then C else (i, if hgd g fr = some true then touch o.op (ev fr) else []) :: C) fr' ob') (ho : ops[i]? = some o := by exact rfl) (hg : gd ops o = some g := by exact rfl)
    (e : ∀ K : Fr → Ob → Prop, K fr' ob' → hop1 Tryz.prog (nx + 4 * i) (cr.flatMap (ids4 nx) ++ rd.flatMap (getF C)) g o.op o.dst K fr ob := by intro K h; simp only [sH, ↓sP, sA, tyS, simprocAttr, F]; (repeat refine AI ?_); exact h) : hwalk2G Tryz.prog ops nx Q ((i, cr, rd) :: l) C fr ob :=
  oZ ho hg fun K hK => e K (hK _ _ h)
end
section
variable {Q : Fr → Ob → Prop}
theorem SGF {l : List Nat} (h : hlexG Tryz.prog ops nx Q l fr' ob') (ho : ops[i]? = some o := by exact rfl) (hg : gd ops o = some g := by exact rfl)
    (e : ∀ K : Fr → Ob → Prop, K fr' ob' → hop1 Tryz.prog (nx + 4 * i) [] g o.op o.dst K fr ob := by intro K h; simp only [sH, ↓sP, sA, tyS, simprocAttr, F]; (repeat refine AI ?_); exact h) : hlexG Tryz.prog ops nx Q (i :: l) fr ob :=
  eN ho hg fun K hK => e K (hK _ _ h)
end
theorem RF {id nx' : Nat} {c2 : Code} {Q : dI} (h : Hw Tryz.prog n k c2 Q fr' ob' nx') (hd : iQ n ops = true := by kernel_rfl)
    (e : ∀ K : Fr → Ob → Nat → Prop, K fr' ob' nx' → hlex Tryz.prog ops nx (fun fr' ob' => hthen K Q .normal fr' ob' (nx + 4 * ops.size)) (List.range ops.size) fr ob := by intro K h; simp only [↓sP, sA, tyS, simprocAttr, F]; (repeat refine AI ?_); exact h) :
    Hw Tryz.prog n k (.seq (.region id ops false) c2) Q fr ob nx := aB fun K hK => aL hd (e K (hK _ _ _ h))
theorem RT {a b : Prop} {x y : Array ResultVar} (r : x = y) (h : b) (e : x = y → b → a := by intro r h; simp only [cH, r, cD, cG, cA, ↓sP, sA, tyS, simprocAttr]; exact h) : a := e r h
theorem T3 {a b : Prop} (h : b) (e : b → a := by intro h; simp only [↓sP, sA, tyS, simprocAttr]; exact h) : a := e h
theorem T4 {a b : Prop} (h : b) (e : b → a := by intro h; simp only [sE, ↓reduceIte, simprocAttr]; exact h) : a := e h
theorem T5 {a b : Prop} (h : b) (e : b → a := by intro h; simp only [sH, ↓sP, sA, tyS, simprocAttr]; exact h) : a := e h
theorem CT {x y : Code} {o : Operand} {Q : dI} (hb : ev fr o = .c (.bool true)) (h : Hw Tryz.prog n k x Q fr ob nx) : Hw Tryz.prog n k (.cond o x y) Q fr ob nx := aJ hb (fun _ => h) (fun hb => by cases hb)
theorem CF {x y : Code} {o : Operand} {Q : dI} (hb : ev fr o = .c (.bool false)) (h : Hw Tryz.prog n k y Q fr ob nx) : Hw Tryz.prog n k (.cond o x y) Q fr ob nx := aJ hb (fun hb => by cases hb) (fun _ => h)
theorem FW {P : Program} {f : FuncId} {fn : Func} {code : Code} {args : List HV} {R : HV → Ob → Prop} (hf : P.funcs[f]? = some fn) (h : Hw P fn.ntmps k code (cH P fn.results.toList k R) (oU 0 args) ob k) (hb : fn.body = some code := by exact rfl)
    (hok : dM P f = true := by kernel_rfl) (hloc : LocOk k args ob := by exact cS _) (hn : args.length ≤ fn.ntmps := by exact Nat.le_of_ble_eq_true rfl) : HFn P f args k ob R := bH hf hb hok hloc hn h
theorem QW {id : Nat} {Q : dI} (h : hlex Tryz.prog ops nx (fun fr' ob' => Q .normal fr' ob' (nx + 4 * ops.size)) (List.range ops.size) fr ob) (hd : iQ n ops = true := by kernel_rfl) (hp : iD ops (List.range ops.size) (Array.replicate ops.size false) = true := by kernel_rfl)
    (hq : ops.all (fun o => bI o.op) = true := by kernel_rfl) : Hw Tryz.prog n k (.region id ops true) Q fr ob nx := oT mixed hd hp hq h
theorem QR {id : Nat} {b : Prop} {Q : dI} (h : b) (hd : iQ n ops = true := by kernel_rfl) (hp : iD ops (List.range ops.size) (Array.replicate ops.size false) = true := by kernel_rfl) (hq : ops.all (fun o => bI o.op) = true := by kernel_rfl)
    (e : b → hlex Tryz.prog ops nx (fun fr' ob' => Q .normal fr' ob' (nx + 4 * ops.size)) (List.range ops.size) fr ob := by intro h; simp only [sR, simprocAttr]; exact h) : Hw Tryz.prog n k (.region id ops true) Q fr ob nx := oT mixed hd hp hq (e h)
theorem DW {id : Nat} {Q : dI} (plan : nW) (ms : List Nat) (h : hwalk2 Tryz.prog ops nx (fun fr' ob' => Q .normal fr' ob' (nx + 4 * ops.size)) plan [] fr ob) (hd : iQ n ops = true := by kernel_rfl) (hp : iD ops (plan.map (·.1)) (Array.replicate ops.size false) = true := by kernel_rfl)
    (hw1 : aG3 ops ms = true := by kernel_rfl) (hw2 : ms.all (fun m => decide (m < 2 ^ ms.length)) = true := by kernel_rfl) (hl : plan.length = ops.size := by exact rfl) (hc : chk ops (aB1 ms) plan [] = true := by kernel_rfl) : Hw Tryz.prog n k (.region id ops true) Q fr ob nx :=
  bF0 mixed plan ms hd hp hw1 hw2 hl hc h
theorem HS {l : List Nat} {Q : Fr → Ob → Prop} (ho : ops[i]? = some o) (hg : gd ops o = some none) (h : ∀ K : Fr → Ob → Prop, (∀ fr ob, hlex Tryz.prog ops nx Q l fr ob → K fr ob) → hop1 Tryz.prog (nx + 4 * i) [] none o.op o.dst K fr ob) : hlex Tryz.prog ops nx Q (i :: l) fr ob := bA ho hg h
section
variable {P : Program} {av : List Nat} {f : FuncId} {nid : Nat} {K : HV → Ob → Prop} {a b c d : CV} {R : CV → Prop} {R2 : CV → CV → Prop}
theorem C0 (h : aW P f [] R) (hK : ∀ v, R v → K (.c v) ob) (hf : ob nid = none ∧ ob (nid + 1) = none ∧ ob (nid + 2) = none ∧ ob (nid + 3) = none := by exact ⟨rfl, rfl, rfl, rfl⟩) : HCall P av f [] ob nid K := fM (args := []) h hf hK
theorem C1 (h : aW P f [a] R) (hK : ∀ v, R v → K (.c v) ob) (hf : ob nid = none ∧ ob (nid + 1) = none ∧ ob (nid + 2) = none ∧ ob (nid + 3) = none := by exact ⟨rfl, rfl, rfl, rfl⟩) : HCall P av f [.c a] ob nid K := fM (args := [a]) h hf hK
theorem C2 (h : aW P f [a, b] R) (hK : ∀ v, R v → K (.c v) ob) (hf : ob nid = none ∧ ob (nid + 1) = none ∧ ob (nid + 2) = none ∧ ob (nid + 3) = none := by exact ⟨rfl, rfl, rfl, rfl⟩) : HCall P av f [.c a, .c b] ob nid K := fM (args := [a, b]) h hf hK
theorem C3 (h : aW P f [a, b, c] R) (hK : ∀ v, R v → K (.c v) ob) (hf : ob nid = none ∧ ob (nid + 1) = none ∧ ob (nid + 2) = none ∧ ob (nid + 3) = none := by exact ⟨rfl, rfl, rfl, rfl⟩) : HCall P av f [.c a, .c b, .c c] ob nid K := fM (args := [a, b, c]) h hf hK
theorem C4 (h : aW P f [a, b, c, d] R) (hK : ∀ v, R v → K (.c v) ob) (hf : ob nid = none ∧ ob (nid + 1) = none ∧ ob (nid + 2) = none ∧ ob (nid + 3) = none := by exact ⟨rfl, rfl, rfl, rfl⟩) : HCall P av f [.c a, .c b, .c c, .c d] ob nid K := fM (args := [a, b, c, d]) h hf hK
theorem D1 (h : dF P f [a] R2) (hK : ∀ u v, R2 u v → K (.tup [.c u, .c v]) ob) (hf : Free4 ob nid := by exact ⟨rfl, rfl, rfl, rfl⟩) : HCall P av f [.c a] ob nid K := uN (args := [a]) h hf hK
theorem D2 (h : dF P f [a, b] R2) (hK : ∀ u v, R2 u v → K (.tup [.c u, .c v]) ob) (hf : Free4 ob nid := by exact ⟨rfl, rfl, rfl, rfl⟩) : HCall P av f [.c a, .c b] ob nid K := uN (args := [a, b]) h hf hK
end
end
end Go.Proofs.YtenbfeemmpjdhaaGreatDoor

namespace Go.Proofs.YtenbfeemmpjdhaaGreatDoor
open Go Go.Hl Go.Pl
set_option maxRecDepth 10000

theorem bJ4 (l : List (List UInt8)) (w : List UInt8) (hl : l.length < 2 ^ 62) : aW Tryz.prog 88 [.slc (l.map .str), .str w] (fun v => v = .bool (l.contains w)) := by
 refine FW Tryz.func88 ?_
 refine R0 ?_
 refine aB fun K hK => ?_
 refine R0 ?_
 refine aH ?_
 refine aU (α := {i : Nat // i ≤ l.length ∧ w ∉ l.take i}) (fun i => (fin [(0, .c (.slc (l.map .str))), (1, .c (.str w)), (5, .c (.int .i64 i.1))], fob [])) 0 (fun i => l.length - i.1) ⟨0, by omega, by simp⟩ (fF) ?_
 rintro ⟨i, hi, hni⟩
 refine aB fun K hK => ?_
 refine R0 ?_
 refine aJ (b := decide ((i : Int) < l.length)) rfl (fun hb => ?_) (fun hb => ?_)
 ·
  have hlt : i < l.length := by simpa using hb
  refine aG ?_
  refine T0 (hK _ _ _ ?_)
  clear hK K
  refine aB fun K hK => aH ?_
  have F := aI @Int.natCast_nonneg (aI @Int.ofNat_lt (aI hlt (nM hlt)))
  refine RF ?_
  refine aJ (b := l[i] == w) rfl (fun hb => ?_) (fun hb => ?_)
  ·
   refine R0 ?_
   refine aD (RT Tryz.results88 ?_)
   refine aC [] (.bool true) rfl ?_
   have : l[i] ∈ l := List.getElem_mem _
   simp_all
  refine aG ?_
  refine T0 (hK _ _ _ ?_)
  clear hK K
  refine aL (by kernel_rfl) ?_
  refine TQ (bK i) ?_
  refine ⟨⟨i + 1, hlt, ?_⟩, fF, ?_⟩
  ·
   rw [List.take_succ_eq_append_getElem hlt]
   intro hm
   rcases List.mem_append.1 hm with hm | hm
   ·
    exact hni hm
   simp_all
  show l.length - (i + 1) < l.length - i
  omega
 refine aS (T3 ?_)
 clear hK K
 refine AX (hK _ _ _ ?_)
 clear hK K
 refine R0 ?_
 refine aD (RT Tryz.results88 ?_)
 refine aC [] (.bool false) rfl ?_
 have : i = l.length := by simp at hb; omega
 subst this
 simpa using hni

theorem aC5 (l : List aK) (hl : l.length < 2 ^ 62) : aW Tryz.prog 119 [.slc (l.map .str)] (fun v => v = .bool (oV l)) := by
 refine FW Tryz.func119 ?_
 refine R0 ?_
 refine aB fun K hK => ?_
 refine R0 ?_
 refine aH ?_
 refine aU (α := {i : Nat // 1 ≤ i ∧ (i ≤ l.length ∨ i = 1) ∧ ∀ j (h : j + 1 < i) (h' : j + 1 < l.length), slt l[j] l[j + 1] = true}) (fun i => (fin [(0, .c (.slc (l.map .str))), (3, .c (.int .i64 i.1))], fob [])) 0 (fun i => l.length - i.1) ⟨1, by omega, by simp, fun j h => by omega⟩ (fF) ?_
 rintro ⟨i, h1, hi, hni⟩
 refine aB fun K hK => ?_
 refine R0 ?_
 refine aJ (b := decide ((i : Int) < l.length)) rfl (fun hb => ?_) (fun hb => ?_)
 ·
  have hlt : i < l.length := by simpa using hb
  have e1 : IntKind.i64.wrap ((i : Int) - 1) = ((i - 1 : Nat) : Int) := by rw [IntWalk.i64_in _ (by omega)]; omega
  have hlt1 : i - 1 < l.length := by omega
  refine aG ?_
  refine T0 (hK _ _ _ ?_)
  clear hK K
  refine aB fun K hK => aH ?_
  refine aB fun K hK => QW ?_
  simp only [↓sP, sA, tyS, simprocAttr, Int.natCast_nonneg, Int.ofNat_lt, hlt, e1, hlt1, aN hlt, aN hlt1]
  refine AX (hK _ _ _ ?_)
  clear hK K
  refine aJ (b := !slt l[i - 1] l[i]) rfl (fun hb => ?_) (fun hb => ?_)
  ·
   refine R0 ?_
   refine aD (RT Tryz.results119 ?_)
   refine aC [] (.bool false) rfl ?_
   congr 1
   refine (Bool.not_eq_true _ ▸ fun h => ?_ : oV l = false).symm
   have := uA.1 h (i - 1) (by omega)
   simp only [show i - 1 + 1 = i by omega] at this
   simp [this] at hb
  refine aG ?_
  refine T0 (hK _ _ _ ?_)
  clear hK K
  refine aL (by kernel_rfl) ?_
  refine TQ (bK i) ?_
  refine ⟨⟨i + 1, by omega, by omega, fun j h h' => ?_⟩, fF, ?_⟩
  ·
   by_cases e : j + 1 = i
   ·
    subst e
    simpa using hb
   exact hni j (by omega) h'
  show l.length - (i + 1) < l.length - i
  omega
 refine aS (T3 ?_)
 clear hK K
 refine AX (hK _ _ _ ?_)
 clear hK K
 refine R0 ?_
 refine aD (RT Tryz.results119 ?_)
 refine aC [] (.bool true) rfl ?_
 have : l.length ≤ i := by simp at hb; omega
 exact congrArg _ (uA.2 fun j h => hni j (by omega) h).symm

theorem bR1 (l m : List aK) (hl : l.length < 2 ^ 62) : aW Tryz.prog 97 [.slc (l.map .str), .slc (m.map .str)] (fun v => v = .bool (l == m)) := by
 refine FW Tryz.func97 ?_
 refine R0 ?_
 refine aB fun K hK => ?_
 refine R0 ?_
 refine aJ (b := (l.length : Int) != m.length) rfl (fun hb => ?_) (fun hb => ?_)
 ·
  refine R0 ?_
  refine aD (RT Tryz.results97 ?_)
  refine aC [] (.bool false) rfl ?_
  congr 1
  have : ¬ l = m := by rintro rfl; simp at hb
  simp [this]
 have hlen : l.length = m.length := by simp at hb; omega
 refine aG ?_
 refine T0 (hK _ _ _ ?_)
 clear hK K
 refine aB fun K hK => ?_
 refine R0 ?_
 refine aH ?_
 refine aU (α := {i : Nat // i ≤ l.length ∧ l.take i = m.take i}) (fun i => (fin [(0, .c (.slc (l.map .str))), (1, .c (.slc (m.map .str))), (5, .c (.int .i64 i.1))], fob [])) 0 (fun i => l.length - i.1) ⟨0, by omega, by simp⟩ (fF) ?_
 rintro ⟨i, hi, hni⟩
 refine aB fun K hK => ?_
 refine R0 ?_
 refine aJ (b := decide ((i : Int) < l.length)) rfl (fun hb => ?_) (fun hb => ?_)
 ·
  have hlt : i < l.length := by simpa using hb
  have hlt1 : i < m.length := by omega
  refine aG ?_
  refine T0 (hK _ _ _ ?_)
  clear hK K
  refine aB fun K hK => aH ?_
  refine aB fun K hK => QW ?_
  simp only [↓sP, sA, tyS, simprocAttr, Int.natCast_nonneg, Int.ofNat_lt, hlt, hlt1, aN hlt, aN hlt1]
  refine AX (hK _ _ _ ?_)
  clear hK K
  refine aJ (b := !(l[i] == m[i])) rfl (fun hb => ?_) (fun hb => ?_)
  ·
   refine R0 ?_
   refine aD (RT Tryz.results97 ?_)
   refine aC [] (.bool false) rfl ?_
   congr 1
   have : ¬ l = m := by rintro rfl; simp at hb
   simp [this]
  refine aG ?_
  refine T0 (hK _ _ _ ?_)
  clear hK K
  refine aL (by kernel_rfl) ?_
  refine TQ (bK i) ?_
  refine ⟨⟨i + 1, by omega, ?_⟩, fF, ?_⟩
  ·
   rw [List.take_succ_eq_append_getElem hlt, List.take_succ_eq_append_getElem hlt1, hni]
   simp at hb
   rw [hb]
  show l.length - (i + 1) < l.length - i
  omega
 refine aS (T3 ?_)
 clear hK K
 refine AX (hK _ _ _ ?_)
 clear hK K
 refine R0 ?_
 refine aD (RT Tryz.results97 ?_)
 refine aC [] (.bool true) rfl ?_
 have : l.length ≤ i := by simp at hb; omega
 rw [List.take_of_length_le this, List.take_of_length_le (by omega)] at hni
 simp [hni]
end Go.Proofs.YtenbfeemmpjdhaaGreatDoor

namespace Go.Proofs.YtenbfeemmpjdhaaGreatDoor
open Go Go.Hl Go.Pl
set_option maxRecDepth 10000

theorem cA0 (l : List aK) (w : aK) (hl : l.length < 2 ^ 40) : aW Tryz.prog 89 [.slc (l.map .str), .str w] (fun v => v = .slc ((oW l w).map .str)) := by
 refine FW Tryz.func89 ?_
 refine R0 ?_
 refine aB fun K hK => ?_
 refine aB fun K hK => aL (by kernel_rfl) ?_
 simp only [↓sP, sA, tyS, simprocAttr]
 refine fM (bJ4 l w (by omega)) ⟨rfl, rfl, rfl, rfl⟩ ?_
 rintro v rfl
 refine AX (hK _ _ _ ?_)
 clear hK K
 refine aJ (b := l.contains w) rfl (fun hb => ?_) (fun hb => ?_)
 ·
  refine R0 ?_
  refine aD (RT Tryz.results89 ?_)
  refine aC [] (.slc (l.map .str)) ?_ ?_
  ·
   simp [HV.close, CV.denil, denilL_str]; rfl
  simp only [oW, hb, if_true]
 refine aG ?_
 refine T0 (hK _ _ _ ?_)
 clear hK K
 refine R0 ?_
 refine R0 ?_
 refine aB fun K hK => ?_
 refine aH ?_
 refine fE 5 0 9 1 rfl rfl rfl rfl ?_
 refine aU (α := {i : Nat // i ≤ l.length ∧ ∀ j (h : j < i) (h' : j < l.length), slt l[j] w = true}) (fun i => (fin [(0, .c (.slc (l.map .str))), (1, .c (.str w)), (5, .own 24 i.1), (6, .c (.int .i64 i.1))], fob [(24, .row 9 1 ((l.take i.1).map .str))])) 25 (fun i => l.length - i.1) ⟨0, by omega, fun j h => by omega⟩ (fF) ?_
 rintro ⟨i, hi, hni⟩
 have hti : (l.take i).length = i := by simp; omega
 refine aB fun K hK => ?_
 by_cases hlt : i < l.length
 ·
  refine aB fun K hK => Rg ?_
  have F := aI @Int.natCast_nonneg (aI @Int.ofNat_lt (aI hlt (nM hlt)))
  iterate 12 refine SF ?_
  refine T2 (hK _ _ _ ?_)
  clear hK K
  refine aJ (b := slt l[i] w) rfl (fun hb => ?_) (fun hb => ?_)
  ·
   refine aG ?_
   refine T0 (hK _ _ _ ?_)
   clear hK K
   refine aH ?_
   refine aB fun K hK => Rg ?_
   have F := aI @Int.natCast_nonneg (aI @Int.ofNat_lt (aI hlt (aI (nM hlt) (aI hti @List.length_append.{0}))))
   iterate 8 refine SF ?_
   refine T2 (hK _ _ _ ?_)
   clear hK K
   refine aL (by kernel_rfl) ?_
   refine TQ (bK i) ?_
   refine ⟨⟨i + 1, by omega, fun j h h' => ?_⟩, aQ (by omega) ?_ ?_, ?_⟩
   ·
    by_cases e : j = i
    ·
     subst e; exact hb
    exact hni j (by omega) h'
   ·
    simp [aY, upd_at, fin_at, HV.men]
   ·
    refine ⟨?_, by omega, trivial, trivial⟩
    simp only [List.take_succ_eq_append_getElem hlt, List.map_append]
    rfl
   show l.length - (i + 1) < l.length - i
   omega
  refine aS (T3 ?_)
  clear hK K
  refine AX (hK _ _ _ ?_)
  clear hK K
  refine aB fun K hK => DW [(0, [], []), (1, [], []), (2, [], []), (4, [2], []), (5, [2], []), (6, [2], []), (3, [], [4, 5, 6]), (7, [], []), (8, [], [])] [0, 0, 2, 7, 0, 0, 48, 127, 255] ?_
  iterate 9 refine W0 ?_ (e := fun _ h_ => by simp only [sH, ↓sP, sA, tyS, simprocAttr, hti, ← List.map_drop, ← List.map_take]; exact AX h_)
  refine T2 (hK _ _ _ ?_)
  clear hK K
  refine aD (RT Tryz.results89 ?_)
  refine aC [24] (.slc ((l.take i ++ w :: l.drop i).map .str)) ?_ ?_
  ·
   have : l.take (l.length - i) = l.take (l.length - i) := rfl
   simp [HV.close, upd_at, HV.norm, HV.toC, List.take_of_length_le]
  rw [aT1 (by assumption) hi hni (fun _ => hb)]
 refine aB fun K hK => Rg ?_
 have F := aI @Int.ofNat_lt hlt
 iterate 12 refine SF ?_
 refine T2 (hK _ _ _ ?_)
 clear hK K
 refine aJ (b := _) rfl (fun hb => ?_) (fun hb => ?_)
 ·
  cases hb
 refine aS (T3 ?_)
 clear hK K
 refine AX (hK _ _ _ ?_)
 clear hK K
 refine aB fun K hK => DW [(0, [], []), (1, [], []), (2, [], []), (4, [2], []), (5, [2], []), (6, [2], []), (3, [], [4, 5, 6]), (7, [], []), (8, [], [])] [0, 0, 2, 7, 0, 0, 48, 127, 255] ?_
 iterate 9 refine W0 ?_ (e := fun _ h_ => by simp only [sH, ↓sP, sA, tyS, simprocAttr, hti, ← List.map_drop, ← List.map_take]; exact AX h_)
 refine T2 (hK _ _ _ ?_)
 clear hK K
 refine aD (RT Tryz.results89 ?_)
 refine aC [24] (.slc ((l.take i ++ w :: l.drop i).map .str)) ?_ ?_
 ·
  simp [HV.close, upd_at, HV.norm, HV.toC, List.take_of_length_le]
 rw [aT1 (by assumption) hi hni (fun h => absurd h hlt)]

end Go.Proofs.YtenbfeemmpjdhaaGreatDoor

namespace Go.Proofs.YtenbfeemmpjdhaaGreatDoor
open Go Go.Hl Go.Pl
set_option maxRecDepth 10000
set_option maxHeartbeats 16000000
set_option linter.unusedSimpArgs false
set_option linter.unusedVariables false

theorem kC (lo n : Int) : aW Tryz.prog 31 [.int .i64 lo, .int .i64 n] (fun v => v = .bool (decide (lo ≤ n) && decide (n ≤ eD))) := by
  refine bH Tryz.func31 rfl (by kernel_rfl) (cS _) (Nat.le_of_ble_eq_true rfl) ?_
  refine R0 ?_
  refine aB fun K hK => Rg ?_
  iterate 4 refine S0 ?_
  refine aF 7 rfl (fun h1_7 => ?_) (fun h1_7 => ?_)
  · iterate 2 refine S0 ?_ (e := fun _ h_ => by simp only [sH, ↓sP, sA, tyS, simprocAttr, h1_7]; exact AX h_)
    have F := h1_7
    iterate 2 refine SF ?_
    refine T2 (hK _ _ _ ?_)
    clear hK K
    refine aD ?_
    simp only [cH, Tryz.results31, cD, cG, cA, ↓sP, sA, tyS, simprocAttr]
    refine aC [] (.bool _) rfl ?_
    simp [h1_7, eD]
    all_goals first | rfl | simp_all
  · iterate 2 refine S0 ?_ (e := fun _ h_ => by simp only [sH, ↓sP, sA, tyS, simprocAttr, h1_7]; exact AX h_)
    have F := h1_7
    iterate 2 refine SF ?_
    refine T2 (hK _ _ _ ?_)
    clear hK K
    refine aD ?_
    simp only [cH, Tryz.results31, cD, cG, cA, ↓sP, sA, tyS, simprocAttr]
    refine aC [] (.bool _) rfl ?_
    simp [h1_7, eD]
    all_goals first | rfl | simp_all


theorem vF (n : Int) : aW Tryz.prog 38 [.int .i64 n] (fun v => v = .bool (inN n)) := by
  refine bH Tryz.func38 rfl (by kernel_rfl) (cS _) (Nat.le_of_ble_eq_true rfl) ?_
  refine R0 ?_
  refine aB fun K hK => Rg ?_
  iterate 3 refine S0 ?_
  refine aF 4 rfl (fun h1_4 => ?_) (fun h1_4 => ?_)
  · iterate 2 refine S0 ?_ (e := fun _ h_ => by simp only [sH, ↓sP, sA, tyS, simprocAttr, h1_4]; exact AX h_)
    have F := h1_4
    iterate 2 refine SF ?_
    refine T2 (hK _ _ _ ?_)
    clear hK K
    refine aD ?_
    simp only [cH, Tryz.results38, cD, cG, cA, ↓sP, sA, tyS, simprocAttr]
    refine aC [] (.bool _) rfl ?_
    simp [h1_4, inN, eD]
    all_goals first | rfl | simp_all
  · iterate 2 refine S0 ?_ (e := fun _ h_ => by simp only [sH, ↓sP, sA, tyS, simprocAttr, h1_4]; exact AX h_)
    have F := h1_4
    iterate 2 refine SF ?_
    refine T2 (hK _ _ _ ?_)
    clear hK K
    refine aD ?_
    simp only [cH, Tryz.results38, cD, cG, cA, ↓sP, sA, tyS, simprocAttr]
    refine aC [] (.bool _) rfl ?_
    simp [h1_4, inN, eD]
    all_goals first | rfl | simp_all


theorem bA2 (n : Int) : aW Tryz.prog 113 [.int .i64 n] (fun v => v = .bool (decide (0 ≤ n) && decide (n ≤ 6))) := by
  refine bH Tryz.func113 rfl (by kernel_rfl) (cS _) (Nat.le_of_ble_eq_true rfl) ?_
  refine R0 ?_
  refine aB fun K hK => Rg ?_
  iterate 3 refine S0 ?_
  refine aF 4 rfl (fun h1_4 => ?_) (fun h1_4 => ?_)
  · iterate 2 refine S0 ?_ (e := fun _ h_ => by simp only [sH, ↓sP, sA, tyS, simprocAttr, h1_4]; exact AX h_)
    have F := h1_4
    iterate 2 refine SF ?_
    refine T2 (hK _ _ _ ?_)
    clear hK K
    refine aD ?_
    simp only [cH, Tryz.results113, cD, cG, cA, ↓sP, sA, tyS, simprocAttr]
    refine aC [] (.bool _) rfl ?_
    simp [h1_4]
    all_goals first | rfl | simp_all
  · iterate 2 refine S0 ?_ (e := fun _ h_ => by simp only [sH, ↓sP, sA, tyS, simprocAttr, h1_4]; exact AX h_)
    have F := h1_4
    iterate 2 refine SF ?_
    refine T2 (hK _ _ _ ?_)
    clear hK K
    refine aD ?_
    simp only [cH, Tryz.results113, cD, cG, cA, ↓sP, sA, tyS, simprocAttr]
    refine aC [] (.bool _) rfl ?_
    simp [h1_4]
    all_goals first | rfl | simp_all


theorem bA3 (p : Pk) : aW Tryz.prog 78 [p.cv] (fun v => v = .bool (decide (0 ≤ p.h) && decide (p.h ≤ 6))) := by
  refine bH Tryz.func78 rfl (by kernel_rfl) (cS _) (Nat.le_of_ble_eq_true rfl) ?_
  refine R0 ?_
  refine aB fun K hK => Rg ?_
  iterate 2 refine S0 ?_
  refine bA (g := none) rfl rfl fun K' hK' => ?_
  simp only [sH, ↓sP, sA, tyS, simprocAttr]
  refine fM (args := [_]) (bA2 p.h) ⟨rfl, rfl, rfl, rfl⟩ ?_
  rintro u rfl
  refine AX (hK' _ _ ?_)
  clear hK' K'
  refine S0 ?_
  refine T2 (hK _ _ _ ?_)
  clear hK K
  refine aD ?_
  simp only [cH, Tryz.results78, cD, cG, cA, ↓sP, sA, tyS, simprocAttr]
  exact aC [] (.bool _) rfl rfl


theorem aP6 (p : Pk) : aW Tryz.prog 85 [p.cv] (fun v => v = .bool (decide (0 ≤ p.h) && decide (p.h ≤ 6))) := by
  refine bH Tryz.func85 rfl (by kernel_rfl) (cS _) (Nat.le_of_ble_eq_true rfl) ?_
  refine R0 ?_
  refine aB fun K hK => Rg ?_
  iterate 4 refine S0 ?_
  refine aF 5 rfl (fun h1_5 => ?_) (fun h1_5 => ?_)
  · iterate 3 refine S0 ?_ (e := fun _ h_ => by simp only [sH, ↓sP, sA, tyS, simprocAttr, h1_5]; exact AX h_)
    have F := h1_5
    iterate 2 refine SF ?_
    refine T2 (hK _ _ _ ?_)
    clear hK K
    refine aD ?_
    simp only [cH, Tryz.results85, cD, cG, cA, ↓sP, sA, tyS, simprocAttr]
    refine aC [] (.bool _) rfl ?_
    simp [h1_5]
    all_goals first | rfl | simp_all
  · iterate 3 refine S0 ?_ (e := fun _ h_ => by simp only [sH, ↓sP, sA, tyS, simprocAttr, h1_5]; exact AX h_)
    have F := h1_5
    iterate 2 refine SF ?_
    refine T2 (hK _ _ _ ?_)
    clear hK K
    refine aD ?_
    simp only [cH, Tryz.results85, cD, cG, cA, ↓sP, sA, tyS, simprocAttr]
    refine aC [] (.bool _) rfl ?_
    simp [h1_5]
    all_goals first | rfl | simp_all


theorem aU6 (r : Rt) (w : aK) (hl : r.q.length < 2 ^ 40) : aW Tryz.prog 35 [r.cv, .str w] (fun v => v = .int .i64 (pC r.q w)) := by
  refine bH Tryz.func35 rfl (by kernel_rfl) (cS _) (Nat.le_of_ble_eq_true rfl) ?_
  refine R0 ?_
  refine aB fun K hK => ?_
  refine aB fun K hK => Rg ?_
  iterate 4 refine S0 ?_
  refine T2 (hK _ _ _ ?_)
  clear hK K
  refine aH ?_
  refine aU (α := {i : Nat // i ≤ r.q.length ∧ ∀ x ∈ r.q.take i, (x.r == w) = false}) (fun i => (fin [(1, .c (.str w)), (8, .c (.slc (r.q.map Qt.cv))), (9, .c (.int .i64 r.q.length)), (10, .c (.int .i64 i.1))], fob [])) 100 (fun i => r.q.length - i.1) ⟨0, by omega, by simp⟩ (fF) ?_
  rintro ⟨i, hi, h0⟩
  refine R0 ?_
  refine aB fun K hK => ?_
  refine aJ (b := decide ((i : Int) < r.q.length)) rfl (fun hb => ?_) (fun hb => ?_)
  · have hlt : i < r.q.length := by simpa using hb
    refine aG ?_
    refine T0 (hK _ _ _ ?_)
    clear hK K
    refine aB fun K hK => ?_
    refine aH ?_
    refine aB fun K hK => Rg ?_
    have F := aI @Int.natCast_nonneg (aI @Int.ofNat_lt (aI hlt (nM hlt)))
    iterate 4 refine SF ?_
    refine T2 (hK _ _ _ ?_)
    clear hK K
    refine aB fun K hK => Rg ?_
    iterate 4 refine S0 ?_
    refine T2 (hK _ _ _ ?_)
    clear hK K
    refine aJ (b := r.q[i].r == w) rfl (fun hb => ?_) (fun hb => ?_)
    · refine R0 ?_
      refine aD ?_
      simp only [cH, Tryz.results35, cD, cG, cA, ↓sP, sA, tyS, simprocAttr]
      exact aC [] (.int .i64 r.q[i].n) rfl (by rw [aH7 hlt hb h0])
    · refine aG ?_
      refine T0 (hK _ _ _ ?_)
      clear hK K
      refine aL (by kernel_rfl) ?_
      refine TQ (bK i) ?_
      refine ⟨⟨i + 1, hlt, gV (p := fun x => x.r == w) hlt hb h0⟩, fF, ?_⟩
      show r.q.length - (i + 1) < r.q.length - i
      omega
  · refine aS ?_
    simp only [↓sP, sA, tyS, simprocAttr]
    clear hK K
    refine AX (hK _ _ _ ?_)
    clear hK K
    refine R0 ?_
    refine aD ?_
    simp only [cH, Tryz.results35, cD, cG, cA, ↓sP, sA, tyS, simprocAttr]
    have hei : i = r.q.length := by simp at hb; omega
    subst hei
    exact aC [] (.int .i64 0) rfl (by rw [xV (by simpa using h0)])


theorem bJ5 (r : Rt) (w : aK) (hl : r.q.length < 2 ^ 40) : aW Tryz.prog 43 [r.cv, .str w] (fun v => v = .int .i64 (pC r.q w)) := by
  refine bH Tryz.func43 rfl (by kernel_rfl) (cS _) (Nat.le_of_ble_eq_true rfl) ?_
  refine R0 ?_
  refine aB fun K hK => ?_
  refine R0 ?_
  refine aH ?_
  refine aU (α := {i : Nat // i ≤ r.q.length ∧ ∀ x ∈ r.q.take i, (x.r == w) = false}) (fun i => (fin [(1, .c (.str w)), (2, .ptr 0 0), (5, .c (.int .i64 i.1))], fob [(0, .box 26 (.c r.cv))])) 100 (fun i => r.q.length - i.1) ⟨0, by omega, by simp⟩ (fF) ?_
  rintro ⟨i, hi, h0⟩
  refine aB fun K hK => ?_
  refine aB fun K hK => Rg ?_
  iterate 5 refine S0 ?_
  refine T2 (hK _ _ _ ?_)
  clear hK K
  refine aJ (b := decide ((i : Int) < r.q.length)) rfl (fun hb => ?_) (fun hb => ?_)
  · have hlt : i < r.q.length := by simpa using hb
    refine aG ?_
    refine T0 (hK _ _ _ ?_)
    clear hK K
    refine aB fun K hK => ?_
    refine aH ?_
    refine aB fun K hK => Rg ?_
    have F := aI @Int.natCast_nonneg (aI @Int.ofNat_lt (aI hlt (nM hlt)))
    iterate 8 refine SF ?_
    refine T2 (hK _ _ _ ?_)
    clear hK K
    refine aJ (b := r.q[i].r == w) rfl (fun hb => ?_) (fun hb => ?_)
    · refine aB fun K hK => Rg ?_
      iterate 7 refine SF ?_
      refine T2 (hK _ _ _ ?_)
      clear hK K
      refine aD ?_
      simp only [cH, Tryz.results43, cD, cG, cA, ↓sP, sA, tyS, simprocAttr]
      exact aC [] (.int .i64 r.q[i].n) rfl (by rw [aH7 hlt hb h0])
    · refine aG ?_
      refine T0 (hK _ _ _ ?_)
      clear hK K
      refine aL (by kernel_rfl) ?_
      refine TQ (bK i) ?_
      refine ⟨⟨i + 1, hlt, gV (p := fun x => x.r == w) hlt hb h0⟩, fF, ?_⟩
      show r.q.length - (i + 1) < r.q.length - i
      omega
  · refine aS ?_
    simp only [↓sP, sA, tyS, simprocAttr]
    clear hK K
    refine AX (hK _ _ _ ?_)
    clear hK K
    refine R0 ?_
    refine aD ?_
    simp only [cH, Tryz.results43, cD, cG, cA, ↓sP, sA, tyS, simprocAttr]
    have hei : i = r.q.length := by simp at hb; omega
    subst hei
    exact aC [] (.int .i64 0) rfl (by rw [xV (by simpa using h0)])


theorem aP7 (r : Rt) (d : Dig) (hl : r.x.length < 2 ^ 40) : dF Tryz.prog 93 [r.cv, dg d] (fun u v => u = .int .i64 (qS r.x d) ∧ v = .bool (sQ r.x d)) := by
  refine bH Tryz.func93 rfl (by kernel_rfl) (cS _) (Nat.le_of_ble_eq_true rfl) ?_
  refine aB fun K hK => Rg ?_
  iterate 4 refine S0 ?_
  refine T2 (hK _ _ _ ?_)
  clear hK K
  refine aB fun K hK => ?_
  refine aB fun K hK => Rg ?_
  iterate 4 refine S0 ?_
  refine T2 (hK _ _ _ ?_)
  clear hK K
  refine aH ?_
  refine aU (α := {i : Nat // i ≤ r.x.length ∧ ∀ x ∈ r.x.take i, (x.k == d) = false}) (fun i => (fin [(3, .ptr 4 0), (9, .c (.slc (r.x.map Rv.cv))), (10, .c (.int .i64 r.x.length)), (11, .c (.int .i64 i.1))], fob [(4, .box 49 (.c (dg d)))])) 100 (fun i => r.x.length - i.1) ⟨0, by omega, by simp⟩ (fF) ?_
  rintro ⟨i, hi, h0⟩
  refine R0 ?_
  refine aB fun K hK => ?_
  refine aJ (b := decide ((i : Int) < r.x.length)) rfl (fun hb => ?_) (fun hb => ?_)
  · have hlt : i < r.x.length := by simpa using hb
    refine aG ?_
    refine T0 (hK _ _ _ ?_)
    clear hK K
    refine aB fun K hK => ?_
    refine aH ?_
    refine aB fun K hK => Rg ?_
    have F := aI @Int.natCast_nonneg (aI @Int.ofNat_lt (aI hlt (nM hlt)))
    iterate 4 refine SF ?_
    refine T2 (hK _ _ _ ?_)
    clear hK K
    refine aB fun K hK => Rg ?_
    iterate 4 refine S0 ?_
    refine T2 (hK _ _ _ ?_)
    clear hK K
    refine aJ (b := r.x[i].k == d) rfl (fun hb => ?_) (fun hb => ?_)
    · refine aB fun K hK => Rg ?_
      iterate 4 refine S0 ?_
      refine T2 (hK _ _ _ ?_)
      clear hK K
      refine aD ?_
      simp only [cH, Tryz.results93, cD, cG, cA, ↓sP, sA, tyS, simprocAttr]
      exact aM [] (.int .i64 r.x[i].t) (.bool true) rfl ⟨by unfold qS; rw [aB8 hlt hb h0]; rfl, by unfold sQ; rw [aB8 hlt hb h0]; rfl⟩
    · refine aG ?_
      refine T0 (hK _ _ _ ?_)
      clear hK K
      refine aL (by kernel_rfl) ?_
      refine TQ (bK i) ?_
      refine ⟨⟨i + 1, hlt, gV (p := fun x => x.k == d) hlt hb h0⟩, fF, ?_⟩
      show r.x.length - (i + 1) < r.x.length - i
      omega
  · refine aS ?_
    simp only [↓sP, sA, tyS, simprocAttr]
    clear hK K
    refine AX (hK _ _ _ ?_)
    clear hK K
    refine R0 ?_
    refine aD ?_
    simp only [cH, Tryz.results93, cD, cG, cA, ↓sP, sA, tyS, simprocAttr]
    have hei : i = r.x.length := by simp at hb; omega
    subst hei
    have hm := bG3 (l := r.x) (d := d) (by simpa using h0)
    exact aM [] (.int .i64 0) (.bool false) rfl ⟨by unfold qS; rw [hm]; rfl, by unfold sQ; rw [hm]; rfl⟩


theorem tA (a b : Dig) : aW Tryz.prog 41 [dg a, dg b] (fun v => v = .bool (dlt a b)) := by
  refine bH Tryz.func41 rfl (by kernel_rfl) (cS _) (Nat.le_of_ble_eq_true rfl) ?_
  refine R0 ?_
  refine aB fun K hK => ?_
  refine R0 ?_
  refine aH ?_
  refine aU (α := {i : Nat // i ≤ 32 ∧ a.1.take i = b.1.take i}) (fun i => (fin [(2, .ptr 0 0), (3, .ptr 4 0), (5, .c (.int .i64 i.1))], fob [(0, .box 49 (.c (dg a))), (4, .box 49 (.c (dg b)))])) 100 (fun i => 32 - i.1) ⟨0, by omega, by simp⟩ (fF) ?_
  rintro ⟨i, hi, h0⟩
  refine aB fun K hK => ?_
  refine R0 ?_
  refine aJ (b := decide ((i : Int) < 32)) rfl (fun hb => ?_) (fun hb => ?_)
  · have hlt : i < 32 := by simp at hb; omega
    have hlt' : (i : Int) < 32 := by omega
    have ha : i < a.1.length := by rw [a.2]; exact hlt
    have hb' : i < b.1.length := by rw [b.2]; exact hlt
    refine aG ?_
    refine T0 (hK _ _ _ ?_)
    clear hK K
    refine aB fun K hK => ?_
    refine aH ?_
    refine aB fun K hK => oT mixed (by kernel_rfl) (by kernel_rfl) (by kernel_rfl) ?_
    simp only [sR, simprocAttr]
    iterate 7 refine S0 ?_ (e := fun _ h_ => by simp only [sH, ↓sP, sA, tyS, simprocAttr, Int.natCast_nonneg, hlt', bG6 hlt, Nat.mul_one, u8]; exact AX h_)
    refine T2 (hK _ _ _ ?_)
    clear hK K
    refine aJ (b := (((a.1[i]).toNat : Int) != ((b.1[i]).toNat : Int))) rfl (fun hb => ?_) (fun hb => ?_)
    · refine aB fun K hK => oT mixed (by kernel_rfl) (by kernel_rfl) (by kernel_rfl) ?_
      simp only [sR, simprocAttr]
      iterate 8 refine S0 ?_ (e := fun _ h_ => by simp only [sH, ↓sP, sA, tyS, simprocAttr, Int.natCast_nonneg, hlt', bG6 hlt, Nat.mul_one, u8]; exact AX h_)
      refine T2 (hK _ _ _ ?_)
      clear hK K
      refine aD ?_
      simp only [cH, Tryz.results41, cD, cG, cA, ↓sP, sA, tyS, simprocAttr]
      rw [bW1] at hb
      exact aC [] (.bool _) rfl (by rw [cD7, bY9 hlt h0 (by simpa using hb)])
    · refine aG ?_
      refine T0 (hK _ _ _ ?_)
      clear hK K
      refine aL (by kernel_rfl) ?_
      refine TQ (bK i) ?_
      rw [bW1] at hb
      refine ⟨⟨i + 1, hlt, ?_⟩, fF, ?_⟩
      · rw [List.take_succ_eq_append_getElem ha, List.take_succ_eq_append_getElem hb', h0]
        have : a.1[i] = b.1[i] := by simpa using hb
        rw [this]
      · show 32 - (i + 1) < 32 - i
        omega
  · refine aS ?_
    simp only [↓sP, sA, tyS, simprocAttr]
    clear hK K
    refine AX (hK _ _ _ ?_)
    clear hK K
    refine R0 ?_
    refine aD ?_
    simp only [cH, Tryz.results41, cD, cG, cA, ↓sP, sA, tyS, simprocAttr]
    have hei : i = 32 := by simp at hb; omega
    subst hei
    exact aC [] (.bool false) rfl (by rw [bG5 h0])

end Go.Proofs.YtenbfeemmpjdhaaGreatDoor

namespace Go.Proofs.YtenbfeemmpjdhaaGreatDoor
open Go Go.Hl Go.Pl
set_option maxRecDepth 10000
set_option maxHeartbeats 16000000

theorem bJ6 (l : List aK) (w : aK) (hl : l.length < 2 ^ 40) : aW Tryz.prog 116 [.slc (l.map .str), .str w] (fun v => v = .int .i64 (aB4 (fun x => w == x) l)) := by
 refine FW Tryz.func116 ?_
 refine R0 ?_
 refine aB fun K hK => ?_
 refine R0 ?_
 refine aH ?_
 refine aU (α := {i : Nat // i ≤ l.length ∧ ∀ x ∈ l.take i, (w == x) = false}) (fun i => (fin [(0, .c (.slc (l.map .str))), (1, .c (.str w)), (7, .c (.int .i64 l.length)), (8, .c (.int .i64 i.1))], fob [])) 100 (fun i => l.length - i.1) ⟨0, by omega, by simp⟩ (fF) ?_
 rintro ⟨i, hi, h0⟩
 refine R0 ?_
 refine aB fun K hK => ?_
 refine aJ (b := decide ((i : Int) < l.length)) rfl (fun hb => ?_) (fun hb => ?_)
 ·
  have hlt : i < l.length := by simpa using hb
  refine aG ?_
  refine T0 (hK _ _ _ ?_)
  clear hK K
  refine aB fun K hK => ?_
  refine aH ?_
  refine R0 ?_
  refine aB fun K hK => Rg ?_
  have F := aI @Int.natCast_nonneg (aI @Int.ofNat_lt (aI hlt (nM hlt)))
  iterate 6 refine SF ?_
  refine T2 (hK _ _ _ ?_)
  clear hK K
  refine aJ (b := w == l[i]) rfl (fun hb => ?_) (fun hb => ?_)
  ·
   refine R0 ?_
   refine aD (RT Tryz.results116 ?_)
   exact aC [] (.int .i64 i) rfl (by rw [aG8 (p := fun x => w == x) hlt hb h0])
  refine aG ?_
  refine T0 (hK _ _ _ ?_)
  clear hK K
  refine aL (by kernel_rfl) ?_
  refine TQ (bK i) ?_
  refine ⟨⟨i + 1, hlt, gV (p := fun x => w == x) hlt hb h0⟩, fF, ?_⟩
  show l.length - (i + 1) < l.length - i
  omega
 refine aS (T3 ?_)
 clear hK K
 refine AX (hK _ _ _ ?_)
 clear hK K
 refine R0 ?_
 refine aD (RT Tryz.results116 ?_)
 have hei : i = l.length := by simp at hb; omega
 subst hei
 exact aC [] (.int .i64 (-1)) rfl (by rw [xP (p := fun x => w == x) (by simpa using h0)])


theorem bR2 (l : List aK) (w : aK) (hl : l.length < 2 ^ 40) : aW Tryz.prog 82 [.slc (l.map .str), .str w] (fun v => v = .bool (l.contains w)) := by
 refine FW Tryz.func82 ?_
 refine R0 ?_
 refine aB fun K hK => Rg ?_
 iterate 2 refine S0 ?_
 refine HS rfl rfl fun K' hK' => T5 ?_
 refine C2 (bJ6 l w hl) ?_
 rintro u rfl
 refine AX (hK' _ _ ?_)
 clear hK' K'
 refine HS rfl rfl fun K' hK' => T5 ?_
 rw [pH l w]
 refine AX (hK' _ _ ?_)
 clear hK' K'
 refine S0 ?_
 refine T2 (hK _ _ _ ?_)
 clear hK K
 refine aD (RT Tryz.results82 ?_)
 exact aC [] (.bool _) rfl rfl


theorem bA4 (l : List Dig) (d : Dig) (hl : l.length < 2 ^ 40) : aW Tryz.prog 151 [.slc (l.map dg), dg d] (fun v => v = .int .i64 (aB4 (fun x => d == x) l)) := by
 refine FW Tryz.func151 ?_
 refine R0 ?_
 refine aB fun K hK => ?_
 refine R0 ?_
 refine aH ?_
 refine aU (α := {i : Nat // i ≤ l.length ∧ ∀ x ∈ l.take i, (d == x) = false}) (fun i => (fin [(0, .c (.slc (l.map dg))), (3, .ptr 0 0), (7, .c (.int .i64 l.length)), (8, .c (.int .i64 i.1))], fob [(0, .box 49 (.c (dg d)))])) 100 (fun i => l.length - i.1) ⟨0, by omega, by simp⟩ (fF) ?_
 rintro ⟨i, hi, h0⟩
 refine R0 ?_
 refine aB fun K hK => ?_
 refine aJ (b := decide ((i : Int) < l.length)) rfl (fun hb => ?_) (fun hb => ?_)
 ·
  have hlt : i < l.length := by simpa using hb
  refine aG ?_
  refine T0 (hK _ _ _ ?_)
  clear hK K
  refine aB fun K hK => ?_
  refine aH ?_
  refine R0 ?_
  refine aB fun K hK => QR ?_
  have F := aI @Int.natCast_nonneg (aI @Int.ofNat_lt (aI hlt (nM hlt)))
  iterate 6 refine SF ?_
  refine T2 (hK _ _ _ ?_)
  clear hK K
  refine aJ (b := d == l[i]) rfl (fun hb => ?_) (fun hb => ?_)
  ·
   refine R0 ?_
   refine aD (RT Tryz.results151 ?_)
   exact aC [] (.int .i64 i) rfl (by rw [aG8 (p := fun x => d == x) hlt hb h0])
  refine aG ?_
  refine T0 (hK _ _ _ ?_)
  clear hK K
  refine aL (by kernel_rfl) ?_
  refine TQ (bK i) ?_
  refine ⟨⟨i + 1, hlt, gV (p := fun x => d == x) hlt hb h0⟩, fF, ?_⟩
  show l.length - (i + 1) < l.length - i
  omega
 refine aS (T3 ?_)
 clear hK K
 refine AX (hK _ _ _ ?_)
 clear hK K
 refine R0 ?_
 refine aD (RT Tryz.results151 ?_)
 have hei : i = l.length := by simp at hb; omega
 subst hei
 exact aC [] (.int .i64 (-1)) rfl (by rw [xP (p := fun x => d == x) (by simpa using h0)])


theorem bJ7 (l : List Dig) (d : Dig) (hl : l.length < 2 ^ 40) : aW Tryz.prog 122 [.slc (l.map dg), dg d] (fun v => v = .bool (l.contains d)) := by
 refine FW Tryz.func122 ?_
 refine R0 ?_
 refine aB fun K hK => Rg ?_
 iterate 2 refine S0 ?_
 refine HS rfl rfl fun K' hK' => T5 ?_
 refine C2 (bA4 l d hl) ?_
 rintro u rfl
 refine AX (hK' _ _ ?_)
 clear hK' K'
 refine HS rfl rfl fun K' hK' => T5 ?_
 rw [pH l d]
 refine AX (hK' _ _ ?_)
 clear hK' K'
 refine S0 ?_
 refine T2 (hK _ _ _ ?_)
 clear hK K
 refine aD (RT Tryz.results122 ?_)
 exact aC [] (.bool _) rfl rfl


theorem bA5 : aW Tryz.prog 91 [] (fun v => v = .slc (owners4.map .str)) := by
 refine FW Tryz.func91 ?_
 refine R0 ?_
 refine R0 ?_
 refine aD (RT Tryz.results91 ?_)
 exact aC [4] _ rfl rfl


theorem vG : aW Tryz.prog 48 [] (fun v => v = .slc (roles10.map .str)) := by
 refine FW Tryz.func48 ?_
 refine R0 ?_
 refine R0 ?_
 refine aD (RT Tryz.results48 ?_)
 exact aC [4] _ rfl rfl


theorem aJ7 (i : Nat) (hi : i < 2 ^ 40) : aW Tryz.prog 51 [.int .i64 i] (fun v => v = .str (kW i)) := by
 have h4 : i % 4 < owners4.length := Nat.mod_lt _ (by decide)
 have hm : (i : Int).tmod 4 = ((i % 4 : Nat) : Int) := rfl
 refine FW Tryz.func51 ?_
 refine R0 ?_
 refine aB fun K hK => Rg ?_
 have F := aI hm (aI @Int.natCast_nonneg (aI @Int.ofNat_lt (aI h4 (nM h4))))
 refine HS rfl rfl fun K' hK' => T6 ?_
 refine C0 bA5 ?_
 rintro u rfl
 refine AX (hK' _ _ ?_)
 clear hK' K'
 iterate 5 refine SF ?_
 refine T2 (hK _ _ _ ?_)
 clear hK K
 refine aD (RT Tryz.results51 ?_)
 exact aC [] (.str owners4[i % 4]) rfl (by unfold kW; rw [List.getD_eq_getElem?_getD, List.getElem?_eq_getElem h4]; rfl)


theorem aC6 (s : aK) (hl : s.length < 2 ^ 63) : aW Tryz.prog 77 [.str s] (fun v => v = .bool (dV s)) := by
 refine FW Tryz.func77 ?_
 refine R0 ?_
 refine aB fun K hK => ?_
 refine aB fun K hK => Rg ?_
 iterate 4 refine S0 ?_
 refine aF 7 rfl (fun h1_7 => ?_) (fun h1_7 => ?_)
 ·
  have F := h1_7
  iterate 4 refine SF ?_
  refine T2 (hK _ _ _ ?_)
  clear hK K
  refine CT rfl ?_
  refine R0 ?_
  refine aD (RT Tryz.results77 ?_)
  exact aC [] (.bool false) rfl (by rw [xW (by simp at h1_7; omega)])
 have F := h1_7
 iterate 4 refine SF ?_
 refine T2 (hK _ _ _ ?_)
 clear hK K
 refine aJ (b := _) rfl (fun hb => ?_) (fun hb => ?_)
 ·
  refine R0 ?_
  refine aD (RT Tryz.results77 ?_)
  exact aC [] (.bool false) rfl (by rw [xW (by simp at hb; omega)])
 refine aG ?_
 refine T0 (hK _ _ _ ?_)
 clear hK K
 refine aB fun K hK => ?_
 refine R0 ?_
 refine aH ?_
 have hlen : 1 ≤ s.length ∧ s.length ≤ 64 := by simp at h1_7 hb; omega
 refine aU (α := {i : Nat // i ≤ s.length ∧ ∀ j (_ : j < i) (h : j < s.length), okc j s[j] = true}) (fun i => (fin [(0, .c (.str s)), (3, .c (.int .i64 i.1))], fob [])) 100 (fun i => s.length - i.1) ⟨0, by omega, fun j h => by omega⟩ (fF) ?_
 clear hb
 rintro ⟨i, hi, h0⟩
 refine aB fun K hK => ?_
 refine aB fun K hK => Rg ?_
 iterate 4 refine SF ?_
 refine T2 (hK _ _ _ ?_)
 clear hK K
 refine aJ (b := decide ((i : Int) < s.length)) rfl (fun hb => ?_) (fun hb => ?_)
 ·
  have hlt : i < s.length := by simpa using hb
  have hgd : s.getD i 0 = s[i] := by simp [hlt]
  refine aG ?_
  refine T0 (hK _ _ _ ?_)
  clear hK K
  refine aB fun K hK => ?_
  refine aH ?_
  refine aB fun K hK => Rg ?_
  iterate 4 refine S0 ?_ (e := fun _ h_ => by simp only [sH, ↓sP, sA, tyS, simprocAttr, Int.natCast_nonneg, Int.ofNat_lt, hlt, hgd, h1_7]; exact AX h_)
  refine T2 (hK _ _ _ ?_)
  clear hK K
  refine aB fun K hK => ?_
  refine aB fun K hK => ?_
  have key : ∀ (b : Bool) fr ob nx, b = okc i s[i] → Fits 0 fr ob (fin [(0, .c (.str s)), (3, .c (.int .i64 i)), (51, .c (.bool b))]) (fob []) 600 → K fr ob nx := by
   rintro b fr ob nx rfl hf
   refine hK _ _ _ (bF hf ?_)
   clear hf hK K
   refine aJ (b := okc i s[i]) rfl (fun hb => ?_) (fun hb => ?_)
   ·
    refine aS (T3 ?_)
    clear hK K
    refine AX (hK _ _ _ ?_)
    clear hK K
    refine aL (by kernel_rfl) ?_
    refine TQ (bK i) ?_
    refine ⟨⟨i + 1, hlt, aY3 hlt hb h0⟩, fF, ?_⟩
    show s.length - (i + 1) < s.length - i
    omega
   refine aG ?_
   refine T0 (hK _ _ _ ?_)
   clear hK K
   refine R0 ?_
   refine aD (RT Tryz.results77 ?_)
   exact aC [] (.bool false) rfl (by rw [xX hlt hb])
  refine Rg ?_
  iterate 3 refine SF ?_
  refine aF 23 rfl (fun h7_23 => ?_) (fun h7_23 => ?_)
  ·
   have F := aI h1_7 h7_23
   iterate 4 refine SF ?_
   refine aF 26 rfl (fun h7_26 => ?_) (fun h7_26 => ?_)
   ·
    have F := aI h1_7 (aI h7_23 h7_26)
    iterate 23 refine SF ?_
    refine T4 ?_
    exact key true _ _ _ (by simp only [okc, alZ, puZ, h1_7, h7_23, h7_26, Bool.and_true, Bool.and_false, Bool.true_and, Bool.false_and, Bool.or_true, Bool.true_or, Bool.false_or, Bool.or_false, Bool.and_self, Bool.or_self]) (fF)
   have F := aI h1_7 (aI h7_23 h7_26)
   iterate 3 refine SF ?_
   refine aF 30 rfl (fun h7_30 => ?_) (fun h7_30 => ?_)
   ·
    have F := aI h1_7 (aI h7_23 (aI h7_26 h7_30))
    iterate 5 refine SF ?_
    refine aF 33 rfl (fun h7_33 => ?_) (fun h7_33 => ?_)
    ·
     have F := aI h1_7 (aI h7_23 (aI h7_26 (aI h7_30 h7_33)))
     iterate 15 refine SF ?_
     refine T4 ?_
     exact key true _ _ _ (by simp only [okc, alZ, puZ, h1_7, h7_23, h7_26, h7_30, h7_33, Bool.and_true, Bool.and_false, Bool.true_and, Bool.false_and, Bool.or_true, Bool.true_or, Bool.false_or, Bool.or_false, Bool.and_self, Bool.or_self]) (fF)
    have F := aI h1_7 (aI h7_23 (aI h7_26 (aI h7_30 h7_33)))
    iterate 3 refine SF ?_
    refine aF 38 rfl (fun h7_38 => ?_) (fun h7_38 => ?_)
    ·
     have F := aI h1_7 (aI h7_23 (aI h7_26 (aI h7_30 (aI h7_33 h7_38))))
     iterate 3 refine SF ?_
     refine aF 41 rfl (fun h7_41 => ?_) (fun h7_41 => ?_)
     ·
      have F := aI h1_7 (aI h7_23 (aI h7_26 (aI h7_30 (aI h7_33 (aI h7_38 h7_41)))))
      iterate 9 refine SF ?_
      refine T4 ?_
      exact key true _ _ _ (by simp only [okc, alZ, puZ, h1_7, h7_23, h7_26, h7_30, h7_33, h7_38, h7_41, Bool.and_true, Bool.and_false, Bool.true_and, Bool.false_and, Bool.or_true, Bool.true_or, Bool.false_or, Bool.or_false, Bool.and_self, Bool.or_self]) (fF)
     have F := aI h1_7 (aI h7_23 (aI h7_26 (aI h7_30 (aI h7_33 (aI h7_38 h7_41)))))
     iterate 4 refine SF ?_
     refine aF 44 rfl (fun h7_44 => ?_) (fun h7_44 => ?_)
     ·
      have F := aI h1_7 (aI h7_23 (aI h7_26 (aI h7_30 (aI h7_33 (aI h7_38 (aI h7_41 h7_44))))))
      iterate 5 refine SF ?_
      refine T4 ?_
      exact key true _ _ _ (by simp only [okc, alZ, puZ, h1_7, h7_23, h7_26, h7_30, h7_33, h7_38, h7_41, h7_44, Bool.and_true, Bool.and_false, Bool.true_and, Bool.false_and, Bool.or_true, Bool.true_or, Bool.false_or, Bool.or_false, Bool.and_self, Bool.or_self]) (fF)
     have F := aI h1_7 (aI h7_23 (aI h7_26 (aI h7_30 (aI h7_33 (aI h7_38 (aI h7_41 h7_44))))))
     iterate 5 refine SF ?_
     refine aF 48 rfl (fun h7_48 => ?_) (fun h7_48 => ?_)
     ·
      simp only [h7_48]
      refine T4 ?_
      exact key true _ _ _ (by simp only [okc, alZ, puZ, h1_7, h7_23, h7_26, h7_30, h7_33, h7_38, h7_41, h7_44, h7_48, Bool.and_true, Bool.and_false, Bool.true_and, Bool.false_and, Bool.or_true, Bool.true_or, Bool.false_or, Bool.or_false, Bool.and_self, Bool.or_self]) (fF)
     simp only [h7_48]
     refine T4 ?_
     exact key false _ _ _ (by simp only [okc, alZ, puZ, h1_7, h7_23, h7_26, h7_30, h7_33, h7_38, h7_41, h7_44, h7_48, Bool.and_true, Bool.and_false, Bool.true_and, Bool.false_and, Bool.or_true, Bool.true_or, Bool.false_or, Bool.or_false, Bool.and_self, Bool.or_self]) (fF)
    have F := aI h1_7 (aI h7_23 (aI h7_26 (aI h7_30 (aI h7_33 h7_38))))
    iterate 12 refine SF ?_
    refine T4 ?_
    exact key false _ _ _ (by simp only [okc, alZ, puZ, h1_7, h7_23, h7_26, h7_30, h7_33, h7_38, Bool.and_true, Bool.and_false, Bool.true_and, Bool.false_and, Bool.or_true, Bool.true_or, Bool.false_or, Bool.or_false, Bool.and_self, Bool.or_self]) (fF)
   have F := aI h1_7 (aI h7_23 (aI h7_26 h7_30))
   iterate 8 refine SF ?_
   refine aF 38 rfl (fun h7_38 => ?_) (fun h7_38 => ?_)
   ·
    have F := aI h1_7 (aI h7_23 (aI h7_26 (aI h7_30 h7_38)))
    iterate 3 refine SF ?_
    refine aF 41 rfl (fun h7_41 => ?_) (fun h7_41 => ?_)
    ·
     have F := aI h1_7 (aI h7_23 (aI h7_26 (aI h7_30 (aI h7_38 h7_41))))
     iterate 9 refine SF ?_
     refine T4 ?_
     exact key true _ _ _ (by simp only [okc, alZ, puZ, h1_7, h7_23, h7_26, h7_30, h7_38, h7_41, Bool.and_true, Bool.and_false, Bool.true_and, Bool.false_and, Bool.or_true, Bool.true_or, Bool.false_or, Bool.or_false, Bool.and_self, Bool.or_self]) (fF)
    have F := aI h1_7 (aI h7_23 (aI h7_26 (aI h7_30 (aI h7_38 h7_41))))
    iterate 4 refine SF ?_
    refine aF 44 rfl (fun h7_44 => ?_) (fun h7_44 => ?_)
    ·
     have F := aI h1_7 (aI h7_23 (aI h7_26 (aI h7_30 (aI h7_38 (aI h7_41 h7_44)))))
     iterate 5 refine SF ?_
     refine T4 ?_
     exact key true _ _ _ (by simp only [okc, alZ, puZ, h1_7, h7_23, h7_26, h7_30, h7_38, h7_41, h7_44, Bool.and_true, Bool.and_false, Bool.true_and, Bool.false_and, Bool.or_true, Bool.true_or, Bool.false_or, Bool.or_false, Bool.and_self, Bool.or_self]) (fF)
    have F := aI h1_7 (aI h7_23 (aI h7_26 (aI h7_30 (aI h7_38 (aI h7_41 h7_44)))))
    iterate 5 refine SF ?_
    refine aF 48 rfl (fun h7_48 => ?_) (fun h7_48 => ?_)
    ·
     simp only [h7_48]
     refine T4 ?_
     exact key true _ _ _ (by simp only [okc, alZ, puZ, h1_7, h7_23, h7_26, h7_30, h7_38, h7_41, h7_44, h7_48, Bool.and_true, Bool.and_false, Bool.true_and, Bool.false_and, Bool.or_true, Bool.true_or, Bool.false_or, Bool.or_false, Bool.and_self, Bool.or_self]) (fF)
    simp only [h7_48]
    refine T4 ?_
    exact key false _ _ _ (by simp only [okc, alZ, puZ, h1_7, h7_23, h7_26, h7_30, h7_38, h7_41, h7_44, h7_48, Bool.and_true, Bool.and_false, Bool.true_and, Bool.false_and, Bool.or_true, Bool.true_or, Bool.false_or, Bool.or_false, Bool.and_self, Bool.or_self]) (fF)
   have F := aI h1_7 (aI h7_23 (aI h7_26 (aI h7_30 h7_38)))
   iterate 12 refine SF ?_
   refine T4 ?_
   exact key false _ _ _ (by simp only [okc, alZ, puZ, h1_7, h7_23, h7_26, h7_30, h7_38, Bool.and_true, Bool.and_false, Bool.true_and, Bool.false_and, Bool.or_true, Bool.true_or, Bool.false_or, Bool.or_false, Bool.and_self, Bool.or_self]) (fF)
  have F := aI h1_7 h7_23
  iterate 7 refine SF ?_
  refine aF 30 rfl (fun h7_30 => ?_) (fun h7_30 => ?_)
  ·
   have F := aI h1_7 (aI h7_23 h7_30)
   iterate 5 refine SF ?_
   refine aF 33 rfl (fun h7_33 => ?_) (fun h7_33 => ?_)
   ·
    have F := aI h1_7 (aI h7_23 (aI h7_30 h7_33))
    iterate 15 refine SF ?_
    refine T4 ?_
    exact key true _ _ _ (by simp only [okc, alZ, puZ, h1_7, h7_23, h7_30, h7_33, Bool.and_true, Bool.and_false, Bool.true_and, Bool.false_and, Bool.or_true, Bool.true_or, Bool.false_or, Bool.or_false, Bool.and_self, Bool.or_self]) (fF)
   have F := aI h1_7 (aI h7_23 (aI h7_30 h7_33))
   iterate 3 refine SF ?_
   refine aF 38 rfl (fun h7_38 => ?_) (fun h7_38 => ?_)
   ·
    have F := aI h1_7 (aI h7_23 (aI h7_30 (aI h7_33 h7_38)))
    iterate 3 refine SF ?_
    refine aF 41 rfl (fun h7_41 => ?_) (fun h7_41 => ?_)
    ·
     have F := aI h1_7 (aI h7_23 (aI h7_30 (aI h7_33 (aI h7_38 h7_41))))
     iterate 9 refine SF ?_
     refine T4 ?_
     exact key true _ _ _ (by simp only [okc, alZ, puZ, h1_7, h7_23, h7_30, h7_33, h7_38, h7_41, Bool.and_true, Bool.and_false, Bool.true_and, Bool.false_and, Bool.or_true, Bool.true_or, Bool.false_or, Bool.or_false, Bool.and_self, Bool.or_self]) (fF)
    have F := aI h1_7 (aI h7_23 (aI h7_30 (aI h7_33 (aI h7_38 h7_41))))
    iterate 4 refine SF ?_
    refine aF 44 rfl (fun h7_44 => ?_) (fun h7_44 => ?_)
    ·
     have F := aI h1_7 (aI h7_23 (aI h7_30 (aI h7_33 (aI h7_38 (aI h7_41 h7_44)))))
     iterate 5 refine SF ?_
     refine T4 ?_
     exact key true _ _ _ (by simp only [okc, alZ, puZ, h1_7, h7_23, h7_30, h7_33, h7_38, h7_41, h7_44, Bool.and_true, Bool.and_false, Bool.true_and, Bool.false_and, Bool.or_true, Bool.true_or, Bool.false_or, Bool.or_false, Bool.and_self, Bool.or_self]) (fF)
    have F := aI h1_7 (aI h7_23 (aI h7_30 (aI h7_33 (aI h7_38 (aI h7_41 h7_44)))))
    iterate 5 refine SF ?_
    refine aF 48 rfl (fun h7_48 => ?_) (fun h7_48 => ?_)
    ·
     simp only [h7_48]
     refine T4 ?_
     exact key true _ _ _ (by simp only [okc, alZ, puZ, h1_7, h7_23, h7_30, h7_33, h7_38, h7_41, h7_44, h7_48, Bool.and_true, Bool.and_false, Bool.true_and, Bool.false_and, Bool.or_true, Bool.true_or, Bool.false_or, Bool.or_false, Bool.and_self, Bool.or_self]) (fF)
    simp only [h7_48]
    refine T4 ?_
    exact key false _ _ _ (by simp only [okc, alZ, puZ, h1_7, h7_23, h7_30, h7_33, h7_38, h7_41, h7_44, h7_48, Bool.and_true, Bool.and_false, Bool.true_and, Bool.false_and, Bool.or_true, Bool.true_or, Bool.false_or, Bool.or_false, Bool.and_self, Bool.or_self]) (fF)
   have F := aI h1_7 (aI h7_23 (aI h7_30 (aI h7_33 h7_38)))
   iterate 12 refine SF ?_
   refine T4 ?_
   exact key false _ _ _ (by simp only [okc, alZ, puZ, h1_7, h7_23, h7_30, h7_33, h7_38, Bool.and_true, Bool.and_false, Bool.true_and, Bool.false_and, Bool.or_true, Bool.true_or, Bool.false_or, Bool.or_false, Bool.and_self, Bool.or_self]) (fF)
  have F := aI h1_7 (aI h7_23 h7_30)
  iterate 8 refine SF ?_
  refine aF 38 rfl (fun h7_38 => ?_) (fun h7_38 => ?_)
  ·
   have F := aI h1_7 (aI h7_23 (aI h7_30 h7_38))
   iterate 3 refine SF ?_
   refine aF 41 rfl (fun h7_41 => ?_) (fun h7_41 => ?_)
   ·
    have F := aI h1_7 (aI h7_23 (aI h7_30 (aI h7_38 h7_41)))
    iterate 9 refine SF ?_
    refine T4 ?_
    exact key true _ _ _ (by simp only [okc, alZ, puZ, h1_7, h7_23, h7_30, h7_38, h7_41, Bool.and_true, Bool.and_false, Bool.true_and, Bool.false_and, Bool.or_true, Bool.true_or, Bool.false_or, Bool.or_false, Bool.and_self, Bool.or_self]) (fF)
   have F := aI h1_7 (aI h7_23 (aI h7_30 (aI h7_38 h7_41)))
   iterate 4 refine SF ?_
   refine aF 44 rfl (fun h7_44 => ?_) (fun h7_44 => ?_)
   ·
    have F := aI h1_7 (aI h7_23 (aI h7_30 (aI h7_38 (aI h7_41 h7_44))))
    iterate 5 refine SF ?_
    refine T4 ?_
    exact key true _ _ _ (by simp only [okc, alZ, puZ, h1_7, h7_23, h7_30, h7_38, h7_41, h7_44, Bool.and_true, Bool.and_false, Bool.true_and, Bool.false_and, Bool.or_true, Bool.true_or, Bool.false_or, Bool.or_false, Bool.and_self, Bool.or_self]) (fF)
   have F := aI h1_7 (aI h7_23 (aI h7_30 (aI h7_38 (aI h7_41 h7_44))))
   iterate 5 refine SF ?_
   refine aF 48 rfl (fun h7_48 => ?_) (fun h7_48 => ?_)
   ·
    simp only [h7_48]
    refine T4 ?_
    exact key true _ _ _ (by simp only [okc, alZ, puZ, h1_7, h7_23, h7_30, h7_38, h7_41, h7_44, h7_48, Bool.and_true, Bool.and_false, Bool.true_and, Bool.false_and, Bool.or_true, Bool.true_or, Bool.false_or, Bool.or_false, Bool.and_self, Bool.or_self]) (fF)
   simp only [h7_48]
   refine T4 ?_
   exact key false _ _ _ (by simp only [okc, alZ, puZ, h1_7, h7_23, h7_30, h7_38, h7_41, h7_44, h7_48, Bool.and_true, Bool.and_false, Bool.true_and, Bool.false_and, Bool.or_true, Bool.true_or, Bool.false_or, Bool.or_false, Bool.and_self, Bool.or_self]) (fF)
  have F := aI h1_7 (aI h7_23 (aI h7_30 h7_38))
  iterate 12 refine SF ?_
  refine T4 ?_
  exact key false _ _ _ (by simp only [okc, alZ, puZ, h1_7, h7_23, h7_30, h7_38, Bool.and_true, Bool.and_false, Bool.true_and, Bool.false_and, Bool.or_true, Bool.true_or, Bool.false_or, Bool.or_false, Bool.and_self, Bool.or_self]) (fF)
 refine aS (T3 ?_)
 clear hK K
 refine AX (hK _ _ _ ?_)
 clear hK K
 refine R0 ?_
 refine aD (RT Tryz.results77 ?_)
 have hei : i = s.length := by simp at hb; omega
 exact aC [] (.bool true) rfl (by rw [jO.2 ⟨hlen, fun j h => h0 j (by omega) h⟩])

end Go.Proofs.YtenbfeemmpjdhaaGreatDoor

namespace Go.Pl
open Go Go.Hl

def bS (c : UInt8) : Bool := decide ((33 : Int) ≤ c.toNat) && decide ((c.toNat : Int) ≤ 125) && ((c.toNat : Int) != 37)
def lJ (n : Nat) : UInt8 := ([48, 49, 50, 51, 52, 53, 54, 55, 56, 57, 65, 66, 67, 68, 69, 70] : List UInt8).getD n 0
def gL (c : UInt8) : List UInt8 := if bS c then [c] else [37, lJ (c.toNat / 16), lJ (c.toNat % 16)]
def bW (w : aK) : aK := w.flatMap gL
def fV (w : aK) : aK := if w = [] then [126] else bW w
def sizeW (w : aK) : Nat := max (bW w).length 1

@[simp] theorem cC5 : bW [] = [] := rfl
theorem bR3 (c : UInt8) : (gL c).length ≤ 3 := by unfold gL; split <;> simp
theorem bJ8 (c : UInt8) : 1 ≤ (gL c).length := by unfold gL; split <;> simp
theorem pQ (w : aK) : (bW w).length ≤ 3 * w.length := by
 induction w with
 | nil => simp [bW]
 | cons c w ih =>
  have := bR3 c
  simp only [bW, List.flatMap_cons, List.length_append, List.length_cons] at *
  omega
theorem aJ8 (w : aK) : w.length ≤ (bW w).length := by
 induction w with
 | nil => simp [bW]
 | cons c w ih =>
  have := bJ8 c
  simp only [bW, List.flatMap_cons, List.length_append, List.length_cons] at *
  omega
theorem oD {w : aK} {i : Nat} (h : i < w.length) : bW (w.take (i + 1)) = bW (w.take i) ++ gL w[i] := by
 simp only [List.take_succ_eq_append_getElem h, bW, List.flatMap_append, List.flatMap_cons, List.flatMap_nil, List.append_nil]
theorem jC (w : aK) (i : Nat) : (bW (w.take i)).length ≤ (bW w).length := by
 have : bW w = bW (w.take i) ++ bW (w.drop i) := by simp [bW, ← List.flatMap_append]
 rw [this, List.length_append]; omega
theorem pR (w : aK) : (fV w).length = sizeW w := by
 unfold fV sizeW
 split
 ·
  subst_vars; rfl
 ·
  rename_i h
  have := aJ8 w
  have : 0 < w.length := List.length_pos_iff.2 h
  omega
theorem mF (w : aK) : sizeW w ≤ 3 * w.length + 1 := by have := pQ w; unfold sizeW; omega
theorem yI (w : aK) : 1 ≤ sizeW w := by unfold sizeW; omega
theorem cG1 (n : Nat) : (if (1 : Int) > (n : Int) then (1 : Int) else (n : Int)) = ((max n 1 : Nat) : Int) := by split <;> omega
theorem cE0 (c : UInt8) : Int.fdiv (c.toNat : Int) (2 ^ (min 4 IntKind.u8.bits)) = ((c.toNat / 16 : Nat) : Int) := by
 rw [show min 4 IntKind.u8.bits = 4 from rfl, Int.fdiv_eq_ediv_of_nonneg _ (by omega)]
 rfl
theorem bW3 (c : UInt8) : IntKind.u8.wrap ((BitVec.ofInt IntKind.u8.bits (c.toNat : Int) &&& BitVec.ofInt IntKind.u8.bits 15).toNat : Int) = ((c.toNat % 16 : Nat) : Int) := by
 have h := c.toNat_lt
 have : (BitVec.ofInt IntKind.u8.bits (c.toNat : Int) &&& BitVec.ofInt IntKind.u8.bits 15).toNat = c.toNat % 16 := by
  rw [BitVec.toNat_and]
  have e1 : (BitVec.ofInt IntKind.u8.bits (c.toNat : Int)).toNat = c.toNat := by
   simp [IntKind.bits]
  have e2 : (BitVec.ofInt IntKind.u8.bits 15).toNat = 15 := rfl
  rw [e1, e2]
  exact Nat.and_two_pow_sub_one_eq_mod _ 4
 rw [this]
 exact IntWalk.u8_in _ (by omega)

theorem dX : ∀ bs : List UInt8, CV.denilL (bs.map cU) = bs.map cU
 | [] => rfl
 | b :: bs => by simp only [List.map_cons, CV.denilL, dX bs]; rfl

def fH : List aK → aK
 | [] => []
 | w :: l => fV w ++ l.flatMap fun v => 32 :: fV v
theorem bA6 (l : List aK) (w : aK) : fH (l ++ [w]) = fH l ++ ((if l = [] then [] else [32]) ++ fV w) := by
 cases l with
 | nil => simp [fH]
 | cons a l => simp [fH]
theorem yJ {l : List aK} {i : Nat} (h : i < l.length) : fH (l.take (i + 1)) = fH (l.take i) ++ ((if i = 0 then [] else [32]) ++ fV l[i]) := by
 rw [List.take_succ_eq_append_getElem h, bA6]
 congr 2
 have : l.take i = [] ↔ i = 0 := by
  rw [List.take_eq_nil_iff]
  constructor
  ·
   rintro (h1 | h1)
   ·
    exact h1
   ·
    subst h1; simp at h
  ·
   exact Or.inl
 simp only [this]
def vH (l : List aK) : aK := fH l ++ [10]
def eL (ls : List (List aK)) : aK := ls.flatMap vH
def fQ (l : List aK) : Nat := (l.map fun w => sizeW w + 1).sum
def sumD (ls : List (List aK)) : Nat := (ls.map fQ).sum
theorem aJ9 : ∀ (l : List aK), l ≠ [] → (fH l).length + 1 = fQ l
 | [], h => absurd rfl h
 | w :: l, _ => by
  have : ∀ l : List aK, (l.flatMap fun v => 32 :: fV v).length = fQ l := by
   intro l
   induction l with
   | nil => rfl
   | cons v l ih => simp only [List.flatMap_cons, List.length_append, List.length_cons, pR, ih, fQ, List.map_cons, List.sum_cons]
  simp only [fH, List.length_append, pR, this, fQ, List.map_cons, List.sum_cons]
  omega
theorem bJ9 {l : List aK} (h : l ≠ []) : (vH l).length = fQ l := by
 rw [vH, List.length_append, ← aJ9 l h]; rfl
theorem aU7 (l : List aK) : (fH l).length ≤ fQ l := by
 cases l with
 | nil => simp [fH]
 | cons w l => have := aJ9 (w :: l) (by simp); omega
theorem pS : ∀ {ls : List (List aK)}, (∀ l ∈ ls, l ≠ []) → (eL ls).length = sumD ls
 | [], _ => rfl
 | l :: ls, h => by
  have ih := pS (ls := ls) fun x hx => h x (List.mem_cons_of_mem _ hx)
  have h1 := bJ9 (h l List.mem_cons_self)
  simp only [eL, sumD, List.flatMap_cons, List.length_append, List.map_cons, List.sum_cons] at *
  omega
theorem yK {ls : List (List aK)} {i : Nat} (h : i < ls.length) : eL (ls.take (i + 1)) = eL (ls.take i) ++ vH ls[i] := by
 simp only [List.take_succ_eq_append_getElem h, eL, List.flatMap_append, List.flatMap_cons, List.flatMap_nil, List.append_nil]
theorem bA7 {l : List aK} {i : Nat} (h : i < l.length) : fQ (l.take (i + 1)) = fQ (l.take i) + (sizeW l[i] + 1) := by
 simp only [List.take_succ_eq_append_getElem h, fQ, List.map_append, List.sum_append, List.map_cons, List.map_nil, List.sum_cons, List.sum_nil, Nat.add_zero]
theorem bA8 {ls : List (List aK)} {i : Nat} (h : i < ls.length) : sumD (ls.take (i + 1)) = sumD (ls.take i) + fQ ls[i] := by
 simp only [List.take_succ_eq_append_getElem h, sumD, List.map_append, List.sum_append, List.map_cons, List.map_nil, List.sum_cons, List.sum_nil, Nat.add_zero]

@[simp] theorem cE1 : eL [] = [] := rfl
@[simp] theorem cE2 : fH [] = [] := rfl
@[simp] theorem cE3 : fQ [] = 0 := rfl
@[simp] theorem cE4 : sumD [] = 0 := rfl
theorem pT (l : List aK) (i : Nat) : fQ (l.take i) ≤ fQ l := by
 have : fQ l = fQ (l.take i) + fQ (l.drop i) := by
  simp only [fQ, ← List.sum_append, ← List.map_append, List.take_append_drop]
 omega
theorem aC7 (l : List (List aK)) (i : Nat) : sumD (l.take i) ≤ sumD l := by
 have : sumD l = sumD (l.take i) + sumD (l.drop i) := by
  simp only [sumD, ← List.sum_append, ← List.map_append, List.take_append_drop]
 omega

def lA (l : List aK) : Int :=
 if l.length = 0 then 1 else if 120 < l.length then 3 else if l.any (fun w => decide (32768 < w.length)) then 3 else 0
def okL (l : List aK) : Bool := lA l == 0
theorem iT (l : List aK) : okL l = true ↔ l ≠ [] ∧ l.length ≤ 120 ∧ ∀ w ∈ l, w.length ≤ 32768 := by
 unfold okL lA
 constructor
 ·
  intro h
  split at h
  ·
   simp at h
  ·
   split at h
   ·
    simp at h
   ·
    split at h
    ·
     simp at h
    ·
     rename_i h1 h2 h3
     refine ⟨fun h => h1 (by rw [h]; rfl), by omega, fun w hw => ?_⟩
     simp only [List.any_eq_true, not_exists, not_and, decide_eq_true_eq, Nat.not_lt] at h3
     exact h3 w hw
 ·
  rintro ⟨h1, h2, h3⟩
  rw [if_neg (fun h => h1 (List.eq_nil_of_length_eq_zero h)), if_neg (by omega), if_neg (by simpa using h3)]
  rfl
theorem aU8 {l : List aK} (h : okL l = true) : fQ l ≤ 11796720 := by
 obtain ⟨-, h1, h2⟩ := (iT l).1 h
 have key : ∀ l : List aK, (∀ w ∈ l, w.length ≤ 32768) → fQ l ≤ 98306 * l.length := by
  intro l
  induction l with
  | nil => intro _; simp [fQ]
  | cons w l ih =>
   intro h
   have := ih fun x hx => h x (List.mem_cons_of_mem _ hx)
   have h3 := h w List.mem_cons_self
   have h4 := mF w
   simp only [fQ, List.map_cons, List.sum_cons, List.length_cons] at *
   omega
 have := key l h2
 omega
theorem aU9 {ls : List (List aK)} (h : ∀ l ∈ ls, okL l = true) : sumD ls ≤ 11796720 * ls.length := by
 induction ls with
 | nil => simp [sumD]
 | cons l ls ih =>
  have := ih fun x hx => h x (List.mem_cons_of_mem _ hx)
  have h3 := aU8 (h l List.mem_cons_self)
  simp only [sumD, List.map_cons, List.sum_cons, List.length_cons] at *
  omega
theorem bK0 (l : List aK) (h : ∀ w ∈ l, w.length ≤ 32768) : (fH l).length ≤ 98306 * l.length := by
 have h1 := aU7 l
 have key : ∀ l : List aK, (∀ w ∈ l, w.length ≤ 32768) → fQ l ≤ 98306 * l.length := by
  intro l
  induction l with
  | nil => intro _; simp
  | cons w l ih =>
   intro h
   have := ih fun x hx => h x (List.mem_cons_of_mem _ hx)
   have h3 := h w List.mem_cons_self
   have h4 := mF w
   simp only [fQ, List.map_cons, List.sum_cons, List.length_cons] at *
   omega
 have := key l h
 omega
theorem qX {α : Type} {p : α → Prop} {l : List α} {i : Nat} (h : i < l.length) (h1 : p l[i]) (h0 : ∀ x ∈ l.take i, p x) : ∀ x ∈ l.take (i + 1), p x := by
 intro x hx
 rw [List.take_succ_eq_append_getElem h, List.mem_append, List.mem_singleton] at hx
 rcases hx with hx | rfl
 ·
  exact h0 x hx
 ·
  exact h1
def iN (ls : List (List aK)) : Int :=
 if 1000 < ls.length then 3 else match ls.find? (fun l => !okL l) with
  | some l => lA l
  | none => if 262144 < (eL ls).length then 3 else 0
def qY (ls : List (List aK)) : aK := if iN ls = 0 then eL ls else []
theorem qZ {ls : List (List aK)} (h : 1000 < ls.length) : iN ls = 3 := by unfold iN; rw [if_pos h]
theorem pU {ls : List (List aK)} {i : Nat} (h : ls.length ≤ 1000) (hi : i < ls.length) (h0 : ∀ l ∈ ls.take i, okL l = true) (h1 : okL ls[i] = false) : iN ls = lA ls[i] := by
 unfold iN
 rw [if_neg (by omega)]
 have : ls.find? (fun l => !okL l) = some ls[i] := by
  rw [List.find?_eq_some_iff_append]
  refine ⟨by simp [h1], ls.take i, ls.drop (i + 1), ?_, fun l hl => by simp [h0 l hl]⟩
  rw [List.getElem_cons_drop, List.take_append_drop]
 rw [this]
theorem aC8 {ls : List (List aK)} (h : ls.length ≤ 1000) (h0 : ∀ l ∈ ls, okL l = true) : iN ls = if 262144 < (eL ls).length then 3 else 0 := by
 unfold iN
 rw [if_neg (by omega)]
 have : ls.find? (fun l => !okL l) = none := by
  rw [List.find?_eq_none]
  intro l hl
  simp [h0 l hl]
 rw [this]
theorem aV0 {l : List aK} (h : okL l = false) : lA l ≠ 0 := by unfold okL at h; simpa using h
theorem gJ {ls : List (List aK)} (h : iN ls ≠ 0) : qY ls = [] := by unfold qY; rw [if_neg h]
theorem aC9 {ls : List (List aK)} (h : iN ls = 0) : qY ls = eL ls := by unfold qY; rw [if_pos h]

def lH (n : Nat) : UInt8 := ([48, 49, 50, 51, 52, 53, 54, 55, 56, 57, 97, 98, 99, 100, 101, 102] : List UInt8).getD n 0
def bK1 (c : UInt8) : List UInt8 := [lH (c.toNat / 16), lH (c.toNat % 16)]
def gB (bs : List UInt8) : List UInt8 := bs.flatMap bK1
@[simp] theorem cE5 : gB [] = [] := rfl
theorem mG (bs : List UInt8) : (gB bs).length = 2 * bs.length := by
 induction bs with
 | nil => rfl
 | cons c bs ih => simp only [gB, List.flatMap_cons, List.length_append, List.length_cons, bK1, List.length_nil] at *; omega
theorem bA9 {bs : List UInt8} {i : Nat} (h : i < bs.length) : gB (bs.take (i + 1)) = gB (bs.take i) ++ bK1 bs[i] := by
 simp only [List.take_succ_eq_append_getElem h, gB, List.flatMap_append, List.flatMap_cons, List.flatMap_nil, List.append_nil]
end Go.Pl
