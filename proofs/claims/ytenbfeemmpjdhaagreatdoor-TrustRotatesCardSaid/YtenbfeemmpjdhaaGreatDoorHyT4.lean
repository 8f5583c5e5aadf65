/- Part of a proof: walks of functions of the program, by contracts, and the rules they use. By an AI agent. -/
import Derived.Test.YtenbfeemmpjdhaaGreatDoorHySb
import Derived.Test.YtenbfeemmpjdhaaGreatDoorPl18e
import Derived.Test.YtenbfeemmpjdhaaGreatDoorHlIt
import Derived.Test.YtenbfeemmpjdhaaGreatDoorPl11m
set_option linter.unusedSimpArgs false
set_option linter.unusedVariables false
set_option linter.defProp false
namespace Go.Proofs.YtenbfeemmpjdhaaGreatDoor
open Go Go.Hl Go.Pl
def rI := (And.intro (And.intro (And.intro @rpost_exit (And.intro @rpost_normal @rpost_ret)) (And.intro @hscope_exit (And.intro @hscope_normal @hscope_ret))) (And.intro (And.intro @ithen_normal (And.intro @ithen_exit @ithen_ret)) (And.intro @iblk_normal (And.intro @iblk_exit @iblk_ret))))
section
variable {n k nx i : Nat} {ops : Array Oper} {o : Oper} {g : Option (Nat × Bool)} {fr fr' : Fr} {ob ob' : Ob}
theorem T0 {a b : Prop} (h : b) (e : b → a := by intro h; simp only [↓sP, sA, tyS, simprocAttr]; (repeat refine AI ?_); exact h) : a := e h
theorem T2 {a b : Prop} (h : b) (e : b → a := by intro h; simp only [sE, ↓reduceIte, simprocAttr]; (repeat refine AI ?_); exact h) : a := e h
theorem AX {a b : Prop} (h : b) (e : b → a := by intro h; (repeat refine AI ?_); exact h) : a := e h
theorem fF {l : List (Nat × HV)} {h : List (Nat × HO)} {nx2 : Nat} (hk : k ≤ nx2 := by omega) (h1 : aX nx2 fr l := by simp [aX, fin_at, finA_at, upd_at, HV.men, HV.menL, HV.norm, HV.toC, HV.toCL])
    (h2 : bB nx2 ob h := by simp [bB, fob_at, upd_at, none0_at, bU, HO.men, HV.men, HV.menL, HV.norm, HV.toC, HV.toCL]) : Fits k fr ob (fin l) (fob h) nx2 := aQ hk h1 h2
theorem Rg {id : Nat} {b : Prop} {Q : dI} (h : b) (hd : iM n ops = true := by kernel_rfl)
    (e : b → hlex Tryz.prog ops nx (fun fr' ob' => Q .normal fr' ob' (nx + 4 * ops.size)) (List.range ops.size) fr ob := by intro h; simp only [sR, simprocAttr]; exact h) : Hw Tryz.prog n k (.region id ops false) Q fr ob nx := aM hd (e h)
theorem bK (i : Nat) (h : (i : Int) < 9223372036854775807 := by omega) : IntKind.i64.wrap ((i : Int) + 1) = (i : Int) + 1 := IntWalk.i64_in _ ⟨by omega, by omega⟩
theorem R0 {id nx' : Nat} {c2 : Code} {Q : dI} (h : Hw Tryz.prog n k c2 Q fr' ob' nx') (hd : iM n ops = true := by kernel_rfl)
    (e : ∀ K : Fr → Ob → Nat → Prop, K fr' ob' nx' → hlex Tryz.prog ops nx (fun fr' ob' => hthen K Q .normal fr' ob' (nx + 4 * ops.size)) (List.range ops.size) fr ob := by intro K h; simp only [↓sP, sA, tyS, simprocAttr]; (repeat refine AI ?_); exact h) :
    Hw Tryz.prog n k (.seq (.region id ops false) c2) Q fr ob nx := aB fun K hK => aM hd (e K (hK _ _ _ h))
section
variable {Q : Fr → Ob → Prop}
theorem S0 {l : List Nat} (h : hlex Tryz.prog ops nx Q l fr' ob') (ho : ops[i]? = some o := by exact rfl) (hg : gd ops o = some g := by exact rfl)
    (e : ∀ K : Fr → Ob → Prop, K fr' ob' → hop1 Tryz.prog (nx + 4 * i) [] g o.op o.dst K fr ob := by intro K h; simp only [sH, ↓sP, sA, tyS, simprocAttr]; (repeat refine AI ?_); exact h) : hlex Tryz.prog ops nx Q (i :: l) fr ob :=
  aZ ho hg fun K hK => e K (hK _ _ h)
theorem SG0 {l : List Nat} (h : hlexG Tryz.prog ops nx Q l fr' ob') (ho : ops[i]? = some o := by exact rfl) (hg : gd ops o = some g := by exact rfl)
    (e : ∀ K : Fr → Ob → Prop, K fr' ob' → hop1 Tryz.prog (nx + 4 * i) [] g o.op o.dst K fr ob := by intro K h; simp only [sH, ↓sP, sA, tyS, simprocAttr]; (repeat refine AI ?_); exact h) : hlexG Tryz.prog ops nx Q (i :: l) fr ob :=
  kS ho hg fun K hK => e K (hK _ _ h)
variable {cr rd : List Nat} {l : nY} {C : iQ}
theorem W0 (h : hwalk2 Tryz.prog ops nx Q l (if isEff o.op = true then C else (i, if hgd g fr = some true then touch o.op (ev fr) else []) :: C) fr' ob') (ho : ops[i]? = some o := by exact rfl) (hg : gd ops o = some g := by exact rfl)
    (e : ∀ K : Fr → Ob → Prop, K fr' ob' → hop1 Tryz.prog (nx + 4 * i) (cr.flatMap (ids4 nx) ++ rd.flatMap (getF C)) g o.op o.dst K fr ob := by intro K h; simp only [sH, ↓sP, sA, tyS, simprocAttr]; (repeat refine AI ?_); exact h) : hwalk2 Tryz.prog ops nx Q ((i, cr, rd) :: l) C fr ob :=
  aN ho hg fun K hK => e K (hK _ _ h)
theorem WG0 (h : hwalk2G Tryz.prog ops nx Q l (if isEff o.op = true then C else (i, if hgd g fr = some true then touch o.op (ev fr) else []) :: C) fr' ob') (ho : ops[i]? = some o := by exact rfl) (hg : gd ops o = some g := by exact rfl)
    (e : ∀ K : Fr → Ob → Prop, K fr' ob' → hop1 Tryz.prog (nx + 4 * i) (cr.flatMap (ids4 nx) ++ rd.flatMap (getF C)) g o.op o.dst K fr ob := by intro K h; simp only [sH, ↓sP, sA, tyS, simprocAttr]; (repeat refine AI ?_); exact h) : hwalk2G Tryz.prog ops nx Q ((i, cr, rd) :: l) C fr ob :=
  dJ ho hg fun K hK => e K (hK _ _ h)
end
theorem nM {α : Type} {l : List α} {i : Nat} (h : i < l.length) (f : α → CV) : nth (l.map f) i = f l[i] := aO h
theorem aI {a b : Prop} (x : a) (y : b) : a ∧ b := ⟨x, y⟩
theorem TQ {a b q : Prop} (r : q) (h : b) (e : q → b → a := by intro r h; simp only [↓sP, sA, tyS, simprocAttr, r]; exact h) : a := e r h
theorem T6 {a b : Prop} (h : b) (e : b → a := by intro h; simp only [sH, ↓sP, sA, tyS, simprocAttr, F]; exact h) : a := e h
section
variable {Q : Fr → Ob → Prop}
theorem SF {l : List Nat} (h : hlex Tryz.prog ops nx Q l fr' ob') (ho : ops[i]? = some o := by exact rfl) (hg : gd ops o = some g := by exact rfl)
    (e : ∀ K : Fr → Ob → Prop, K fr' ob' → hop1 Tryz.prog (nx + 4 * i) [] g o.op o.dst K fr ob := by intro K h; simp only [sH, ↓sP, sA, tyS, simprocAttr, F]; (repeat refine AI ?_); exact h) : hlex Tryz.prog ops nx Q (i :: l) fr ob :=
  aZ ho hg fun K hK => e K (hK _ _ h)
variable {cr rd : List Nat} {l : nY} {C : iQ}
theorem WF (h : hwalk2 Tryz.prog ops nx Q l (if isEff o.op = true then C else (i, if hgd g fr = some true then touch o.op (ev fr) else []) :: C) fr' ob') (ho : ops[i]? = some o := by exact rfl) (hg : gd ops o = some g := by exact rfl)
    (e : ∀ K : Fr → Ob → Prop, K fr' ob' → hop1 Tryz.prog (nx + 4 * i) (cr.flatMap (ids4 nx) ++ rd.flatMap (getF C)) g o.op o.dst K fr ob := by intro K h; simp only [sH, ↓sP, sA, tyS, simprocAttr, F]; (repeat refine AI ?_); exact h) : hwalk2 Tryz.prog ops nx Q ((i, cr, rd) :: l) C fr ob :=
  aN ho hg fun K hK => e K (hK _ _ h)
theorem WGF (h : hwalk2G Tryz.prog ops nx Q l (if isEff o.op = true then C else (i, if hgd g fr = some true then touch o.op (ev fr) else []) :: C) fr' ob') (ho : ops[i]? = some o := by exact rfl) (hg : gd ops o = some g := by exact rfl)
    (e : ∀ K : Fr → Ob → Prop, K fr' ob' → hop1 Tryz.prog (nx + 4 * i) (cr.flatMap (ids4 nx) ++ rd.flatMap (getF C)) g o.op o.dst K fr ob := by intro K h; simp only [sH, ↓sP, sA, tyS, simprocAttr, F]; (repeat refine AI ?_); exact h) : hwalk2G Tryz.prog ops nx Q ((i, cr, rd) :: l) C fr ob :=
  dJ ho hg fun K hK => e K (hK _ _ h)
end
section
variable {Q : Fr → Ob → Prop}
theorem SGF {l : List Nat} (h : hlexG Tryz.prog ops nx Q l fr' ob') (ho : ops[i]? = some o := by exact rfl) (hg : gd ops o = some g := by exact rfl)
    (e : ∀ K : Fr → Ob → Prop, K fr' ob' → hop1 Tryz.prog (nx + 4 * i) [] g o.op o.dst K fr ob := by intro K h; simp only [sH, ↓sP, sA, tyS, simprocAttr, F]; (repeat refine AI ?_); exact h) : hlexG Tryz.prog ops nx Q (i :: l) fr ob :=
  kS ho hg fun K hK => e K (hK _ _ h)
end
theorem RF {id nx' : Nat} {c2 : Code} {Q : dI} (h : Hw Tryz.prog n k c2 Q fr' ob' nx') (hd : iM n ops = true := by kernel_rfl)
    (e : ∀ K : Fr → Ob → Nat → Prop, K fr' ob' nx' → hlex Tryz.prog ops nx (fun fr' ob' => hthen K Q .normal fr' ob' (nx + 4 * ops.size)) (List.range ops.size) fr ob := by intro K h; simp only [↓sP, sA, tyS, simprocAttr, F]; (repeat refine AI ?_); exact h) :
    Hw Tryz.prog n k (.seq (.region id ops false) c2) Q fr ob nx := aB fun K hK => aM hd (e K (hK _ _ _ h))
theorem RT {a b : Prop} {x y : Array ResultVar} (r : x = y) (h : b) (e : x = y → b → a := by intro r h; simp only [cJ, r, cC, cI, bW, ↓sP, sA, tyS, simprocAttr]; exact h) : a := e r h
theorem T3 {a b : Prop} (h : b) (e : b → a := by intro h; simp only [↓sP, sA, tyS, simprocAttr]; exact h) : a := e h
theorem T4 {a b : Prop} (h : b) (e : b → a := by intro h; simp only [sE, ↓reduceIte, simprocAttr]; exact h) : a := e h
theorem T5 {a b : Prop} (h : b) (e : b → a := by intro h; simp only [sH, ↓sP, sA, tyS, simprocAttr]; exact h) : a := e h
theorem CT {x y : Code} {o : Operand} {Q : dI} (hb : ev fr o = .c (.bool true)) (h : Hw Tryz.prog n k x Q fr ob nx) : Hw Tryz.prog n k (.cond o x y) Q fr ob nx := aJ hb (fun _ => h) (fun hb => by cases hb)
theorem CF {x y : Code} {o : Operand} {Q : dI} (hb : ev fr o = .c (.bool false)) (h : Hw Tryz.prog n k y Q fr ob nx) : Hw Tryz.prog n k (.cond o x y) Q fr ob nx := aJ hb (fun hb => by cases hb) (fun _ => h)
theorem FW {P : Program} {f : FuncId} {fn : Func} {code : Code} {args : List HV} {R : HV → Ob → Prop} (hf : P.funcs[f]? = some fn) (h : Hw P fn.ntmps k code (cJ P fn.results.toList k R) (oR 0 args) ob k) (hb : fn.body = some code := by exact rfl)
    (hok : dV P f = true := by kernel_rfl) (hloc : LocOk k args ob := by exact cS _) (hn : args.length ≤ fn.ntmps := by exact Nat.le_of_ble_eq_true rfl) : HFn P f args k ob R := bS hf hb hok hloc hn h
theorem QW {id : Nat} {Q : dI} (h : hlex Tryz.prog ops nx (fun fr' ob' => Q .normal fr' ob' (nx + 4 * ops.size)) (List.range ops.size) fr ob) (hd : iM n ops = true := by kernel_rfl) (hp : gW ops (List.range ops.size) (Array.replicate ops.size false) = true := by kernel_rfl)
    (hq : ops.all (fun o => bH o.op) = true := by kernel_rfl) : Hw Tryz.prog n k (.region id ops true) Q fr ob nx := lW mixed hd hp hq h
theorem QR {id : Nat} {b : Prop} {Q : dI} (h : b) (hd : iM n ops = true := by kernel_rfl) (hp : gW ops (List.range ops.size) (Array.replicate ops.size false) = true := by kernel_rfl) (hq : ops.all (fun o => bH o.op) = true := by kernel_rfl)
    (e : b → hlex Tryz.prog ops nx (fun fr' ob' => Q .normal fr' ob' (nx + 4 * ops.size)) (List.range ops.size) fr ob := by intro h; simp only [sR, simprocAttr]; exact h) : Hw Tryz.prog n k (.region id ops true) Q fr ob nx := lW mixed hd hp hq (e h)
theorem DW {id : Nat} {Q : dI} (plan : nY) (ms : List Nat) (h : hwalk2 Tryz.prog ops nx (fun fr' ob' => Q .normal fr' ob' (nx + 4 * ops.size)) plan [] fr ob) (hd : iM n ops = true := by kernel_rfl) (hp : gW ops (plan.map (·.1)) (Array.replicate ops.size false) = true := by kernel_rfl)
    (hw1 : aD0 ops ms = true := by kernel_rfl) (hw2 : ms.all (fun m => decide (m < 2 ^ ms.length)) = true := by kernel_rfl) (hl : plan.length = ops.size := by exact rfl) (hc : chk ops (zK ms) plan [] = true := by kernel_rfl) : Hw Tryz.prog n k (.region id ops true) Q fr ob nx :=
  bC6 mixed plan ms hd hp hw1 hw2 hl hc h
theorem HS {l : List Nat} {Q : Fr → Ob → Prop} (ho : ops[i]? = some o) (hg : gd ops o = some none) (h : ∀ K : Fr → Ob → Prop, (∀ fr ob, hlex Tryz.prog ops nx Q l fr ob → K fr ob) → hop1 Tryz.prog (nx + 4 * i) [] none o.op o.dst K fr ob) : hlex Tryz.prog ops nx Q (i :: l) fr ob := aZ ho hg h
section
variable {P : Program} {av : List Nat} {f : FuncId} {nid : Nat} {K : HV → Ob → Prop} {a b c d : CV} {R : CV → Prop} {R2 : CV → CV → Prop}
theorem C0 (h : aW P f [] R) (hK : ∀ v, R v → K (.c v) ob) (hf : ob nid = none ∧ ob (nid + 1) = none ∧ ob (nid + 2) = none ∧ ob (nid + 3) = none := by exact ⟨rfl, rfl, rfl, rfl⟩) : HCall P av f [] ob nid K := fG (args := []) h hf hK
theorem C1 (h : aW P f [a] R) (hK : ∀ v, R v → K (.c v) ob) (hf : ob nid = none ∧ ob (nid + 1) = none ∧ ob (nid + 2) = none ∧ ob (nid + 3) = none := by exact ⟨rfl, rfl, rfl, rfl⟩) : HCall P av f [.c a] ob nid K := fG (args := [a]) h hf hK
theorem C2 (h : aW P f [a, b] R) (hK : ∀ v, R v → K (.c v) ob) (hf : ob nid = none ∧ ob (nid + 1) = none ∧ ob (nid + 2) = none ∧ ob (nid + 3) = none := by exact ⟨rfl, rfl, rfl, rfl⟩) : HCall P av f [.c a, .c b] ob nid K := fG (args := [a, b]) h hf hK
theorem C3 (h : aW P f [a, b, c] R) (hK : ∀ v, R v → K (.c v) ob) (hf : ob nid = none ∧ ob (nid + 1) = none ∧ ob (nid + 2) = none ∧ ob (nid + 3) = none := by exact ⟨rfl, rfl, rfl, rfl⟩) : HCall P av f [.c a, .c b, .c c] ob nid K := fG (args := [a, b, c]) h hf hK
theorem C4 (h : aW P f [a, b, c, d] R) (hK : ∀ v, R v → K (.c v) ob) (hf : ob nid = none ∧ ob (nid + 1) = none ∧ ob (nid + 2) = none ∧ ob (nid + 3) = none := by exact ⟨rfl, rfl, rfl, rfl⟩) : HCall P av f [.c a, .c b, .c c, .c d] ob nid K := fG (args := [a, b, c, d]) h hf hK
theorem D1 (h : cW P f [a] R2) (hK : ∀ u v, R2 u v → K (.tup [.c u, .c v]) ob) (hf : Free4 ob nid := by exact ⟨rfl, rfl, rfl, rfl⟩) : HCall P av f [.c a] ob nid K := kX (args := [a]) h hf hK
theorem D2 (h : cW P f [a, b] R2) (hK : ∀ u v, R2 u v → K (.tup [.c u, .c v]) ob) (hf : Free4 ob nid := by exact ⟨rfl, rfl, rfl, rfl⟩) : HCall P av f [.c a, .c b] ob nid K := kX (args := [a, b]) h hf hK
end
end
end Go.Proofs.YtenbfeemmpjdhaaGreatDoor

namespace Go.Proofs.YtenbfeemmpjdhaaGreatDoor
open Go Go.Hl Go.Pl
set_option maxRecDepth 10000

theorem aN6 (l : List (List UInt8)) (w : List UInt8) (hl : l.length < 2 ^ 62) : aW Tryz.prog 88 [.slc (l.map .str), .str w] (fun v => v = .bool (l.contains w)) := by
 refine FW Tryz.func88 ?_
 refine R0 ?_
 refine aB fun K hK => ?_
 refine R0 ?_
 refine aH ?_
 refine aT (α := {i : Nat // i ≤ l.length ∧ w ∉ l.take i}) (fun i => (fin [(0, .c (.slc (l.map .str))), (1, .c (.str w)), (5, .c (.int .i64 i.1))], fob [])) 0 (fun i => l.length - i.1) ⟨0, by omega, by simp⟩ (fF) ?_
 rintro ⟨i, hi, hni⟩
 refine aB fun K hK => ?_
 refine R0 ?_
 refine aJ (b := decide ((i : Int) < l.length)) rfl (fun hb => ?_) (fun hb => ?_)
 ·
  have hlt : i < l.length := by simpa using hb
  refine aG ?_
  refine T0 (hK _ _ _ ?_)
  clear hK K
  refine aB fun K hK => aH ?_
  have F := aI @Int.natCast_nonneg (aI @Int.ofNat_lt (aI hlt (nM hlt)))
  refine RF ?_
  refine aJ (b := l[i] == w) rfl (fun hb => ?_) (fun hb => ?_)
  ·
   refine R0 ?_
   refine aD (RT Tryz.results88 ?_)
   refine aC [] (.bool true) rfl ?_
   have : l[i] ∈ l := List.getElem_mem _
   simp_all
  refine aG ?_
  refine T0 (hK _ _ _ ?_)
  clear hK K
  refine aM (by kernel_rfl) ?_
  refine TQ (bK i) ?_
  refine ⟨⟨i + 1, hlt, ?_⟩, fF, ?_⟩
  ·
   rw [List.take_succ_eq_append_getElem hlt]
   intro hm
   rcases List.mem_append.1 hm with hm | hm
   ·
    exact hni hm
   simp_all
  show l.length - (i + 1) < l.length - i
  omega
 refine aS (T3 ?_)
 clear hK K
 refine AX (hK _ _ _ ?_)
 clear hK K
 refine R0 ?_
 refine aD (RT Tryz.results88 ?_)
 refine aC [] (.bool false) rfl ?_
 have : i = l.length := by simp at hb; omega
 subst this
 simpa using hni

theorem zY (l : List aK) (hl : l.length < 2 ^ 62) : aW Tryz.prog 119 [.slc (l.map .str)] (fun v => v = .bool (nZ l)) := by
 refine FW Tryz.func119 ?_
 refine R0 ?_
 refine aB fun K hK => ?_
 refine R0 ?_
 refine aH ?_
 refine aT (α := {i : Nat // 1 ≤ i ∧ (i ≤ l.length ∨ i = 1) ∧ ∀ j (h : j + 1 < i) (h' : j + 1 < l.length), slt l[j] l[j + 1] = true}) (fun i => (fin [(0, .c (.slc (l.map .str))), (3, .c (.int .i64 i.1))], fob [])) 0 (fun i => l.length - i.1) ⟨1, by omega, by simp, fun j h => by omega⟩ (fF) ?_
 rintro ⟨i, h1, hi, hni⟩
 refine aB fun K hK => ?_
 refine R0 ?_
 refine aJ (b := decide ((i : Int) < l.length)) rfl (fun hb => ?_) (fun hb => ?_)
 ·
  have hlt : i < l.length := by simpa using hb
  have e1 : IntKind.i64.wrap ((i : Int) - 1) = ((i - 1 : Nat) : Int) := by rw [IntWalk.i64_in _ (by omega)]; omega
  have hlt1 : i - 1 < l.length := by omega
  refine aG ?_
  refine T0 (hK _ _ _ ?_)
  clear hK K
  refine aB fun K hK => aH ?_
  refine aB fun K hK => QW ?_
  simp only [↓sP, sA, tyS, simprocAttr, Int.natCast_nonneg, Int.ofNat_lt, hlt, e1, hlt1, aO hlt, aO hlt1]
  refine AX (hK _ _ _ ?_)
  clear hK K
  refine aJ (b := !slt l[i - 1] l[i]) rfl (fun hb => ?_) (fun hb => ?_)
  ·
   refine R0 ?_
   refine aD (RT Tryz.results119 ?_)
   refine aC [] (.bool false) rfl ?_
   congr 1
   refine (Bool.not_eq_true _ ▸ fun h => ?_ : nZ l = false).symm
   have := tM.1 h (i - 1) (by omega)
   simp only [show i - 1 + 1 = i by omega] at this
   simp [this] at hb
  refine aG ?_
  refine T0 (hK _ _ _ ?_)
  clear hK K
  refine aM (by kernel_rfl) ?_
  refine TQ (bK i) ?_
  refine ⟨⟨i + 1, by omega, by omega, fun j h h' => ?_⟩, fF, ?_⟩
  ·
   by_cases e : j + 1 = i
   ·
    subst e
    simpa using hb
   exact hni j (by omega) h'
  show l.length - (i + 1) < l.length - i
  omega
 refine aS (T3 ?_)
 clear hK K
 refine AX (hK _ _ _ ?_)
 clear hK K
 refine R0 ?_
 refine aD (RT Tryz.results119 ?_)
 refine aC [] (.bool true) rfl ?_
 have : l.length ≤ i := by simp at hb; omega
 exact congrArg _ (tM.2 fun j h => hni j (by omega) h).symm

theorem bO8 (l m : List aK) (hl : l.length < 2 ^ 62) : aW Tryz.prog 97 [.slc (l.map .str), .slc (m.map .str)] (fun v => v = .bool (l == m)) := by
 refine FW Tryz.func97 ?_
 refine R0 ?_
 refine aB fun K hK => ?_
 refine R0 ?_
 refine aJ (b := (l.length : Int) != m.length) rfl (fun hb => ?_) (fun hb => ?_)
 ·
  refine R0 ?_
  refine aD (RT Tryz.results97 ?_)
  refine aC [] (.bool false) rfl ?_
  congr 1
  have : ¬ l = m := by rintro rfl; simp at hb
  simp [this]
 have hlen : l.length = m.length := by simp at hb; omega
 refine aG ?_
 refine T0 (hK _ _ _ ?_)
 clear hK K
 refine aB fun K hK => ?_
 refine R0 ?_
 refine aH ?_
 refine aT (α := {i : Nat // i ≤ l.length ∧ l.take i = m.take i}) (fun i => (fin [(0, .c (.slc (l.map .str))), (1, .c (.slc (m.map .str))), (5, .c (.int .i64 i.1))], fob [])) 0 (fun i => l.length - i.1) ⟨0, by omega, by simp⟩ (fF) ?_
 rintro ⟨i, hi, hni⟩
 refine aB fun K hK => ?_
 refine R0 ?_
 refine aJ (b := decide ((i : Int) < l.length)) rfl (fun hb => ?_) (fun hb => ?_)
 ·
  have hlt : i < l.length := by simpa using hb
  have hlt1 : i < m.length := by omega
  refine aG ?_
  refine T0 (hK _ _ _ ?_)
  clear hK K
  refine aB fun K hK => aH ?_
  refine aB fun K hK => QW ?_
  simp only [↓sP, sA, tyS, simprocAttr, Int.natCast_nonneg, Int.ofNat_lt, hlt, hlt1, aO hlt, aO hlt1]
  refine AX (hK _ _ _ ?_)
  clear hK K
  refine aJ (b := !(l[i] == m[i])) rfl (fun hb => ?_) (fun hb => ?_)
  ·
   refine R0 ?_
   refine aD (RT Tryz.results97 ?_)
   refine aC [] (.bool false) rfl ?_
   congr 1
   have : ¬ l = m := by rintro rfl; simp at hb
   simp [this]
  refine aG ?_
  refine T0 (hK _ _ _ ?_)
  clear hK K
  refine aM (by kernel_rfl) ?_
  refine TQ (bK i) ?_
  refine ⟨⟨i + 1, by omega, ?_⟩, fF, ?_⟩
  ·
   rw [List.take_succ_eq_append_getElem hlt, List.take_succ_eq_append_getElem hlt1, hni]
   simp at hb
   rw [hb]
  show l.length - (i + 1) < l.length - i
  omega
 refine aS (T3 ?_)
 clear hK K
 refine AX (hK _ _ _ ?_)
 clear hK K
 refine R0 ?_
 refine aD (RT Tryz.results97 ?_)
 refine aC [] (.bool true) rfl ?_
 have : l.length ≤ i := by simp at hb; omega
 rw [List.take_of_length_le this, List.take_of_length_le (by omega)] at hni
 simp [hni]
end Go.Proofs.YtenbfeemmpjdhaaGreatDoor

namespace Go.Proofs.YtenbfeemmpjdhaaGreatDoor
open Go Go.Hl Go.Pl
set_option maxRecDepth 10000

theorem bG9 (l : List aK) (w : aK) (hl : l.length < 2 ^ 40) : aW Tryz.prog 89 [.slc (l.map .str), .str w] (fun v => v = .slc ((lF l w).map .str)) := by
 refine FW Tryz.func89 ?_
 refine R0 ?_
 refine aB fun K hK => ?_
 refine aB fun K hK => aM (by kernel_rfl) ?_
 simp only [↓sP, sA, tyS, simprocAttr]
 refine fG (aN6 l w (by omega)) ⟨rfl, rfl, rfl, rfl⟩ ?_
 rintro v rfl
 refine AX (hK _ _ _ ?_)
 clear hK K
 refine aJ (b := l.contains w) rfl (fun hb => ?_) (fun hb => ?_)
 ·
  refine R0 ?_
  refine aD (RT Tryz.results89 ?_)
  refine aC [] (.slc (l.map .str)) ?_ ?_
  ·
   simp [HV.close, CV.denil, denilL_str]; rfl
  simp only [lF, hb, if_true]
 refine aG ?_
 refine T0 (hK _ _ _ ?_)
 clear hK K
 refine R0 ?_
 refine R0 ?_
 refine aB fun K hK => ?_
 refine aH ?_
 refine eH 5 0 9 1 rfl rfl rfl rfl ?_
 refine aT (α := {i : Nat // i ≤ l.length ∧ ∀ j (h : j < i) (h' : j < l.length), slt l[j] w = true}) (fun i => (fin [(0, .c (.slc (l.map .str))), (1, .c (.str w)), (5, .own 24 i.1), (6, .c (.int .i64 i.1))], fob [(24, .row 9 1 ((l.take i.1).map .str))])) 25 (fun i => l.length - i.1) ⟨0, by omega, fun j h => by omega⟩ (fF) ?_
 rintro ⟨i, hi, hni⟩
 have hti : (l.take i).length = i := by simp; omega
 refine aB fun K hK => ?_
 by_cases hlt : i < l.length
 ·
  refine aB fun K hK => Rg ?_
  have F := aI @Int.natCast_nonneg (aI @Int.ofNat_lt (aI hlt (nM hlt)))
  iterate 12 refine SF ?_
  refine T2 (hK _ _ _ ?_)
  clear hK K
  refine aJ (b := slt l[i] w) rfl (fun hb => ?_) (fun hb => ?_)
  ·
   refine aG ?_
   refine T0 (hK _ _ _ ?_)
   clear hK K
   refine aH ?_
   refine aB fun K hK => Rg ?_
   have F := aI @Int.natCast_nonneg (aI @Int.ofNat_lt (aI hlt (aI (nM hlt) (aI hti @List.length_append.{0}))))
   iterate 8 refine SF ?_
   refine T2 (hK _ _ _ ?_)
   clear hK K
   refine aM (by kernel_rfl) ?_
   refine TQ (bK i) ?_
   refine ⟨⟨i + 1, by omega, fun j h h' => ?_⟩, aQ (by omega) ?_ ?_, ?_⟩
   ·
    by_cases e : j = i
    ·
     subst e; exact hb
    exact hni j (by omega) h'
   ·
    simp [aX, upd_at, fin_at, HV.men]
   ·
    refine ⟨?_, by omega, trivial, trivial⟩
    simp only [List.take_succ_eq_append_getElem hlt, List.map_append]
    rfl
   show l.length - (i + 1) < l.length - i
   omega
  refine aS (T3 ?_)
  clear hK K
  refine AX (hK _ _ _ ?_)
  clear hK K
  refine aB fun K hK => DW [(0, [], []), (1, [], []), (2, [], []), (4, [2], []), (5, [2], []), (6, [2], []), (3, [], [4, 5, 6]), (7, [], []), (8, [], [])] [0, 0, 2, 7, 0, 0, 48, 127, 255] ?_
  iterate 9 refine W0 ?_ (e := fun _ h_ => by simp only [sH, ↓sP, sA, tyS, simprocAttr, hti, ← List.map_drop, ← List.map_take]; exact AX h_)
  refine T2 (hK _ _ _ ?_)
  clear hK K
  refine aD (RT Tryz.results89 ?_)
  refine aC [24] (.slc ((l.take i ++ w :: l.drop i).map .str)) ?_ ?_
  ·
   have : l.take (l.length - i) = l.take (l.length - i) := rfl
   simp [HV.close, upd_at, HV.norm, HV.toC, List.take_of_length_le]
  rw [aR1 (by assumption) hi hni (fun _ => hb)]
 refine aB fun K hK => Rg ?_
 have F := aI @Int.ofNat_lt hlt
 iterate 12 refine SF ?_
 refine T2 (hK _ _ _ ?_)
 clear hK K
 refine aJ (b := _) rfl (fun hb => ?_) (fun hb => ?_)
 ·
  cases hb
 refine aS (T3 ?_)
 clear hK K
 refine AX (hK _ _ _ ?_)
 clear hK K
 refine aB fun K hK => DW [(0, [], []), (1, [], []), (2, [], []), (4, [2], []), (5, [2], []), (6, [2], []), (3, [], [4, 5, 6]), (7, [], []), (8, [], [])] [0, 0, 2, 7, 0, 0, 48, 127, 255] ?_
 iterate 9 refine W0 ?_ (e := fun _ h_ => by simp only [sH, ↓sP, sA, tyS, simprocAttr, hti, ← List.map_drop, ← List.map_take]; exact AX h_)
 refine T2 (hK _ _ _ ?_)
 clear hK K
 refine aD (RT Tryz.results89 ?_)
 refine aC [24] (.slc ((l.take i ++ w :: l.drop i).map .str)) ?_ ?_
 ·
  simp [HV.close, upd_at, HV.norm, HV.toC, List.take_of_length_le]
 rw [aR1 (by assumption) hi hni (fun h => absurd h hlt)]

end Go.Proofs.YtenbfeemmpjdhaaGreatDoor

namespace Go.Proofs.YtenbfeemmpjdhaaGreatDoor
open Go Go.Hl Go.Pl
set_option maxRecDepth 10000
set_option maxHeartbeats 16000000
set_option linter.unusedSimpArgs false
set_option linter.unusedVariables false

theorem jX (lo n : Int) : aW Tryz.prog 31 [.int .i64 lo, .int .i64 n] (fun v => v = .bool (decide (lo ≤ n) && decide (n ≤ dX))) := by
  refine bS Tryz.func31 rfl (by kernel_rfl) (cS _) (Nat.le_of_ble_eq_true rfl) ?_
  refine R0 ?_
  refine aB fun K hK => Rg ?_
  iterate 4 refine S0 ?_
  refine aE 7 rfl (fun h1_7 => ?_) (fun h1_7 => ?_)
  · iterate 2 refine S0 ?_ (e := fun _ h_ => by simp only [sH, ↓sP, sA, tyS, simprocAttr, h1_7]; exact AX h_)
    have F := h1_7
    iterate 2 refine SF ?_
    refine T2 (hK _ _ _ ?_)
    clear hK K
    refine aD ?_
    simp only [cJ, Tryz.results31, cC, cI, bW, ↓sP, sA, tyS, simprocAttr]
    refine aC [] (.bool _) rfl ?_
    simp [h1_7, dX]
    all_goals first | rfl | simp_all
  · iterate 2 refine S0 ?_ (e := fun _ h_ => by simp only [sH, ↓sP, sA, tyS, simprocAttr, h1_7]; exact AX h_)
    have F := h1_7
    iterate 2 refine SF ?_
    refine T2 (hK _ _ _ ?_)
    clear hK K
    refine aD ?_
    simp only [cJ, Tryz.results31, cC, cI, bW, ↓sP, sA, tyS, simprocAttr]
    refine aC [] (.bool _) rfl ?_
    simp [h1_7, dX]
    all_goals first | rfl | simp_all


theorem uT (n : Int) : aW Tryz.prog 38 [.int .i64 n] (fun v => v = .bool (inN n)) := by
  refine bS Tryz.func38 rfl (by kernel_rfl) (cS _) (Nat.le_of_ble_eq_true rfl) ?_
  refine R0 ?_
  refine aB fun K hK => Rg ?_
  iterate 3 refine S0 ?_
  refine aE 4 rfl (fun h1_4 => ?_) (fun h1_4 => ?_)
  · iterate 2 refine S0 ?_ (e := fun _ h_ => by simp only [sH, ↓sP, sA, tyS, simprocAttr, h1_4]; exact AX h_)
    have F := h1_4
    iterate 2 refine SF ?_
    refine T2 (hK _ _ _ ?_)
    clear hK K
    refine aD ?_
    simp only [cJ, Tryz.results38, cC, cI, bW, ↓sP, sA, tyS, simprocAttr]
    refine aC [] (.bool _) rfl ?_
    simp [h1_4, inN, dX]
    all_goals first | rfl | simp_all
  · iterate 2 refine S0 ?_ (e := fun _ h_ => by simp only [sH, ↓sP, sA, tyS, simprocAttr, h1_4]; exact AX h_)
    have F := h1_4
    iterate 2 refine SF ?_
    refine T2 (hK _ _ _ ?_)
    clear hK K
    refine aD ?_
    simp only [cJ, Tryz.results38, cC, cI, bW, ↓sP, sA, tyS, simprocAttr]
    refine aC [] (.bool _) rfl ?_
    simp [h1_4, inN, dX]
    all_goals first | rfl | simp_all


theorem aX5 (n : Int) : aW Tryz.prog 113 [.int .i64 n] (fun v => v = .bool (decide (0 ≤ n) && decide (n ≤ 6))) := by
  refine bS Tryz.func113 rfl (by kernel_rfl) (cS _) (Nat.le_of_ble_eq_true rfl) ?_
  refine R0 ?_
  refine aB fun K hK => Rg ?_
  iterate 3 refine S0 ?_
  refine aE 4 rfl (fun h1_4 => ?_) (fun h1_4 => ?_)
  · iterate 2 refine S0 ?_ (e := fun _ h_ => by simp only [sH, ↓sP, sA, tyS, simprocAttr, h1_4]; exact AX h_)
    have F := h1_4
    iterate 2 refine SF ?_
    refine T2 (hK _ _ _ ?_)
    clear hK K
    refine aD ?_
    simp only [cJ, Tryz.results113, cC, cI, bW, ↓sP, sA, tyS, simprocAttr]
    refine aC [] (.bool _) rfl ?_
    simp [h1_4]
    all_goals first | rfl | simp_all
  · iterate 2 refine S0 ?_ (e := fun _ h_ => by simp only [sH, ↓sP, sA, tyS, simprocAttr, h1_4]; exact AX h_)
    have F := h1_4
    iterate 2 refine SF ?_
    refine T2 (hK _ _ _ ?_)
    clear hK K
    refine aD ?_
    simp only [cJ, Tryz.results113, cC, cI, bW, ↓sP, sA, tyS, simprocAttr]
    refine aC [] (.bool _) rfl ?_
    simp [h1_4]
    all_goals first | rfl | simp_all


theorem aX6 (p : Pk) : aW Tryz.prog 78 [p.cv] (fun v => v = .bool (decide (0 ≤ p.h) && decide (p.h ≤ 6))) := by
  refine bS Tryz.func78 rfl (by kernel_rfl) (cS _) (Nat.le_of_ble_eq_true rfl) ?_
  refine R0 ?_
  refine aB fun K hK => Rg ?_
  iterate 2 refine S0 ?_
  refine aZ (g := none) rfl rfl fun K' hK' => ?_
  simp only [sH, ↓sP, sA, tyS, simprocAttr]
  refine fG (args := [_]) (aX5 p.h) ⟨rfl, rfl, rfl, rfl⟩ ?_
  rintro u rfl
  refine AX (hK' _ _ ?_)
  clear hK' K'
  refine S0 ?_
  refine T2 (hK _ _ _ ?_)
  clear hK K
  refine aD ?_
  simp only [cJ, Tryz.results78, cC, cI, bW, ↓sP, sA, tyS, simprocAttr]
  exact aC [] (.bool _) rfl rfl


theorem aN7 (p : Pk) : aW Tryz.prog 85 [p.cv] (fun v => v = .bool (decide (0 ≤ p.h) && decide (p.h ≤ 6))) := by
  refine bS Tryz.func85 rfl (by kernel_rfl) (cS _) (Nat.le_of_ble_eq_true rfl) ?_
  refine R0 ?_
  refine aB fun K hK => Rg ?_
  iterate 4 refine S0 ?_
  refine aE 5 rfl (fun h1_5 => ?_) (fun h1_5 => ?_)
  · iterate 3 refine S0 ?_ (e := fun _ h_ => by simp only [sH, ↓sP, sA, tyS, simprocAttr, h1_5]; exact AX h_)
    have F := h1_5
    iterate 2 refine SF ?_
    refine T2 (hK _ _ _ ?_)
    clear hK K
    refine aD ?_
    simp only [cJ, Tryz.results85, cC, cI, bW, ↓sP, sA, tyS, simprocAttr]
    refine aC [] (.bool _) rfl ?_
    simp [h1_5]
    all_goals first | rfl | simp_all
  · iterate 3 refine S0 ?_ (e := fun _ h_ => by simp only [sH, ↓sP, sA, tyS, simprocAttr, h1_5]; exact AX h_)
    have F := h1_5
    iterate 2 refine SF ?_
    refine T2 (hK _ _ _ ?_)
    clear hK K
    refine aD ?_
    simp only [cJ, Tryz.results85, cC, cI, bW, ↓sP, sA, tyS, simprocAttr]
    refine aC [] (.bool _) rfl ?_
    simp [h1_5]
    all_goals first | rfl | simp_all


theorem aS6 (r : Rt) (w : aK) (hl : r.q.length < 2 ^ 40) : aW Tryz.prog 35 [r.cv, .str w] (fun v => v = .int .i64 (oV r.q w)) := by
  refine bS Tryz.func35 rfl (by kernel_rfl) (cS _) (Nat.le_of_ble_eq_true rfl) ?_
  refine R0 ?_
  refine aB fun K hK => ?_
  refine aB fun K hK => Rg ?_
  iterate 4 refine S0 ?_
  refine T2 (hK _ _ _ ?_)
  clear hK K
  refine aH ?_
  refine aT (α := {i : Nat // i ≤ r.q.length ∧ ∀ x ∈ r.q.take i, (x.r == w) = false}) (fun i => (fin [(1, .c (.str w)), (8, .c (.slc (r.q.map Qt.cv))), (9, .c (.int .i64 r.q.length)), (10, .c (.int .i64 i.1))], fob [])) 100 (fun i => r.q.length - i.1) ⟨0, by omega, by simp⟩ (fF) ?_
  rintro ⟨i, hi, h0⟩
  refine R0 ?_
  refine aB fun K hK => ?_
  refine aJ (b := decide ((i : Int) < r.q.length)) rfl (fun hb => ?_) (fun hb => ?_)
  · have hlt : i < r.q.length := by simpa using hb
    refine aG ?_
    refine T0 (hK _ _ _ ?_)
    clear hK K
    refine aB fun K hK => ?_
    refine aH ?_
    refine aB fun K hK => Rg ?_
    have F := aI @Int.natCast_nonneg (aI @Int.ofNat_lt (aI hlt (nM hlt)))
    iterate 4 refine SF ?_
    refine T2 (hK _ _ _ ?_)
    clear hK K
    refine aB fun K hK => Rg ?_
    iterate 4 refine S0 ?_
    refine T2 (hK _ _ _ ?_)
    clear hK K
    refine aJ (b := r.q[i].r == w) rfl (fun hb => ?_) (fun hb => ?_)
    · refine R0 ?_
      refine aD ?_
      simp only [cJ, Tryz.results35, cC, cI, bW, ↓sP, sA, tyS, simprocAttr]
      exact aC [] (.int .i64 r.q[i].n) rfl (by rw [aE5 hlt hb h0])
    · refine aG ?_
      refine T0 (hK _ _ _ ?_)
      clear hK K
      refine aM (by kernel_rfl) ?_
      refine TQ (bK i) ?_
      refine ⟨⟨i + 1, hlt, dO (p := fun x => x.r == w) hlt hb h0⟩, fF, ?_⟩
      show r.q.length - (i + 1) < r.q.length - i
      omega
  · refine aS ?_
    simp only [↓sP, sA, tyS, simprocAttr]
    clear hK K
    refine AX (hK _ _ _ ?_)
    clear hK K
    refine R0 ?_
    refine aD ?_
    simp only [cJ, Tryz.results35, cC, cI, bW, ↓sP, sA, tyS, simprocAttr]
    have hei : i = r.q.length := by simp at hb; omega
    subst hei
    exact aC [] (.int .i64 0) rfl (by rw [xH (by simpa using h0)])


theorem aG6 (r : Rt) (w : aK) (hl : r.q.length < 2 ^ 40) : aW Tryz.prog 43 [r.cv, .str w] (fun v => v = .int .i64 (oV r.q w)) := by
  refine bS Tryz.func43 rfl (by kernel_rfl) (cS _) (Nat.le_of_ble_eq_true rfl) ?_
  refine R0 ?_
  refine aB fun K hK => ?_
  refine R0 ?_
  refine aH ?_
  refine aT (α := {i : Nat // i ≤ r.q.length ∧ ∀ x ∈ r.q.take i, (x.r == w) = false}) (fun i => (fin [(1, .c (.str w)), (2, .ptr 0 0), (5, .c (.int .i64 i.1))], fob [(0, .box 26 (.c r.cv))])) 100 (fun i => r.q.length - i.1) ⟨0, by omega, by simp⟩ (fF) ?_
  rintro ⟨i, hi, h0⟩
  refine aB fun K hK => ?_
  refine aB fun K hK => Rg ?_
  iterate 5 refine S0 ?_
  refine T2 (hK _ _ _ ?_)
  clear hK K
  refine aJ (b := decide ((i : Int) < r.q.length)) rfl (fun hb => ?_) (fun hb => ?_)
  · have hlt : i < r.q.length := by simpa using hb
    refine aG ?_
    refine T0 (hK _ _ _ ?_)
    clear hK K
    refine aB fun K hK => ?_
    refine aH ?_
    refine aB fun K hK => Rg ?_
    have F := aI @Int.natCast_nonneg (aI @Int.ofNat_lt (aI hlt (nM hlt)))
    iterate 8 refine SF ?_
    refine T2 (hK _ _ _ ?_)
    clear hK K
    refine aJ (b := r.q[i].r == w) rfl (fun hb => ?_) (fun hb => ?_)
    · refine aB fun K hK => Rg ?_
      iterate 7 refine SF ?_
      refine T2 (hK _ _ _ ?_)
      clear hK K
      refine aD ?_
      simp only [cJ, Tryz.results43, cC, cI, bW, ↓sP, sA, tyS, simprocAttr]
      exact aC [] (.int .i64 r.q[i].n) rfl (by rw [aE5 hlt hb h0])
    · refine aG ?_
      refine T0 (hK _ _ _ ?_)
      clear hK K
      refine aM (by kernel_rfl) ?_
      refine TQ (bK i) ?_
      refine ⟨⟨i + 1, hlt, dO (p := fun x => x.r == w) hlt hb h0⟩, fF, ?_⟩
      show r.q.length - (i + 1) < r.q.length - i
      omega
  · refine aS ?_
    simp only [↓sP, sA, tyS, simprocAttr]
    clear hK K
    refine AX (hK _ _ _ ?_)
    clear hK K
    refine R0 ?_
    refine aD ?_
    simp only [cJ, Tryz.results43, cC, cI, bW, ↓sP, sA, tyS, simprocAttr]
    have hei : i = r.q.length := by simp at hb; omega
    subst hei
    exact aC [] (.int .i64 0) rfl (by rw [xH (by simpa using h0)])


theorem uU (r : Rt) (d : Dig) (hl : r.x.length < 2 ^ 40) : cW Tryz.prog 93 [r.cv, dg d] (fun u v => u = .int .i64 (iJ r.x d) ∧ v = .bool (iU r.x d)) := by
  refine bS Tryz.func93 rfl (by kernel_rfl) (cS _) (Nat.le_of_ble_eq_true rfl) ?_
  refine aB fun K hK => Rg ?_
  iterate 4 refine S0 ?_
  refine T2 (hK _ _ _ ?_)
  clear hK K
  refine aB fun K hK => ?_
  refine aB fun K hK => Rg ?_
  iterate 4 refine S0 ?_
  refine T2 (hK _ _ _ ?_)
  clear hK K
  refine aH ?_
  refine aT (α := {i : Nat // i ≤ r.x.length ∧ ∀ x ∈ r.x.take i, (x.k == d) = false}) (fun i => (fin [(3, .ptr 4 0), (9, .c (.slc (r.x.map Rv.cv))), (10, .c (.int .i64 r.x.length)), (11, .c (.int .i64 i.1))], fob [(4, .box 49 (.c (dg d)))])) 100 (fun i => r.x.length - i.1) ⟨0, by omega, by simp⟩ (fF) ?_
  rintro ⟨i, hi, h0⟩
  refine R0 ?_
  refine aB fun K hK => ?_
  refine aJ (b := decide ((i : Int) < r.x.length)) rfl (fun hb => ?_) (fun hb => ?_)
  · have hlt : i < r.x.length := by simpa using hb
    refine aG ?_
    refine T0 (hK _ _ _ ?_)
    clear hK K
    refine aB fun K hK => ?_
    refine aH ?_
    refine aB fun K hK => Rg ?_
    have F := aI @Int.natCast_nonneg (aI @Int.ofNat_lt (aI hlt (nM hlt)))
    iterate 4 refine SF ?_
    refine T2 (hK _ _ _ ?_)
    clear hK K
    refine aB fun K hK => Rg ?_
    iterate 4 refine S0 ?_
    refine T2 (hK _ _ _ ?_)
    clear hK K
    refine aJ (b := r.x[i].k == d) rfl (fun hb => ?_) (fun hb => ?_)
    · refine aB fun K hK => Rg ?_
      iterate 4 refine S0 ?_
      refine T2 (hK _ _ _ ?_)
      clear hK K
      refine aD ?_
      simp only [cJ, Tryz.results93, cC, cI, bW, ↓sP, sA, tyS, simprocAttr]
      exact aL [] (.int .i64 r.x[i].t) (.bool true) rfl ⟨by unfold iJ; rw [pB hlt hb h0]; rfl, by unfold iU; rw [pB hlt hb h0]; rfl⟩
    · refine aG ?_
      refine T0 (hK _ _ _ ?_)
      clear hK K
      refine aM (by kernel_rfl) ?_
      refine TQ (bK i) ?_
      refine ⟨⟨i + 1, hlt, dO (p := fun x => x.k == d) hlt hb h0⟩, fF, ?_⟩
      show r.x.length - (i + 1) < r.x.length - i
      omega
  · refine aS ?_
    simp only [↓sP, sA, tyS, simprocAttr]
    clear hK K
    refine AX (hK _ _ _ ?_)
    clear hK K
    refine R0 ?_
    refine aD ?_
    simp only [cJ, Tryz.results93, cC, cI, bW, ↓sP, sA, tyS, simprocAttr]
    have hei : i = r.x.length := by simp at hb; omega
    subst hei
    have hm := aE6 (l := r.x) (d := d) (by simpa using h0)
    exact aL [] (.int .i64 0) (.bool false) rfl ⟨by unfold iJ; rw [hm]; rfl, by unfold iU; rw [hm]; rfl⟩


theorem bO9 (l : List Dig) (d : Dig) (hl : l.length < 2 ^ 40) : aW Tryz.prog 92 [.slc (l.map dg), dg d] (fun v => v = .bool (l.contains d)) := by
  refine bS Tryz.func92 rfl (by kernel_rfl) (cS _) (Nat.le_of_ble_eq_true rfl) ?_
  refine R0 ?_
  refine aB fun K hK => ?_
  refine R0 ?_
  refine aH ?_
  refine aT (α := {i : Nat // i ≤ l.length ∧ ∀ x ∈ l.take i, (x == d) = false}) (fun i => (fin [(0, .c (.slc (l.map dg))), (3, .ptr 0 0), (5, .c (.int .i64 i.1))], fob [(0, .box 49 (.c (dg d)))])) 100 (fun i => l.length - i.1) ⟨0, by omega, by simp⟩ (fF) ?_
  rintro ⟨i, hi, h0⟩
  refine aB fun K hK => ?_
  refine aB fun K hK => Rg ?_
  iterate 4 refine S0 ?_
  refine T2 (hK _ _ _ ?_)
  clear hK K
  refine aJ (b := decide ((i : Int) < l.length)) rfl (fun hb => ?_) (fun hb => ?_)
  · have hlt : i < l.length := by simpa using hb
    refine aG ?_
    refine T0 (hK _ _ _ ?_)
    clear hK K
    refine aB fun K hK => ?_
    refine aH ?_
    refine aB fun K hK => lW mixed (by kernel_rfl) (by kernel_rfl) (by kernel_rfl) ?_
    simp only [sR, simprocAttr]
    have F := aI @Int.natCast_nonneg (aI @Int.ofNat_lt (aI hlt (nM hlt)))
    iterate 6 refine SF ?_
    refine T2 (hK _ _ _ ?_)
    clear hK K
    refine aJ (b := l[i] == d) rfl (fun hb => ?_) (fun hb => ?_)
    · refine R0 ?_
      refine aD ?_
      simp only [cJ, Tryz.results92, cC, cI, bW, ↓sP, sA, tyS, simprocAttr]
      exact aC [] (.bool true) rfl (by have := List.getElem_mem hlt; have e : l[i] = d := (eq_of_beq hb); rw [e] at this; simp [this])
    · refine aG ?_
      refine T0 (hK _ _ _ ?_)
      clear hK K
      refine aM (by kernel_rfl) ?_
      refine TQ (bK i) ?_
      refine ⟨⟨i + 1, hlt, dO (p := fun x => x == d) hlt hb h0⟩, fF, ?_⟩
      show l.length - (i + 1) < l.length - i
      omega
  · refine aS ?_
    simp only [↓sP, sA, tyS, simprocAttr]
    clear hK K
    refine AX (hK _ _ _ ?_)
    clear hK K
    refine R0 ?_
    refine aD ?_
    simp only [cJ, Tryz.results92, cC, cI, bW, ↓sP, sA, tyS, simprocAttr]
    have hei : i = l.length := by simp at hb; omega
    subst hei
    exact aC [] (.bool false) rfl (by rw [List.take_length] at h0; have : d ∉ l := (fun hm => by have := h0 d hm; simp at this); simp [this])


theorem pM (a b : Dig) : aW Tryz.prog 41 [dg a, dg b] (fun v => v = .bool (dlt a b)) := by
  refine bS Tryz.func41 rfl (by kernel_rfl) (cS _) (Nat.le_of_ble_eq_true rfl) ?_
  refine R0 ?_
  refine aB fun K hK => ?_
  refine R0 ?_
  refine aH ?_
  refine aT (α := {i : Nat // i ≤ 32 ∧ a.1.take i = b.1.take i}) (fun i => (fin [(2, .ptr 0 0), (3, .ptr 4 0), (5, .c (.int .i64 i.1))], fob [(0, .box 49 (.c (dg a))), (4, .box 49 (.c (dg b)))])) 100 (fun i => 32 - i.1) ⟨0, by omega, by simp⟩ (fF) ?_
  rintro ⟨i, hi, h0⟩
  refine aB fun K hK => ?_
  refine R0 ?_
  refine aJ (b := decide ((i : Int) < 32)) rfl (fun hb => ?_) (fun hb => ?_)
  · have hlt : i < 32 := by simp at hb; omega
    have hlt' : (i : Int) < 32 := by omega
    have ha : i < a.1.length := by rw [a.2]; exact hlt
    have hb' : i < b.1.length := by rw [b.2]; exact hlt
    refine aG ?_
    refine T0 (hK _ _ _ ?_)
    clear hK K
    refine aB fun K hK => ?_
    refine aH ?_
    refine aB fun K hK => lW mixed (by kernel_rfl) (by kernel_rfl) (by kernel_rfl) ?_
    simp only [sR, simprocAttr]
    iterate 7 refine S0 ?_ (e := fun _ h_ => by simp only [sH, ↓sP, sA, tyS, simprocAttr, Int.natCast_nonneg, hlt', aL8 hlt, Nat.mul_one, u8]; exact AX h_)
    refine T2 (hK _ _ _ ?_)
    clear hK K
    refine aJ (b := (((a.1[i]).toNat : Int) != ((b.1[i]).toNat : Int))) rfl (fun hb => ?_) (fun hb => ?_)
    · refine aB fun K hK => lW mixed (by kernel_rfl) (by kernel_rfl) (by kernel_rfl) ?_
      simp only [sR, simprocAttr]
      iterate 8 refine S0 ?_ (e := fun _ h_ => by simp only [sH, ↓sP, sA, tyS, simprocAttr, Int.natCast_nonneg, hlt', aL8 hlt, Nat.mul_one, u8]; exact AX h_)
      refine T2 (hK _ _ _ ?_)
      clear hK K
      refine aD ?_
      simp only [cJ, Tryz.results41, cC, cI, bW, ↓sP, sA, tyS, simprocAttr]
      rw [bU3] at hb
      exact aC [] (.bool _) rfl (by rw [cB4, bW7 hlt h0 (by simpa using hb)])
    · refine aG ?_
      refine T0 (hK _ _ _ ?_)
      clear hK K
      refine aM (by kernel_rfl) ?_
      refine TQ (bK i) ?_
      rw [bU3] at hb
      refine ⟨⟨i + 1, hlt, ?_⟩, fF, ?_⟩
      · rw [List.take_succ_eq_append_getElem ha, List.take_succ_eq_append_getElem hb', h0]
        have : a.1[i] = b.1[i] := by simpa using hb
        rw [this]
      · show 32 - (i + 1) < 32 - i
        omega
  · refine aS ?_
    simp only [↓sP, sA, tyS, simprocAttr]
    clear hK K
    refine AX (hK _ _ _ ?_)
    clear hK K
    refine R0 ?_
    refine aD ?_
    simp only [cJ, Tryz.results41, cC, cI, bW, ↓sP, sA, tyS, simprocAttr]
    have hei : i = 32 := by simp at hb; omega
    subst hei
    exact aC [] (.bool false) rfl (by rw [bE2 h0])

end Go.Proofs.YtenbfeemmpjdhaaGreatDoor

namespace Go.Proofs.YtenbfeemmpjdhaaGreatDoor
open Go Go.Hl Go.Pl
set_option maxRecDepth 10000
set_option maxHeartbeats 16000000

theorem bH0 (l : List aK) (w : aK) (hl : l.length < 2 ^ 40) : aW Tryz.prog 116 [.slc (l.map .str), .str w] (fun v => v = .int .i64 (zN (fun x => w == x) l)) := by
 refine FW Tryz.func116 ?_
 refine R0 ?_
 refine aB fun K hK => ?_
 refine R0 ?_
 refine aH ?_
 refine aT (α := {i : Nat // i ≤ l.length ∧ ∀ x ∈ l.take i, (w == x) = false}) (fun i => (fin [(0, .c (.slc (l.map .str))), (1, .c (.str w)), (7, .c (.int .i64 l.length)), (8, .c (.int .i64 i.1))], fob [])) 100 (fun i => l.length - i.1) ⟨0, by omega, by simp⟩ (fF) ?_
 rintro ⟨i, hi, h0⟩
 refine R0 ?_
 refine aB fun K hK => ?_
 refine aJ (b := decide ((i : Int) < l.length)) rfl (fun hb => ?_) (fun hb => ?_)
 ·
  have hlt : i < l.length := by simpa using hb
  refine aG ?_
  refine T0 (hK _ _ _ ?_)
  clear hK K
  refine aB fun K hK => ?_
  refine aH ?_
  refine R0 ?_
  refine aB fun K hK => Rg ?_
  have F := aI @Int.natCast_nonneg (aI @Int.ofNat_lt (aI hlt (nM hlt)))
  iterate 6 refine SF ?_
  refine T2 (hK _ _ _ ?_)
  clear hK K
  refine aJ (b := w == l[i]) rfl (fun hb => ?_) (fun hb => ?_)
  ·
   refine R0 ?_
   refine aD (RT Tryz.results116 ?_)
   exact aC [] (.int .i64 i) rfl (by rw [aD6 (p := fun x => w == x) hlt hb h0])
  refine aG ?_
  refine T0 (hK _ _ _ ?_)
  clear hK K
  refine aM (by kernel_rfl) ?_
  refine TQ (bK i) ?_
  refine ⟨⟨i + 1, hlt, dO (p := fun x => w == x) hlt hb h0⟩, fF, ?_⟩
  show l.length - (i + 1) < l.length - i
  omega
 refine aS (T3 ?_)
 clear hK K
 refine AX (hK _ _ _ ?_)
 clear hK K
 refine R0 ?_
 refine aD (RT Tryz.results116 ?_)
 have hei : i = l.length := by simp at hb; omega
 subst hei
 exact aC [] (.int .i64 (-1)) rfl (by rw [xD (p := fun x => w == x) (by simpa using h0)])


theorem bP0 (l : List aK) (w : aK) (hl : l.length < 2 ^ 40) : aW Tryz.prog 82 [.slc (l.map .str), .str w] (fun v => v = .bool (l.contains w)) := by
 refine FW Tryz.func82 ?_
 refine R0 ?_
 refine aB fun K hK => Rg ?_
 iterate 2 refine S0 ?_
 refine HS rfl rfl fun K' hK' => T5 ?_
 refine C2 (bH0 l w hl) ?_
 rintro u rfl
 refine AX (hK' _ _ ?_)
 clear hK' K'
 refine HS rfl rfl fun K' hK' => T5 ?_
 rw [pC l w]
 refine AX (hK' _ _ ?_)
 clear hK' K'
 refine S0 ?_
 refine T2 (hK _ _ _ ?_)
 clear hK K
 refine aD (RT Tryz.results82 ?_)
 exact aC [] (.bool _) rfl rfl


theorem aX7 (l : List Dig) (d : Dig) (hl : l.length < 2 ^ 40) : aW Tryz.prog 151 [.slc (l.map dg), dg d] (fun v => v = .int .i64 (zN (fun x => d == x) l)) := by
 refine FW Tryz.func151 ?_
 refine R0 ?_
 refine aB fun K hK => ?_
 refine R0 ?_
 refine aH ?_
 refine aT (α := {i : Nat // i ≤ l.length ∧ ∀ x ∈ l.take i, (d == x) = false}) (fun i => (fin [(0, .c (.slc (l.map dg))), (3, .ptr 0 0), (7, .c (.int .i64 l.length)), (8, .c (.int .i64 i.1))], fob [(0, .box 49 (.c (dg d)))])) 100 (fun i => l.length - i.1) ⟨0, by omega, by simp⟩ (fF) ?_
 rintro ⟨i, hi, h0⟩
 refine R0 ?_
 refine aB fun K hK => ?_
 refine aJ (b := decide ((i : Int) < l.length)) rfl (fun hb => ?_) (fun hb => ?_)
 ·
  have hlt : i < l.length := by simpa using hb
  refine aG ?_
  refine T0 (hK _ _ _ ?_)
  clear hK K
  refine aB fun K hK => ?_
  refine aH ?_
  refine R0 ?_
  refine aB fun K hK => QR ?_
  have F := aI @Int.natCast_nonneg (aI @Int.ofNat_lt (aI hlt (nM hlt)))
  iterate 6 refine SF ?_
  refine T2 (hK _ _ _ ?_)
  clear hK K
  refine aJ (b := d == l[i]) rfl (fun hb => ?_) (fun hb => ?_)
  ·
   refine R0 ?_
   refine aD (RT Tryz.results151 ?_)
   exact aC [] (.int .i64 i) rfl (by rw [aD6 (p := fun x => d == x) hlt hb h0])
  refine aG ?_
  refine T0 (hK _ _ _ ?_)
  clear hK K
  refine aM (by kernel_rfl) ?_
  refine TQ (bK i) ?_
  refine ⟨⟨i + 1, hlt, dO (p := fun x => d == x) hlt hb h0⟩, fF, ?_⟩
  show l.length - (i + 1) < l.length - i
  omega
 refine aS (T3 ?_)
 clear hK K
 refine AX (hK _ _ _ ?_)
 clear hK K
 refine R0 ?_
 refine aD (RT Tryz.results151 ?_)
 have hei : i = l.length := by simp at hb; omega
 subst hei
 exact aC [] (.int .i64 (-1)) rfl (by rw [xD (p := fun x => d == x) (by simpa using h0)])


theorem bH1 (l : List Dig) (d : Dig) (hl : l.length < 2 ^ 40) : aW Tryz.prog 122 [.slc (l.map dg), dg d] (fun v => v = .bool (l.contains d)) := by
 refine FW Tryz.func122 ?_
 refine R0 ?_
 refine aB fun K hK => Rg ?_
 iterate 2 refine S0 ?_
 refine HS rfl rfl fun K' hK' => T5 ?_
 refine C2 (aX7 l d hl) ?_
 rintro u rfl
 refine AX (hK' _ _ ?_)
 clear hK' K'
 refine HS rfl rfl fun K' hK' => T5 ?_
 rw [pC l d]
 refine AX (hK' _ _ ?_)
 clear hK' K'
 refine S0 ?_
 refine T2 (hK _ _ _ ?_)
 clear hK K
 refine aD (RT Tryz.results122 ?_)
 exact aC [] (.bool _) rfl rfl


theorem aX8 : aW Tryz.prog 91 [] (fun v => v = .slc (owners4.map .str)) := by
 refine FW Tryz.func91 ?_
 refine R0 ?_
 refine R0 ?_
 refine aD (RT Tryz.results91 ?_)
 exact aC [4] _ rfl rfl


theorem uV : aW Tryz.prog 48 [] (fun v => v = .slc (roles10.map .str)) := by
 refine FW Tryz.func48 ?_
 refine R0 ?_
 refine R0 ?_
 refine aD (RT Tryz.results48 ?_)
 exact aC [4] _ rfl rfl


theorem aG7 (i : Nat) (hi : i < 2 ^ 40) : aW Tryz.prog 51 [.int .i64 i] (fun v => v = .str (kY i)) := by
 have h4 : i % 4 < owners4.length := Nat.mod_lt _ (by decide)
 have hm : (i : Int).tmod 4 = ((i % 4 : Nat) : Int) := rfl
 refine FW Tryz.func51 ?_
 refine R0 ?_
 refine aB fun K hK => Rg ?_
 have F := aI hm (aI @Int.natCast_nonneg (aI @Int.ofNat_lt (aI h4 (nM h4))))
 refine HS rfl rfl fun K' hK' => T6 ?_
 refine C0 aX8 ?_
 rintro u rfl
 refine AX (hK' _ _ ?_)
 clear hK' K'
 iterate 5 refine SF ?_
 refine T2 (hK _ _ _ ?_)
 clear hK K
 refine aD (RT Tryz.results51 ?_)
 exact aC [] (.str owners4[i % 4]) rfl (by unfold kY; rw [List.getD_eq_getElem?_getD, List.getElem?_eq_getElem h4]; rfl)


theorem zZ (s : aK) (hl : s.length < 2 ^ 63) : aW Tryz.prog 77 [.str s] (fun v => v = .bool (dT s)) := by
 refine FW Tryz.func77 ?_
 refine R0 ?_
 refine aB fun K hK => ?_
 refine aB fun K hK => Rg ?_
 iterate 4 refine S0 ?_
 refine aE 7 rfl (fun h1_7 => ?_) (fun h1_7 => ?_)
 ·
  have F := h1_7
  iterate 4 refine SF ?_
  refine T2 (hK _ _ _ ?_)
  clear hK K
  refine CT rfl ?_
  refine R0 ?_
  refine aD (RT Tryz.results77 ?_)
  exact aC [] (.bool false) rfl (by rw [xI (by simp at h1_7; omega)])
 have F := h1_7
 iterate 4 refine SF ?_
 refine T2 (hK _ _ _ ?_)
 clear hK K
 refine aJ (b := _) rfl (fun hb => ?_) (fun hb => ?_)
 ·
  refine R0 ?_
  refine aD (RT Tryz.results77 ?_)
  exact aC [] (.bool false) rfl (by rw [xI (by simp at hb; omega)])
 refine aG ?_
 refine T0 (hK _ _ _ ?_)
 clear hK K
 refine aB fun K hK => ?_
 refine R0 ?_
 refine aH ?_
 have hlen : 1 ≤ s.length ∧ s.length ≤ 64 := by simp at h1_7 hb; omega
 refine aT (α := {i : Nat // i ≤ s.length ∧ ∀ j (_ : j < i) (h : j < s.length), okc j s[j] = true}) (fun i => (fin [(0, .c (.str s)), (3, .c (.int .i64 i.1))], fob [])) 100 (fun i => s.length - i.1) ⟨0, by omega, fun j h => by omega⟩ (fF) ?_
 clear hb
 rintro ⟨i, hi, h0⟩
 refine aB fun K hK => ?_
 refine aB fun K hK => Rg ?_
 iterate 4 refine SF ?_
 refine T2 (hK _ _ _ ?_)
 clear hK K
 refine aJ (b := decide ((i : Int) < s.length)) rfl (fun hb => ?_) (fun hb => ?_)
 ·
  have hlt : i < s.length := by simpa using hb
  have hgd : s.getD i 0 = s[i] := by simp [hlt]
  refine aG ?_
  refine T0 (hK _ _ _ ?_)
  clear hK K
  refine aB fun K hK => ?_
  refine aH ?_
  refine aB fun K hK => Rg ?_
  iterate 4 refine S0 ?_ (e := fun _ h_ => by simp only [sH, ↓sP, sA, tyS, simprocAttr, Int.natCast_nonneg, Int.ofNat_lt, hlt, hgd, h1_7]; exact AX h_)
  refine T2 (hK _ _ _ ?_)
  clear hK K
  refine aB fun K hK => ?_
  refine aB fun K hK => ?_
  have key : ∀ (b : Bool) fr ob nx, b = okc i s[i] → Fits 0 fr ob (fin [(0, .c (.str s)), (3, .c (.int .i64 i)), (51, .c (.bool b))]) (fob []) 600 → K fr ob nx := by
   rintro b fr ob nx rfl hf
   refine hK _ _ _ (bE hf ?_)
   clear hf hK K
   refine aJ (b := okc i s[i]) rfl (fun hb => ?_) (fun hb => ?_)
   ·
    refine aS (T3 ?_)
    clear hK K
    refine AX (hK _ _ _ ?_)
    clear hK K
    refine aM (by kernel_rfl) ?_
    refine TQ (bK i) ?_
    refine ⟨⟨i + 1, hlt, aV7 hlt hb h0⟩, fF, ?_⟩
    show s.length - (i + 1) < s.length - i
    omega
   refine aG ?_
   refine T0 (hK _ _ _ ?_)
   clear hK K
   refine R0 ?_
   refine aD (RT Tryz.results77 ?_)
   exact aC [] (.bool false) rfl (by rw [xJ hlt hb])
  refine Rg ?_
  iterate 3 refine SF ?_
  refine aE 23 rfl (fun h7_23 => ?_) (fun h7_23 => ?_)
  ·
   have F := aI h1_7 h7_23
   iterate 4 refine SF ?_
   refine aE 26 rfl (fun h7_26 => ?_) (fun h7_26 => ?_)
   ·
    have F := aI h1_7 (aI h7_23 h7_26)
    iterate 23 refine SF ?_
    refine T4 ?_
    exact key true _ _ _ (by simp only [okc, alZ, puZ, h1_7, h7_23, h7_26, Bool.and_true, Bool.and_false, Bool.true_and, Bool.false_and, Bool.or_true, Bool.true_or, Bool.false_or, Bool.or_false, Bool.and_self, Bool.or_self]) (fF)
   have F := aI h1_7 (aI h7_23 h7_26)
   iterate 3 refine SF ?_
   refine aE 30 rfl (fun h7_30 => ?_) (fun h7_30 => ?_)
   ·
    have F := aI h1_7 (aI h7_23 (aI h7_26 h7_30))
    iterate 5 refine SF ?_
    refine aE 33 rfl (fun h7_33 => ?_) (fun h7_33 => ?_)
    ·
     have F := aI h1_7 (aI h7_23 (aI h7_26 (aI h7_30 h7_33)))
     iterate 15 refine SF ?_
     refine T4 ?_
     exact key true _ _ _ (by simp only [okc, alZ, puZ, h1_7, h7_23, h7_26, h7_30, h7_33, Bool.and_true, Bool.and_false, Bool.true_and, Bool.false_and, Bool.or_true, Bool.true_or, Bool.false_or, Bool.or_false, Bool.and_self, Bool.or_self]) (fF)
    have F := aI h1_7 (aI h7_23 (aI h7_26 (aI h7_30 h7_33)))
    iterate 3 refine SF ?_
    refine aE 38 rfl (fun h7_38 => ?_) (fun h7_38 => ?_)
    ·
     have F := aI h1_7 (aI h7_23 (aI h7_26 (aI h7_30 (aI h7_33 h7_38))))
     iterate 3 refine SF ?_
     refine aE 41 rfl (fun h7_41 => ?_) (fun h7_41 => ?_)
     ·
      have F := aI h1_7 (aI h7_23 (aI h7_26 (aI h7_30 (aI h7_33 (aI h7_38 h7_41)))))
      iterate 9 refine SF ?_
      refine T4 ?_
      exact key true _ _ _ (by simp only [okc, alZ, puZ, h1_7, h7_23, h7_26, h7_30, h7_33, h7_38, h7_41, Bool.and_true, Bool.and_false, Bool.true_and, Bool.false_and, Bool.or_true, Bool.true_or, Bool.false_or, Bool.or_false, Bool.and_self, Bool.or_self]) (fF)
     have F := aI h1_7 (aI h7_23 (aI h7_26 (aI h7_30 (aI h7_33 (aI h7_38 h7_41)))))
     iterate 4 refine SF ?_
     refine aE 44 rfl (fun h7_44 => ?_) (fun h7_44 => ?_)
     ·
      have F := aI h1_7 (aI h7_23 (aI h7_26 (aI h7_30 (aI h7_33 (aI h7_38 (aI h7_41 h7_44))))))
      iterate 5 refine SF ?_
      refine T4 ?_
      exact key true _ _ _ (by simp only [okc, alZ, puZ, h1_7, h7_23, h7_26, h7_30, h7_33, h7_38, h7_41, h7_44, Bool.and_true, Bool.and_false, Bool.true_and, Bool.false_and, Bool.or_true, Bool.true_or, Bool.false_or, Bool.or_false, Bool.and_self, Bool.or_self]) (fF)
     have F := aI h1_7 (aI h7_23 (aI h7_26 (aI h7_30 (aI h7_33 (aI h7_38 (aI h7_41 h7_44))))))
     iterate 5 refine SF ?_
     refine aE 48 rfl (fun h7_48 => ?_) (fun h7_48 => ?_)
     ·
      simp only [h7_48]
      refine T4 ?_
      exact key true _ _ _ (by simp only [okc, alZ, puZ, h1_7, h7_23, h7_26, h7_30, h7_33, h7_38, h7_41, h7_44, h7_48, Bool.and_true, Bool.and_false, Bool.true_and, Bool.false_and, Bool.or_true, Bool.true_or, Bool.false_or, Bool.or_false, Bool.and_self, Bool.or_self]) (fF)
     simp only [h7_48]
     refine T4 ?_
     exact key false _ _ _ (by simp only [okc, alZ, puZ, h1_7, h7_23, h7_26, h7_30, h7_33, h7_38, h7_41, h7_44, h7_48, Bool.and_true, Bool.and_false, Bool.true_and, Bool.false_and, Bool.or_true, Bool.true_or, Bool.false_or, Bool.or_false, Bool.and_self, Bool.or_self]) (fF)
    have F := aI h1_7 (aI h7_23 (aI h7_26 (aI h7_30 (aI h7_33 h7_38))))
    iterate 12 refine SF ?_
    refine T4 ?_
    exact key false _ _ _ (by simp only [okc, alZ, puZ, h1_7, h7_23, h7_26, h7_30, h7_33, h7_38, Bool.and_true, Bool.and_false, Bool.true_and, Bool.false_and, Bool.or_true, Bool.true_or, Bool.false_or, Bool.or_false, Bool.and_self, Bool.or_self]) (fF)
   have F := aI h1_7 (aI h7_23 (aI h7_26 h7_30))
   iterate 8 refine SF ?_
   refine aE 38 rfl (fun h7_38 => ?_) (fun h7_38 => ?_)
   ·
    have F := aI h1_7 (aI h7_23 (aI h7_26 (aI h7_30 h7_38)))
    iterate 3 refine SF ?_
    refine aE 41 rfl (fun h7_41 => ?_) (fun h7_41 => ?_)
    ·
     have F := aI h1_7 (aI h7_23 (aI h7_26 (aI h7_30 (aI h7_38 h7_41))))
     iterate 9 refine SF ?_
     refine T4 ?_
     exact key true _ _ _ (by simp only [okc, alZ, puZ, h1_7, h7_23, h7_26, h7_30, h7_38, h7_41, Bool.and_true, Bool.and_false, Bool.true_and, Bool.false_and, Bool.or_true, Bool.true_or, Bool.false_or, Bool.or_false, Bool.and_self, Bool.or_self]) (fF)
    have F := aI h1_7 (aI h7_23 (aI h7_26 (aI h7_30 (aI h7_38 h7_41))))
    iterate 4 refine SF ?_
    refine aE 44 rfl (fun h7_44 => ?_) (fun h7_44 => ?_)
    ·
     have F := aI h1_7 (aI h7_23 (aI h7_26 (aI h7_30 (aI h7_38 (aI h7_41 h7_44)))))
     iterate 5 refine SF ?_
     refine T4 ?_
     exact key true _ _ _ (by simp only [okc, alZ, puZ, h1_7, h7_23, h7_26, h7_30, h7_38, h7_41, h7_44, Bool.and_true, Bool.and_false, Bool.true_and, Bool.false_and, Bool.or_true, Bool.true_or, Bool.false_or, Bool.or_false, Bool.and_self, Bool.or_self]) (fF)
    have F := aI h1_7 (aI h7_23 (aI h7_26 (aI h7_30 (aI h7_38 (aI h7_41 h7_44)))))
    iterate 5 refine SF ?_
    refine aE 48 rfl (fun h7_48 => ?_) (fun h7_48 => ?_)
    ·
     simp only [h7_48]
     refine T4 ?_
     exact key true _ _ _ (by simp only [okc, alZ, puZ, h1_7, h7_23, h7_26, h7_30, h7_38, h7_41, h7_44, h7_48, Bool.and_true, Bool.and_false, Bool.true_and, Bool.false_and, Bool.or_true, Bool.true_or, Bool.false_or, Bool.or_false, Bool.and_self, Bool.or_self]) (fF)
    simp only [h7_48]
    refine T4 ?_
    exact key false _ _ _ (by simp only [okc, alZ, puZ, h1_7, h7_23, h7_26, h7_30, h7_38, h7_41, h7_44, h7_48, Bool.and_true, Bool.and_false, Bool.true_and, Bool.false_and, Bool.or_true, Bool.true_or, Bool.false_or, Bool.or_false, Bool.and_self, Bool.or_self]) (fF)
   have F := aI h1_7 (aI h7_23 (aI h7_26 (aI h7_30 h7_38)))
   iterate 12 refine SF ?_
   refine T4 ?_
   exact key false _ _ _ (by simp only [okc, alZ, puZ, h1_7, h7_23, h7_26, h7_30, h7_38, Bool.and_true, Bool.and_false, Bool.true_and, Bool.false_and, Bool.or_true, Bool.true_or, Bool.false_or, Bool.or_false, Bool.and_self, Bool.or_self]) (fF)
  have F := aI h1_7 h7_23
  iterate 7 refine SF ?_
  refine aE 30 rfl (fun h7_30 => ?_) (fun h7_30 => ?_)
  ·
   have F := aI h1_7 (aI h7_23 h7_30)
   iterate 5 refine SF ?_
   refine aE 33 rfl (fun h7_33 => ?_) (fun h7_33 => ?_)
   ·
    have F := aI h1_7 (aI h7_23 (aI h7_30 h7_33))
    iterate 15 refine SF ?_
    refine T4 ?_
    exact key true _ _ _ (by simp only [okc, alZ, puZ, h1_7, h7_23, h7_30, h7_33, Bool.and_true, Bool.and_false, Bool.true_and, Bool.false_and, Bool.or_true, Bool.true_or, Bool.false_or, Bool.or_false, Bool.and_self, Bool.or_self]) (fF)
   have F := aI h1_7 (aI h7_23 (aI h7_30 h7_33))
   iterate 3 refine SF ?_
   refine aE 38 rfl (fun h7_38 => ?_) (fun h7_38 => ?_)
   ·
    have F := aI h1_7 (aI h7_23 (aI h7_30 (aI h7_33 h7_38)))
    iterate 3 refine SF ?_
    refine aE 41 rfl (fun h7_41 => ?_) (fun h7_41 => ?_)
    ·
     have F := aI h1_7 (aI h7_23 (aI h7_30 (aI h7_33 (aI h7_38 h7_41))))
     iterate 9 refine SF ?_
     refine T4 ?_
     exact key true _ _ _ (by simp only [okc, alZ, puZ, h1_7, h7_23, h7_30, h7_33, h7_38, h7_41, Bool.and_true, Bool.and_false, Bool.true_and, Bool.false_and, Bool.or_true, Bool.true_or, Bool.false_or, Bool.or_false, Bool.and_self, Bool.or_self]) (fF)
    have F := aI h1_7 (aI h7_23 (aI h7_30 (aI h7_33 (aI h7_38 h7_41))))
    iterate 4 refine SF ?_
    refine aE 44 rfl (fun h7_44 => ?_) (fun h7_44 => ?_)
    ·
     have F := aI h1_7 (aI h7_23 (aI h7_30 (aI h7_33 (aI h7_38 (aI h7_41 h7_44)))))
     iterate 5 refine SF ?_
     refine T4 ?_
     exact key true _ _ _ (by simp only [okc, alZ, puZ, h1_7, h7_23, h7_30, h7_33, h7_38, h7_41, h7_44, Bool.and_true, Bool.and_false, Bool.true_and, Bool.false_and, Bool.or_true, Bool.true_or, Bool.false_or, Bool.or_false, Bool.and_self, Bool.or_self]) (fF)
    have F := aI h1_7 (aI h7_23 (aI h7_30 (aI h7_33 (aI h7_38 (aI h7_41 h7_44)))))
    iterate 5 refine SF ?_
    refine aE 48 rfl (fun h7_48 => ?_) (fun h7_48 => ?_)
    ·
     simp only [h7_48]
     refine T4 ?_
     exact key true _ _ _ (by simp only [okc, alZ, puZ, h1_7, h7_23, h7_30, h7_33, h7_38, h7_41, h7_44, h7_48, Bool.and_true, Bool.and_false, Bool.true_and, Bool.false_and, Bool.or_true, Bool.true_or, Bool.false_or, Bool.or_false, Bool.and_self, Bool.or_self]) (fF)
    simp only [h7_48]
    refine T4 ?_
    exact key false _ _ _ (by simp only [okc, alZ, puZ, h1_7, h7_23, h7_30, h7_33, h7_38, h7_41, h7_44, h7_48, Bool.and_true, Bool.and_false, Bool.true_and, Bool.false_and, Bool.or_true, Bool.true_or, Bool.false_or, Bool.or_false, Bool.and_self, Bool.or_self]) (fF)
   have F := aI h1_7 (aI h7_23 (aI h7_30 (aI h7_33 h7_38)))
   iterate 12 refine SF ?_
   refine T4 ?_
   exact key false _ _ _ (by simp only [okc, alZ, puZ, h1_7, h7_23, h7_30, h7_33, h7_38, Bool.and_true, Bool.and_false, Bool.true_and, Bool.false_and, Bool.or_true, Bool.true_or, Bool.false_or, Bool.or_false, Bool.and_self, Bool.or_self]) (fF)
  have F := aI h1_7 (aI h7_23 h7_30)
  iterate 8 refine SF ?_
  refine aE 38 rfl (fun h7_38 => ?_) (fun h7_38 => ?_)
  ·
   have F := aI h1_7 (aI h7_23 (aI h7_30 h7_38))
   iterate 3 refine SF ?_
   refine aE 41 rfl (fun h7_41 => ?_) (fun h7_41 => ?_)
   ·
    have F := aI h1_7 (aI h7_23 (aI h7_30 (aI h7_38 h7_41)))
    iterate 9 refine SF ?_
    refine T4 ?_
    exact key true _ _ _ (by simp only [okc, alZ, puZ, h1_7, h7_23, h7_30, h7_38, h7_41, Bool.and_true, Bool.and_false, Bool.true_and, Bool.false_and, Bool.or_true, Bool.true_or, Bool.false_or, Bool.or_false, Bool.and_self, Bool.or_self]) (fF)
   have F := aI h1_7 (aI h7_23 (aI h7_30 (aI h7_38 h7_41)))
   iterate 4 refine SF ?_
   refine aE 44 rfl (fun h7_44 => ?_) (fun h7_44 => ?_)
   ·
    have F := aI h1_7 (aI h7_23 (aI h7_30 (aI h7_38 (aI h7_41 h7_44))))
    iterate 5 refine SF ?_
    refine T4 ?_
    exact key true _ _ _ (by simp only [okc, alZ, puZ, h1_7, h7_23, h7_30, h7_38, h7_41, h7_44, Bool.and_true, Bool.and_false, Bool.true_and, Bool.false_and, Bool.or_true, Bool.true_or, Bool.false_or, Bool.or_false, Bool.and_self, Bool.or_self]) (fF)
   have F := aI h1_7 (aI h7_23 (aI h7_30 (aI h7_38 (aI h7_41 h7_44))))
   iterate 5 refine SF ?_
   refine aE 48 rfl (fun h7_48 => ?_) (fun h7_48 => ?_)
   ·
    simp only [h7_48]
    refine T4 ?_
    exact key true _ _ _ (by simp only [okc, alZ, puZ, h1_7, h7_23, h7_30, h7_38, h7_41, h7_44, h7_48, Bool.and_true, Bool.and_false, Bool.true_and, Bool.false_and, Bool.or_true, Bool.true_or, Bool.false_or, Bool.or_false, Bool.and_self, Bool.or_self]) (fF)
   simp only [h7_48]
   refine T4 ?_
   exact key false _ _ _ (by simp only [okc, alZ, puZ, h1_7, h7_23, h7_30, h7_38, h7_41, h7_44, h7_48, Bool.and_true, Bool.and_false, Bool.true_and, Bool.false_and, Bool.or_true, Bool.true_or, Bool.false_or, Bool.or_false, Bool.and_self, Bool.or_self]) (fF)
  have F := aI h1_7 (aI h7_23 (aI h7_30 h7_38))
  iterate 12 refine SF ?_
  refine T4 ?_
  exact key false _ _ _ (by simp only [okc, alZ, puZ, h1_7, h7_23, h7_30, h7_38, Bool.and_true, Bool.and_false, Bool.true_and, Bool.false_and, Bool.or_true, Bool.true_or, Bool.false_or, Bool.or_false, Bool.and_self, Bool.or_self]) (fF)
 refine aS (T3 ?_)
 clear hK K
 refine AX (hK _ _ _ ?_)
 clear hK K
 refine R0 ?_
 refine aD (RT Tryz.results77 ?_)
 have hei : i = s.length := by simp at hb; omega
 exact aC [] (.bool true) rfl (by rw [jM.2 ⟨hlen, fun j h => h0 j (by omega) h⟩])

end Go.Proofs.YtenbfeemmpjdhaaGreatDoor
