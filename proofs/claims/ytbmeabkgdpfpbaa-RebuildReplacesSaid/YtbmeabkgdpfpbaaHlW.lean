/- HL, part W: a region, operation by operation. By an AI agent. -/
import Derived.Test.YtbmeabkgdpfpbaaHlV
set_option linter.unusedSimpArgs false
set_option linter.unusedVariables false
namespace Go.Hl
open Go

def gd (ops : Array Oper) (o : Oper) : Option (Option (Nat × Bool)) :=
  match o.guard with
  | none => some none
  | some (j, want) => match (ops[j]?).bind (·.dst) with
    | some d => some (some (d, want))
    | none => none
def hgd (g : Option (Nat × Bool)) (fr : Fr) : Option Bool :=
  match g with
  | none => some true
  | some (d, want) => match fr d with
    | .c (.bool b) => some (b == want)
    | .tup _ => some false
    | _ => none
def hop1 (P : Program) (nid : Nat) (av : List Nat) (g : Option (Nat × Bool)) (o : Op) (d : Option Nat) (K : Fr → Ob → Prop) (fr : Fr) (ob : Ob) : Prop :=
  match hgd g fr with
  | some true => hstep P av nid o (ev fr) ob fun v ob' => K (updo fr d v) ob'
  | some false => K (updo fr d (.tup [])) ob
  | none => False
section
variable {P : Program} {ops : Array Oper} {nx i : Nat} {o : Oper} {g : Option (Nat × Bool)} {Q : Fr → Ob → Prop} {fr : Fr} {ob : Ob}

theorem hguard_gd (hg : gd ops o = some g) : hguard ops o fr = hgd g fr := by
  unfold gd at hg
  unfold hguard hgd
  cases h : o.guard with
  | none => rw [h] at hg; cases hg; rfl
  | some p =>
    obtain ⟨j, want⟩ := p
    rw [h] at hg
    simp only at hg ⊢
    cases hd : (ops[j]?).bind (·.dst) with
    | none => rw [hd] at hg; cases hg
    | some d => rw [hd] at hg; cases hg; rfl

theorem hopI_hop1 {av : List Nat} {K : Fr → Ob → Prop} (ho : ops[i]? = some o) (hg : gd ops o = some g) (h : hop1 P (nx + 4 * i) av g o.op o.dst K fr ob) : hopI P ops nx av i K fr ob := by
  unfold hop1 at h
  unfold hopI
  rw [ho]
  simp only [hguard_gd hg]
  exact h

theorem hlex_step {l : List Nat} (ho : ops[i]? = some o) (hg : gd ops o = some g) (h : ∀ K : Fr → Ob → Prop, (∀ fr ob, hlex P ops nx Q l fr ob → K fr ob) → hop1 P (nx + 4 * i) [] g o.op o.dst K fr ob) : hlex P ops nx Q (i :: l) fr ob := by
  simp only [hlex]
  exact hopI_hop1 ho hg (h _ fun _ _ h => h)

theorem hwalk2_step {cr rd : List Nat} {l : Plan} {C : Pend} (ho : ops[i]? = some o) (hg : gd ops o = some g)
    (h : ∀ K : Fr → Ob → Prop, (∀ fr' ob', hwalk2 P ops nx Q l (if isEff o.op = true then C else (i, if hgd g fr = some true then touch o.op (ev fr) else []) :: C) fr' ob' → K fr' ob') →
      hop1 P (nx + 4 * i) (cr.flatMap (ids4 nx) ++ rd.flatMap (getF C)) g o.op o.dst K fr ob) : hwalk2 P ops nx Q ((i, cr, rd) :: l) C fr ob := by
  simp only [hwalk2]
  refine hopI_hop1 ho hg (h _ fun fr' ob' h => ?_)
  rw [ho]
  simp only [hguard_gd hg]
  exact h
end
end Go.Hl
