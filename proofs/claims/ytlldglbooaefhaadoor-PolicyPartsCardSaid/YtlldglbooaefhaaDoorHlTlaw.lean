/- HL: a law bW8 laid tables: the glue to a row's statement. By an AI agent. -/
import Derived.Test.YtlldglbooaefhaaDoorHlCl
import Derived.Lib.LaidTab
import Derived.Deep.Draws
import Derived.LaidSub
set_option linter.unusedSimpArgs false
set_option linter.unusedVariables false
set_option linter.defProp false
namespace Go.Hl
open Go Go.RowKit Go.Sort

abbrev kN := List (Nat × List Value)
def eF (T : kN) : Ob := fob [(0, .tab T)]
def mO (P : Program) (f : FuncId) (T : kN) (args : List CV) (R : CV → Prop) : Prop :=
 HFn P f (args.map .c) 1 (eF T) (fun r ob' => ∃ v, r = .c v ∧ ob' = eF T ∧ R v)
def aS4 (P : Program) (f : FuncId) (T : kN) (args : List CV) (R : CV → CV → Prop) : Prop :=
 HFn P f (args.map .c) 1 (eF T) (fun r ob' => ∃ u v, r = .tup [.c u, .c v] ∧ ob' = eF T ∧ R u v)

theorem fH (T : kN) (j : Nat) : eF T j = if j = 0 then some (.tab T) else none := by
 simp only [eF, fob_at, fob_nil]
theorem eW (T : kN) (args : List CV) : LocOk 1 (args.map .c) (eF T) := by
 refine ⟨fun j h => ?_, fun id o h => ?_, HV.menL_c⟩
 ·
  have : j = 0 := by omega
  subst this
  exact ⟨_, rfl⟩
 grind [fH, HO.men]
theorem aN6 {ob : Ob} {T : kN} {cl : List Nat} (hb : ob 0 = some (.tab T)) (h0 : 0 ∉ cl) (j : Nat) (o : HO) (ho : eF T j = some o) :
  j < 1 + 4 ∧ o.men (· < 1 + 4) ∧ id j ∉ cl ∧ ∃ o0, ob (id j) = some o0 ∧ (match o0 with | .box t v => HO.box t (v.close ob cl).norm | .row e sz l => .row e sz l | .mp e sz D => .mp e sz D | .dead => .dead | .tab T => .tab T | .hrow e sz l => .hrow e sz (HV.closeL ob cl l)) = o.ren id := by
 rw [fH] at ho
 split at ho
 ·
  subst_vars
  cases ho
  exact ⟨by omega, by simp [HO.men], h0, _, hb, rfl⟩
 grind
theorem cG {ob : Ob} {r : HV} {T : kN} {R : CV → Prop} (cl : List Nat) (v : CV) (h : (r.close ob cl).norm = .c v) (hb : ob 0 = some (.tab T)) (h0 : 0 ∉ cl) (hR : R v) :
  lM 1 r ob (fun r ob' => ∃ v, r = .c v ∧ ob' = eF T ∧ R v) :=
 ⟨cl, id, .c v, eF T, ⟨v, rfl, rfl, hR⟩, by rw [h]; rfl, fun _ _ => rfl, fun _ _ _ _ h => h, by simp [HV.men], aN6 hb h0⟩
theorem sL {ob : Ob} {r : HV} {T : kN} {R : CV → CV → Prop} (cl : List Nat) (u v : CV) (h : (r.close ob cl).norm = .tup [.c u, .c v]) (hb : ob 0 = some (.tab T)) (h0 : 0 ∉ cl) (hR : R u v) :
  lM 1 r ob (fun r ob' => ∃ u v, r = .tup [.c u, .c v] ∧ ob' = eF T ∧ R u v) :=
 ⟨cl, id, .tup [.c u, .c v], eF T, ⟨u, v, rfl, rfl, hR⟩, by grind [HV.ren, HV.renL], fun _ _ => rfl, fun _ _ _ _ h => h, by simp [HV.men, HV.menL], aN6 hb h0⟩
theorem mP {ob : Ob} {nid id : Nat} {T : kN} (hid : ob id = some (.tab T)) (hfree : ob nid = none ∧ ob (nid + 1) = none ∧ ob (nid + 2) = none ∧ ob (nid + 3) = none) : bT ob [id] nid (eF T) = ob := by
 funext i
 by_cases e : i = id
 ·
  subst e
  simp only [bT, List.findIdx?_cons, beq_self_eq_true, if_true, fH, Option.map_some, hid]
  rfl
 ·
  have e' : (id == i) = false := by simp; exact fun h => e h.symm
  simp only [bT, List.findIdx?_cons, e', List.findIdx?_nil, Option.map_none]
  simp only [Bool.false_eq_true, if_false]
  split
  ·
   rename_i hr
   have h1 : [id].length + (i - nid) ≠ 0 := by simp
   rw [fH, if_neg h1]
   grind
  ·
   rfl
theorem rC {ob : Ob} {nid id : Nat} {T : kN} (hid : ob id = some (.tab T)) : ∀ j o, eF T j = some o → ob ([id].getD j 0) = some (o.ren (sub [id] nid)) := by grind [fH, HO.ren]
theorem cZ {P : Program} {av : List Nat} {f : FuncId} {ob : Ob} {nid : Nat} {K : HV → Ob → Prop} {T : kN} {args : List CV} {R : CV → Prop} (id : Nat) (h : mO P f T args R) (hid : ob id = some (.tab T)) (hav : id ∉ av)
  (hfree : ob nid = none ∧ ob (nid + 1) = none ∧ ob (nid + 2) = none ∧ ob (nid + 3) = none) (hK : ∀ v, R v → K (.c v) ob) : HCall P av f (args.map .c) ob nid K := by
 refine ⟨[id], args.map .c, _, _, h, eW T args, ⟨by simp, by grind⟩, (HV.renL_c _ _).symm, rC hid, fun r lob' hR _ => ?_⟩
 obtain ⟨v, rfl, rfl, hR⟩ := hR
 rw [mP hid hfree]
 exact hK v hR
theorem sM {P : Program} {av : List Nat} {f : FuncId} {ob : Ob} {nid : Nat} {K : HV → Ob → Prop} {T : kN} {args : List CV} {R : CV → CV → Prop} (id : Nat) (h : aS4 P f T args R) (hid : ob id = some (.tab T)) (hav : id ∉ av)
  (hfree : ob nid = none ∧ ob (nid + 1) = none ∧ ob (nid + 2) = none ∧ ob (nid + 3) = none) (hK : ∀ u v, R u v → K (.tup [.c u, .c v]) ob) : HCall P av f (args.map .c) ob nid K := by
 refine ⟨[id], args.map .c, _, _, h, eW T args, ⟨by simp, by grind⟩, (HV.renL_c _ _).symm, rC hid, fun r lob' hR _ => ?_⟩
 obtain ⟨u, v, rfl, rfl, hR⟩ := hR
 rw [mP hid hfree]
 exact hK u v hR

theorem aN7 {P : Program} {f : FuncId} {T : kN} {g : Nat} {name : String} {k : IntKind} {zs : List Int} (hok : eI P f = true) (hg : P.globalNamed name = some g) (hT : (g, zs.map fun z => Value.int k z) ∈ T) {a b : Int} {s : List UInt8}
  (hc : ∀ w : World, Lib.TabIs P w name k zs → Calls P f #[.int .i64 a, .int .i64 b] w fun e w' => e = .returned (.string ⟨s.toArray⟩) ∧ ∃ n os, w' = grow (w.drewN n) os) :
  mO P f T [.int .i64 a, .int .i64 b] (fun v => v = .str s) := by
 refine ⟨aR1 hok, fun w ρ X xs hS hA hX => Does.of hok ?_⟩
 have h0 := hS.objs 0 _ (rfl : eF T 0 = some (.tab T))
 have htab : Lib.TabIs P w name k zs := by
  obtain ⟨-, h1⟩ := h0
  obtain ⟨⟨t, fz, h2⟩, -⟩ := h1 _ hT
  simp only [Lib.TabIs, World.var?, hg, Option.bind_some, h2]
 simp only [List.map_cons, List.map_nil, bG, RepHV] at hA
 obtain ⟨x, zs', rfl, hx, y, zs'', rfl, hy, rfl⟩ := hA
 have h1 := RepV.single hx rfl
 have h2 := RepV.single hy rfl
 simp only [RepC, List.cons.injEq, and_true] at h1 h2
 subst h1 h2
 refine (hc w htab).mono ?_
 rintro ex w' ⟨rfl, n, os, rfl⟩
 have hs2 : Stay2 w (Own ρ) (grow (w.drewN n) os) (Own ρ) := ⟨fun c hc' _ => by grind [grow, World.drewN, Array.getElem?_append_left], fun _ h => .inl h, by simp_all, rfl, rfl, rfl⟩
 have hst := hs2.stay X
 refine ⟨_, _, ρ, _, rfl, ⟨_, rfl, rfl, rfl⟩, ⟨?_, ⟨fun i o ho => ?_, hS.none, hS.apart, hS.xb⟩, by simp [HV.men], fun i o ho => ?_, hs2, Moves.refl _ _⟩⟩
 ·
  refine cL ?_ rfl rfl
  simp [RepC]
 ·
  rw [fH] at ho
  split at ho
  ·
   subst_vars
   cases ho
   exact ⟨h0.1, kG hst h0.2⟩
  ·
   cases ho
 grind [fH, HO.men]
end Go.Hl

namespace Go.Hl
open Go Go.RowKit

section
variable {P : Program} {T : TypeId → Prop} {H : Type} {enc : TypeId × Value → H}

theorem aX6 {f : FuncId} {fn : Func} {s : ChangeSpec} {mm : Nat} {tb : TypeId} {tabs : kN} (hok : eI P f = true) (K : Kids P T) (hz : ∀ t e, T t → P.underlying t = some (.slice e) → 0 < P.cellsOf e) (hvars : s.vars = []) (hres : fn.resultTypes = #[tb]) (htb : P.underlying tb = some .bool)
  (hspec : ∀ (H : Type) (ds : List (DataW H)), ds.length = fn.params.toList.length → (s.fn H ds).results = [.lit (.bool true)] ∧ (s.fn H ds).args = ds ∧ (s.fn H ds).vars = []) (hpl : ∀ t ∈ fn.params.toList, mM P mm t = true ∧ T t)
  (hlaw : ∀ cs : List CV, cs.length = fn.params.toList.length → (∀ (j : Nat) t c, fn.params.toList[j]? = some t → cs[j]? = some c → HasTy P t c) → mO P f tabs cs (fun v => v = .bool true))
  {W : World} (htab : ∀ x ∈ tabs, ∃ t fz, W.heap[x.1]? = some (.cells x.2.toArray t fz)) {args : Array Value} {ds gs : List (DataW H)} {before : List MemPlace} (hval : ∀ (j : Nat) t v, fn.params[j]? = some t → args[j]? = some v → Value.okWide P W .any 0 t v)
  (hW : DataW.Whole enc P fn.params.toList s.vars false W args.toList ds gs before) :
  Calls P f args W fun e W' => ∃ v, e = .returned v ∧ s.post enc P fn false true false false W args v W' := by
 have hW' := hW
 obtain ⟨p, q, hA, hV, rfl, hfz, hnd⟩ := hW
 rw [hvars] at hV
 obtain ⟨rfl, rfl⟩ := ChangeShapes.trodVars_none hV
 simp only [List.append_nil] at hW' hfz
 obtain ⟨cs, r1, r2, r3, r4⟩ := pT (m := mm) K hA hpl (fun j t v h1 h2 => hval j t v (by grind) (by grind))
 obtain ⟨_, hrun⟩ := hlaw cs r2 r4
 have hS : RepS W (fun _ => none) (fun _ => False) (eF tabs) := by
  refine ⟨fun i o h => ?_, fun _ _ => rfl, fun _ _ _ _ _ h => (by grind), fun _ _ _ h => (by grind)⟩
  rw [fH] at h
  split at h
  ·
   cases h
   refine ⟨rfl, fun x hx => ⟨htab x hx, ?_⟩⟩
   rintro (h1 | ⟨i, L, h1, _⟩)
   ·
    exact h1
   ·
    cases h1
  ·
   cases h
 have hcall := hrun W (fun _ => none) (fun _ => False) args.toList hS r1 (fun _ h => h.elim)
 rw [Array.toArray_toList] at hcall
 refine (hcall.calls hok).mono ?_
 rintro e W' ⟨r, ob', ρ', x, rfl, ⟨v, rfl, rfl, rfl⟩, hg⟩
 obtain ⟨hr1, hr2⟩ := hg.v
 have hx : x = .bool true := by
  have hag : Value.isAgg' x = false := by rw [← hr2]; rfl
  rw [cells_single hag] at hr1
  simpa [RepH, RepC] using hr1
 subst hx
 have hheap : ∀ b, b < W.heap.size → W'.heap[b]? = W.heap[b]? := fun b hb => hg.stay.block b hb (aG1 b)
 obtain ⟨s1, s2, s3⟩ := hspec H (ds ++ []) (by simpa using r3)
 have hlt : ∀ a ∈ p, a.block < W.heap.size := hA.lt
 have args' : ∀ sp : Nat → Bool, (∀ a ∈ p, sp a.block = true) → DataW.TrodAll enc P W' 0 sp true fn.params.toList args.toList ds p := fun sp hsp =>
  oI (hA.respare K hz (fun t ht => (hpl t ht).2) hsp) (fun a ha => aX5 hheap (hlt a ha))
 have hrl : Value.resultList fn.resultTypes.size (.bool true) = [.bool true] := by rw [hres]; rfl
 have hresT : ∀ (b : Nat) (sp : Nat → Bool) (hd : Bool), DataW.TrodAll enc P W' b sp hd fn.resultTypes.toList (Value.resultList fn.resultTypes.size (.bool true)) [.lit (.bool true)] [] := fun b sp hd => by
  rw [hrl, hres]
  exact trodAll_cons_mk (RowKit.shut_bool htb true) ChangeShapes.trodAll_mk0
 refine ⟨.bool true, rfl, ds, [], p, [], p, [], by simpa using hW', ?_, ?_, ?_, ?_, ?_⟩
 ·
  rw [s1]; exact hresT _ _ _
 ·
  rw [s2]; simpa using args' _ (fun a ha => by simpa using hlt a ha)
 ·
  rw [s3, hvars]; rfl
 ·
  exact aN5 hg.stay.os hg.stay.output hheap _
 ·
  intro h; cases h
end
theorem wN {P : Program} {W : World} {name : String} {k : IntKind} {zs : List Int} {g : Nat} (hg : P.globalNamed name = some g) (h : Lib.TabIs P W name k zs) : ∃ t fz, W.heap[g]? = some (.cells (zs.map fun z => Value.int k z).toArray t fz) := by grind [Lib.TabIs, World.var?]
end Go.Hl
