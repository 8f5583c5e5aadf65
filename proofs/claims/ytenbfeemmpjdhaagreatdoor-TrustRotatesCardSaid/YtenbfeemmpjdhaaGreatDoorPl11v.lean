/- The lines of a root document, and its encoded form (11.2), in plain Lean. By an AI agent. -/
import Derived.Test.YtenbfeemmpjdhaaGreatDoorPl18e
import Derived.Test.YtenbfeemmpjdhaaGreatDoorHyTz
import Derived.Test.YtenbfeemmpjdhaaGreatDoorHyT4
import Derived.Test.YtenbfeemmpjdhaaGreatDoorPl11w
import Derived.Test.YtenbfeemmpjdhaaGreatDoorHySb
set_option linter.unusedSimpArgs false
set_option linter.unusedVariables false
set_option linter.defProp false
namespace Go.Hl
open Go Go.Pl

section
variable {P : Program} {n k : Nat} {Q : dI} {fr : Fr} {ob : Ob} {nx : Nat}
theorem bR0 {code : Code} (id : Nat) {T : TypeId} {l : List CV} (hb : ob id = some (.box T (.c (.agg [.agg l]))))
  (h : Hw P n k code Q fr (upd ob id (some (.box T (.c (.agg l))))) nx) : Hw P n k code Q fr ob nx := by
 intro c a w hn hk hz hA
 refine h c a w hn hk hz ?_
 obtain ⟨ρ, hA⟩ := hA
 refine ⟨ρ, ⟨fun i o ho => ?_, fun i hi => ?_, hA.s.apart, hA.s.xb⟩, hA.f, hA.mf, fun i o ho => ?_, hA.m0, hA.base, hA.moves, hA.defers, hA.size, hA.xlt⟩
 ·
  by_cases e' : i = id
  ·
   subst e'
   rw [aR] at ho
   cases ho
   obtain ⟨b, cs, e1, e2, e3⟩ := hA.s.objs i _ hb
   refine ⟨b, cs, e1, e2, ?_⟩
   simp only [RepH, RepC, RepL] at e3 ⊢
   obtain ⟨c1, c2, rfl, h1, rfl⟩ := e3
   simpa using h1
  ·
   rw [aV _ _ e'] at ho
   exact hA.s.objs i o ho
 ·
  by_cases e' : i = id
  ·
   subst e'; rw [aR] at hi; cases hi
  ·
   rw [aV _ _ e'] at hi
   exact hA.s.none i hi
 ·
  by_cases e' : i = id
  ·
   subst e'
   rw [aR] at ho
   cases ho
   exact ⟨(hA.mo i _ hb).1, by simp [HO.men, HV.men]⟩
  ·
   rw [aV _ _ e'] at ho
   exact hA.mo i o ho
end

def bU8 (P : Program) (f : FuncId) (args : List CV) (n : Nat) (T : TypeId) (l : List UInt8) (R : CV → List UInt8 → Prop) : Prop :=
 HFn P f (args.map .c ++ [.osl 0 n 0 1 n]) 1 (fob [(0, .box T (.c (.agg (l.map u8))))]) (fun r ob' => ∃ u l', r = .c u ∧ ob' = fob [(0, .box T (.c (.agg (l'.map u8))))] ∧ R u l')
theorem vI (args : List CV) (n : Nat) (T : TypeId) (v : CV) : LocOk 1 (args.map .c ++ [.osl 0 n 0 1 n]) (fob [(0, .box T (.c v))]) := by
 refine ⟨fun j h => ?_, fun id o h => ?_, HV.menL_append.2 ⟨HV.menL_c, by simp [HV.menL, HV.men]⟩⟩
 ·
  have : j = 0 := by omega
  subst this; exact ⟨_, rfl⟩
 ·
  simp only [fob_at, fob_nil] at h
  split at h
  ·
   rename_i e; subst e; cases h; exact ⟨by omega, by simp [HO.men, HV.men]⟩
  ·
   cases h
theorem yA {P : Program} {av : List Nat} {f : FuncId} {ob : Ob} {nid id : Nat} {K : HV → Ob → Prop} {args : List CV} {n : Nat} {T : TypeId} {l : List UInt8} {R : CV → List UInt8 → Prop} (h : bU8 P f args n T l R) (hid : ob id = some (.box T (.c (.agg (l.map u8))))) (hav : id ∉ av) (hfree : Free4 ob nid)
  (hK : ∀ u l', R u l' → K (.c u) (upd ob id (some (.box T (.c (.agg (l'.map u8))))))) : HCall P av f (args.map .c ++ [.osl id n 0 1 n]) ob nid K := by
 have h0 : sub [id] nid 0 = id := rfl
 have hra : ∀ (m : Nat → Nat) (a : List CV) (b : List HV), HV.renL m (a.map .c ++ b) = a.map .c ++ HV.renL m b := by
  intro m a b
  induction a with
  | nil => rfl
  | cons x a ih => simp only [List.map_cons, List.cons_append, HV.renL, HV.ren, ih]
 refine ⟨[id], _, _, _, h, vI args n T _, ⟨by simp, by simpa using hav⟩, by rw [hra]; simp only [HV.renL, HV.ren, h0], fun j o hj => ?_, fun r lob' hR _ => ?_⟩
 ·
  simp only [fob_at, fob_nil] at hj
  split at hj
  ·
   rename_i e; subst e; cases hj; simpa [HO.ren, HV.ren] using hid
  ·
   cases hj
 ·
  obtain ⟨u, l', rfl, rfl, hR⟩ := hR
  have e2 : bG ob [id] nid (fob [(0, .box T (.c (.agg (l'.map u8))))]) = upd ob id (some (.box T (.c (.agg (l'.map u8))))) := by
   funext i
   by_cases e : i = id
   ·
    subst e
    rw [aR]
    simp only [bG, List.findIdx?_cons, beq_self_eq_true, if_true, fob_at, Option.map_some, HO.ren, HV.ren]
   ·
    have e' : (id == i) = false := by simp; exact fun h => e h.symm
    rw [aV _ _ e]
    simp only [bG, List.findIdx?_cons, e', List.findIdx?_nil, Option.map_none]
    simp only [Bool.false_eq_true, if_false]
    split
    ·
     rename_i hr
     have h2 : [id].length + (i - nid) ≠ 0 := by simp
     rw [fob_at, if_neg h2, fob_nil]
     exact (hfree.all i hr.1 hr.2).symm
    ·
     rfl
  rw [e2]
  exact hK u l' hR
theorem nJ {ob : Ob} {T : TypeId} {l' : List UInt8} {r : HV} {R : CV → List UInt8 → Prop} (u : CV) (hr : (r.close ob []).norm = .c u) (ho : ob 0 = some (.box T (.c (.agg (l'.map u8))))) (hR : R u l') :
  rW 1 r ob (fun r ob' => ∃ u l', r = .c u ∧ ob' = fob [(0, .box T (.c (.agg (l'.map u8))))] ∧ R u l') := by
 refine ⟨[], id, .c u, _, ⟨u, l', rfl, rfl, hR⟩, hr, fun _ _ => rfl, fun _ _ _ _ h => h, by simp [HV.men], fun j o h => ?_⟩
 simp only [fob_at, fob_nil] at h
 split at h
 ·
  rename_i e
  subst e; cases h
  refine ⟨by omega, by simp [HO.men, HV.men], by simp, _, ho, ?_⟩
  have hd : (CV.agg (l'.map u8)).denil = .agg (l'.map u8) := uG l'
  simp only [HO.ren, HV.ren, HV.close, hd, HV.norm, HV.toC]
 ·
  cases h
end Go.Hl

namespace Go.Proofs.YtenbfeemmpjdhaaGreatDoor
open Go Go.Hl Go.Pl
set_option maxRecDepth 10000
set_option maxHeartbeats 16000000

theorem bR1 (s p : aK) : aW Tryz.prog 179 [.str s, .str p] (fun v => v = .bool (prefB s p)) := by
 refine FW Tryz.func179 ?_
 refine R0 ?_
 refine aB fun K hK => Rg ?_
 have F := aI @Int.natCast_nonneg (aI @Int.ofNat_le (aI @List.drop_zero.{0} @Nat.sub_zero))
 iterate 6 refine SF ?_
 refine aE 9 rfl (fun h1_9 => ?_) (fun h1_9 => ?_)
 ·
  have F := aI @Int.natCast_nonneg (aI @Int.ofNat_le (aI @List.drop_zero.{0} (aI @Nat.sub_zero h1_9)))
  iterate 3 refine SF ?_
  refine aZ (g := some (10, true)) rfl rfl fun K' hK' => T6 ?_
  refine ⟨by simp at h1_9; omega, ?_⟩
  refine AX (hK' _ _ ?_)
  clear hK' K'
  iterate 4 refine SF ?_
  refine T2 (hK _ _ _ ?_)
  clear hK K
  refine aD (RT Tryz.results179 ?_)
  have hle : p.length ≤ s.length := by simp at h1_9; omega
  exact aC [] (.bool (s.take p.length == p)) rfl (by unfold prefB; rw [show decide (p.length ≤ s.length) = true from by simpa using hle]; rfl)
 have F := aI @Int.natCast_nonneg (aI @Int.ofNat_le (aI @List.drop_zero.{0} (aI @Nat.sub_zero h1_9)))
 iterate 8 refine SF ?_
 refine T2 (hK _ _ _ ?_)
 clear hK K
 refine aD (RT Tryz.results179 ?_)
 have hle : ¬ p.length ≤ s.length := by simp at h1_9; omega
 exact aC [] (.bool false) rfl (by unfold prefB; rw [show decide (p.length ≤ s.length) = false from by simpa using hle]; rfl)


theorem bR2 (s p : aK) : cW Tryz.prog 160 [.str s, .str p] (fun u v => u = .str (if prefB s p then s.drop p.length else s) ∧ v = .bool (prefB s p)) := by
 refine FW Tryz.func160 ?_
 refine R0 ?_
 refine aB fun K hK => ?_
 refine aB fun K hK => Rg ?_
 iterate 2 refine S0 ?_
 refine HS rfl rfl fun K' hK' => T5 ?_
 refine C2 (bR1 s p) ?_
 rintro u rfl
 refine AX (hK' _ _ ?_)
 clear hK' K'
 refine S0 ?_
 refine T2 (hK _ _ _ ?_)
 clear hK K
 refine aJ (b := !(prefB s p)) rfl (fun hb => ?_) (fun hb => ?_)
 ·
  refine R0 ?_
  refine aD (RT Tryz.results160 ?_)
  have hp : prefB s p = false := by simpa using hb
  exact aL [] (.str s) (.bool false) rfl ⟨by rw [hp]; rfl, by rw [hp]⟩
 refine aG ?_
 refine T0 (hK _ _ _ ?_)
 clear hK K
 have hp : prefB s p = true := by simpa using hb
 have hle : p.length ≤ s.length := by
  unfold prefB at hp
  simp only [Bool.and_eq_true, decide_eq_true_eq] at hp
  exact hp.1
 have htd : List.take (s.length - p.length) (List.drop p.length s) = List.drop p.length s := List.take_of_length_le (by simp)
 refine aB fun K hK => Rg ?_
 have F := aI @Int.natCast_nonneg (aI @Int.ofNat_le (aI hle htd))
 iterate 6 refine SF ?_
 refine T2 (hK _ _ _ ?_)
 clear hK K
 refine aD (RT Tryz.results160 ?_)
 exact aL [] (.str (s.drop p.length)) (.bool true) rfl ⟨by rw [hp]; rfl, by rw [hp]⟩


theorem bJ4 (s p : aK) : cW Tryz.prog 129 [.str s, .str p] (fun u v => u = .str (if prefB s p then s.drop p.length else s) ∧ v = .bool (prefB s p)) := by
 refine FW Tryz.func129 ?_
 refine R0 ?_
 refine aB fun K hK => Rg ?_
 iterate 2 refine S0 ?_
 refine HS rfl rfl fun K' hK' => T5 ?_
 refine D2 (bR2 s p) ?_
 rintro u v ⟨rfl, rfl⟩
 refine AX (hK' _ _ ?_)
 clear hK' K'
 iterate 4 refine S0 ?_
 refine T2 (hK _ _ _ ?_)
 clear hK K
 refine aD (RT Tryz.results129 ?_)
 exact aL [] _ _ rfl ⟨rfl, rfl⟩


theorem aI3 (s : aK) (n : Nat) (T : TypeId) (l0 : List UInt8) (h0 : l0.length = n) (hn1 : 1 < n) (hn2 : n < 1000) (hs : s.length < 2 ^ 40) :
  bU8 Tryz.prog 128 [.str s] n T l0 (fun u l' => u = .bool (bR s n).isSome ∧ l'.length = n ∧ ∀ w, bR s n = some w → l' = w) := by
 refine bS Tryz.func128 rfl (by kernel_rfl) (vI [_] _ _ _) (Nat.le_of_ble_eq_true rfl) ?_
 refine R0 ?_
 refine aB fun K hK => ?_
 have hw2 : IntKind.i64.wrap (2 * (n : Int)) = ((2 * n : Nat) : Int) := by rw [IntWalk.i64_in _ (by omega)]; omega
 have hln : (List.take n (l0.map u8)).length = n := by simp [h0]
 refine aB fun K hK => Rg ?_
 have F := aI h0 (aI @bJ3 (aI @List.length_map.{0,0} (aI @Nat.zero_le (aI @Nat.le_refl (aI @List.drop_zero.{0} (aI @Nat.sub_zero (aI hln hw2)))))))
 iterate 6 refine SF ?_
 refine T2 (hK _ _ _ ?_)
 clear hK K
 refine aJ (b := (s.length : Int) != ((2 * n : Nat) : Int)) rfl (fun hb => ?_) (fun hb => ?_)
 ·
  refine R0 ?_
  refine aD (RT Tryz.results128 ?_)
  have hv : bR s n = none := oJ (by simp at hb; omega)
  exact nJ (.bool false) rfl rfl ⟨by rw [hv]; rfl, h0, fun w hw => by rw [hv] at hw; cases hw⟩
 refine aG ?_
 refine T0 (hK _ _ _ ?_)
 clear hK K
 refine aB fun K hK => ?_
 have hlen : s.length = 2 * n := by simp at hb; omega
 clear hb
 have F := aI h0 (aI @bJ3 (aI @List.length_map.{0,0} (aI @Nat.zero_le (aI @Nat.le_refl (aI @List.drop_zero.{0} (aI @Nat.sub_zero hln))))))
 refine RF ?_
 refine aH ?_
 refine aT (α := {y : Nat × List UInt8 // UhSt s n y.1 y.2}) (fun y => (fin [(0, .c (.str s)), (1, .osl 0 n 0 1 n), (15, .c (.int .i64 n)), (16, .c (.int .i64 y.1.1))], fob [(0, .box T (.c (.agg (y.1.2.map u8))))])) 100 (fun y => n - y.1.1) ⟨(0, l0), UhSt.init s h0⟩ (fF) ?_
 rintro ⟨⟨i, l⟩, hst⟩
 simp only at hst
 have hi := hst.2.1
 have hll := hst.1
 refine R0 ?_
 refine aB fun K hK => ?_
 refine aJ (b := decide ((i : Int) < (n : Int))) rfl (fun hb => ?_) (fun hb => ?_)
 ·
  have hlt : i < n := by simp at hb; omega
  clear hb
  have hv2 : IntKind.i64.wrap (2 * (i : Int)) = ((2 * i : Nat) : Int) := by rw [IntWalk.i64_in _ (by omega)]; omega
  have hv3 : IntKind.i64.wrap (((2 * i : Nat) : Int) + 1) = ((2 * i + 1 : Nat) : Int) := by rw [IntWalk.i64_in _ (by omega)]; rfl
  have hgx : s.getD (2 * i) 0 = hX s i := rfl
  have hgy : s.getD (2 * i + 1) 0 = hY s i := rfl
  have hl1 : 2 * i < s.length := by omega
  have hl2 : 2 * i + 1 < s.length := by omega
  refine aG ?_
  refine T0 (hK _ _ _ ?_)
  clear hK K
  refine aB fun K hK => ?_
  refine aH ?_
  refine R0 ?_
  refine aB fun K hK => DW [(0, [], []), (1, [], []), (2, [], []), (3, [], []), (5, [], []), (6, [], []), (7, [], []), (8, [], []), (9, [], []), (4, [], [5, 6, 7, 8, 9]), (10, [], []), (11, [], []), (12, [], [])] [0, 0, 2, 7, 15, 0, 0, 64, 192, 480, 1023, 2047, 4095] ?_
  have F := aI @Int.natCast_nonneg (aI @Int.ofNat_lt (aI hv2 (aI hv3 (aI hgx (aI hgy (aI hl1 hl2))))))
  iterate 9 refine WF ?_
  refine aN (g := none) rfl rfl fun K' hK' => T6 ?_
  refine C2 (pT aT4 (hX s i)) ?_
  rintro u rfl
  refine AX (hK' _ _ ?_)
  clear hK' K'
  refine aN (g := none) rfl rfl fun K' hK' => T6 ?_
  refine C2 (pT aT4 (hY s i)) ?_
  rintro u rfl
  refine AX (hK' _ _ ?_)
  clear hK' K'
  iterate 2 refine WF ?_
  refine T2 (hK _ _ _ ?_)
  clear hK K
  refine aB fun K hK => ?_
  by_cases hx : valL (hX s i) < 16
  ·
   by_cases hy : valL (hY s i) < 16
   ·
    rw [mM, mM, if_pos hx, if_pos hy]
    have hx0 : decide (((valL (hX s i) : Nat) : Int) < 0) = false := by simp
    have hy0 : decide (((valL (hY s i) : Nat) : Int) < 0) = false := by simp
    have e1 : IntKind.i64.wrap (16 * ((valL (hX s i) : Nat) : Int)) = ((16 * valL (hX s i) : Nat) : Int) := by rw [IntWalk.i64_in _ (by omega)]; omega
    have e2 : IntKind.i64.wrap (((16 * valL (hX s i) : Nat) : Int) + ((valL (hY s i) : Nat) : Int)) = ((16 * valL (hX s i) + valL (hY s i) : Nat) : Int) := by rw [IntWalk.i64_in _ (by omega)]; omega
    have e3 : IntKind.u8.wrap ((16 * valL (hX s i) + valL (hY s i) : Nat) : Int) = ((hB s i).toNat : Int) := by rw [IntWalk.u8_in _ (by omega), bJ2 hx hy]
    have hil : i < l.length := by omega
    have hl1' : l.length ≠ 1 := by omega
    refine aB fun K hK => Rg ?_
    have F := aI hx0 hy0
    iterate 6 refine SF ?_
    refine T2 (hK _ _ _ ?_)
    clear hK K
    refine CF rfl ?_
    refine aG ?_
    refine T0 (hK _ _ _ ?_)
    clear hK K
    refine Rg ?_
    iterate 9 refine S0 ?_ (e := fun _ h_ => by simp only [sH, ↓sP, sA, tyS, simprocAttr, e1, e2, e3, Int.natCast_nonneg, Int.ofNat_lt, Nat.le_refl, Nat.sub_zero, Nat.zero_add, Nat.mul_one, hlt, kC, aZ3, hil, hl1', and_false, fA]; exact AX h_)
    refine T2 (hK _ _ _ ?_)
    clear hK K
    refine aM (by kernel_rfl) ?_
    refine TQ (bK i) ?_
    refine ⟨⟨(i + 1, l.set i (hB s i)), hst.next hlt (by simp [hOk, hx, hy])⟩, fF, ?_⟩
    show n - (i + 1) < n - i
    omega
   rw [mM, mM, if_pos hx, if_neg hy]
   have hx0 : decide (((valL (hX s i) : Nat) : Int) < 0) = false := by simp
   refine aB fun K hK => Rg ?_
   have F := hx0
   iterate 6 refine SF ?_
   refine T2 (hK _ _ _ ?_)
   clear hK K
   refine CT rfl ?_
   refine R0 ?_
   refine aD (RT Tryz.results128 ?_)
   have hv := hst.bad hlt (by simp [hOk, hx, hy])
   exact nJ (.bool false) rfl rfl ⟨by rw [hv]; rfl, hll, fun w hw => by rw [hv] at hw; cases hw⟩
  rw [mM, if_neg hx]
  refine aB fun K hK => Rg ?_
  iterate 6 refine S0 ?_
  refine T2 (hK _ _ _ ?_)
  clear hK K
  refine CT rfl ?_
  refine R0 ?_
  refine aD (RT Tryz.results128 ?_)
  have hv := hst.bad hlt (by simp [hOk, hx])
  exact nJ (.bool false) rfl rfl ⟨by rw [hv]; rfl, hll, fun w hw => by rw [hv] at hw; cases hw⟩
 refine aS (T3 ?_)
 clear hK K
 refine AX (hK _ _ _ ?_)
 clear hK K
 refine R0 ?_
 refine aD (RT Tryz.results128 ?_)
 have hin : i = n := by simp at hb; omega
 subst hin
 have hv := hst.fin hlen
 exact nJ (.bool true) rfl rfl ⟨by rw [hv]; rfl, hll, fun w hw => by rw [hv] at hw; cases hw; rfl⟩


theorem bJ5 (s : aK) (hs : s.length < 2 ^ 40) : cW Tryz.prog 102 [.str s] (fun u v => u = hf ((eN s).getD zh) ∧ v = .bool (eN s).isSome) := by
 refine FW Tryz.func102 ?_
 refine R0 ?_
 refine R0 ?_
 refine aB fun K hK => ?_
 refine aB fun K hK => Rg ?_
 iterate 2 refine S0 ?_
 refine HS rfl rfl fun K' hK' => T5 ?_
 refine yA (args := [_]) (aI3 s 16 66 (List.replicate 16 0) (by simp) (by omega) (by omega) hs) rfl (by simp) ⟨rfl, rfl, rfl, rfl⟩ ?_
 rintro u l' ⟨rfl, hll, hw⟩
 refine AX (hK' _ _ ?_)
 clear hK' K'
 refine S0 ?_
 refine T2 (hK _ _ _ ?_)
 clear hK K
 refine aJ (b := !(bR s 16).isSome) rfl (fun hb => ?_) (fun hb => ?_)
 ·
  have F := aI @zhf_eq (aI @aZ4 @hf_setAt)
  refine RF ?_
  refine aD (RT Tryz.results102 ?_)
  have hn : eN s = none := vH (by simpa using hb)
  exact aL [] zhf (.bool false) rfl ⟨by rw [hn]; rfl, by rw [hn]; rfl⟩
 refine aG ?_
 refine T0 (hK _ _ _ ?_)
 clear hK K
 obtain ⟨l, hl⟩ := Option.isSome_iff_exists.1 (show (bR s 16).isSome = true by simpa using hb)
 have := hw l hl
 subst this
 have hv := vG hl hll
 have F := aI @kC (aI hll (aI @hf_setAt @zhf_eq))
 refine RF ?_
 refine aD (RT Tryz.results102 ?_)
 simp only [kC, hll, if_true, Option.map_some]
 refine aL [] (hf (⟨l', hll⟩ : iS)) (.bool true) ?_ ?_
 ·
  simp [HV.close, HV.closeL, HV.norm, HV.toC, HV.toCL, hf, CV.denil, denilL_u8]
 exact ⟨by rw [hv]; rfl, by rw [hv]; rfl⟩


theorem aZ5 (s : aK) (hs : s.length < 2 ^ 40) : cW Tryz.prog 103 [.str s] (fun u v => u = dg ((lI s).getD zdg) ∧ v = .bool (lI s).isSome) := by
 refine FW Tryz.func103 ?_
 refine R0 ?_
 refine R0 ?_
 refine aB fun K hK => Rg ?_
 refine S0 ?_
 refine HS rfl rfl fun K' hK' => T5 ?_
 refine D2 (bJ4 s shaW) ?_
 rintro u v ⟨rfl, rfl⟩
 refine AX (hK' _ _ ?_)
 clear hK' K'
 iterate 5 refine S0 ?_
 refine T2 (hK _ _ _ ?_)
 clear hK K
 refine aB fun K hK => ?_
 by_cases hp : prefB s shaW = true
 ·
  rw [hp, if_pos rfl, show shaW.length = 7 from rfl]
  refine aB fun K hK => Rg ?_
  iterate 5 refine S0 ?_
  refine aZ (g := some (14, false)) rfl rfl fun K' hK' => T5 ?_
  refine yA (args := [_]) (aI3 (s.drop 7) 32 49 (List.replicate 32 0) (by simp) (by omega) (by omega) (by rw [List.length_drop]; omega)) rfl (by simp) ⟨rfl, rfl, rfl, rfl⟩ ?_
  rintro u l' ⟨rfl, hll, hw⟩
  refine AX (hK' _ _ ?_)
  clear hK' K'
  iterate 2 refine S0 ?_
  refine T2 (hK _ _ _ ?_)
  clear hK K
  refine aJ (b := !(bR (s.drop 7) 32).isSome) rfl (fun hb => ?_) (fun hb => ?_)
  ·
   have F := aI @xZ @dg_setAt
   refine RF ?_
   refine aD (RT Tryz.results103 ?_)
   have hn : lI s = none := kD (fun _ => by simpa using hb)
   exact aL [] zd (.bool false) rfl ⟨by rw [hn]; rfl, by rw [hn]; rfl⟩
  refine aG ?_
  refine T0 (hK _ _ _ ?_)
  clear hK K
  obtain ⟨l, hl⟩ := Option.isSome_iff_exists.1 (show (bR (s.drop 7) 32).isSome = true by simpa using hb)
  have := hw l hl
  subst this
  have hv := xY hp hl hll
  have F := aI @kC (aI hll @dg_setAt)
  refine RF ?_
  refine aD (RT Tryz.results103 ?_)
  simp only [kC, hll, if_true, Option.map_some]
  refine aL [] (dg (⟨l', hll⟩ : Dig)) (.bool true) ?_ ?_
  ·
   simp [HV.close, HV.closeL, HV.norm, HV.toC, HV.toCL, CV.denil, denilL_u8]
   rfl
  exact ⟨by rw [hv]; rfl, by rw [hv]; rfl⟩
 have hp' : prefB s shaW = false := by simpa using hp
 rw [hp', if_neg (by simp)]
 refine aB fun K hK => Rg ?_
 iterate 8 refine S0 ?_
 refine T2 (hK _ _ _ ?_)
 clear hK K
 refine CT rfl ?_
 have F := aI @xZ @dg_setAt
 refine RF ?_
 refine aD (RT Tryz.results103 ?_)
 have hn : lI s = none := kD (fun h => absurd h hp)
 exact aL [] zd (.bool false) rfl ⟨by rw [hn]; rfl, by rw [hn]; rfl⟩

end Go.Proofs.YtenbfeemmpjdhaaGreatDoor

namespace Go.Proofs.YtenbfeemmpjdhaaGreatDoor
open Go Go.Hl Go.Pl
set_option maxRecDepth 10000
set_option maxHeartbeats 16000000

theorem lD (s : aK) : cW Tryz.prog 101 [.str s] (fun u v => u = .int .i64 ((bL s).getD 0) ∧ v = .bool (bL s).isSome) := by
 refine FW Tryz.func101 ?_
 refine R0 ?_
 refine aB fun K hK => ?_
 have key : ∀ fr ob nx, eP s = false → Fits 0 fr ob (fin [(0, .c (.str s))]) (fob []) 100 → K fr ob nx := by
  intro fr ob nx hbad hf
  refine hK _ _ _ (bE hf ?_)
  clear hf hK K
  have hlen : s.length ≤ 13 := by
   simp only [eP, Bool.or_eq_false_iff, decide_eq_false_iff_not] at hbad
   omega
  refine R0 ?_
  refine aB fun K hK => ?_
  refine R0 ?_
  refine aH ?_
  refine aT (α := {y : Nat × Nat // DgSt s y.1 y.2}) (fun y => (fin [(0, .c (.str s)), (4, .c (.int .i64 y.1.2)), (5, .c (.int .i64 y.1.1))], fob [])) 200 (fun y => s.length - y.1.1) ⟨(0, 0), DgSt.init s⟩ (fF) ?_
  rintro ⟨⟨i, n⟩, hst⟩
  simp only at hst
  have hi := hst.1
  have hnl := hst.lt hlen
  refine aB fun K hK => ?_
  refine aB fun K hK => Rg ?_
  iterate 4 refine S0 ?_
  refine T2 (hK _ _ _ ?_)
  clear hK K
  refine aJ (b := decide ((i : Int) < s.length)) rfl (fun hb => ?_) (fun hb => ?_)
  ·
   have hlt : i < s.length := by simpa using hb
   clear hb
   have hgd : s.getD i 0 = s[i] := by simp [hlt]
   have hdi := aH9 s[i]
   refine aG ?_
   refine T0 (hK _ _ _ ?_)
   clear hK K
   refine aB fun K hK => ?_
   refine aH ?_
   refine aB fun K hK => ?_
   have key2 : ∀ fr ob nx, jZ s[i] = true → Fits 0 fr ob (fin [(0, .c (.str s)), (4, .c (.int .i64 n)), (5, .c (.int .i64 i))]) (fob []) 300 → K fr ob nx := by
    intro fr ob nx hd hf
    refine hK _ _ _ (bE hf ?_)
    clear hf hK K
    have hd2 : 48 ≤ s[i].toNat ∧ s[i].toNat ≤ 57 := by simpa [jZ] using hd
    have e1 : IntKind.i64.wrap (10 * (n : Int)) = ((10 * n : Nat) : Int) := by rw [IntWalk.i64_in _ (by omega)]; omega
    have e2 : IntKind.u8.wrap ((s[i].toNat : Int) - 48) = ((s[i].toNat - 48 : Nat) : Int) := by rw [IntWalk.u8_in _ (by omega)]; omega
    have e3 : IntKind.i64.wrap ((s[i].toNat - 48 : Nat) : Int) = ((s[i].toNat - 48 : Nat) : Int) := by rw [IntWalk.i64_in _ (by omega)]
    have e4 : IntKind.i64.wrap (((10 * n : Nat) : Int) + ((s[i].toNat - 48 : Nat) : Int)) = ((10 * n + (s[i].toNat - 48) : Nat) : Int) := by rw [IntWalk.i64_in _ (by omega)]; omega
    refine Rg ?_
    iterate 9 refine S0 ?_ (e := fun _ h_ => by simp only [sH, ↓sP, sA, tyS, simprocAttr, Int.natCast_nonneg, Int.ofNat_lt, hlt, hgd, e1, e2, e3, e4]; exact AX h_)
    refine T2 (hK _ _ _ ?_)
    clear hK K
    refine aM (by kernel_rfl) ?_
    refine TQ (bK i) ?_
    refine ⟨⟨(i + 1, 10 * n + (s[i].toNat - 48)), hst.next hlt hd⟩, fF, ?_⟩
    show s.length - (i + 1) < s.length - i
    omega
   refine aB fun K hK => Rg ?_
   iterate 5 refine S0 ?_ (e := fun _ h_ => by simp only [sH, ↓sP, sA, tyS, simprocAttr, Int.natCast_nonneg, Int.ofNat_lt, hlt, hgd]; exact AX h_)
   refine aE 33 rfl (fun h7_33 => ?_) (fun h7_33 => ?_)
   ·
    iterate 5 refine S0 ?_ (e := fun _ h_ => by simp only [sH, ↓sP, sA, tyS, simprocAttr, Int.natCast_nonneg, Int.ofNat_lt, hlt, hgd, h7_33]; exact AX h_)
    refine T2 (hK _ _ _ ?_)
    clear hK K
    refine CT rfl ?_
    refine R0 ?_
    refine aD (RT Tryz.results101 ?_)
    have hd : jZ s[i] = false := by simp only [jZ, Bool.and_eq_false_iff, decide_eq_false_iff_not]; simp at h7_33; omega
    have hn := nH (hst.bad hlt hd)
    exact aL [] (.int .i64 0) (.bool false) rfl ⟨by rw [hn]; rfl, by rw [hn]; rfl⟩
   iterate 5 refine S0 ?_ (e := fun _ h_ => by simp only [sH, ↓sP, sA, tyS, simprocAttr, Int.natCast_nonneg, Int.ofNat_lt, hlt, hgd, h7_33]; exact AX h_)
   refine aE 38 rfl (fun h7_38 => ?_) (fun h7_38 => ?_)
   ·
    simp only [h7_38]
    refine T2 (hK _ _ _ ?_)
    clear hK K
    refine CT rfl ?_
    refine R0 ?_
    refine aD (RT Tryz.results101 ?_)
    have hd : jZ s[i] = false := by simp only [jZ, Bool.and_eq_false_iff, decide_eq_false_iff_not]; simp at h7_38; omega
    have hn := nH (hst.bad hlt hd)
    exact aL [] (.int .i64 0) (.bool false) rfl ⟨by rw [hn]; rfl, by rw [hn]; rfl⟩
   simp only [h7_38]
   refine T2 (hK _ _ _ ?_)
   clear hK K
   refine CF rfl ?_
   refine aG (T3 ?_)
   exact key2 _ _ _ (by simp only [jZ, Bool.and_eq_true, decide_eq_true_eq]; simp at h7_33 h7_38; omega) (fF)
  refine aS (T3 ?_)
  clear hK K
  refine AX (hK _ _ _ ?_)
  clear hK K
  refine aB fun K hK => ?_
  have hfin := hst.fin (by simp at hb; omega)
  clear hb
  refine R0 ?_
  refine aJ (b := decide ((1099511627776 : Int) < (n : Int))) rfl (fun hb => ?_) (fun hb => ?_)
  ·
   refine R0 ?_
   refine aD (RT Tryz.results101 ?_)
   have hn := aH8 hfin (by simp at hb; omega)
   exact aL [] (.int .i64 0) (.bool false) rfl ⟨by rw [hn]; rfl, by rw [hn]; rfl⟩
  refine aG ?_
  refine T0 (hK _ _ _ ?_)
  clear hK K
  refine R0 ?_
  refine aD (RT Tryz.results101 ?_)
  have hn := aT1 hbad hfin (by simp at hb; omega)
  exact aL [] (.int .i64 n) (.bool true) rfl ⟨by rw [hn]; rfl, by rw [hn]; rfl⟩
 refine aB fun K hK => Rg ?_
 iterate 4 refine S0 ?_
 refine aE 8 rfl (fun h1_8 => ?_) (fun h1_8 => ?_)
 ·
  have F := h1_8
  iterate 14 refine SF ?_
  refine T2 (hK _ _ _ ?_)
  clear hK K
  refine CT rfl ?_
  refine R0 ?_
  refine aD (RT Tryz.results101 ?_)
  have hn : bL s = none := mJ (by simp only [eP, Bool.or_eq_true, decide_eq_true_eq]; simp at h1_8; left; left; omega)
  exact aL [] (.int .i64 0) (.bool false) rfl ⟨by rw [hn]; rfl, by rw [hn]; rfl⟩
 have F := h1_8
 iterate 5 refine SF ?_
 refine aE 12 rfl (fun h1_12 => ?_) (fun h1_12 => ?_)
 ·
  have F := aI h1_8 h1_12
  iterate 9 refine SF ?_
  refine T2 (hK _ _ _ ?_)
  clear hK K
  refine CT rfl ?_
  refine R0 ?_
  refine aD (RT Tryz.results101 ?_)
  have hn : bL s = none := mJ (by simp only [eP, Bool.or_eq_true, decide_eq_true_eq]; simp at h1_12; left; right; omega)
  exact aL [] (.int .i64 0) (.bool false) rfl ⟨by rw [hn]; rfl, by rw [hn]; rfl⟩
 have F := aI h1_8 h1_12
 iterate 4 refine SF ?_
 refine aE 17 rfl (fun h1_17 => ?_) (fun h1_17 => ?_)
 ·
  have F := aI h1_8 (aI h1_12 h1_17)
  refine SF ?_
  refine aZ (g := some (18, true)) rfl rfl fun K' hK' => T6 ?_
  refine ⟨by simp at h1_17; omega, ?_⟩
  refine AX (hK' _ _ ?_)
  clear hK' K'
  iterate 3 refine SF ?_
  refine aE 21 rfl (fun h1_21 => ?_) (fun h1_21 => ?_)
  ·
   simp only [h1_21]
   refine T2 (hK _ _ _ ?_)
   clear hK K
   refine CT rfl ?_
   refine R0 ?_
   refine aD (RT Tryz.results101 ?_)
   have hn : bL s = none := mJ (by
    simp only [eP, Bool.or_eq_true, Bool.and_eq_true, decide_eq_true_eq, beq_iff_eq]
    right
    refine ⟨by simp at h1_17; omega, UInt8.toNat_inj.1 ?_⟩
    simp only [beq_iff_eq] at h1_21
    show (s.getD 0 0).toNat = 48
    omega)
   exact aL [] (.int .i64 0) (.bool false) rfl ⟨by rw [hn]; rfl, by rw [hn]; rfl⟩
  simp only [h1_21]
  refine T2 (hK _ _ _ ?_)
  clear hK K
  refine CF rfl ?_
  refine aG (T3 ?_)
  refine key _ _ _ ?_ (fF)
  simp only [eP, Bool.or_eq_false_iff, Bool.and_eq_false_iff, decide_eq_false_iff_not, beq_eq_false_iff_ne, ne_eq]
  simp only [decide_eq_false_iff_not, decide_eq_true_eq] at h1_8 h1_12
  refine ⟨⟨by omega, by omega⟩, ?_⟩
  first
   | (right; intro h0; rw [h0] at h1_21; simp at h1_21)
   | (left; simp at h1_17; omega)
 have F := aI h1_8 (aI h1_12 h1_17)
 iterate 5 refine SF ?_
 refine T2 (hK _ _ _ ?_)
 clear hK K
 refine CF rfl ?_
 refine aG (T3 ?_)
 refine key _ _ _ ?_ (fF)
 simp only [eP, Bool.or_eq_false_iff, Bool.and_eq_false_iff, decide_eq_false_iff_not, beq_eq_false_iff_ne, ne_eq]
 simp only [decide_eq_false_iff_not, decide_eq_true_eq] at h1_8 h1_12
 refine ⟨⟨by omega, by omega⟩, ?_⟩
 first
  | (right; intro h0; rw [h0] at h1_21; simp at h1_21)
  | (left; simp at h1_17; omega)


theorem iD (s : aK) : cW Tryz.prog 66 [.str s] (fun u v => u = .int .i64 ((bL s).getD 0) ∧ v = .bool (bL s).isSome) := by
 refine FW Tryz.func66 ?_
 refine R0 ?_
 refine aB fun K hK => ?_
 have key : ∀ fr ob nx, eP s = false → Fits 0 fr ob (fin [(0, .c (.str s))]) (fob []) 100 → K fr ob nx := by
  intro fr ob nx hbad hf
  refine hK _ _ _ (bE hf ?_)
  clear hf hK K
  have hlen : s.length ≤ 13 := by
   simp only [eP, Bool.or_eq_false_iff, decide_eq_false_iff_not] at hbad
   omega
  refine R0 ?_
  refine aB fun K hK => ?_
  refine R0 ?_
  refine aH ?_
  refine aT (α := {y : Nat × Nat // DgSt s y.1 y.2}) (fun y => (fin [(0, .c (.str s)), (4, .c (.int .i64 y.1.2)), (5, .c (.int .i64 y.1.1))], fob [])) 200 (fun y => s.length - y.1.1) ⟨(0, 0), DgSt.init s⟩ (fF) ?_
  rintro ⟨⟨i, n⟩, hst⟩
  simp only at hst
  have hi := hst.1
  have hnl := hst.lt hlen
  refine aB fun K hK => ?_
  refine aB fun K hK => Rg ?_
  iterate 4 refine S0 ?_
  refine T2 (hK _ _ _ ?_)
  clear hK K
  refine aJ (b := decide ((i : Int) < s.length)) rfl (fun hb => ?_) (fun hb => ?_)
  ·
   have hlt : i < s.length := by simpa using hb
   clear hb
   have hgd : s.getD i 0 = s[i] := by simp [hlt]
   have hdi := aH9 s[i]
   refine aG ?_
   refine T0 (hK _ _ _ ?_)
   clear hK K
   refine aB fun K hK => ?_
   refine aH ?_
   refine aB fun K hK => ?_
   have key2 : ∀ fr ob nx, jZ s[i] = true → Fits 0 fr ob (fin [(0, .c (.str s)), (4, .c (.int .i64 n)), (5, .c (.int .i64 i))]) (fob []) 300 → K fr ob nx := by
    intro fr ob nx hd hf
    refine hK _ _ _ (bE hf ?_)
    clear hf hK K
    have hd2 : 48 ≤ s[i].toNat ∧ s[i].toNat ≤ 57 := by simpa [jZ] using hd
    have e1 : IntKind.i64.wrap (10 * (n : Int)) = ((10 * n : Nat) : Int) := by rw [IntWalk.i64_in _ (by omega)]; omega
    have e2 : IntKind.u8.wrap ((s[i].toNat : Int) - 48) = ((s[i].toNat - 48 : Nat) : Int) := by rw [IntWalk.u8_in _ (by omega)]; omega
    have e3 : IntKind.i64.wrap ((s[i].toNat - 48 : Nat) : Int) = ((s[i].toNat - 48 : Nat) : Int) := by rw [IntWalk.i64_in _ (by omega)]
    have e4 : IntKind.i64.wrap (((10 * n : Nat) : Int) + ((s[i].toNat - 48 : Nat) : Int)) = ((10 * n + (s[i].toNat - 48) : Nat) : Int) := by rw [IntWalk.i64_in _ (by omega)]; omega
    refine Rg ?_
    iterate 9 refine S0 ?_ (e := fun _ h_ => by simp only [sH, ↓sP, sA, tyS, simprocAttr, Int.natCast_nonneg, Int.ofNat_lt, hlt, hgd, e1, e2, e3, e4]; exact AX h_)
    refine T2 (hK _ _ _ ?_)
    clear hK K
    refine aM (by kernel_rfl) ?_
    refine TQ (bK i) ?_
    refine ⟨⟨(i + 1, 10 * n + (s[i].toNat - 48)), hst.next hlt hd⟩, fF, ?_⟩
    show s.length - (i + 1) < s.length - i
    omega
   refine aB fun K hK => Rg ?_
   iterate 5 refine S0 ?_ (e := fun _ h_ => by simp only [sH, ↓sP, sA, tyS, simprocAttr, Int.natCast_nonneg, Int.ofNat_lt, hlt, hgd]; exact AX h_)
   refine aE 32 rfl (fun h7_32 => ?_) (fun h7_32 => ?_)
   ·
    iterate 5 refine S0 ?_ (e := fun _ h_ => by simp only [sH, ↓sP, sA, tyS, simprocAttr, Int.natCast_nonneg, Int.ofNat_lt, hlt, hgd, h7_32]; exact AX h_)
    refine T2 (hK _ _ _ ?_)
    clear hK K
    refine CT rfl ?_
    refine R0 ?_
    refine aD (RT Tryz.results66 ?_)
    have hd : jZ s[i] = false := by simp only [jZ, Bool.and_eq_false_iff, decide_eq_false_iff_not]; simp at h7_32; omega
    have hn := nH (hst.bad hlt hd)
    exact aL [] (.int .i64 0) (.bool false) rfl ⟨by rw [hn]; rfl, by rw [hn]; rfl⟩
   iterate 5 refine S0 ?_ (e := fun _ h_ => by simp only [sH, ↓sP, sA, tyS, simprocAttr, Int.natCast_nonneg, Int.ofNat_lt, hlt, hgd, h7_32]; exact AX h_)
   refine aE 37 rfl (fun h7_37 => ?_) (fun h7_37 => ?_)
   ·
    simp only [h7_37]
    refine T2 (hK _ _ _ ?_)
    clear hK K
    refine CT rfl ?_
    refine R0 ?_
    refine aD (RT Tryz.results66 ?_)
    have hd : jZ s[i] = false := by simp only [jZ, Bool.and_eq_false_iff, decide_eq_false_iff_not]; simp at h7_37; omega
    have hn := nH (hst.bad hlt hd)
    exact aL [] (.int .i64 0) (.bool false) rfl ⟨by rw [hn]; rfl, by rw [hn]; rfl⟩
   simp only [h7_37]
   refine T2 (hK _ _ _ ?_)
   clear hK K
   refine CF rfl ?_
   refine aG (T3 ?_)
   exact key2 _ _ _ (by simp only [jZ, Bool.and_eq_true, decide_eq_true_eq]; simp at h7_32 h7_37; omega) (fF)
  refine aS (T3 ?_)
  clear hK K
  refine AX (hK _ _ _ ?_)
  clear hK K
  refine aB fun K hK => ?_
  have hfin := hst.fin (by simp at hb; omega)
  clear hb
  refine R0 ?_
  refine aJ (b := decide ((1099511627776 : Int) < (n : Int))) rfl (fun hb => ?_) (fun hb => ?_)
  ·
   refine R0 ?_
   refine aD (RT Tryz.results66 ?_)
   have hn := aH8 hfin (by simp at hb; omega)
   exact aL [] (.int .i64 0) (.bool false) rfl ⟨by rw [hn]; rfl, by rw [hn]; rfl⟩
  refine aG ?_
  refine T0 (hK _ _ _ ?_)
  clear hK K
  refine R0 ?_
  refine aD (RT Tryz.results66 ?_)
  have hn := aT1 hbad hfin (by simp at hb; omega)
  exact aL [] (.int .i64 n) (.bool true) rfl ⟨by rw [hn]; rfl, by rw [hn]; rfl⟩
 refine aB fun K hK => Rg ?_
 iterate 3 refine S0 ?_
 refine aE 7 rfl (fun h1_7 => ?_) (fun h1_7 => ?_)
 ·
  have F := h1_7
  iterate 14 refine SF ?_
  refine T2 (hK _ _ _ ?_)
  clear hK K
  refine CT rfl ?_
  refine R0 ?_
  refine aD (RT Tryz.results66 ?_)
  have hs : s = [] := by simpa using h1_7
  subst hs
  exact aL [] (.int .i64 0) (.bool false) rfl ⟨rfl, rfl⟩
 have F := h1_7
 iterate 5 refine SF ?_
 refine aE 11 rfl (fun h1_11 => ?_) (fun h1_11 => ?_)
 ·
  have F := aI h1_7 h1_11
  iterate 9 refine SF ?_
  refine T2 (hK _ _ _ ?_)
  clear hK K
  refine CT rfl ?_
  refine R0 ?_
  refine aD (RT Tryz.results66 ?_)
  have hn : bL s = none := mJ (by simp only [eP, Bool.or_eq_true, decide_eq_true_eq]; simp at h1_11; left; right; omega)
  exact aL [] (.int .i64 0) (.bool false) rfl ⟨by rw [hn]; rfl, by rw [hn]; rfl⟩
 have F := aI h1_7 h1_11
 refine SF ?_
 refine aZ (g := some (13, false)) rfl rfl fun K' hK' => T6 ?_
 refine ⟨by have := List.length_pos_iff.2 (show s ≠ [] by simpa using h1_7); omega, ?_⟩
 refine AX (hK' _ _ ?_)
 clear hK' K'
 iterate 2 refine SF ?_
 refine aE 16 rfl (fun h1_16 => ?_) (fun h1_16 => ?_)
 ·
  have F := aI h1_7 (aI h1_11 h1_16)
  iterate 5 refine SF ?_
  refine aE 20 rfl (fun h1_20 => ?_) (fun h1_20 => ?_)
  ·
   simp only [h1_20]
   refine T2 (hK _ _ _ ?_)
   clear hK K
   refine CT rfl ?_
   refine R0 ?_
   refine aD (RT Tryz.results66 ?_)
   have hn : bL s = none := mJ (by
    simp only [eP, Bool.or_eq_true, Bool.and_eq_true, decide_eq_true_eq, beq_iff_eq]
    right
    refine ⟨by simp at h1_20; omega, UInt8.toNat_inj.1 ?_⟩
    simp only [beq_iff_eq] at h1_16
    show (s.getD 0 0).toNat = 48
    omega)
   exact aL [] (.int .i64 0) (.bool false) rfl ⟨by rw [hn]; rfl, by rw [hn]; rfl⟩
  simp only [h1_20]
  refine T2 (hK _ _ _ ?_)
  clear hK K
  refine CF rfl ?_
  refine aG (T3 ?_)
  refine key _ _ _ ?_ (fF)
  have hs := List.length_pos_iff.2 (show s ≠ [] by simpa using h1_7)
  simp only [eP, Bool.or_eq_false_iff, Bool.and_eq_false_iff, decide_eq_false_iff_not, beq_eq_false_iff_ne, ne_eq]
  simp only [decide_eq_false_iff_not, decide_eq_true_eq] at h1_11
  refine ⟨⟨by omega, by omega⟩, ?_⟩
  first
   | (left; simp at h1_20; omega)
   | (right; intro h0; rw [h0] at h1_16; simp at h1_16)
 have F := aI h1_7 (aI h1_11 h1_16)
 iterate 5 refine SF ?_
 refine T2 (hK _ _ _ ?_)
 clear hK K
 refine CF rfl ?_
 refine aG (T3 ?_)
 refine key _ _ _ ?_ (fF)
 have hs := List.length_pos_iff.2 (show s ≠ [] by simpa using h1_7)
 simp only [eP, Bool.or_eq_false_iff, Bool.and_eq_false_iff, decide_eq_false_iff_not, beq_eq_false_iff_ne, ne_eq]
 simp only [decide_eq_false_iff_not, decide_eq_true_eq] at h1_11
 refine ⟨⟨by omega, by omega⟩, ?_⟩
 first
  | (left; simp at h1_20; omega)
  | (right; intro h0; rw [h0] at h1_16; simp at h1_16)


theorem aI4 (c : UInt8) : aW Tryz.prog 131 [.int .u8 c.toNat] (fun v => v = .int .i64 (valH c : Nat)) := by
 refine FW Tryz.func131 ?_
 refine R0 ?_
 refine aB fun K hK => ?_
 refine aB fun K hK => Rg ?_
 iterate 3 refine S0 ?_
 refine aE 4 rfl (fun h1_4 => ?_) (fun h1_4 => ?_)
 ·
  have F := h1_4
  iterate 3 refine SF ?_
  refine aE 7 rfl (fun h1_7 => ?_) (fun h1_7 => ?_)
  ·
   simp only [h1_7]
   refine T2 (hK _ _ _ ?_)
   clear hK K
   refine CT rfl ?_
   have e1 : IntKind.u8.wrap ((c.toNat : Int) - 48) = ((c.toNat - 48 : Nat) : Int) := by simp at h1_4 h1_7; rw [IntWalk.u8_in _ (by omega)]; omega
   have e2 : IntKind.i64.wrap ((c.toNat - 48 : Nat) : Int) = ((c.toNat - 48 : Nat) : Int) := by have := c.toNat_lt; rw [IntWalk.i64_in _ (by omega)]
   refine aB fun K hK => Rg ?_
   have F := aI e1 (aI e2 (aI h1_4 h1_7))
   iterate 4 refine SF ?_
   refine T2 (hK _ _ _ ?_)
   clear hK K
   refine aD (RT Tryz.results131 ?_)
   refine aC [] _ rfl ?_
   simp only [decide_eq_true_eq, decide_eq_false_iff_not] at *
   refine congrArg (CV.int IntKind.i64) ?_
   unfold valH
   split <;> (try split) <;> omega
  simp only [h1_7]
  refine T2 (hK _ _ _ ?_)
  clear hK K
  refine CF rfl ?_
  refine aG ?_
  refine T0 (hK _ _ _ ?_)
  clear hK K
  refine aB fun K hK => ?_
  refine aB fun K hK => Rg ?_
  have F := aI h1_4 h1_7
  iterate 3 refine SF ?_
  refine aE 13 rfl (fun h3_13 => ?_) (fun h3_13 => ?_)
  ·
   have F := aI h1_4 (aI h1_7 h3_13)
   iterate 3 refine SF ?_
   refine aE 16 rfl (fun h3_16 => ?_) (fun h3_16 => ?_)
   ·
    simp only [h3_16]
    refine T2 (hK _ _ _ ?_)
    clear hK K
    refine CT rfl ?_
    have e1 : IntKind.u8.wrap ((c.toNat : Int) - 65) = ((c.toNat - 65 : Nat) : Int) := by simp at h3_13 h3_16; rw [IntWalk.u8_in _ (by omega)]; omega
    have e2 : IntKind.i64.wrap ((c.toNat - 65 : Nat) : Int) = ((c.toNat - 65 : Nat) : Int) := by have := c.toNat_lt; rw [IntWalk.i64_in _ (by omega)]
    have e3 : IntKind.i64.wrap (((c.toNat - 65 : Nat) : Int) + 10) = ((c.toNat - 65 + 10 : Nat) : Int) := by have := c.toNat_lt; rw [IntWalk.i64_in _ (by omega)]; omega
    refine aB fun K hK => Rg ?_
    have F := aI e1 (aI e2 (aI e3 (aI h1_4 (aI h1_7 (aI h3_13 h3_16)))))
    iterate 5 refine SF ?_
    refine T2 (hK _ _ _ ?_)
    clear hK K
    refine aD (RT Tryz.results131 ?_)
    refine aC [] _ rfl ?_
    simp only [decide_eq_true_eq, decide_eq_false_iff_not] at *
    refine congrArg (CV.int IntKind.i64) ?_
    unfold valH
    split <;> (try split) <;> omega
   simp only [h3_16]
   refine T2 (hK _ _ _ ?_)
   clear hK K
   refine CF rfl ?_
   refine aG ?_
   refine T0 (hK _ _ _ ?_)
   clear hK K
   refine R0 ?_
   refine aD (RT Tryz.results131 ?_)
   refine aC [] _ rfl ?_
   simp only [decide_eq_true_eq, decide_eq_false_iff_not] at *
   refine congrArg (CV.int IntKind.i64) ?_
   unfold valH
   split <;> (try split) <;> omega
  have F := aI h1_4 (aI h1_7 h3_13)
  iterate 3 refine SF ?_
  refine T2 (hK _ _ _ ?_)
  clear hK K
  refine CF rfl ?_
  refine aG ?_
  refine T0 (hK _ _ _ ?_)
  clear hK K
  refine R0 ?_
  refine aD (RT Tryz.results131 ?_)
  refine aC [] _ rfl ?_
  simp only [decide_eq_true_eq, decide_eq_false_iff_not] at *
  refine congrArg (CV.int IntKind.i64) ?_
  unfold valH
  split <;> (try split) <;> omega
 have F := h1_4
 iterate 3 refine SF ?_
 refine T2 (hK _ _ _ ?_)
 clear hK K
 refine CF rfl ?_
 refine aG ?_
 refine T0 (hK _ _ _ ?_)
 clear hK K
 refine aB fun K hK => ?_
 refine aB fun K hK => Rg ?_
 iterate 3 refine SF ?_
 refine aE 13 rfl (fun h3_13 => ?_) (fun h3_13 => ?_)
 ·
  have F := aI h1_4 h3_13
  iterate 3 refine SF ?_
  refine aE 16 rfl (fun h3_16 => ?_) (fun h3_16 => ?_)
  ·
   simp only [h3_16]
   refine T2 (hK _ _ _ ?_)
   clear hK K
   refine CT rfl ?_
   have e1 : IntKind.u8.wrap ((c.toNat : Int) - 65) = ((c.toNat - 65 : Nat) : Int) := by simp at h3_13 h3_16; rw [IntWalk.u8_in _ (by omega)]; omega
   have e2 : IntKind.i64.wrap ((c.toNat - 65 : Nat) : Int) = ((c.toNat - 65 : Nat) : Int) := by have := c.toNat_lt; rw [IntWalk.i64_in _ (by omega)]
   have e3 : IntKind.i64.wrap (((c.toNat - 65 : Nat) : Int) + 10) = ((c.toNat - 65 + 10 : Nat) : Int) := by have := c.toNat_lt; rw [IntWalk.i64_in _ (by omega)]; omega
   refine aB fun K hK => Rg ?_
   have F := aI e1 (aI e2 (aI e3 (aI h1_4 (aI h3_13 h3_16))))
   iterate 5 refine SF ?_
   refine T2 (hK _ _ _ ?_)
   clear hK K
   refine aD (RT Tryz.results131 ?_)
   refine aC [] _ rfl ?_
   simp only [decide_eq_true_eq, decide_eq_false_iff_not] at *
   refine congrArg (CV.int IntKind.i64) ?_
   unfold valH
   split <;> (try split) <;> omega
  simp only [h3_16]
  refine T2 (hK _ _ _ ?_)
  clear hK K
  refine CF rfl ?_
  refine aG ?_
  refine T0 (hK _ _ _ ?_)
  clear hK K
  refine R0 ?_
  refine aD (RT Tryz.results131 ?_)
  refine aC [] _ rfl ?_
  simp only [decide_eq_true_eq, decide_eq_false_iff_not] at *
  refine congrArg (CV.int IntKind.i64) ?_
  unfold valH
  split <;> (try split) <;> omega
 have F := aI h1_4 h3_13
 iterate 3 refine SF ?_
 refine T2 (hK _ _ _ ?_)
 clear hK K
 refine CF rfl ?_
 refine aG ?_
 refine T0 (hK _ _ _ ?_)
 clear hK K
 refine R0 ?_
 refine aD (RT Tryz.results131 ?_)
 refine aC [] _ rfl ?_
 simp only [decide_eq_true_eq, decide_eq_false_iff_not] at *
 refine congrArg (CV.int IntKind.i64) ?_
 unfold valH
 split <;> (try split) <;> omega

end Go.Proofs.YtenbfeemmpjdhaaGreatDoor

namespace Go.Pl
open Go Go.Hl

def wd (l : List aK) (i : Nat) : aK := l.getD i []
theorem bP {l : List aK} {i : Nat} (h : i < l.length) : nth (l.map CV.str) i = .str (wd l i) := by
 rw [aO h, wd, List.getD_eq_getElem?_getD, List.getElem?_eq_getElem h]; rfl
def iE (l : List aK) (x : Rt) : Option Rt :=
 if l.length = 3 then match bL (wd l 1), bL (wd l 2) with | some a, some b => some { x with v := a, e := b } | _, _ => none else none
def gA (l : List aK) (x : Rt) : Option Rt :=
 if l.length = 3 then match bL (wd l 2) with | some n => some { x with q := x.q ++ [⟨wd l 1, n⟩] } | none => none else none
def mN (l : List aK) (x : Rt) : Option Rt :=
 if l.length < 6 then none else match bL (wd l 1), eN (wd l 2), bL (wd l 4), bL (wd l 5) with
  | some h, some r, some a, some b => some { x with k := x.k ++ [⟨⟨h, r⟩, wd l 3, l.drop 6, a, b⟩] }
  | _, _, _, _ => none
def mO (l : List aK) (x : Rt) : Option Rt :=
 if l.length = 3 then match lI (wd l 1), bL (wd l 2) with | some d, some t => some { x with x := x.x ++ [⟨d, t⟩] } | _, _ => none else none
end Go.Pl

namespace Go.Pl
open Go Go.Hl

theorem Ky.get_ph (x : Ky) : CV.getAt 0 1 false x.cv = some (.int .i64 x.p.h) := by simp [Ky.cv, Pk.cv, CV.getAt, CV.getAtL, CV.cells, CV.cellsL, dg_cells, hf_cells, Pk.cells]
theorem Ky.get_pr (x : Ky) : CV.getAt 1 16 true x.cv = some (hf x.p.r) := by simp [Ky.cv, Pk.cv, CV.getAt, CV.getAtL, CV.cells, CV.cellsL, dg_cells, hf_cells, Pk.cells, hf_getAt]
def bY5 : aK := [113, 117, 111, 116, 97]
def cD8 : aK := [107, 101, 121]
def bJ6 : aK := [114, 101, 118, 111, 107, 101, 100]
def lnC (l : List aK) : CV := .slc (l.map .str)
theorem aZ6 (l : List aK) : (lnC l).denil = lnC l := by simp only [lnC, CV.denil, denilL_str]
theorem yB (l : List (List aK)) : CV.denilL (l.map lnC) = l.map lnC := cF aZ6 l
def aI5 (r : Rt) : List aK := [fI, lH r.v, lH r.e]
def aI6 (q : Qt) : List aK := [bY5, q.r, lH q.n]
def aZ7 (k : Ky) : List aK := [cD8, lH k.p.h, bY3 k.p.r, k.o, lH k.fr, lH k.un] ++ k.rs
def bR3 (x : Rv) : List aK := [bJ6, bY4 x.k, lH x.t]
def vJ (r : Rt) : List (List aK) := [aI5 r] ++ r.q.map aI6 ++ r.k.map aZ7 ++ r.x.map bR3
def aZ8 (r : Rt) : aK := if bJ r then aH1 (vJ r) else []
def bY6 (r : Rt) : Int := if bJ r then lG (vJ r) else 1
def cD9 (r : Rt) : Prop := (0 ≤ r.v ∧ r.v ≤ dX) ∧ (0 ≤ r.e ∧ r.e ≤ dX) ∧ (∀ q ∈ r.q, 0 ≤ q.n ∧ q.n ≤ 32) ∧ (∀ k ∈ r.k, (0 ≤ k.p.h ∧ k.p.h ≤ 6) ∧ (0 ≤ k.fr ∧ k.fr ≤ dX) ∧ (0 ≤ k.un ∧ k.un ≤ dX)) ∧ ∀ x ∈ r.x, 0 ≤ x.t ∧ x.t ≤ dX
theorem pV {n : Int} (h : inN n = true) : 0 ≤ n ∧ n ≤ dX := by unfold inN at h; simpa using h
theorem wI {r : Rt} (h : bJ r = true) : cD9 r := by
 unfold bJ eC gJ gK at h
 simp only [Bool.and_eq_true, decide_eq_true_eq, List.all_eq_true] at h
 obtain ⟨⟨v1, v2⟩, he, ⟨hq1, -, hq2⟩, ⟨hk1, -, hk2⟩, ⟨hx1, -, hx⟩, hn1, hn2⟩ := h
 refine ⟨⟨by omega, v2⟩, pV he, fun q hq => ?_, fun k hk => ?_, fun x hx => pV (hx1 x hx)⟩
 ·
  have := hq1 q hq
  unfold kV at this
  simp only [Bool.and_eq_true, decide_eq_true_eq] at this
  omega
 ·
  have := hk1 k hk
  unfold tT at this
  simp only [Bool.and_eq_true, decide_eq_true_eq] at this
  obtain ⟨h1, h2, h3, h4, h5, h6, h7⟩ := this
  exact ⟨h1, pV h5, pV h6⟩
theorem bJ7 : dX = 1099511627776 := rfl
theorem aT5 {r : Rt} (h : bJ r = true) : (vJ r).length < 2 ^ 40 ∧ ∀ l ∈ vJ r, l.length < 2 ^ 40 := by
 obtain ⟨⟨⟨q1, q2⟩, ⟨k1, k2⟩, x1⟩, -, -, x2⟩ := iY h
 constructor
 ·
  simp only [vJ, List.length_append, List.length_map, List.length_cons, List.length_nil]; omega
 ·
  intro l hl
  simp only [vJ, List.mem_append, List.mem_map, List.mem_singleton] at hl
  rcases hl with ((rfl | ⟨q, hq, rfl⟩) | ⟨k, hk, rfl⟩) | ⟨x, hx, rfl⟩
  ·
   simp [aI5]
  ·
   simp [aI6]
  ·
   have := (k2 k hk).2.1
   simp [aZ7]; omega
  ·
   simp [bR3]
end Go.Pl
