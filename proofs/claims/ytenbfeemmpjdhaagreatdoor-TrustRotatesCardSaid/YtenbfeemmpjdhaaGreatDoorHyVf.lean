/- Part of a proof: walks of functions of the program, by contracts, and the rules they use. By an AI agent. -/
import Derived.Test.YtenbfeemmpjdhaaGreatDoorPl02e
import Derived.Test.YtenbfeemmpjdhaaGreatDoorHlFl
import Derived.Test.YtenbfeemmpjdhaaGreatDoorHySb
import Derived.Test.YtenbfeemmpjdhaaGreatDoorHyTz
set_option linter.unusedSimpArgs false
set_option linter.unusedVariables false
set_option linter.defProp false
namespace Go.Proofs.YtenbfeemmpjdhaaGreatDoor
open Go Go.Hl Go.Pl
set_option maxRecDepth 10000
set_option maxHeartbeats 2000000

theorem bR1 (s p : aK) : aV Tryz.prog 179 [.str s, .str p] (fun v => v = .bool (prefB s p)) := by
 refine FW Tryz.func179 ?_
 refine R0 ?_
 refine aB fun K hK => Rg ?_
 have F := aI @Int.natCast_nonneg (aI @Int.ofNat_le (aI @List.drop_zero.{0} @Nat.sub_zero))
 iterate 6 refine SF ?_
 refine aE 9 rfl (fun h1_9 => ?_) (fun h1_9 => ?_)
 ·
  have F := aI @Int.natCast_nonneg (aI @Int.ofNat_le (aI @List.drop_zero.{0} (aI @Nat.sub_zero h1_9)))
  iterate 3 refine SF ?_
  refine aZ (g := some (10, true)) rfl rfl fun K' hK' => T6 ?_
  refine ⟨by simp at h1_9; omega, ?_⟩
  refine AX (hK' _ _ ?_)
  iterate 4 refine SF ?_
  refine T2 (hK _ _ _ ?_)
  clear hK K
  refine aD (RT Tryz.results179 ?_)
  have hle : p.length ≤ s.length := by simp at h1_9; omega
  exact aC [] (.bool (s.take p.length == p)) rfl (by unfold prefB; rw [show decide (p.length ≤ s.length) = true from by simpa using hle]; rfl)
 have F := aI @Int.natCast_nonneg (aI @Int.ofNat_le (aI @List.drop_zero.{0} (aI @Nat.sub_zero h1_9)))
 iterate 8 refine SF ?_
 refine T2 (hK _ _ _ ?_)
 clear hK K
 refine aD (RT Tryz.results179 ?_)
 have hle : ¬ p.length ≤ s.length := by simp at h1_9; omega
 exact aC [] (.bool false) rfl (by unfold prefB; rw [show decide (p.length ≤ s.length) = false from by simpa using hle]; rfl)


theorem bR2 (s p : aK) : cT Tryz.prog 160 [.str s, .str p] (fun u v => u = .str (if prefB s p then s.drop p.length else s) ∧ v = .bool (prefB s p)) := by
 refine FW Tryz.func160 ?_
 refine R0 ?_
 refine aB fun K hK => ?_
 refine aB fun K hK => Rg ?_
 iterate 2 refine S0 ?_
 refine HS fun K' hK' => T5 ?_
 refine C2 (bR1 s p) ?_
 rintro u rfl
 refine AX (hK' _ _ ?_)
 refine S0 ?_
 refine T2 (hK _ _ _ ?_)
 clear hK K
 refine aJ (b := !(prefB s p)) rfl (fun hb => ?_) (fun hb => ?_)
 ·
  refine R0 ?_
  refine aD (RT Tryz.results160 ?_)
  have hp : prefB s p = false := by simpa using hb
  exact aL [] (.str s) (.bool false) rfl ⟨by rw [hp]; rfl, by rw [hp]⟩
 refine aG ?_
 refine T0 (hK _ _ _ ?_)
 clear hK K
 have hp : prefB s p = true := by simpa using hb
 have hle : p.length ≤ s.length := by
  unfold prefB at hp
  simp only [Bool.and_eq_true, decide_eq_true_eq] at hp
  exact hp.1
 have htd : List.take (s.length - p.length) (List.drop p.length s) = List.drop p.length s := List.take_of_length_le (by simp)
 refine aB fun K hK => Rg ?_
 have F := aI @Int.natCast_nonneg (aI @Int.ofNat_le (aI hle htd))
 iterate 6 refine SF ?_
 refine T2 (hK _ _ _ ?_)
 clear hK K
 refine aD (RT Tryz.results160 ?_)
 exact aL [] (.str (s.drop p.length)) (.bool true) rfl ⟨by rw [hp]; rfl, by rw [hp]⟩


theorem bJ4 (s p : aK) : cT Tryz.prog 129 [.str s, .str p] (fun u v => u = .str (if prefB s p then s.drop p.length else s) ∧ v = .bool (prefB s p)) := by
 refine FW Tryz.func129 ?_
 refine R0 ?_
 refine aB fun K hK => Rg ?_
 iterate 2 refine S0 ?_
 refine HS fun K' hK' => T5 ?_
 refine D2 (bR2 s p) ?_
 rintro u v ⟨rfl, rfl⟩
 refine AX (hK' _ _ ?_)
 iterate 4 refine S0 ?_
 refine T2 (hK _ _ _ ?_)
 clear hK K
 refine aD (RT Tryz.results129 ?_)
 exact aL [] _ _ rfl ⟨rfl, rfl⟩


theorem aH5 (s : aK) (n : Nat) (T : TypeId) (l0 : List UInt8) (h0 : l0.length = n) (hn1 : 1 < n) (hn2 : n < 1000) (hs : s.length < 2 ^ 40) :
  bU8 Tryz.prog 128 [.str s] n T l0 (fun u l' => u = .bool (bR s n).isSome ∧ l'.length = n ∧ ∀ w, bR s n = some w → l' = w) := by
 refine bS Tryz.func128 rfl (by kernel_rfl) (vA [_] _ _ _) (Nat.le_of_ble_eq_true rfl) ?_
 refine R0 ?_
 refine aB fun K hK => ?_
 have hw2 : IntKind.i64.wrap (2 * (n : Int)) = ((2 * n : Nat) : Int) := by rw [IntWalk.i64_in _ (by omega)]; omega
 have hln : (List.take n (l0.map u8)).length = n := by simp [h0]
 refine aB fun K hK => Rg ?_
 have F := aI h0 (aI @bJ3 (aI @List.length_map.{0,0} (aI @Nat.zero_le (aI @Nat.le_refl (aI @List.drop_zero.{0} (aI @Nat.sub_zero (aI hln hw2)))))))
 iterate 6 refine SF ?_
 refine T2 (hK _ _ _ ?_)
 clear hK K
 refine aJ (b := (s.length : Int) != ((2 * n : Nat) : Int)) rfl (fun hb => ?_) (fun hb => ?_)
 ·
  refine R0 ?_
  refine aD (RT Tryz.results128 ?_)
  have hv : bR s n = none := oB (by simp at hb; omega)
  exact nB (.bool false) rfl rfl ⟨by rw [hv]; rfl, h0, fun w hw => by rw [hv] at hw; cases hw⟩
 refine aG ?_
 refine T0 (hK _ _ _ ?_)
 clear hK K
 refine aB fun K hK => ?_
 have hlen : s.length = 2 * n := by simp at hb; omega
 clear hb
 have F := aI h0 (aI @bJ3 (aI @List.length_map.{0,0} (aI @Nat.zero_le (aI @Nat.le_refl (aI @List.drop_zero.{0} (aI @Nat.sub_zero hln))))))
 refine RF ?_
 refine aH ?_
 refine aS (α := {y : Nat × List UInt8 // UhSt s n y.1 y.2}) (fun y => (fin [(0, .c (.str s)), (1, .osl 0 n 0 1 n), (15, .c (.int .i64 n)), (16, .c (.int .i64 y.1.1))], fob [(0, .box T (.c (.agg (y.1.2.map u8))))])) 100 (fun y => n - y.1.1) ⟨(0, l0), UhSt.init s h0⟩ (fF) ?_
 rintro ⟨⟨i, l⟩, hst⟩
 simp only at hst
 have hi := hst.2.1
 have hll := hst.1
 refine R0 ?_
 refine aB fun K hK => ?_
 refine aJ (b := decide ((i : Int) < (n : Int))) rfl (fun hb => ?_) (fun hb => ?_)
 ·
  have hlt : i < n := by simp at hb; omega
  clear hb
  have hv2 : IntKind.i64.wrap (2 * (i : Int)) = ((2 * i : Nat) : Int) := by rw [IntWalk.i64_in _ (by omega)]; omega
  have hv3 : IntKind.i64.wrap (((2 * i : Nat) : Int) + 1) = ((2 * i + 1 : Nat) : Int) := by rw [IntWalk.i64_in _ (by omega)]; rfl
  have hgx : s.getD (2 * i) 0 = hX s i := rfl
  have hgy : s.getD (2 * i + 1) 0 = hY s i := rfl
  have hl1 : 2 * i < s.length := by omega
  have hl2 : 2 * i + 1 < s.length := by omega
  refine aG ?_
  refine T0 (hK _ _ _ ?_)
  clear hK K
  refine aB fun K hK => ?_
  refine aH ?_
  refine R0 ?_
  refine aB fun K hK => DW [(0, [], []), (1, [], []), (2, [], []), (3, [], []), (5, [], []), (6, [], []), (7, [], []), (8, [], []), (9, [], []), (4, [], [5, 6, 7, 8, 9]), (10, [], []), (11, [], []), (12, [], [])] [0, 0, 2, 7, 15, 0, 0, 64, 192, 480, 1023, 2047, 4095] ?_
  have F := aI @Int.natCast_nonneg (aI @Int.ofNat_lt (aI hv2 (aI hv3 (aI hgx (aI hgy (aI hl1 hl2))))))
  iterate 9 refine WF ?_
  refine aN (g := none) rfl rfl fun K' hK' => T6 ?_
  refine C2 (pL aT3 (hX s i)) ?_
  rintro u rfl
  refine AX (hK' _ _ ?_)
  refine aN (g := none) rfl rfl fun K' hK' => T6 ?_
  refine C2 (pL aT3 (hY s i)) ?_
  rintro u rfl
  refine AX (hK' _ _ ?_)
  iterate 2 refine WF ?_
  refine T2 (hK _ _ _ ?_)
  clear hK K
  refine aB fun K hK => ?_
  by_cases hx : valL (hX s i) < 16
  ·
   by_cases hy : valL (hY s i) < 16
   ·
    rw [mE, mE, if_pos hx, if_pos hy]
    have hx0 : decide (((valL (hX s i) : Nat) : Int) < 0) = false := by simp
    have hy0 : decide (((valL (hY s i) : Nat) : Int) < 0) = false := by simp
    have e1 : IntKind.i64.wrap (16 * ((valL (hX s i) : Nat) : Int)) = ((16 * valL (hX s i) : Nat) : Int) := by rw [IntWalk.i64_in _ (by omega)]; omega
    have e2 : IntKind.i64.wrap (((16 * valL (hX s i) : Nat) : Int) + ((valL (hY s i) : Nat) : Int)) = ((16 * valL (hX s i) + valL (hY s i) : Nat) : Int) := by rw [IntWalk.i64_in _ (by omega)]; omega
    have e3 : IntKind.u8.wrap ((16 * valL (hX s i) + valL (hY s i) : Nat) : Int) = ((hB s i).toNat : Int) := by rw [IntWalk.u8_in _ (by omega), bJ2 hx hy]
    have hil : i < l.length := by omega
    have hl1' : l.length ≠ 1 := by omega
    refine aB fun K hK => Rg ?_
    have F := aI hx0 hy0
    iterate 6 refine SF ?_
    refine T2 (hK _ _ _ ?_)
    clear hK K
    refine CF rfl ?_
    refine aG ?_
    refine T0 (hK _ _ _ ?_)
    clear hK K
    refine Rg ?_
    iterate 9 refine S0 ?_ (e := fun _ h_ => by simp only [sH, ↓sP, sA, tyS, simprocAttr, e1, e2, e3, Int.natCast_nonneg, Int.ofNat_lt, Nat.le_refl, Nat.sub_zero, Nat.zero_add, Nat.mul_one, hlt, jQ, aZ2, hil, hl1', and_false, eX]; exact AX h_)
    refine T2 (hK _ _ _ ?_)
    clear hK K
    refine aM (by kernel_rfl) ?_
    refine TQ (bK i) ?_
    refine ⟨⟨(i + 1, l.set i (hB s i)), hst.next hlt (by simp [hOk, hx, hy])⟩, fF, ?_⟩
    show n - (i + 1) < n - i
    omega
   rw [mE, mE, if_pos hx, if_neg hy]
   have hx0 : decide (((valL (hX s i) : Nat) : Int) < 0) = false := by simp
   refine aB fun K hK => Rg ?_
   have F := hx0
   iterate 6 refine SF ?_
   refine T2 (hK _ _ _ ?_)
   clear hK K
   refine CT rfl ?_
   refine R0 ?_
   refine aD (RT Tryz.results128 ?_)
   have hv := hst.bad hlt (by simp [hOk, hx, hy])
   exact nB (.bool false) rfl rfl ⟨by rw [hv]; rfl, hll, fun w hw => by rw [hv] at hw; cases hw⟩
  rw [mE, if_neg hx]
  refine aB fun K hK => Rg ?_
  iterate 6 refine S0 ?_
  refine T2 (hK _ _ _ ?_)
  clear hK K
  refine CT rfl ?_
  refine R0 ?_
  refine aD (RT Tryz.results128 ?_)
  have hv := hst.bad hlt (by simp [hOk, hx])
  exact nB (.bool false) rfl rfl ⟨by rw [hv]; rfl, hll, fun w hw => by rw [hv] at hw; cases hw⟩
 refine aR (T3 ?_)
 clear hK K
 refine AX (hK _ _ _ ?_)
 clear hK K
 refine R0 ?_
 refine aD (RT Tryz.results128 ?_)
 have hin : i = n := by simp at hb; omega
 subst hin
 have hv := hst.fin hlen
 exact nB (.bool true) rfl rfl ⟨by rw [hv]; rfl, hll, fun w hw => by rw [hv] at hw; cases hw; rfl⟩


theorem bJ5 (s : aK) (hs : s.length < 2 ^ 40) : cT Tryz.prog 102 [.str s] (fun u v => u = hf ((eK s).getD zh) ∧ v = .bool (eK s).isSome) := by
 refine FW Tryz.func102 ?_
 refine R0 ?_
 refine R0 ?_
 refine aB fun K hK => ?_
 refine aB fun K hK => Rg ?_
 iterate 2 refine S0 ?_
 refine HS fun K' hK' => T5 ?_
 refine xS (args := [_]) (aH5 s 16 66 (List.replicate 16 0) (by simp) (by omega) (by omega) hs) rfl (by simp) ⟨rfl, rfl, rfl, rfl⟩ ?_
 rintro u l' ⟨rfl, hll, hw⟩
 refine AX (hK' _ _ ?_)
 refine S0 ?_
 refine T2 (hK _ _ _ ?_)
 clear hK K
 refine aJ (b := !(bR s 16).isSome) rfl (fun hb => ?_) (fun hb => ?_)
 ·
  have F := aI @zhf_eq (aI @aZ3 @hf_setAt)
  refine RF ?_
  refine aD (RT Tryz.results102 ?_)
  have hn : eK s = none := uZ (by simpa using hb)
  exact aL [] zhf (.bool false) rfl ⟨by rw [hn]; rfl, by rw [hn]; rfl⟩
 refine aG ?_
 refine T0 (hK _ _ _ ?_)
 clear hK K
 obtain ⟨l, hl⟩ := Option.isSome_iff_exists.1 (show (bR s 16).isSome = true by simpa using hb)
 have := hw l hl
 subst this
 have hv := uY hl hll
 have F := aI @jQ (aI hll (aI @hf_setAt @zhf_eq))
 refine RF ?_
 refine aD (RT Tryz.results102 ?_)
 simp only [jQ, hll, if_true, Option.map_some]
 refine aL [] (hf (⟨l', hll⟩ : iR)) (.bool true) ?_ ?_
 ·
  simp [HV.close, HV.closeL, HV.norm, HV.toC, HV.toCL, hf, CV.denil, denilL_u8]
 exact ⟨by rw [hv]; rfl, by rw [hv]; rfl⟩


theorem aZ4 (s : aK) (hs : s.length < 2 ^ 40) : cT Tryz.prog 103 [.str s] (fun u v => u = dg ((kY s).getD zdg) ∧ v = .bool (kY s).isSome) := by
 refine FW Tryz.func103 ?_
 refine R0 ?_
 refine R0 ?_
 refine aB fun K hK => Rg ?_
 refine S0 ?_
 refine HS fun K' hK' => T5 ?_
 refine D2 (bJ4 s shaW) ?_
 rintro u v ⟨rfl, rfl⟩
 refine AX (hK' _ _ ?_)
 iterate 5 refine S0 ?_
 refine T2 (hK _ _ _ ?_)
 clear hK K
 refine aB fun K hK => ?_
 by_cases hp : prefB s shaW = true
 ·
  rw [hp, if_pos rfl, show shaW.length = 7 from rfl]
  refine aB fun K hK => Rg ?_
  iterate 5 refine S0 ?_
  refine aZ (g := some (14, false)) rfl rfl fun K' hK' => T5 ?_
  refine xS (args := [_]) (aH5 (s.drop 7) 32 49 (List.replicate 32 0) (by simp) (by omega) (by omega) (by rw [List.length_drop]; omega)) rfl (by simp) ⟨rfl, rfl, rfl, rfl⟩ ?_
  rintro u l' ⟨rfl, hll, hw⟩
  refine AX (hK' _ _ ?_)
  iterate 2 refine S0 ?_
  refine T2 (hK _ _ _ ?_)
  clear hK K
  refine aJ (b := !(bR (s.drop 7) 32).isSome) rfl (fun hb => ?_) (fun hb => ?_)
  ·
   have F := aI @xR @dg_setAt
   refine RF ?_
   refine aD (RT Tryz.results103 ?_)
   have hn : kY s = none := jR (fun _ => by simpa using hb)
   exact aL [] zd (.bool false) rfl ⟨by rw [hn]; rfl, by rw [hn]; rfl⟩
  refine aG ?_
  refine T0 (hK _ _ _ ?_)
  clear hK K
  obtain ⟨l, hl⟩ := Option.isSome_iff_exists.1 (show (bR (s.drop 7) 32).isSome = true by simpa using hb)
  have := hw l hl
  subst this
  have hv := xQ hp hl hll
  have F := aI @jQ (aI hll @dg_setAt)
  refine RF ?_
  refine aD (RT Tryz.results103 ?_)
  simp only [jQ, hll, if_true, Option.map_some]
  refine aL [] (dg (⟨l', hll⟩ : Dig)) (.bool true) ?_ ?_
  ·
   simp [HV.close, HV.closeL, HV.norm, HV.toC, HV.toCL, CV.denil, denilL_u8]
   rfl
  exact ⟨by rw [hv]; rfl, by rw [hv]; rfl⟩
 have hp' : prefB s shaW = false := by simpa using hp
 rw [hp', if_neg (by simp)]
 refine aB fun K hK => Rg ?_
 iterate 8 refine S0 ?_
 refine T2 (hK _ _ _ ?_)
 clear hK K
 refine CT rfl ?_
 have F := aI @xR @dg_setAt
 refine RF ?_
 refine aD (RT Tryz.results103 ?_)
 have hn : kY s = none := jR (fun h => absurd h hp)
 exact aL [] zd (.bool false) rfl ⟨by rw [hn]; rfl, by rw [hn]; rfl⟩

end Go.Proofs.YtenbfeemmpjdhaaGreatDoor

namespace Go.Proofs.YtenbfeemmpjdhaaGreatDoor
open Go Go.Hl Go.Pl
set_option maxRecDepth 10000
set_option maxHeartbeats 2000000

theorem kT (s : aK) : cT Tryz.prog 101 [.str s] (fun u v => u = .int .i64 ((bL s).getD 0) ∧ v = .bool (bL s).isSome) := by
 refine FW Tryz.func101 ?_
 refine R0 ?_
 refine aB fun K hK => ?_
 have key : ∀ fr ob nx, eN s = false → Fits 0 fr ob (fin [(0, .c (.str s))]) (fob []) 100 → K fr ob nx := by
  intro fr ob nx hbad hf
  refine hK _ _ _ (bE hf ?_)
  clear hf hK K
  have hlen : s.length ≤ 13 := by
   simp only [eN, Bool.or_eq_false_iff, decide_eq_false_iff_not] at hbad
   omega
  refine R0 ?_
  refine aB fun K hK => ?_
  refine R0 ?_
  refine aH ?_
  refine aS (α := {y : Nat × Nat // DgSt s y.1 y.2}) (fun y => (fin [(0, .c (.str s)), (4, .c (.int .i64 y.1.2)), (5, .c (.int .i64 y.1.1))], fob [])) 200 (fun y => s.length - y.1.1) ⟨(0, 0), DgSt.init s⟩ (fF) ?_
  rintro ⟨⟨i, n⟩, hst⟩
  simp only at hst
  have hi := hst.1
  have hnl := hst.lt hlen
  refine aB fun K hK => ?_
  refine aB fun K hK => Rg ?_
  iterate 4 refine S0 ?_
  refine T2 (hK _ _ _ ?_)
  clear hK K
  refine aJ (b := decide ((i : Int) < s.length)) rfl (fun hb => ?_) (fun hb => ?_)
  ·
   have hlt : i < s.length := by simpa using hb
   clear hb
   have hgd : s.getD i 0 = s[i] := by simp [hlt]
   have hdi := aH1 s[i]
   refine aG ?_
   refine T0 (hK _ _ _ ?_)
   clear hK K
   refine aB fun K hK => ?_
   refine aH ?_
   refine aB fun K hK => ?_
   have key2 : ∀ fr ob nx, jP s[i] = true → Fits 0 fr ob (fin [(0, .c (.str s)), (4, .c (.int .i64 n)), (5, .c (.int .i64 i))]) (fob []) 300 → K fr ob nx := by
    intro fr ob nx hd hf
    refine hK _ _ _ (bE hf ?_)
    clear hf hK K
    have hd2 : 48 ≤ s[i].toNat ∧ s[i].toNat ≤ 57 := by simpa [jP] using hd
    have e1 : IntKind.i64.wrap (10 * (n : Int)) = ((10 * n : Nat) : Int) := by rw [IntWalk.i64_in _ (by omega)]; omega
    have e2 : IntKind.u8.wrap ((s[i].toNat : Int) - 48) = ((s[i].toNat - 48 : Nat) : Int) := by rw [IntWalk.u8_in _ (by omega)]; omega
    have e3 : IntKind.i64.wrap ((s[i].toNat - 48 : Nat) : Int) = ((s[i].toNat - 48 : Nat) : Int) := by rw [IntWalk.i64_in _ (by omega)]
    have e4 : IntKind.i64.wrap (((10 * n : Nat) : Int) + ((s[i].toNat - 48 : Nat) : Int)) = ((10 * n + (s[i].toNat - 48) : Nat) : Int) := by rw [IntWalk.i64_in _ (by omega)]; omega
    refine Rg ?_
    iterate 9 refine S0 ?_ (e := fun _ h_ => by simp only [sH, ↓sP, sA, tyS, simprocAttr, Int.natCast_nonneg, Int.ofNat_lt, hlt, hgd, e1, e2, e3, e4]; exact AX h_)
    refine T2 (hK _ _ _ ?_)
    clear hK K
    refine aM (by kernel_rfl) ?_
    refine TQ (bK i) ?_
    refine ⟨⟨(i + 1, 10 * n + (s[i].toNat - 48)), hst.next hlt hd⟩, fF, ?_⟩
    show s.length - (i + 1) < s.length - i
    omega
   refine aB fun K hK => Rg ?_
   iterate 5 refine S0 ?_ (e := fun _ h_ => by simp only [sH, ↓sP, sA, tyS, simprocAttr, Int.natCast_nonneg, Int.ofNat_lt, hlt, hgd]; exact AX h_)
   refine aE 33 rfl (fun h7_33 => ?_) (fun h7_33 => ?_)
   ·
    iterate 5 refine S0 ?_ (e := fun _ h_ => by simp only [sH, ↓sP, sA, tyS, simprocAttr, Int.natCast_nonneg, Int.ofNat_lt, hlt, hgd, h7_33]; exact AX h_)
    refine T2 (hK _ _ _ ?_)
    clear hK K
    refine CT rfl ?_
    refine R0 ?_
    refine aD (RT Tryz.results101 ?_)
    have hd : jP s[i] = false := by simp only [jP, Bool.and_eq_false_iff, decide_eq_false_iff_not]; simp at h7_33; omega
    have hn := mZ (hst.bad hlt hd)
    exact aL [] (.int .i64 0) (.bool false) rfl ⟨by rw [hn]; rfl, by rw [hn]; rfl⟩
   iterate 5 refine S0 ?_ (e := fun _ h_ => by simp only [sH, ↓sP, sA, tyS, simprocAttr, Int.natCast_nonneg, Int.ofNat_lt, hlt, hgd, h7_33]; exact AX h_)
   refine aE 38 rfl (fun h7_38 => ?_) (fun h7_38 => ?_)
   ·
    simp only [h7_38]
    refine T2 (hK _ _ _ ?_)
    clear hK K
    refine CT rfl ?_
    refine R0 ?_
    refine aD (RT Tryz.results101 ?_)
    have hd : jP s[i] = false := by simp only [jP, Bool.and_eq_false_iff, decide_eq_false_iff_not]; simp at h7_38; omega
    have hn := mZ (hst.bad hlt hd)
    exact aL [] (.int .i64 0) (.bool false) rfl ⟨by rw [hn]; rfl, by rw [hn]; rfl⟩
   simp only [h7_38]
   refine T2 (hK _ _ _ ?_)
   clear hK K
   refine CF rfl ?_
   refine aG (T3 ?_)
   exact key2 _ _ _ (by simp only [jP, Bool.and_eq_true, decide_eq_true_eq]; simp at h7_33 h7_38; omega) (fF)
  refine aR (T3 ?_)
  clear hK K
  refine AX (hK _ _ _ ?_)
  clear hK K
  refine aB fun K hK => ?_
  have hfin := hst.fin (by simp at hb; omega)
  clear hb
  refine R0 ?_
  refine aJ (b := decide ((1099511627776 : Int) < (n : Int))) rfl (fun hb => ?_) (fun hb => ?_)
  ·
   refine R0 ?_
   refine aD (RT Tryz.results101 ?_)
   have hn := aH0 hfin (by simp at hb; omega)
   exact aL [] (.int .i64 0) (.bool false) rfl ⟨by rw [hn]; rfl, by rw [hn]; rfl⟩
  refine aG ?_
  refine T0 (hK _ _ _ ?_)
  clear hK K
  refine R0 ?_
  refine aD (RT Tryz.results101 ?_)
  have hn := aT0 hbad hfin (by simp at hb; omega)
  exact aL [] (.int .i64 n) (.bool true) rfl ⟨by rw [hn]; rfl, by rw [hn]; rfl⟩
 refine aB fun K hK => Rg ?_
 iterate 4 refine S0 ?_
 refine aE 8 rfl (fun h1_8 => ?_) (fun h1_8 => ?_)
 ·
  have F := h1_8
  iterate 14 refine SF ?_
  refine T2 (hK _ _ _ ?_)
  clear hK K
  refine CT rfl ?_
  refine R0 ?_
  refine aD (RT Tryz.results101 ?_)
  have hn : bL s = none := mB (by simp only [eN, Bool.or_eq_true, decide_eq_true_eq]; simp at h1_8; left; left; omega)
  exact aL [] (.int .i64 0) (.bool false) rfl ⟨by rw [hn]; rfl, by rw [hn]; rfl⟩
 have F := h1_8
 iterate 5 refine SF ?_
 refine aE 12 rfl (fun h1_12 => ?_) (fun h1_12 => ?_)
 ·
  have F := aI h1_8 h1_12
  iterate 9 refine SF ?_
  refine T2 (hK _ _ _ ?_)
  clear hK K
  refine CT rfl ?_
  refine R0 ?_
  refine aD (RT Tryz.results101 ?_)
  have hn : bL s = none := mB (by simp only [eN, Bool.or_eq_true, decide_eq_true_eq]; simp at h1_12; left; right; omega)
  exact aL [] (.int .i64 0) (.bool false) rfl ⟨by rw [hn]; rfl, by rw [hn]; rfl⟩
 have F := aI h1_8 h1_12
 iterate 4 refine SF ?_
 refine aE 17 rfl (fun h1_17 => ?_) (fun h1_17 => ?_)
 ·
  have F := aI h1_8 (aI h1_12 h1_17)
  refine SF ?_
  refine aZ (g := some (18, true)) rfl rfl fun K' hK' => T6 ?_
  refine ⟨by simp at h1_17; omega, ?_⟩
  refine AX (hK' _ _ ?_)
  iterate 3 refine SF ?_
  refine aE 21 rfl (fun h1_21 => ?_) (fun h1_21 => ?_)
  ·
   simp only [h1_21]
   refine T2 (hK _ _ _ ?_)
   clear hK K
   refine CT rfl ?_
   refine R0 ?_
   refine aD (RT Tryz.results101 ?_)
   have hn : bL s = none := mB (by
    simp only [eN, Bool.or_eq_true, Bool.and_eq_true, decide_eq_true_eq, beq_iff_eq]
    right
    refine ⟨by simp at h1_17; omega, UInt8.toNat_inj.1 ?_⟩
    simp only [beq_iff_eq] at h1_21
    show (s.getD 0 0).toNat = 48
    omega)
   exact aL [] (.int .i64 0) (.bool false) rfl ⟨by rw [hn]; rfl, by rw [hn]; rfl⟩
  simp only [h1_21]
  refine T2 (hK _ _ _ ?_)
  clear hK K
  refine CF rfl ?_
  refine aG (T3 ?_)
  refine key _ _ _ ?_ (fF)
  simp only [eN, Bool.or_eq_false_iff, Bool.and_eq_false_iff, decide_eq_false_iff_not, beq_eq_false_iff_ne, ne_eq]
  simp only [decide_eq_false_iff_not, decide_eq_true_eq] at h1_8 h1_12
  refine ⟨⟨by omega, by omega⟩, ?_⟩
  first
   | (right; intro h0; rw [h0] at h1_21; simp at h1_21)
   | (left; simp at h1_17; omega)
 have F := aI h1_8 (aI h1_12 h1_17)
 iterate 5 refine SF ?_
 refine T2 (hK _ _ _ ?_)
 clear hK K
 refine CF rfl ?_
 refine aG (T3 ?_)
 refine key _ _ _ ?_ (fF)
 simp only [eN, Bool.or_eq_false_iff, Bool.and_eq_false_iff, decide_eq_false_iff_not, beq_eq_false_iff_ne, ne_eq]
 simp only [decide_eq_false_iff_not, decide_eq_true_eq] at h1_8 h1_12
 refine ⟨⟨by omega, by omega⟩, ?_⟩
 first
  | (right; intro h0; rw [h0] at h1_21; simp at h1_21)
  | (left; simp at h1_17; omega)


theorem iC (s : aK) : cT Tryz.prog 66 [.str s] (fun u v => u = .int .i64 ((bL s).getD 0) ∧ v = .bool (bL s).isSome) := by
 refine FW Tryz.func66 ?_
 refine R0 ?_
 refine aB fun K hK => ?_
 have key : ∀ fr ob nx, eN s = false → Fits 0 fr ob (fin [(0, .c (.str s))]) (fob []) 100 → K fr ob nx := by
  intro fr ob nx hbad hf
  refine hK _ _ _ (bE hf ?_)
  clear hf hK K
  have hlen : s.length ≤ 13 := by
   simp only [eN, Bool.or_eq_false_iff, decide_eq_false_iff_not] at hbad
   omega
  refine R0 ?_
  refine aB fun K hK => ?_
  refine R0 ?_
  refine aH ?_
  refine aS (α := {y : Nat × Nat // DgSt s y.1 y.2}) (fun y => (fin [(0, .c (.str s)), (4, .c (.int .i64 y.1.2)), (5, .c (.int .i64 y.1.1))], fob [])) 200 (fun y => s.length - y.1.1) ⟨(0, 0), DgSt.init s⟩ (fF) ?_
  rintro ⟨⟨i, n⟩, hst⟩
  simp only at hst
  have hi := hst.1
  have hnl := hst.lt hlen
  refine aB fun K hK => ?_
  refine aB fun K hK => Rg ?_
  iterate 4 refine S0 ?_
  refine T2 (hK _ _ _ ?_)
  clear hK K
  refine aJ (b := decide ((i : Int) < s.length)) rfl (fun hb => ?_) (fun hb => ?_)
  ·
   have hlt : i < s.length := by simpa using hb
   clear hb
   have hgd : s.getD i 0 = s[i] := by simp [hlt]
   have hdi := aH1 s[i]
   refine aG ?_
   refine T0 (hK _ _ _ ?_)
   clear hK K
   refine aB fun K hK => ?_
   refine aH ?_
   refine aB fun K hK => ?_
   have key2 : ∀ fr ob nx, jP s[i] = true → Fits 0 fr ob (fin [(0, .c (.str s)), (4, .c (.int .i64 n)), (5, .c (.int .i64 i))]) (fob []) 300 → K fr ob nx := by
    intro fr ob nx hd hf
    refine hK _ _ _ (bE hf ?_)
    clear hf hK K
    have hd2 : 48 ≤ s[i].toNat ∧ s[i].toNat ≤ 57 := by simpa [jP] using hd
    have e1 : IntKind.i64.wrap (10 * (n : Int)) = ((10 * n : Nat) : Int) := by rw [IntWalk.i64_in _ (by omega)]; omega
    have e2 : IntKind.u8.wrap ((s[i].toNat : Int) - 48) = ((s[i].toNat - 48 : Nat) : Int) := by rw [IntWalk.u8_in _ (by omega)]; omega
    have e3 : IntKind.i64.wrap ((s[i].toNat - 48 : Nat) : Int) = ((s[i].toNat - 48 : Nat) : Int) := by rw [IntWalk.i64_in _ (by omega)]
    have e4 : IntKind.i64.wrap (((10 * n : Nat) : Int) + ((s[i].toNat - 48 : Nat) : Int)) = ((10 * n + (s[i].toNat - 48) : Nat) : Int) := by rw [IntWalk.i64_in _ (by omega)]; omega
    refine Rg ?_
    iterate 9 refine S0 ?_ (e := fun _ h_ => by simp only [sH, ↓sP, sA, tyS, simprocAttr, Int.natCast_nonneg, Int.ofNat_lt, hlt, hgd, e1, e2, e3, e4]; exact AX h_)
    refine T2 (hK _ _ _ ?_)
    clear hK K
    refine aM (by kernel_rfl) ?_
    refine TQ (bK i) ?_
    refine ⟨⟨(i + 1, 10 * n + (s[i].toNat - 48)), hst.next hlt hd⟩, fF, ?_⟩
    show s.length - (i + 1) < s.length - i
    omega
   refine aB fun K hK => Rg ?_
   iterate 5 refine S0 ?_ (e := fun _ h_ => by simp only [sH, ↓sP, sA, tyS, simprocAttr, Int.natCast_nonneg, Int.ofNat_lt, hlt, hgd]; exact AX h_)
   refine aE 32 rfl (fun h7_32 => ?_) (fun h7_32 => ?_)
   ·
    iterate 5 refine S0 ?_ (e := fun _ h_ => by simp only [sH, ↓sP, sA, tyS, simprocAttr, Int.natCast_nonneg, Int.ofNat_lt, hlt, hgd, h7_32]; exact AX h_)
    refine T2 (hK _ _ _ ?_)
    clear hK K
    refine CT rfl ?_
    refine R0 ?_
    refine aD (RT Tryz.results66 ?_)
    have hd : jP s[i] = false := by simp only [jP, Bool.and_eq_false_iff, decide_eq_false_iff_not]; simp at h7_32; omega
    have hn := mZ (hst.bad hlt hd)
    exact aL [] (.int .i64 0) (.bool false) rfl ⟨by rw [hn]; rfl, by rw [hn]; rfl⟩
   iterate 5 refine S0 ?_ (e := fun _ h_ => by simp only [sH, ↓sP, sA, tyS, simprocAttr, Int.natCast_nonneg, Int.ofNat_lt, hlt, hgd, h7_32]; exact AX h_)
   refine aE 37 rfl (fun h7_37 => ?_) (fun h7_37 => ?_)
   ·
    simp only [h7_37]
    refine T2 (hK _ _ _ ?_)
    clear hK K
    refine CT rfl ?_
    refine R0 ?_
    refine aD (RT Tryz.results66 ?_)
    have hd : jP s[i] = false := by simp only [jP, Bool.and_eq_false_iff, decide_eq_false_iff_not]; simp at h7_37; omega
    have hn := mZ (hst.bad hlt hd)
    exact aL [] (.int .i64 0) (.bool false) rfl ⟨by rw [hn]; rfl, by rw [hn]; rfl⟩
   simp only [h7_37]
   refine T2 (hK _ _ _ ?_)
   clear hK K
   refine CF rfl ?_
   refine aG (T3 ?_)
   exact key2 _ _ _ (by simp only [jP, Bool.and_eq_true, decide_eq_true_eq]; simp at h7_32 h7_37; omega) (fF)
  refine aR (T3 ?_)
  clear hK K
  refine AX (hK _ _ _ ?_)
  clear hK K
  refine aB fun K hK => ?_
  have hfin := hst.fin (by simp at hb; omega)
  clear hb
  refine R0 ?_
  refine aJ (b := decide ((1099511627776 : Int) < (n : Int))) rfl (fun hb => ?_) (fun hb => ?_)
  ·
   refine R0 ?_
   refine aD (RT Tryz.results66 ?_)
   have hn := aH0 hfin (by simp at hb; omega)
   exact aL [] (.int .i64 0) (.bool false) rfl ⟨by rw [hn]; rfl, by rw [hn]; rfl⟩
  refine aG ?_
  refine T0 (hK _ _ _ ?_)
  clear hK K
  refine R0 ?_
  refine aD (RT Tryz.results66 ?_)
  have hn := aT0 hbad hfin (by simp at hb; omega)
  exact aL [] (.int .i64 n) (.bool true) rfl ⟨by rw [hn]; rfl, by rw [hn]; rfl⟩
 refine aB fun K hK => Rg ?_
 iterate 3 refine S0 ?_
 refine aE 7 rfl (fun h1_7 => ?_) (fun h1_7 => ?_)
 ·
  have F := h1_7
  iterate 14 refine SF ?_
  refine T2 (hK _ _ _ ?_)
  clear hK K
  refine CT rfl ?_
  refine R0 ?_
  refine aD (RT Tryz.results66 ?_)
  have hs : s = [] := by simpa using h1_7
  subst hs
  exact aL [] (.int .i64 0) (.bool false) rfl ⟨rfl, rfl⟩
 have F := h1_7
 iterate 5 refine SF ?_
 refine aE 11 rfl (fun h1_11 => ?_) (fun h1_11 => ?_)
 ·
  have F := aI h1_7 h1_11
  iterate 9 refine SF ?_
  refine T2 (hK _ _ _ ?_)
  clear hK K
  refine CT rfl ?_
  refine R0 ?_
  refine aD (RT Tryz.results66 ?_)
  have hn : bL s = none := mB (by simp only [eN, Bool.or_eq_true, decide_eq_true_eq]; simp at h1_11; left; right; omega)
  exact aL [] (.int .i64 0) (.bool false) rfl ⟨by rw [hn]; rfl, by rw [hn]; rfl⟩
 have F := aI h1_7 h1_11
 refine SF ?_
 refine aZ (g := some (13, false)) rfl rfl fun K' hK' => T6 ?_
 refine ⟨by have := List.length_pos_iff.2 (show s ≠ [] by simpa using h1_7); omega, ?_⟩
 refine AX (hK' _ _ ?_)
 iterate 2 refine SF ?_
 refine aE 16 rfl (fun h1_16 => ?_) (fun h1_16 => ?_)
 ·
  have F := aI h1_7 (aI h1_11 h1_16)
  iterate 5 refine SF ?_
  refine aE 20 rfl (fun h1_20 => ?_) (fun h1_20 => ?_)
  ·
   simp only [h1_20]
   refine T2 (hK _ _ _ ?_)
   clear hK K
   refine CT rfl ?_
   refine R0 ?_
   refine aD (RT Tryz.results66 ?_)
   have hn : bL s = none := mB (by
    simp only [eN, Bool.or_eq_true, Bool.and_eq_true, decide_eq_true_eq, beq_iff_eq]
    right
    refine ⟨by simp at h1_20; omega, UInt8.toNat_inj.1 ?_⟩
    simp only [beq_iff_eq] at h1_16
    show (s.getD 0 0).toNat = 48
    omega)
   exact aL [] (.int .i64 0) (.bool false) rfl ⟨by rw [hn]; rfl, by rw [hn]; rfl⟩
  simp only [h1_20]
  refine T2 (hK _ _ _ ?_)
  clear hK K
  refine CF rfl ?_
  refine aG (T3 ?_)
  refine key _ _ _ ?_ (fF)
  have hs := List.length_pos_iff.2 (show s ≠ [] by simpa using h1_7)
  simp only [eN, Bool.or_eq_false_iff, Bool.and_eq_false_iff, decide_eq_false_iff_not, beq_eq_false_iff_ne, ne_eq]
  simp only [decide_eq_false_iff_not, decide_eq_true_eq] at h1_11
  refine ⟨⟨by omega, by omega⟩, ?_⟩
  first
   | (left; simp at h1_20; omega)
   | (right; intro h0; rw [h0] at h1_16; simp at h1_16)
 have F := aI h1_7 (aI h1_11 h1_16)
 iterate 5 refine SF ?_
 refine T2 (hK _ _ _ ?_)
 clear hK K
 refine CF rfl ?_
 refine aG (T3 ?_)
 refine key _ _ _ ?_ (fF)
 have hs := List.length_pos_iff.2 (show s ≠ [] by simpa using h1_7)
 simp only [eN, Bool.or_eq_false_iff, Bool.and_eq_false_iff, decide_eq_false_iff_not, beq_eq_false_iff_ne, ne_eq]
 simp only [decide_eq_false_iff_not, decide_eq_true_eq] at h1_11
 refine ⟨⟨by omega, by omega⟩, ?_⟩
 first
  | (left; simp at h1_20; omega)
  | (right; intro h0; rw [h0] at h1_16; simp at h1_16)


theorem aH6 (c : UInt8) : aV Tryz.prog 131 [.int .u8 c.toNat] (fun v => v = .int .i64 (valH c : Nat)) := by
 refine FW Tryz.func131 ?_
 refine R0 ?_
 refine aB fun K hK => ?_
 refine aB fun K hK => Rg ?_
 iterate 3 refine S0 ?_
 refine aE 4 rfl (fun h1_4 => ?_) (fun h1_4 => ?_)
 ·
  have F := h1_4
  iterate 3 refine SF ?_
  refine aE 7 rfl (fun h1_7 => ?_) (fun h1_7 => ?_)
  ·
   simp only [h1_7]
   refine T2 (hK _ _ _ ?_)
   clear hK K
   refine CT rfl ?_
   have e1 : IntKind.u8.wrap ((c.toNat : Int) - 48) = ((c.toNat - 48 : Nat) : Int) := by simp at h1_4 h1_7; rw [IntWalk.u8_in _ (by omega)]; omega
   have e2 : IntKind.i64.wrap ((c.toNat - 48 : Nat) : Int) = ((c.toNat - 48 : Nat) : Int) := by have := c.toNat_lt; rw [IntWalk.i64_in _ (by omega)]
   refine aB fun K hK => Rg ?_
   have F := aI e1 (aI e2 (aI h1_4 h1_7))
   iterate 4 refine SF ?_
   refine T2 (hK _ _ _ ?_)
   clear hK K
   refine aD (RT Tryz.results131 ?_)
   refine aC [] _ rfl ?_
   simp only [decide_eq_true_eq, decide_eq_false_iff_not] at *
   refine congrArg (CV.int IntKind.i64) ?_
   unfold valH
   split <;> (try split) <;> omega
  simp only [h1_7]
  refine T2 (hK _ _ _ ?_)
  clear hK K
  refine CF rfl ?_
  refine aG ?_
  refine T0 (hK _ _ _ ?_)
  clear hK K
  refine aB fun K hK => ?_
  refine aB fun K hK => Rg ?_
  have F := aI h1_4 h1_7
  iterate 3 refine SF ?_
  refine aE 13 rfl (fun h3_13 => ?_) (fun h3_13 => ?_)
  ·
   have F := aI h1_4 (aI h1_7 h3_13)
   iterate 3 refine SF ?_
   refine aE 16 rfl (fun h3_16 => ?_) (fun h3_16 => ?_)
   ·
    simp only [h3_16]
    refine T2 (hK _ _ _ ?_)
    clear hK K
    refine CT rfl ?_
    have e1 : IntKind.u8.wrap ((c.toNat : Int) - 65) = ((c.toNat - 65 : Nat) : Int) := by simp at h3_13 h3_16; rw [IntWalk.u8_in _ (by omega)]; omega
    have e2 : IntKind.i64.wrap ((c.toNat - 65 : Nat) : Int) = ((c.toNat - 65 : Nat) : Int) := by have := c.toNat_lt; rw [IntWalk.i64_in _ (by omega)]
    have e3 : IntKind.i64.wrap (((c.toNat - 65 : Nat) : Int) + 10) = ((c.toNat - 65 + 10 : Nat) : Int) := by have := c.toNat_lt; rw [IntWalk.i64_in _ (by omega)]; omega
    refine aB fun K hK => Rg ?_
    have F := aI e1 (aI e2 (aI e3 (aI h1_4 (aI h1_7 (aI h3_13 h3_16)))))
    iterate 5 refine SF ?_
    refine T2 (hK _ _ _ ?_)
    clear hK K
    refine aD (RT Tryz.results131 ?_)
    refine aC [] _ rfl ?_
    simp only [decide_eq_true_eq, decide_eq_false_iff_not] at *
    refine congrArg (CV.int IntKind.i64) ?_
    unfold valH
    split <;> (try split) <;> omega
   simp only [h3_16]
   refine T2 (hK _ _ _ ?_)
   clear hK K
   refine CF rfl ?_
   refine aG ?_
   refine T0 (hK _ _ _ ?_)
   clear hK K
   refine R0 ?_
   refine aD (RT Tryz.results131 ?_)
   refine aC [] _ rfl ?_
   simp only [decide_eq_true_eq, decide_eq_false_iff_not] at *
   refine congrArg (CV.int IntKind.i64) ?_
   unfold valH
   split <;> (try split) <;> omega
  have F := aI h1_4 (aI h1_7 h3_13)
  iterate 3 refine SF ?_
  refine T2 (hK _ _ _ ?_)
  clear hK K
  refine CF rfl ?_
  refine aG ?_
  refine T0 (hK _ _ _ ?_)
  clear hK K
  refine R0 ?_
  refine aD (RT Tryz.results131 ?_)
  refine aC [] _ rfl ?_
  simp only [decide_eq_true_eq, decide_eq_false_iff_not] at *
  refine congrArg (CV.int IntKind.i64) ?_
  unfold valH
  split <;> (try split) <;> omega
 have F := h1_4
 iterate 3 refine SF ?_
 refine T2 (hK _ _ _ ?_)
 clear hK K
 refine CF rfl ?_
 refine aG ?_
 refine T0 (hK _ _ _ ?_)
 clear hK K
 refine aB fun K hK => ?_
 refine aB fun K hK => Rg ?_
 iterate 3 refine SF ?_
 refine aE 13 rfl (fun h3_13 => ?_) (fun h3_13 => ?_)
 ·
  have F := aI h1_4 h3_13
  iterate 3 refine SF ?_
  refine aE 16 rfl (fun h3_16 => ?_) (fun h3_16 => ?_)
  ·
   simp only [h3_16]
   refine T2 (hK _ _ _ ?_)
   clear hK K
   refine CT rfl ?_
   have e1 : IntKind.u8.wrap ((c.toNat : Int) - 65) = ((c.toNat - 65 : Nat) : Int) := by simp at h3_13 h3_16; rw [IntWalk.u8_in _ (by omega)]; omega
   have e2 : IntKind.i64.wrap ((c.toNat - 65 : Nat) : Int) = ((c.toNat - 65 : Nat) : Int) := by have := c.toNat_lt; rw [IntWalk.i64_in _ (by omega)]
   have e3 : IntKind.i64.wrap (((c.toNat - 65 : Nat) : Int) + 10) = ((c.toNat - 65 + 10 : Nat) : Int) := by have := c.toNat_lt; rw [IntWalk.i64_in _ (by omega)]; omega
   refine aB fun K hK => Rg ?_
   have F := aI e1 (aI e2 (aI e3 (aI h1_4 (aI h3_13 h3_16))))
   iterate 5 refine SF ?_
   refine T2 (hK _ _ _ ?_)
   clear hK K
   refine aD (RT Tryz.results131 ?_)
   refine aC [] _ rfl ?_
   simp only [decide_eq_true_eq, decide_eq_false_iff_not] at *
   refine congrArg (CV.int IntKind.i64) ?_
   unfold valH
   split <;> (try split) <;> omega
  simp only [h3_16]
  refine T2 (hK _ _ _ ?_)
  clear hK K
  refine CF rfl ?_
  refine aG ?_
  refine T0 (hK _ _ _ ?_)
  clear hK K
  refine R0 ?_
  refine aD (RT Tryz.results131 ?_)
  refine aC [] _ rfl ?_
  simp only [decide_eq_true_eq, decide_eq_false_iff_not] at *
  refine congrArg (CV.int IntKind.i64) ?_
  unfold valH
  split <;> (try split) <;> omega
 have F := aI h1_4 h3_13
 iterate 3 refine SF ?_
 refine T2 (hK _ _ _ ?_)
 clear hK K
 refine CF rfl ?_
 refine aG ?_
 refine T0 (hK _ _ _ ?_)
 clear hK K
 refine R0 ?_
 refine aD (RT Tryz.results131 ?_)
 refine aC [] _ rfl ?_
 simp only [decide_eq_true_eq, decide_eq_false_iff_not] at *
 refine congrArg (CV.int IntKind.i64) ?_
 unfold valH
 split <;> (try split) <;> omega

end Go.Proofs.YtenbfeemmpjdhaaGreatDoor

namespace Go.Pl
open Go Go.Hl

def wd (l : List aK) (i : Nat) : aK := l.getD i []
theorem bP {l : List aK} {i : Nat} (h : i < l.length) : nth (l.map CV.str) i = .str (wd l i) := by
 rw [aW h, wd, List.getD_eq_getElem?_getD, List.getElem?_eq_getElem h]; rfl
def iD (l : List aK) (x : Rt) : Option Rt :=
 if l.length = 3 then match bL (wd l 1), bL (wd l 2) with | some a, some b => some { x with v := a, e := b } | _, _ => none else none
def fX (l : List aK) (x : Rt) : Option Rt :=
 if l.length = 3 then match bL (wd l 2) with | some n => some { x with q := x.q ++ [⟨wd l 1, n⟩] } | none => none else none
def mF (l : List aK) (x : Rt) : Option Rt :=
 if l.length < 6 then none else match bL (wd l 1), eK (wd l 2), bL (wd l 4), bL (wd l 5) with
  | some h, some r, some a, some b => some { x with k := x.k ++ [⟨⟨h, r⟩, wd l 3, l.drop 6, a, b⟩] }
  | _, _, _, _ => none
def mG (l : List aK) (x : Rt) : Option Rt :=
 if l.length = 3 then match kY (wd l 1), bL (wd l 2) with | some d, some t => some { x with x := x.x ++ [⟨d, t⟩] } | _, _ => none else none
end Go.Pl

namespace Go.Pl
open Go Go.Hl

theorem Ky.get_ph (x : Ky) : CV.getAt 0 1 false x.cv = some (.int .i64 x.p.h) := by simp [Ky.cv, Pk.cv, CV.getAt, CV.getAtL, CV.cells, CV.cellsL, dg_cells, hf_cells, Pk.cells]
theorem Ky.get_pr (x : Ky) : CV.getAt 1 16 true x.cv = some (hf x.p.r) := by simp [Ky.cv, Pk.cv, CV.getAt, CV.getAtL, CV.cells, CV.cellsL, dg_cells, hf_cells, Pk.cells, hf_getAt]
def bY5 : aK := [113, 117, 111, 116, 97]
def cD8 : aK := [107, 101, 121]
def bJ6 : aK := [114, 101, 118, 111, 107, 101, 100]
def lnC (l : List aK) : CV := .slc (l.map .str)
theorem aZ5 (l : List aK) : (lnC l).denil = lnC l := by simp only [lnC, CV.denil, denilL_str]
theorem xT (l : List (List aK)) : CV.denilL (l.map lnC) = l.map lnC := cD aZ5 l
def aH7 (r : Rt) : List aK := [fE, kX r.v, kX r.e]
def aH8 (q : Qt) : List aK := [bY5, q.r, kX q.n]
def aZ6 (k : Ky) : List aK := [cD8, kX k.p.h, bY3 k.p.r, k.o, kX k.fr, kX k.un] ++ k.rs
def bR3 (x : Rv) : List aK := [bJ6, bY4 x.k, kX x.t]
def vB (r : Rt) : List (List aK) := [aH7 r] ++ r.q.map aH8 ++ r.k.map aZ6 ++ r.x.map bR3
def aZ7 (r : Rt) : aK := if bJ r then aG3 (vB r) else []
def bY6 (r : Rt) : Int := if bJ r then kW (vB r) else 1
def cD9 (r : Rt) : Prop := (0 ≤ r.v ∧ r.v ≤ dU) ∧ (0 ≤ r.e ∧ r.e ≤ dU) ∧ (∀ q ∈ r.q, 0 ≤ q.n ∧ q.n ≤ 32) ∧ (∀ k ∈ r.k, (0 ≤ k.p.h ∧ k.p.h ≤ 6) ∧ (0 ≤ k.fr ∧ k.fr ≤ dU) ∧ (0 ≤ k.un ∧ k.un ≤ dU)) ∧ ∀ x ∈ r.x, 0 ≤ x.t ∧ x.t ≤ dU
theorem pN {n : Int} (h : inN n = true) : 0 ≤ n ∧ n ≤ dU := by unfold inN at h; simpa using h
theorem vY {r : Rt} (h : bJ r = true) : cD9 r := by
 unfold bJ dZ gH gI at h
 simp only [Bool.and_eq_true, decide_eq_true_eq, List.all_eq_true] at h
 obtain ⟨⟨v1, v2⟩, he, ⟨hq1, -, hq2⟩, ⟨hk1, -, hk2⟩, ⟨hx1, -, hx⟩, hn1, hn2⟩ := h
 refine ⟨⟨by omega, v2⟩, pN he, fun q hq => ?_, fun k hk => ?_, fun x hx => pN (hx1 x hx)⟩
 ·
  have := hq1 q hq
  unfold kL at this
  simp only [Bool.and_eq_true, decide_eq_true_eq] at this
  omega
 ·
  have := hk1 k hk
  unfold tL at this
  simp only [Bool.and_eq_true, decide_eq_true_eq] at this
  obtain ⟨h1, h2, h3, h4, h5, h6, h7⟩ := this
  exact ⟨h1, pN h5, pN h6⟩
theorem bJ7 : dU = 1099511627776 := rfl
theorem aT4 {r : Rt} (h : bJ r = true) : (vB r).length < 2 ^ 40 ∧ ∀ l ∈ vB r, l.length < 2 ^ 40 := by
 obtain ⟨⟨⟨q1, q2⟩, ⟨k1, k2⟩, x1⟩, -, -, x2⟩ := iX h
 constructor
 ·
  simp only [vB, List.length_append, List.length_map, List.length_cons, List.length_nil]; omega
 ·
  intro l hl
  simp only [vB, List.mem_append, List.mem_map, List.mem_singleton] at hl
  rcases hl with ((rfl | ⟨q, hq, rfl⟩) | ⟨k, hk, rfl⟩) | ⟨x, hx, rfl⟩
  ·
   simp [aH7]
  ·
   simp [aH8]
  ·
   have := (k2 k hk).2.1
   simp [aZ6]; omega
  ·
   simp [bR3]
end Go.Pl

namespace Go.Proofs.YtenbfeemmpjdhaaGreatDoor
open Go Go.Hl Go.Pl
set_option maxRecDepth 10000
set_option maxHeartbeats 4000000

def hBs (s : aK) (i : Nat) : List UInt8 := (List.range i).map (hB s)
theorem aT5 (s : aK) (i : Nat) : (hBs s i).length = i := by simp [hBs]
theorem bJ8 (s : aK) : hBs s 0 = [] := rfl
theorem bJ9 (s : aK) (i : Nat) : hBs s (i + 1) = hBs s i ++ [hB s i] := by simp [hBs, List.range_succ]

theorem xU (c : UInt8) : aV Tryz.prog 132 [.int .u8 c.toNat] (fun v => v = .int .i64 (valL c : Nat)) := by
 refine FW Tryz.func132 ?_
 refine R0 ?_
 refine aB fun K hK => ?_
 refine aB fun K hK => Rg ?_
 iterate 3 refine S0 ?_
 refine aE 4 rfl (fun h1_4 => ?_) (fun h1_4 => ?_)
 ·
  have F := h1_4
  iterate 3 refine SF ?_
  refine aE 7 rfl (fun h1_7 => ?_) (fun h1_7 => ?_)
  ·
   simp only [h1_7]
   refine T2 (hK _ _ _ ?_)
   clear hK K
   refine CT rfl ?_
   have e1 : IntKind.u8.wrap ((c.toNat : Int) - 48) = ((c.toNat - 48 : Nat) : Int) := by simp at h1_4 h1_7; rw [IntWalk.u8_in _ (by omega)]; omega
   have e2 : IntKind.i64.wrap ((c.toNat - 48 : Nat) : Int) = ((c.toNat - 48 : Nat) : Int) := by have := c.toNat_lt; rw [IntWalk.i64_in _ (by omega)]
   refine aB fun K hK => Rg ?_
   have F := aI e1 (aI e2 (aI h1_4 h1_7))
   iterate 4 refine SF ?_
   refine T2 (hK _ _ _ ?_)
   clear hK K
   refine aD (RT Tryz.results132 ?_)
   refine aC [] _ rfl ?_
   simp only [decide_eq_true_eq, decide_eq_false_iff_not] at *
   refine congrArg (CV.int IntKind.i64) ?_
   unfold valL
   split <;> (try split) <;> omega
  simp only [h1_7]
  refine T2 (hK _ _ _ ?_)
  clear hK K
  refine CF rfl ?_
  refine aG ?_
  refine T0 (hK _ _ _ ?_)
  clear hK K
  refine aB fun K hK => ?_
  refine aB fun K hK => Rg ?_
  have F := aI h1_4 h1_7
  iterate 3 refine SF ?_
  refine aE 13 rfl (fun h3_13 => ?_) (fun h3_13 => ?_)
  ·
   have F := aI h1_4 (aI h1_7 h3_13)
   iterate 3 refine SF ?_
   refine aE 16 rfl (fun h3_16 => ?_) (fun h3_16 => ?_)
   ·
    simp only [h3_16]
    refine T2 (hK _ _ _ ?_)
    clear hK K
    refine CT rfl ?_
    have e1 : IntKind.u8.wrap ((c.toNat : Int) - 97) = ((c.toNat - 97 : Nat) : Int) := by simp at h3_13 h3_16; rw [IntWalk.u8_in _ (by omega)]; omega
    have e2 : IntKind.i64.wrap ((c.toNat - 97 : Nat) : Int) = ((c.toNat - 97 : Nat) : Int) := by have := c.toNat_lt; rw [IntWalk.i64_in _ (by omega)]
    have e3 : IntKind.i64.wrap (((c.toNat - 97 : Nat) : Int) + 10) = ((c.toNat - 97 + 10 : Nat) : Int) := by have := c.toNat_lt; rw [IntWalk.i64_in _ (by omega)]; omega
    refine aB fun K hK => Rg ?_
    have F := aI e1 (aI e2 (aI e3 (aI h1_4 (aI h1_7 (aI h3_13 h3_16)))))
    iterate 5 refine SF ?_
    refine T2 (hK _ _ _ ?_)
    clear hK K
    refine aD (RT Tryz.results132 ?_)
    refine aC [] _ rfl ?_
    simp only [decide_eq_true_eq, decide_eq_false_iff_not] at *
    refine congrArg (CV.int IntKind.i64) ?_
    unfold valL
    split <;> (try split) <;> omega
   simp only [h3_16]
   refine T2 (hK _ _ _ ?_)
   clear hK K
   refine CF rfl ?_
   refine aG ?_
   refine T0 (hK _ _ _ ?_)
   clear hK K
   refine R0 ?_
   refine aD (RT Tryz.results132 ?_)
   refine aC [] _ rfl ?_
   simp only [decide_eq_true_eq, decide_eq_false_iff_not] at *
   refine congrArg (CV.int IntKind.i64) ?_
   unfold valL
   split <;> (try split) <;> omega
  have F := aI h1_4 (aI h1_7 h3_13)
  iterate 3 refine SF ?_
  refine T2 (hK _ _ _ ?_)
  clear hK K
  refine CF rfl ?_
  refine aG ?_
  refine T0 (hK _ _ _ ?_)
  clear hK K
  refine R0 ?_
  refine aD (RT Tryz.results132 ?_)
  refine aC [] _ rfl ?_
  simp only [decide_eq_true_eq, decide_eq_false_iff_not] at *
  refine congrArg (CV.int IntKind.i64) ?_
  unfold valL
  split <;> (try split) <;> omega
 have F := h1_4
 iterate 3 refine SF ?_
 refine T2 (hK _ _ _ ?_)
 clear hK K
 refine CF rfl ?_
 refine aG ?_
 refine T0 (hK _ _ _ ?_)
 clear hK K
 refine aB fun K hK => ?_
 refine aB fun K hK => Rg ?_
 iterate 3 refine SF ?_
 refine aE 13 rfl (fun h3_13 => ?_) (fun h3_13 => ?_)
 ·
  have F := aI h1_4 h3_13
  iterate 3 refine SF ?_
  refine aE 16 rfl (fun h3_16 => ?_) (fun h3_16 => ?_)
  ·
   simp only [h3_16]
   refine T2 (hK _ _ _ ?_)
   clear hK K
   refine CT rfl ?_
   have e1 : IntKind.u8.wrap ((c.toNat : Int) - 97) = ((c.toNat - 97 : Nat) : Int) := by simp at h3_13 h3_16; rw [IntWalk.u8_in _ (by omega)]; omega
   have e2 : IntKind.i64.wrap ((c.toNat - 97 : Nat) : Int) = ((c.toNat - 97 : Nat) : Int) := by have := c.toNat_lt; rw [IntWalk.i64_in _ (by omega)]
   have e3 : IntKind.i64.wrap (((c.toNat - 97 : Nat) : Int) + 10) = ((c.toNat - 97 + 10 : Nat) : Int) := by have := c.toNat_lt; rw [IntWalk.i64_in _ (by omega)]; omega
   refine aB fun K hK => Rg ?_
   have F := aI e1 (aI e2 (aI e3 (aI h1_4 (aI h3_13 h3_16))))
   iterate 5 refine SF ?_
   refine T2 (hK _ _ _ ?_)
   clear hK K
   refine aD (RT Tryz.results132 ?_)
   refine aC [] _ rfl ?_
   simp only [decide_eq_true_eq, decide_eq_false_iff_not] at *
   refine congrArg (CV.int IntKind.i64) ?_
   unfold valL
   split <;> (try split) <;> omega
  simp only [h3_16]
  refine T2 (hK _ _ _ ?_)
  clear hK K
  refine CF rfl ?_
  refine aG ?_
  refine T0 (hK _ _ _ ?_)
  clear hK K
  refine R0 ?_
  refine aD (RT Tryz.results132 ?_)
  refine aC [] _ rfl ?_
  simp only [decide_eq_true_eq, decide_eq_false_iff_not] at *
  refine congrArg (CV.int IntKind.i64) ?_
  unfold valL
  split <;> (try split) <;> omega
 have F := aI h1_4 h3_13
 iterate 3 refine SF ?_
 refine T2 (hK _ _ _ ?_)
 clear hK K
 refine CF rfl ?_
 refine aG ?_
 refine T0 (hK _ _ _ ?_)
 clear hK K
 refine R0 ?_
 refine aD (RT Tryz.results132 ?_)
 refine aC [] _ rfl ?_
 simp only [decide_eq_true_eq, decide_eq_false_iff_not] at *
 refine congrArg (CV.int IntKind.i64) ?_
 unfold valL
 split <;> (try split) <;> omega


theorem xV (s : aK) (n : Nat) (hn : n < 1000) : cT Tryz.prog 107 [.str s, .int .i64 n] (fun u v => u = .slc (((bR s n).getD []).map u8) ∧ v = .bool (bR s n).isSome) := by
 have hw2 : IntKind.i64.wrap (2 * (n : Int)) = ((2 * n : Nat) : Int) := by rw [IntWalk.i64_in _ (by omega)]; omega
 refine FW Tryz.func107 ?_
 refine R0 ?_
 refine aB fun K hK => ?_
 refine aB fun K hK => Rg ?_
 have F := hw2
 iterate 5 refine SF ?_
 refine T2 (hK _ _ _ ?_)
 clear hK K
 refine aJ (b := (s.length : Int) != ((2 * n : Nat) : Int)) rfl (fun hb => ?_) (fun hb => ?_)
 ·
  refine R0 ?_
  refine aD (RT Tryz.results107 ?_)
  have hv : bR s n = none := oB (by simp at hb; omega)
  refine aL [] (.slc []) (.bool false) ?_ ⟨by rw [hv]; rfl, by rw [hv]; rfl⟩
  simp [HV.close, HV.closeL, CV.denil, CV.denilL, HV.norm, HV.toC, HV.toCL]
 refine aG ?_
 refine T0 (hK _ _ _ ?_)
 clear hK K
 have hlen : s.length = 2 * n := by simp at hb; omega
 clear hb
 refine R0 ?_
 refine aB fun K hK => ?_
 refine R0 ?_
 refine aH ?_
 refine eE 6 0 5 1 rfl rfl rfl rfl ?_
 refine aS (α := {i : Nat // i ≤ n ∧ ∀ j, j < i → hOk s j = true}) (fun i => (fin [(0, .c (.str s)), (1, .c (.int .i64 n)), (6, .own 36 i.1), (7, .c (.int .i64 i.1))], fob [(36, .row 5 1 ((hBs s i.1).map u8))])) 100 (fun i => n - i.1) ⟨0, by omega, fun j hj => absurd hj (by omega)⟩ (by simp only [bJ8, List.map_nil]; exact fF) ?_
 rintro ⟨i, hi, hok⟩
 have hrl := aT5 s i
 refine aB fun K hK => ?_
 refine R0 ?_
 refine aJ (b := decide ((i : Int) < (n : Int))) rfl (fun hb => ?_) (fun hb => ?_)
 ·
  have hlt : i < n := by simp at hb; omega
  clear hb
  have hv2 : IntKind.i64.wrap (2 * (i : Int)) = ((2 * i : Nat) : Int) := by rw [IntWalk.i64_in _ (by omega)]; omega
  have hv3 : IntKind.i64.wrap (((2 * i : Nat) : Int) + 1) = ((2 * i + 1 : Nat) : Int) := by rw [IntWalk.i64_in _ (by omega)]; rfl
  have hgx : s.getD (2 * i) 0 = hX s i := rfl
  have hgy : s.getD (2 * i + 1) 0 = hY s i := rfl
  have hl1 : 2 * i < s.length := by omega
  have hl2 : 2 * i + 1 < s.length := by omega
  refine aG ?_
  refine T0 (hK _ _ _ ?_)
  clear hK K
  refine aB fun K hK => ?_
  refine aH ?_
  refine aB fun K hK => DW [(0, [], []), (1, [], []), (2, [], []), (3, [], []), (5, [], []), (6, [], []), (7, [], []), (8, [], []), (9, [], []), (4, [], [5, 6, 7, 8, 9]), (10, [], []), (11, [], []), (12, [], [])] [0, 0, 2, 7, 15, 0, 0, 64, 192, 480, 1023, 2047, 4095] ?_
  have F := aI @Int.natCast_nonneg (aI @Int.ofNat_lt (aI hv2 (aI hv3 (aI hgx (aI hgy (aI hl1 hl2))))))
  iterate 9 refine WF ?_
  refine aN (g := none) rfl rfl fun K' hK' => T6 ?_
  refine C1 (xU (hX s i)) ?_
  rintro u rfl
  refine AX (hK' _ _ ?_)
  refine aN (g := none) rfl rfl fun K' hK' => T6 ?_
  refine C1 (xU (hY s i)) ?_
  rintro u rfl
  refine AX (hK' _ _ ?_)
  iterate 2 refine WF ?_
  refine T2 (hK _ _ _ ?_)
  clear hK K
  refine aB fun K hK => ?_
  have hx := aT2 (hX s i)
  have hy := aT2 (hY s i)
  refine aB fun K hK => Rg ?_
  iterate 3 refine S0 ?_
  refine aE 32 rfl (fun h8_32 => ?_) (fun h8_32 => ?_)
  ·
   have F := h8_32
   iterate 3 refine SF ?_
   refine T2 (hK _ _ _ ?_)
   clear hK K
   refine CT rfl ?_
   refine R0 ?_
   refine aD (RT Tryz.results107 ?_)
   have hk : hOk s i = false := by simp at h8_32; simp [hOk]; omega
   have hv : bR s n = none := by
    unfold bR
    rw [if_neg]
    rintro ⟨_, h⟩
    have := List.all_eq_true.1 h i (List.mem_range.2 hlt)
    rw [hk] at this; cases this
   refine aL [] (.slc []) (.bool false) ?_ ⟨by rw [hv]; rfl, by rw [hv]; rfl⟩
   simp [HV.close, HV.closeL, CV.denil, CV.denilL, HV.norm, HV.toC, HV.toCL]
  have F := h8_32
  iterate 3 refine SF ?_
  refine aE 35 rfl (fun h8_35 => ?_) (fun h8_35 => ?_)
  ·
   simp only [h8_35]
   refine T2 (hK _ _ _ ?_)
   clear hK K
   refine CT rfl ?_
   refine R0 ?_
   refine aD (RT Tryz.results107 ?_)
   have hk : hOk s i = false := by simp at h8_35; simp [hOk]; omega
   have hv : bR s n = none := by
    unfold bR
    rw [if_neg]
    rintro ⟨_, h⟩
    have := List.all_eq_true.1 h i (List.mem_range.2 hlt)
    rw [hk] at this; cases this
   refine aL [] (.slc []) (.bool false) ?_ ⟨by rw [hv]; rfl, by rw [hv]; rfl⟩
   simp [HV.close, HV.closeL, CV.denil, CV.denilL, HV.norm, HV.toC, HV.toCL]
  simp only [h8_35]
  refine T2 (hK _ _ _ ?_)
  clear hK K
  refine CF rfl ?_
  refine aG ?_
  refine T0 (hK _ _ _ ?_)
  clear hK K
  have hx' : valL (hX s i) < 16 := by simp at h8_32; omega
  have hy' : valL (hY s i) < 16 := by simp at h8_35; omega
  have e1 : IntKind.i64.wrap (16 * ((valL (hX s i) : Nat) : Int)) = ((16 * valL (hX s i) : Nat) : Int) := by rw [IntWalk.i64_in _ (by omega)]; omega
  have e2 : IntKind.i64.wrap (((16 * valL (hX s i) : Nat) : Int) + ((valL (hY s i) : Nat) : Int)) = ((16 * valL (hX s i) + valL (hY s i) : Nat) : Int) := by rw [IntWalk.i64_in _ (by omega)]; omega
  have e3 : IntKind.u8.wrap ((16 * valL (hX s i) + valL (hY s i) : Nat) : Int) = ((hB s i).toNat : Int) := by rw [IntWalk.u8_in _ (by omega), bJ2 hx' hy']
  refine Rg ?_
  have F := aI e1 (aI e2 (aI e3 (aI @Int.natCast_nonneg (aI @List.length_append.{0} (aI @List.length_map.{0,0} (aI hrl (aI h8_32 h8_35)))))))
  iterate 9 refine SF ?_
  refine T2 (hK _ _ _ ?_)
  clear hK K
  refine aM (by kernel_rfl) ?_
  refine TQ (bK i) ?_
  have hok' : ∀ j, j < i + 1 → hOk s j = true := fun j hj => by
   rcases Nat.lt_or_ge j i with h | h
   ·
    exact hok j h
   have : j = i := by omega
   subst this; simp [hOk, hx', hy']
  refine ⟨⟨i + 1, hlt, hok'⟩, aP (by omega) ?_ ?_, ?_⟩
  ·
   simp [aX, upd_at, fin_at, HV.men]
  ·
   simp only [bB, bJ9, List.map_append, List.map_cons, List.map_nil]
   exact ⟨rfl, by omega, trivial, trivial⟩
  show n - (i + 1) < n - i
  omega
 refine aR (T3 ?_)
 clear hK K
 refine AX (hK _ _ _ ?_)
 clear hK K
 refine R0 ?_
 refine aD (RT Tryz.results107 ?_)
 have hin : i = n := by simp at hb; omega
 subst hin
 have hv : bR s i = some (hBs s i) := by
  unfold bR
  rw [if_pos ⟨hlen, List.all_eq_true.2 fun j hj => hok j (List.mem_range.1 hj)⟩]; rfl
 refine aL [36] (.slc ((hBs s i).map u8)) (.bool true) ?_ ⟨by rw [hv]; rfl, by rw [hv]; rfl⟩
 simp [HV.close, HV.closeL, upd_at, fob_at, HV.norm, HV.toC, HV.toCL, CV.denil, aT5, List.take_of_length_le]


def iE (n : Nat) (l : List UInt8) (i : Nat) : List UInt8 := l.take i ++ List.replicate (n - i) 0
theorem vC (n : Nat) (l : List UInt8) : iE n l 0 = List.replicate n 0 := by simp [iE]
theorem xW {n : Nat} {l : List UInt8} {i : Nat} (h : i ≤ l.length) (hl : l.length ≤ n) : (iE n l i).length = n := by simp [iE]; omega
theorem xX {n : Nat} {l : List UInt8} {i : Nat} (h : i < l.length) (hl : l.length ≤ n) : (iE n l i).set i l[i] = iE n l (i + 1) := by
 unfold iE
 rw [List.set_append_right _ _ (by rw [List.length_take]; exact Nat.min_le_left _ _), List.take_succ_eq_append_getElem h, show n - i = n - (i + 1) + 1 from by omega, List.replicate_succ, List.append_assoc]
 simp [Nat.min_eq_left (Nat.le_of_lt h)]
theorem xY {n : Nat} {l : List UInt8} (hl : l.length = n) : iE n l l.length = l := by subst hl; simp [iE]
theorem xZ {s : aK} {n : Nat} : ((bR s n).getD []).length ≤ n := by
 cases h : bR s n with
 | none => simp
 | some l => simp [eT h]

theorem aZ8 (s : aK) : cT Tryz.prog 106 [.str s] (fun u v => u = hf ((eK s).getD zh) ∧ v = .bool (eK s).isSome) := by
 refine FW Tryz.func106 ?_
 refine R0 ?_
 refine R0 ?_
 refine aB fun K hK => Rg ?_
 refine S0 ?_
 refine HS fun K' hK' => T5 ?_
 refine D2 (xV s 16 (by omega)) ?_
 rintro u v ⟨rfl, rfl⟩
 refine AX (hK' _ _ ?_)
 iterate 5 refine S0 ?_
 refine T2 (hK _ _ _ ?_)
 clear hK K
 refine aB fun K hK => ?_
 obtain ⟨l, hl⟩ : ∃ l, l = (bR s 16).getD [] := ⟨_, rfl⟩
 have hll : l.length ≤ 16 := by rw [hl]; exact xZ
 rw [← hl]
 refine R0 ?_
 refine aH ?_
 refine aS (α := {i : Nat // i ≤ l.length}) (fun i => (fin [(2, .ptr 0 0), (4, .ptr 8 0), (5, .c (.slc (l.map u8))), (6, .c (.bool (bR s 16).isSome)), (7, .c (.int .i64 i.1))], fob [(0, .box 66 (.c zhf)), (8, .box 66 (.c (us (iE 16 l i.1))))])) 100 (fun i => l.length - i.1) ⟨0, by omega⟩ (aP (by omega) (by simp [aX, fin_at, finA_at, upd_at, HV.men, HV.menL, HV.norm, HV.toC, HV.toCL]) (by simp only [bB, fob_at, upd_at, none0_at, vC]; exact ⟨rfl, by omega, trivial, rfl, by omega, trivial, trivial⟩)) ?_
 rintro ⟨i, hi⟩
 have hA := xW hi hll
 refine aB fun K hK => ?_
 refine aB fun K hK => Rg ?_
 iterate 4 refine S0 ?_
 refine T2 (hK _ _ _ ?_)
 clear hK K
 refine aJ (b := decide ((i : Int) < l.length)) rfl (fun hb => ?_) (fun hb => ?_)
 ·
  have hlt : i < l.length := by simpa using hb
  clear hb
  have hset := mW (l := iE 16 l i) (i := i) l[i] (by omega) (by omega)
  have hi16 : (i : Int) < 16 := by omega
  rw [xX hlt hll] at hset
  refine aG ?_
  refine T0 (hK _ _ _ ?_)
  clear hK K
  refine aB fun K hK => ?_
  refine aH ?_
  refine Rg ?_
  have F := aI @Int.natCast_nonneg (aI @Int.ofNat_lt (aI hlt (aI (nM hlt) (aI @u8.eq_1 (aI hset (aI @eX (aI @Nat.mul_one hi16)))))))
  iterate 7 refine SF ?_
  refine T2 (hK _ _ _ ?_)
  clear hK K
  refine aM (by kernel_rfl) ?_
  refine TQ (bK i) ?_
  refine ⟨⟨i + 1, hlt⟩, fF, ?_⟩
  show l.length - (i + 1) < l.length - i
  omega
 refine aR (T3 ?_)
 clear hK K
 refine AX (hK _ _ _ ?_)
 clear hK K
 have hil : i = l.length := by simp at hb; omega
 subst hil
 have hg := qC hA
 refine aB fun K hK => Rg ?_
 have F := aI @hf_setAt (aI @zhf_eq hg)
 iterate 4 refine SF ?_
 refine T2 (hK _ _ _ ?_)
 clear hK K
 refine aD (RT Tryz.results106 ?_)
 rw [hg]
 simp only [Option.map_some]
 cases hv : bR s 16 with
 | none =>
  rw [hv] at hl
  subst hl
  rw [uZ hv]
  exact aL [] (hf zh) (.bool false) rfl ⟨rfl, rfl⟩
 | some m =>
  rw [hv] at hl
  obtain rfl : m = l := hl.symm
  have hm := eT hv
  rw [uY hv hm]
  refine aL [] (hf (⟨m, hm⟩ : iR)) (.bool true) ?_ ?_
  rotate_left
  ·
   exact ⟨rfl, rfl⟩
  rw [show us (iE 16 m m.length) = hf (⟨m, hm⟩ : iR) from by rw [xY hm]; rfl]
  simp [HV.close, HV.closeL, HV.norm, HV.toC, HV.toCL, CV.denil, hf_denil]


theorem aO5 (s : aK) : cT Tryz.prog 68 [.str s] (fun u v => u = dg ((kY s).getD zdg) ∧ v = .bool (kY s).isSome) := by
 refine FW Tryz.func68 ?_
 refine R0 ?_
 refine R0 ?_
 refine aB fun K hK => ?_
 refine aB fun K hK => Rg ?_
 have F := aI @List.drop_zero.{0} @Nat.sub_zero
 iterate 4 refine SF ?_
 refine aE 10 rfl (fun h2_10 => ?_) (fun h2_10 => ?_)
 ·
  have F := aI @List.drop_zero.{0} (aI @Nat.sub_zero h2_10)
  iterate 4 refine SF ?_
  refine T2 (hK _ _ _ ?_)
  clear hK K
  refine CT rfl ?_
  refine R0 ?_
  refine aD (RT Tryz.results68 ?_)
  have hn : kY s = none := jR (fun _ => oB (by simp at h2_10 ⊢; omega))
  refine aL [] zd (.bool false) rfl ⟨by rw [hn]; rfl, by rw [hn]; rfl⟩
 have F := aI @List.drop_zero.{0} (aI @Nat.sub_zero h2_10)
 refine SF ?_
 refine aZ (g := some (11, false)) rfl rfl fun K' hK' => T6 ?_
 refine ⟨by simp at h2_10; omega, ?_⟩
 refine AX (hK' _ _ ?_)
 iterate 2 refine SF ?_
 refine aE 14 rfl (fun h2_14 => ?_) (fun h2_14 => ?_)
 ·
  simp only [h2_14]
  refine T2 (hK _ _ _ ?_)
  clear hK K
  refine CT rfl ?_
  refine R0 ?_
  refine aD (RT Tryz.results68 ?_)
  have hn : kY s = none := jR (fun hp => by
   unfold prefB at hp
   simp only [Bool.and_eq_true] at hp
   have : s.take 7 = shaW := eq_of_beq hp.2
   rw [this] at h2_14
   exact absurd h2_14 (by decide))
  refine aL [] zd (.bool false) rfl ⟨by rw [hn]; rfl, by rw [hn]; rfl⟩
 simp only [h2_14]
 refine T2 (hK _ _ _ ?_)
 clear hK K
 refine CF rfl ?_
 refine aG ?_
 refine T0 (hK _ _ _ ?_)
 clear hK K
 have hs : s.length = 71 := by simp at h2_10; omega
 have hp : prefB s shaW = true := by
  unfold prefB
  have e : s.take 7 = shaW := by simpa [shaW] using h2_14
  rw [show shaW.length = 7 from rfl, e, hs]; rfl
 have htd : List.take (s.length - 7) (List.drop 7 s) = List.drop 7 s := List.take_of_length_le (by simp)
 have h7 : (7 : Int) ≤ (s.length : Int) := by omega
 have h7' : 7 ≤ s.length := by omega
 refine aB fun K hK => Rg ?_
 have F := aI htd (aI h7 (aI h7' (aI @Int.natCast_nonneg (aI @Int.ofNat_le (aI h2_10 h2_14)))))
 iterate 2 refine SF ?_
 refine HS fun K' hK' => T6 ?_
 refine D2 (xV (s.drop 7) 32 (by omega)) ?_
 rintro u v ⟨rfl, rfl⟩
 refine AX (hK' _ _ ?_)
 iterate 5 refine SF ?_
 refine T2 (hK _ _ _ ?_)
 clear hK K
 refine aB fun K hK => ?_
 obtain ⟨l, hl⟩ : ∃ l, l = (bR (s.drop 7) 32).getD [] := ⟨_, rfl⟩
 have hll : l.length ≤ 32 := by rw [hl]; exact xZ
 rw [← hl]
 refine R0 ?_
 refine aH ?_
 refine aS (α := {i : Nat // i ≤ l.length}) (fun i => (fin [(2, .ptr 0 0), (4, .ptr 8 0), (5, .c (.slc (l.map u8))), (6, .c (.bool (bR (s.drop 7) 32).isSome)), (7, .c (.int .i64 i.1))], fob [(0, .box 49 (.c zd)), (8, .box 49 (.c (us (iE 32 l i.1))))])) 200 (fun i => l.length - i.1) ⟨0, by omega⟩ (aP (by omega) (by simp [aX, fin_at, finA_at, upd_at, HV.men, HV.menL, HV.norm, HV.toC, HV.toCL]) (by simp only [bB, fob_at, upd_at, none0_at, vC]; exact ⟨rfl, by omega, trivial, rfl, by omega, trivial, trivial⟩)) ?_
 rintro ⟨i, hi⟩
 have hA := xW hi hll
 refine aB fun K hK => ?_
 refine aB fun K hK => Rg ?_
 have F := aI h2_10 h2_14
 iterate 4 refine SF ?_
 refine T2 (hK _ _ _ ?_)
 clear hK K
 refine aJ (b := decide ((i : Int) < l.length)) rfl (fun hb => ?_) (fun hb => ?_)
 ·
  have hlt : i < l.length := by simpa using hb
  clear hb
  have hset := mW (l := iE 32 l i) (i := i) l[i] (by omega) (by omega)
  have hi16 : (i : Int) < 32 := by omega
  rw [xX hlt hll] at hset
  refine aG ?_
  refine T0 (hK _ _ _ ?_)
  clear hK K
  refine aB fun K hK => ?_
  refine aH ?_
  refine Rg ?_
  have F := aI @Int.natCast_nonneg (aI @Int.ofNat_lt (aI hlt (aI (nM hlt) (aI @u8.eq_1 (aI hset (aI @eX (aI @Nat.mul_one (aI hi16 (aI h2_10 h2_14)))))))))
  iterate 7 refine SF ?_
  refine T2 (hK _ _ _ ?_)
  clear hK K
  refine aM (by kernel_rfl) ?_
  refine TQ (bK i) ?_
  refine ⟨⟨i + 1, hlt⟩, fF, ?_⟩
  show l.length - (i + 1) < l.length - i
  omega
 refine aR (T3 ?_)
 clear hK K
 refine AX (hK _ _ _ ?_)
 clear hK K
 have hil : i = l.length := by simp at hb; omega
 subst hil
 have hg := qC hA
 refine aB fun K hK => Rg ?_
 have F := aI @dg_setAt (aI hg (aI h2_10 h2_14))
 iterate 4 refine SF ?_
 refine T2 (hK _ _ _ ?_)
 clear hK K
 refine aD (RT Tryz.results68 ?_)
 rw [hg]
 simp only [Option.map_some]
 cases hv : bR (s.drop 7) 32 with
 | none =>
  rw [hv] at hl
  subst hl
  rw [jR fun _ => hv]
  exact aL [] zd (.bool false) rfl ⟨rfl, rfl⟩
 | some m =>
  rw [hv] at hl
  obtain rfl : m = l := hl.symm
  have hm := eT hv
  rw [xQ hp hv hm]
  refine aL [] (dg (⟨m, hm⟩ : Dig)) (.bool true) ?_ ?_
  rotate_left
  ·
   exact ⟨rfl, rfl⟩
  rw [show us (iE 32 m m.length) = dg (⟨m, hm⟩ : Dig) from by rw [xY hm]; rfl]
  simp [HV.close, HV.closeL, HV.norm, HV.toC, HV.toCL, CV.denil, dg_denil]


def aZ9 (l : List aK) : Option Ky := match bL (wd l 1), eK (wd l 2), bL (wd l 4), bL (wd l 5) with
 | some h, some r, some a, some b => some ⟨⟨h, r⟩, wd l 3, l.drop 6, a, b⟩
 | _, _, _, _ => none
theorem zU {l : List aK} (h : ¬ l.length < 6) (x : Rt) : mF l x = (aZ9 l).map fun k => { x with k := x.k ++ [k] } := by
 unfold mF aZ9
 rw [if_neg h]
 cases bL (wd l 1) <;> cases eK (wd l 2) <;> cases bL (wd l 4) <;> cases bL (wd l 5) <;> rfl

theorem aO6 (l : List aK) (hl : l.length < 2 ^ 40) (h0 : 0 < l.length) (hk : wd l 0 = [107, 101, 121]) : cT Tryz.prog 67 [.slc (l.map .str)] (fun u v => ∃ (k : Ky) (ok : Bool), u = k.cv ∧ v = .bool ok ∧ ∀ x, mF l x = if ok then some { x with k := x.k ++ [k] } else none) := by
 have z0 : (0 : Int) < l.length := by omega
 have w0 := bP h0
 refine FW Tryz.func67 ?_
 refine R0 ?_
 refine aB fun K hK => ?_
 refine aB fun K hK => Rg ?_
 have F := aI @List.length_map.{0,0} (aI z0 w0)
 iterate 4 refine SF ?_
 refine aE 15 rfl (fun h1_15 => ?_) (fun h1_15 => ?_)
 ·
  have F := aI @List.length_map.{0,0} (aI z0 (aI w0 h1_15))
  iterate 5 refine SF ?_
  refine T2 (hK _ _ _ ?_)
  clear hK K
  refine CT rfl ?_
  refine R0 ?_
  refine aD (RT Tryz.results67 ?_)
  exact aL [] (Ky.cv k0) (.bool false) rfl ⟨k0, false, rfl, rfl, fun x => by unfold mF; rw [if_pos (by simp at h1_15; omega)]; rfl⟩
 have F := aI @List.length_map.{0,0} (aI z0 (aI w0 h1_15))
 iterate 5 refine SF ?_
 refine aE 20 rfl (fun h1_20 => ?_) (fun h1_20 => ?_)
 ·
  simp only [h1_20]
  refine T2 (hK _ _ _ ?_)
  clear hK K
  refine CT rfl ?_
  refine R0 ?_
  refine aD (RT Tryz.results67 ?_)
  rw [hk] at h1_20
  exact absurd h1_20 (by decide)
 simp only [h1_20]
 refine T2 (hK _ _ _ ?_)
 clear hK K
 refine CF rfl ?_
 refine aG ?_
 refine T0 (hK _ _ _ ?_)
 clear hK K
 have h6 : ¬ l.length < 6 := by simp at h1_15; omega
 have i1 : 1 < l.length := by omega
 have i2 : 2 < l.length := by omega
 have i3 : 3 < l.length := by omega
 have i4 : 4 < l.length := by omega
 have i5 : 5 < l.length := by omega
 have i6 : 6 ≤ l.length := by omega
 have z1 : (1 : Int) < l.length := by omega
 have z2 : (2 : Int) < l.length := by omega
 have z3 : (3 : Int) < l.length := by omega
 have z4 : (4 : Int) < l.length := by omega
 have z5 : (5 : Int) < l.length := by omega
 have z6 : (6 : Int) ≤ l.length := by omega
 refine aB fun K hK => Rg ?_
 have F := aI @List.length_map.{0,0} (aI z1 (aI (bP i1) (aI h1_15 h1_20)))
 iterate 3 refine SF ?_
 refine HS fun K' hK' => T6 ?_
 refine D1 (iC (wd l 1)) ?_
 rintro u v ⟨rfl, rfl⟩
 refine AX (hK' _ _ ?_)
 iterate 5 refine SF ?_
 refine T2 (hK _ _ _ ?_)
 clear hK K
 refine aB fun K hK => Rg ?_
 have F := aI @List.length_map.{0,0} (aI z2 (aI (bP i2) (aI @hf_setAt (aI @zhf_eq (aI h1_15 h1_20)))))
 iterate 3 refine SF ?_
 refine HS fun K' hK' => T6 ?_
 refine D1 (aZ8 (wd l 2)) ?_
 rintro u v ⟨rfl, rfl⟩
 refine AX (hK' _ _ ?_)
 iterate 6 refine SF ?_
 refine T2 (hK _ _ _ ?_)
 clear hK K
 refine aB fun K hK => Rg ?_
 have F := aI @List.length_map.{0,0} (aI z4 (aI (bP i4) (aI h1_15 h1_20)))
 iterate 3 refine SF ?_
 refine HS fun K' hK' => T6 ?_
 refine D1 (iC (wd l 4)) ?_
 rintro u v ⟨rfl, rfl⟩
 refine AX (hK' _ _ ?_)
 iterate 5 refine SF ?_
 refine T2 (hK _ _ _ ?_)
 clear hK K
 refine aB fun K hK => Rg ?_
 have F := aI @List.length_map.{0,0} (aI z5 (aI (bP i5) (aI h1_15 h1_20)))
 iterate 3 refine SF ?_
 refine HS fun K' hK' => T6 ?_
 refine D1 (iC (wd l 5)) ?_
 rintro u v ⟨rfl, rfl⟩
 have htk : List.take (l.length - 6) (List.drop 6 (l.map CV.str)) = (l.drop 6).map .str := by rw [List.map_drop, List.take_of_length_le (by simp)]
 refine AX (hK' _ _ ?_)
 iterate 5 refine SF ?_
 refine T2 (hK _ _ _ ?_)
 clear hK K
 refine aB fun K hK => jH mixed [(0, [], []), (1, [], []), (2, [], []), (3, [], []), (4, [], []), (5, [], []), (6, [], []), (7, [6], []), (8, [6], []), (10, [6], []), (11, [6], []), (13, [6], []), (9, [13], [0, 1, 2, 3, 4, 5, 10, 11, 13]), (12, [13], []), (14, [], [])] [0, 0, 3, 0, 8, 24, 0, 0, 128, 448, 0, 0, 4095, 0, 16383] (by kernel_rfl) (by kernel_rfl) (by kernel_rfl) (by kernel_rfl) rfl (by kernel_rfl) ?_
 have F := aI @List.length_map.{0,0} (aI @List.length_drop.{0} (aI z3 (aI z6 (aI i6 (aI (bP i3) (aI htk (aI @denilL_str (aI h1_15 h1_20))))))))
 iterate 2 refine WGF ?_
 refine dG (g := none) rfl rfl fun K' hK' => T6 ?_
 rw [qD _ _ rfl rfl]
 refine AX (hK' _ _ ?_)
 iterate 9 refine WGF ?_
 refine gA (g := none) 216 rfl rfl fun K' hK' => ?_
 simp only [iN, lG, sH, ↓sP, sA, tyS, simprocAttr, List.length_map, List.length_drop, z3, z6, i6, bP i3, htk, denilL_str, h1_15, h1_20]
 repeat refine AI ?_
 refine dX (by first | rfl | simp) ?_
 try simp only [sH, ↓sP, sA, tyS, simprocAttr, List.length_map, List.length_drop, z3, z6, i6, bP i3, htk, denilL_str, h1_15, h1_20]
 refine AX (hK' _ _ ?_)
 iterate 2 refine WGF ?_
 refine T2 (hK _ _ _ ?_)
 clear hK K
 cases h1 : bL (wd l 1)
 ·
  have hd := fun h r a b => Ky.denil ⟨⟨h, r⟩, wd l 3, l.drop 6, a, b⟩
  simp only [Ky.cv, Pk.cv, CV.denil, CV.agg.injEq] at hd
  refine aB fun K hK => Rg ?_
  have F := aI @Option.isSome_none.{0} (aI @Option.isSome_some.{0} (aI h1_15 h1_20))
  iterate 13 refine SF ?_
  refine T2 (hK _ _ _ ?_)
  clear hK K
  refine aD (RT Tryz.results67 ?_)
  refine aL [] (Ky.cv ⟨⟨(bL (wd l 1)).getD 0, (eK (wd l 2)).getD zh⟩, wd l 3, l.drop 6, (bL (wd l 4)).getD 0, (bL (wd l 5)).getD 0⟩) (.bool false) ?_ ?_
  ·
   simp [-List.map_drop, HV.close, HV.closeL, HV.norm, HV.toC, HV.toCL, CV.denil, Ky.cv, Pk.cv, hd, h1]
  refine ⟨_, _, rfl, rfl, fun x => ?_⟩
  rw [zU h6]
  unfold aZ9
  rw [h1]
  rfl
 cases h2 : eK (wd l 2)
 ·
  have hd := fun h r a b => Ky.denil ⟨⟨h, r⟩, wd l 3, l.drop 6, a, b⟩
  simp only [Ky.cv, Pk.cv, CV.denil, CV.agg.injEq] at hd
  refine aB fun K hK => Rg ?_
  have F := aI @Option.isSome_none.{0} (aI @Option.isSome_some.{0} (aI h1_15 h1_20))
  iterate 13 refine SF ?_
  refine T2 (hK _ _ _ ?_)
  clear hK K
  refine aD (RT Tryz.results67 ?_)
  refine aL [] (Ky.cv ⟨⟨(bL (wd l 1)).getD 0, (eK (wd l 2)).getD zh⟩, wd l 3, l.drop 6, (bL (wd l 4)).getD 0, (bL (wd l 5)).getD 0⟩) (.bool false) ?_ ?_
  ·
   simp [-List.map_drop, HV.close, HV.closeL, HV.norm, HV.toC, HV.toCL, CV.denil, Ky.cv, Pk.cv, hd, h1, h2]
  refine ⟨_, _, rfl, rfl, fun x => ?_⟩
  rw [zU h6]
  unfold aZ9
  rw [h1, h2]
  rfl
 cases h4 : bL (wd l 4)
 ·
  have hd := fun h r a b => Ky.denil ⟨⟨h, r⟩, wd l 3, l.drop 6, a, b⟩
  simp only [Ky.cv, Pk.cv, CV.denil, CV.agg.injEq] at hd
  refine aB fun K hK => Rg ?_
  have F := aI @Option.isSome_none.{0} (aI @Option.isSome_some.{0} (aI h1_15 h1_20))
  iterate 13 refine SF ?_
  refine T2 (hK _ _ _ ?_)
  clear hK K
  refine aD (RT Tryz.results67 ?_)
  refine aL [] (Ky.cv ⟨⟨(bL (wd l 1)).getD 0, (eK (wd l 2)).getD zh⟩, wd l 3, l.drop 6, (bL (wd l 4)).getD 0, (bL (wd l 5)).getD 0⟩) (.bool false) ?_ ?_
  ·
   simp [-List.map_drop, HV.close, HV.closeL, HV.norm, HV.toC, HV.toCL, CV.denil, Ky.cv, Pk.cv, hd, h1, h2, h4]
  refine ⟨_, _, rfl, rfl, fun x => ?_⟩
  rw [zU h6]
  unfold aZ9
  rw [h1, h2, h4]
  rfl
 have hd := fun h r a b => Ky.denil ⟨⟨h, r⟩, wd l 3, l.drop 6, a, b⟩
 simp only [Ky.cv, Pk.cv, CV.denil, CV.agg.injEq] at hd
 refine aB fun K hK => Rg ?_
 have F := aI @Option.isSome_none.{0} (aI @Option.isSome_some.{0} (aI h1_15 h1_20))
 iterate 13 refine SF ?_
 refine T2 (hK _ _ _ ?_)
 clear hK K
 refine aD (RT Tryz.results67 ?_)
 refine aL [] (Ky.cv ⟨⟨(bL (wd l 1)).getD 0, (eK (wd l 2)).getD zh⟩, wd l 3, l.drop 6, (bL (wd l 4)).getD 0, (bL (wd l 5)).getD 0⟩) (.bool (bL (wd l 5)).isSome) ?_ ?_
 ·
  simp [-List.map_drop, HV.close, HV.closeL, HV.norm, HV.toC, HV.toCL, CV.denil, Ky.cv, Pk.cv, hd, h1, h2, h4]
 refine ⟨_, _, rfl, rfl, fun x => ?_⟩
 rw [zU h6]
 unfold aZ9
 rw [h1, h2, h4]
 cases bL (wd l 5) <;> rfl

end Go.Proofs.YtenbfeemmpjdhaaGreatDoor
