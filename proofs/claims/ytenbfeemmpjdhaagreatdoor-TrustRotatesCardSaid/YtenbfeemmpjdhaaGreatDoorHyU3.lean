/- Part of a proof: walks of functions of the program, by contracts, and the rules they use. By an AI agent. -/
import Derived.Test.YtenbfeemmpjdhaaGreatDoorPl02e
import Derived.Test.YtenbfeemmpjdhaaGreatDoorHlFl
import Derived.Test.YtenbfeemmpjdhaaGreatDoorHySb
import Derived.Test.YtenbfeemmpjdhaaGreatDoorHyVf
import Derived.Test.YtenbfeemmpjdhaaGreatDoorHlIt
set_option linter.unusedSimpArgs false
set_option linter.unusedVariables false
set_option linter.defProp false
namespace Go.Proofs.YtenbfeemmpjdhaaGreatDoor
open Go Go.Hl Go.Pl
set_option maxRecDepth 10000
set_option maxHeartbeats 2000000

theorem bA0 (l : List UInt8) (c : UInt8) : aV Tryz.prog 182 [.str l, u8 c] (fun v => v = .int .i64 (Lib.countByte l c : Nat)) :=
 mU (f := 182) (fn := Tryz.f182) (e := Extern.BytealgCount.count) Tryz.func182 (by kernel_rfl) (by kernel_rfl) (by kernel_rfl) (by kernel_rfl) fun w ρ O xs h => by
  simp only [List.map_cons, List.map_nil, aY, RepHV] at h
  obtain ⟨x, l1, rfl, hx, y, l2, rfl, hy, rfl⟩ := h
  have h1 := RepV.single hx rfl
  have h2 := RepV.single hy rfl
  simp only [u8, RepC, List.cons.injEq, and_true] at h1 h2
  subst h1 h2
  refine ⟨_, _, rfl, dA _ _ _ _ _, ?_⟩
  have := Lib.run_countString (P := Tryz.prog) ⟨l.toArray⟩ (c.toNat : Int) w
  simpa using this

theorem aO7 (l : List UInt8) (c : UInt8) : aV Tryz.prog 183 [.str l, .str [c]] (fun v => v = .int .i64 (dN l c)) := by
 refine FW Tryz.func183 ?_
 refine R0 ?_
 refine R0 ?_
 refine aB fun K hK => ?_
 refine aH ?_
 refine aB fun K hK => Rg ?_
 iterate 3 refine S0 ?_
 refine aE 18 rfl (fun h2_18 => ?_) (fun h2_18 => ?_)
 ·
  have F := h2_18
  iterate 5 refine SF ?_
  refine T2 (hK _ _ _ ?_)
  clear hK K
  refine CT rfl ?_
  refine R0 ?_
  refine aD (RT Tryz.results183 ?_)
  exact absurd h2_18 (by decide)
 have F := h2_18
 iterate 5 refine SF ?_
 refine aE 22 rfl (fun h2_22 => ?_) (fun h2_22 => ?_)
 ·
  simp only [h2_22]
  refine T2 (hK _ _ _ ?_)
  clear hK K
  refine CT rfl ?_
  refine R0 ?_
  refine aD (RT Tryz.results183 ?_)
  have hl : l = [c] := (eq_of_beq h2_22).symm
  subst hl
  exact aC [] (.int .i64 0) rfl (by simp [dN])
 simp only [h2_22]
 refine T2 (hK _ _ _ ?_)
 clear hK K
 refine CF rfl ?_
 refine R0 ?_
 refine aJ (b := (1 : Int) == 1) rfl (fun hb => ?_) (fun hb => ?_)
 ·
  refine aB fun K hK => Rg ?_
  have F := aI @List.getD_cons_zero.{0} (aI h2_18 h2_22)
  iterate 3 refine SF ?_
  refine HS fun K' hK' => T6 ?_
  refine C2 (bI3 l c) ?_
  rintro u rfl
  refine AX (hK' _ _ ?_)
  refine SF ?_
  refine T2 (hK _ _ _ ?_)
  clear hK K
  refine aD (RT Tryz.results183 ?_)
  exact aC [] (.int .i64 (dN l c)) rfl rfl
 exact absurd hb (by decide)


theorem aH9 (l : List UInt8) (c : UInt8) : aV Tryz.prog 163 [.str l, .str [c]] (fun v => v = .int .i64 (dN l c)) := by
 refine FW Tryz.func163 ?_
 refine R0 ?_
 refine aB fun K hK => Rg ?_
 iterate 2 refine S0 ?_
 refine HS fun K' hK' => T5 ?_
 refine C2 (aO7 l c) ?_
 rintro u rfl
 refine AX (hK' _ _ ?_)
 refine S0 ?_
 refine T2 (hK _ _ _ ?_)
 clear hK K
 refine aD (RT Tryz.results163 ?_)
 exact aC [] (.int .i64 (dN l c)) rfl rfl


theorem aI0 (l : List UInt8) (c : UInt8) : aV Tryz.prog 162 [.str l, .str [c]] (fun v => v = .int .i64 (Lib.countByte l c : Nat)) := by
 refine FW Tryz.func162 ?_
 refine R0 ?_
 refine aB fun K hK => ?_
 refine R0 ?_
 refine aJ (b := (1 : Int) == 0) rfl (fun hb => ?_) (fun hb => ?_)
 ·
  exact absurd hb (by decide)
 refine aG ?_
 refine T0 (hK _ _ _ ?_)
 clear hK K
 refine aB fun K hK => ?_
 refine R0 ?_
 refine aJ (b := (1 : Int) == 1) rfl (fun hb => ?_) (fun hb => ?_)
 ·
  refine aB fun K hK => Rg ?_
  have F := @List.getD_cons_zero.{0}
  iterate 3 refine SF ?_
  refine HS fun K' hK' => T6 ?_
  refine C2 (bA0 l c) ?_
  rintro u rfl
  refine AX (hK' _ _ ?_)
  refine SF ?_
  refine T2 (hK _ _ _ ?_)
  clear hK K
  refine aD (RT Tryz.results162 ?_)
  exact aC [] (.int .i64 _) rfl rfl
 exact absurd hb (by decide)


theorem aI1 (l : List UInt8) (c : UInt8) (hl : l.length < 2 ^ 40) : aV Tryz.prog 130 [.str l, .str [c], .int .i64 0, .int .i64 (-1)] (fun v => v = .slc ((aT c l).map .str)) := by
 refine FW Tryz.func130 ?_
 refine R0 ?_
 refine aB fun K hK => ?_
 refine R0 ?_
 refine aJ (b := (-1 : Int) == 0) rfl (fun hb => ?_) (fun hb => ?_)
 ·
  exact absurd hb (by decide)
 refine aG ?_
 refine T0 (hK _ _ _ ?_)
 clear hK K
 refine aB fun K hK => ?_
 refine R0 ?_
 refine aJ (b := [c] == []) rfl (fun hb => ?_) (fun hb => ?_)
 ·
  exact absurd hb (by simp)
 refine aG ?_
 refine T0 (hK _ _ _ ?_)
 clear hK K
 refine aB fun K hK => ?_
 refine R0 ?_
 refine aJ (b := decide ((-1 : Int) < 0)) rfl (fun hb => ?_) (fun hb => ?_)
 ·
  obtain ⟨n, hn⟩ : ∃ n, n = (aT c l).length := ⟨_, rfl⟩
  have hcount := pM c l
  have hlen := dI c l
  rw [← hn] at hcount hlen
  have hw0 : IntKind.i64.wrap ((Lib.countByte l c : Nat) + 1 : Int) = (n : Int) := by rw [IntWalk.i64_in _ (by omega)]; omega
  refine Rg ?_
  have F := hw0
  iterate 2 refine SF ?_
  refine HS fun K' hK' => T6 ?_
  refine C2 (aI0 l c) ?_
  rintro u rfl
  refine AX (hK' _ _ ?_)
  iterate 2 refine SF ?_
  refine T2 (hK _ _ _ ?_)
  clear hK K
  have hw1 : IntKind.i64.wrap ((l.length : Int) + 1) = ((l.length + 1 : Nat) : Int) := by rw [IntWalk.i64_in _ (by omega)]; omega
  have hmin : (if ((l.length + 1 : Nat) : Int) < (n : Int) then ((l.length + 1 : Nat) : Int) else (n : Int)) = (n : Int) := by rw [if_neg (by omega)]
  refine aB fun K hK => Rg ?_
  have F := aI hw1 hmin
  iterate 6 refine SF ?_
  refine T2 (hK _ _ _ ?_)
  clear hK K
  have hn0 : ((n : Int) = 0) = False := by simp; omega
  have hrep : (List.replicate n (CV.str [])) = (List.replicate n ([] : aK)).map .str := by simp
  have F := aI hn0 (aI hrep @Int.toNat_natCast)
  refine RF ?_
  have hw2 : IntKind.i64.wrap ((n : Int) - 1) = ((n - 1 : Nat) : Int) := by rw [IntWalk.i64_in _ (by omega)]; omega
  have F := hw2
  refine RF ?_
  refine R0 ?_
  refine aB fun K hK => ?_
  refine aH ?_
  have hn1 : 1 ≤ n := by rw [hn]; exact List.length_pos_iff.2 (bY c l)
  refine aS (α := {y : Nat × aK × List aK // SplSt l c y.1 y.2.1 y.2.2}) (fun y => (fin [(0, .c (.str y.1.2.1)), (1, .c (.str [c])), (2, .c (.int .i64 0)), (3, .c (.int .i64 (n - 1 : Nat))), (9, .own 76 n), (10, .c (.int .i64 y.1.1))], fob [(76, .row 9 1 (y.1.2.2.map .str))])) 100 (fun y => y.1.2.1.length) ⟨(0, l, List.replicate n []), by rw [hn]; exact SplSt.init l c⟩ (fF) ?_
  rintro ⟨⟨i, rest, a⟩, hst⟩
  simp only at hst
  have hin : i < n := by rw [hn]; exact hst.2.2.2.1
  have hal : a.length = n := by rw [hn]; exact hst.1
  have hia : i < a.length := by omega
  have hna : nth (a.map CV.str) i = .str a[i] := aW hia
  have hrl := hst.2.2.2.2
  refine aB fun K hK => ?_
  refine R0 ?_
  refine aJ (b := decide ((i : Int) < ((n - 1 : Nat) : Int))) rfl (fun hb => ?_) (fun hb => ?_)
  ·
   have hi1 : i + 1 < n := by simp at hb; omega
   clear hb
   refine aG ?_
   refine T0 (hK _ _ _ ?_)
   clear hK K
   refine aH ?_
   refine aB fun K hK => Rg ?_
   iterate 2 refine S0 ?_
   refine HS fun K' hK' => T5 ?_
   refine C2 (aH9 rest c) ?_
   rintro u rfl
   refine AX (hK' _ _ ?_)
   refine S0 ?_
   refine T2 (hK _ _ _ ?_)
   clear hK K
   refine aB fun K hK => ?_
   refine R0 ?_
   refine aJ (b := decide (dN rest c < 0)) rfl (fun hb => ?_) (fun hb => ?_)
   ·
    have := hst.last (by simpa using hb)
    omega
   obtain ⟨k, hk, hkl, _⟩ := fL (l := rest) (c := c) (by simpa using hb)
   obtain ⟨_, hnx⟩ := hst.next hk
   rw [hk]
   have hkl1 : k + 1 ≤ rest.length := hkl
   have hw3 : IntKind.i64.wrap ((k : Int) + 0) = (k : Int) := by rw [IntWalk.i64_in _ (by omega)]; omega
   have hw4 : IntKind.i64.wrap ((k : Int) + 1) = ((k + 1 : Nat) : Int) := by rw [IntWalk.i64_in _ (by omega)]; rfl
   have hw5 : IntKind.i64.wrap ((i : Int) + 1) = ((i + 1 : Nat) : Int) := by rw [IntWalk.i64_in _ (by omega)]; rfl
   have htd : List.take (rest.length - (k + 1)) (List.drop (k + 1) rest) = List.drop (k + 1) rest := List.take_of_length_le (by simp)
   refine aG ?_
   refine T0 (hK _ _ _ ?_)
   clear hK K
   refine aB fun K hK => Rg ?_
   have F := aI @Int.natCast_nonneg (aI @Int.ofNat_le (aI @Int.ofNat_lt (aI (Nat.le_of_lt hkl) (aI hw3 (aI @Nat.sub_zero (aI @List.drop_zero.{0} (aI @List.length_map.{0,0} (aI hal (aI hin hna)))))))))
   iterate 9 refine SF ?_
   refine T2 (hK _ _ _ ?_)
   clear hK K
   refine aB fun K hK => Rg ?_
   have F := aI @Int.natCast_nonneg (aI @Int.ofNat_le (aI hkl1 (aI hw4 htd)))
   iterate 7 refine SF ?_
   refine T2 (hK _ _ _ ?_)
   clear hK K
   refine aM (by kernel_rfl) ?_
   refine TQ hw5 ?_
   refine ⟨⟨(i + 1, rest.drop (k + 1), a.set i (rest.take k)), hnx⟩, aP (by omega) ?_ ?_, ?_⟩
   ·
    simp [aX, upd_at, fin_at, HV.men]
   ·
    simp only [bB, List.map_set]
    exact ⟨rfl, by omega, trivial, trivial⟩
   show (rest.drop (k + 1)).length < rest.length
   simp; omega
  refine aR (T3 ?_)
  clear hK K
  refine AX (hK _ _ _ ?_)
  clear hK K
  have hi1 : i + 1 = n := by simp at hb; omega
  have hfin := hst.fin (by omega)
  have hw5 : IntKind.i64.wrap ((i : Int) + 1) = (n : Int) := by rw [IntWalk.i64_in _ (by omega)]; omega
  refine aB fun K hK => Rg ?_
  have F := aI @Int.natCast_nonneg (aI @Int.ofNat_lt (aI @List.length_map.{0,0} (aI hal (aI hin hna))))
  iterate 5 refine SF ?_
  refine T2 (hK _ _ _ ?_)
  clear hK K
  refine aB fun K hK => Rg ?_
  have F := aI @Int.natCast_nonneg (aI hw5 (aI @List.length_map.{0,0} (aI @List.length_set.{0} (aI hal @Int.le_refl))))
  iterate 5 refine SF ?_
  refine T2 (hK _ _ _ ?_)
  clear hK K
  refine aD (RT Tryz.results130 ?_)
  refine aC [76] (.slc ((aT c l).map .str)) ?_ rfl
  have hset : (a.map CV.str).set i (CV.str rest) = (aT c l).map .str := by rw [← List.map_set, hfin]
  have ht : List.take n ((aT c l).map CV.str) = (aT c l).map .str := List.take_of_length_le (by simp [hn])
  rw [hset]
  have hn0' : 0 < n := hn1
  simp [HV.close, upd_at, ← hn, HV.norm, HV.toC, CV.denil, denilL_str, ht, hn0']
 exact absurd hb (by decide)


theorem aI2 (l : List UInt8) (c : UInt8) (hl : l.length < 2 ^ 40) : aV Tryz.prog 104 [.str l, .str [c]] (fun v => v = .slc ((aT c l).map .str)) := by
 refine FW Tryz.func104 ?_
 refine R0 ?_
 refine aB fun K hK => Rg ?_
 iterate 2 refine S0 ?_
 refine HS fun K' hK' => T5 ?_
 refine C4 (aI1 l c hl) ?_
 rintro u rfl
 refine AX (hK' _ _ ?_)
 refine S0 ?_
 refine T2 (hK _ _ _ ?_)
 clear hK K
 refine aD (RT Tryz.results104 ?_)
 exact aC [] (.slc ((aT c l).map .str)) (by simp [HV.close, HV.norm, HV.toC, CV.denil, denilL_str]) rfl

end Go.Proofs.YtenbfeemmpjdhaaGreatDoor

namespace Go.Proofs.YtenbfeemmpjdhaaGreatDoor
open Go Go.Hl Go.Pl
set_option maxRecDepth 10000
set_option maxHeartbeats 2000000

theorem bR4 (s : aK) (hl : s.length < 2 ^ 40) : cT Tryz.prog 105 [.str s] (fun u v => u = .str ((unW s).getD []) ∧ v = .bool (unW s).isSome) := by
 refine FW Tryz.func105 ?_
 refine R0 ?_
 refine aB fun K hK => ?_
 refine R0 ?_
 refine aJ (b := s == [126]) rfl (fun hb => ?_) (fun hb => ?_)
 ·
  refine R0 ?_
  refine aD (RT Tryz.results105 ?_)
  have hs : s = [126] := by simpa using hb
  subst hs
  exact aL [] (.str []) (.bool true) rfl ⟨rfl, rfl⟩
 refine aG ?_
 refine T0 (hK _ _ _ ?_)
 clear hK K
 refine aB fun K hK => ?_
 have hne : s ≠ [126] := by simpa using hb
 clear hb
 refine R0 ?_
 refine aJ (b := s == []) rfl (fun hb => ?_) (fun hb => ?_)
 ·
  refine R0 ?_
  refine aD (RT Tryz.results105 ?_)
  have hs : s = [] := by simpa using hb
  subst hs
  exact aL [] (.str []) (.bool false) rfl ⟨rfl, rfl⟩
 refine aG ?_
 refine T0 (hK _ _ _ ?_)
 clear hK K
 have hne0 : s ≠ [] := by simpa using hb
 clear hb
 refine R0 ?_
 refine aB fun K hK => ?_
 refine R0 ?_
 refine aH ?_
 refine eE 4 0 5 1 rfl rfl rfl rfl ?_
 refine aS (α := {y : Nat × aK // UnSt s y.1 y.2}) (fun y => (fin [(0, .c (.str s)), (4, .own 32 y.1.2.length), (5, .c (.int .i64 y.1.1))], fob [(32, .row 5 1 (y.1.2.map dK))])) 100 (fun y => s.length - y.1.1) ⟨(0, []), UnSt.init s⟩ (fF) ?_
 rintro ⟨⟨i, out⟩, hst⟩
 simp only at hst
 have hi := hst.1
 have ho := hst.2.2.2
 refine aB fun K hK => ?_
 refine aB fun K hK => Rg ?_
 iterate 4 refine S0 ?_
 refine T2 (hK _ _ _ ?_)
 clear hK K
 refine aJ (b := decide ((i : Int) < s.length)) rfl (fun hb => ?_) (fun hb => ?_)
 ·
  have hlt : i < s.length := by simpa using hb
  clear hb
  have hgd : s.getD i 0 = s[i] := by simp [hlt]
  refine aG ?_
  refine T0 (hK _ _ _ ?_)
  clear hK K
  refine aB fun K hK => ?_
  refine aH ?_
  refine aB fun K hK => ?_
  refine aB fun K hK => Rg ?_
  iterate 3 refine S0 ?_ (e := fun _ h_ => by simp only [sH, ↓sP, sA, tyS, simprocAttr, Int.natCast_nonneg, Int.ofNat_lt, hlt, hgd]; exact AX h_)
  refine HS fun K' hK' => ?_
  simp only [sH, ↓sP, sA, tyS, simprocAttr, Int.natCast_nonneg, Int.ofNat_lt, hlt, hgd]
  refine C1 (qH s[i]) ?_
  rintro u rfl
  refine AX (hK' _ _ ?_)
  refine T2 (hK _ _ _ ?_)
  clear hK K
  refine aJ (b := cI s[i]) rfl (fun hb => ?_) (fun hb => ?_)
  ·
   refine aB fun K hK => Rg ?_
   iterate 7 refine S0 ?_ (e := fun _ h_ => by simp only [sH, ↓sP, sA, tyS, simprocAttr, Int.natCast_nonneg, Int.ofNat_lt, hlt, hgd, List.length_append, List.length_map]; exact AX h_)
   refine T2 (hK _ _ _ ?_)
   clear hK K
   refine aR (T3 ?_)
   clear hK K
   refine AX (hK _ _ _ ?_)
   clear hK K
   refine aM (by kernel_rfl) ?_
   refine TQ (bK i) ?_
   refine ⟨⟨(i + 1, out ++ [s[i]]), hst.plain hlt hb⟩, aP (by omega) ?_ ?_, ?_⟩
   ·
    simp [aX, upd_at, fin_at, HV.men]
   ·
    simp only [bB, List.map_append]
    exact ⟨rfl, by omega, trivial, trivial⟩
   show s.length - (i + 1) < s.length - i
   omega
  refine aG ?_
  refine T0 (hK _ _ _ ?_)
  clear hK K
  refine aB fun K hK => ?_
  have hp : cI s[i] = false := hb
  clear hb
  have hw1 : IntKind.i64.wrap ((i : Int) + 1) = ((i + 1 : Nat) : Int) := by rw [IntWalk.i64_in _ (by omega)]; rfl
  have hw2 : IntKind.i64.wrap ((i : Int) + 2) = ((i + 2 : Nat) : Int) := by rw [IntWalk.i64_in _ (by omega)]; rfl
  have hw3 : IntKind.i64.wrap (((i + 2 : Nat) : Int) + 1) = ((i + 3 : Nat) : Int) := by rw [IntWalk.i64_in _ (by omega)]; rfl
  have hwd : IntKind.i64.wrap ((s.length : Int) - (i : Int)) = ((s.length - i : Nat) : Int) := by rw [IntWalk.i64_in _ (by omega)]; omega
  refine aB fun K hK => Rg ?_
  iterate 5 refine S0 ?_ (e := fun _ h_ => by simp only [sH, ↓sP, sA, tyS, simprocAttr, Int.natCast_nonneg, Int.ofNat_lt, hlt, hgd, hwd]; exact AX h_)
  refine aE 31 rfl (fun h11_31 => ?_) (fun h11_31 => ?_)
  ·
   iterate 6 refine S0 ?_ (e := fun _ h_ => by simp only [sH, ↓sP, sA, tyS, simprocAttr, Int.natCast_nonneg, Int.ofNat_lt, hlt, hgd, hwd, h11_31]; exact AX h_)
   refine T2 (hK _ _ _ ?_)
   clear hK K
   refine CT rfl ?_
   refine R0 ?_
   refine aD (RT Tryz.results105 ?_)
   have h37 : s[i] ≠ 37 := by rintro h; rw [h] at h11_31; simp at h11_31
   have hn := eS (hst.bad1 hlt hp (.inl h37)) hne
   exact aL [] (.str []) (.bool false) rfl ⟨by rw [hn]; rfl, by rw [hn]; rfl⟩
  iterate 6 refine S0 ?_ (e := fun _ h_ => by simp only [sH, ↓sP, sA, tyS, simprocAttr, Int.natCast_nonneg, Int.ofNat_lt, hlt, hgd, hwd, h11_31]; exact AX h_)
  refine aE 37 rfl (fun h11_37 => ?_) (fun h11_37 => ?_)
  ·
   simp only [h11_37]
   refine T2 (hK _ _ _ ?_)
   clear hK K
   refine CT rfl ?_
   refine R0 ?_
   refine aD (RT Tryz.results105 ?_)
   have hi2 : s.length ≤ i + 2 := by simp at h11_37; omega
   have hn := eS (hst.bad1 hlt hp (.inr hi2)) hne
   exact aL [] (.str []) (.bool false) rfl ⟨by rw [hn]; rfl, by rw [hn]; rfl⟩
  simp only [h11_37]
  refine T2 (hK _ _ _ ?_)
  clear hK K
  refine CF rfl ?_
  refine aG ?_
  refine T0 (hK _ _ _ ?_)
  clear hK K
  have h37 : s[i] = 37 := by
   simp only [bne_eq_false_iff_eq] at h11_31
   exact UInt8.toNat_inj.1 (by show s[i].toNat = 37; omega)
  have hi2 : i + 2 < s.length := by simp at h11_37; omega
  have hi1 : i + 1 < s.length := by omega
  have hg1 : s.getD (i + 1) 0 = s[i + 1] := by simp [hi1]
  have hg2 : s.getD (i + 2) 0 = s[i + 2] := by simp [hi2]
  refine aB fun K hK => DW [(0, [], []), (1, [], []), (2, [], []), (3, [], []), (5, [], []), (6, [], []), (7, [], []), (8, [], []), (4, [], [5, 6, 7, 8]), (9, [], []), (10, [], []), (11, [], [])] [0, 0, 2, 7, 15, 0, 0, 64, 224, 511, 1023, 2047] ?_
  have F := aI @Int.natCast_nonneg (aI @Int.ofNat_lt (aI hw1 (aI hw2 (aI hg1 (aI hg2 (aI hi1 (aI hi2 (aI h11_31 h11_37))))))))
  iterate 8 refine WF ?_
  refine aN (g := none) rfl rfl fun K' hK' => T6 ?_
  refine C1 (aH6 s[i + 1]) ?_
  rintro u rfl
  refine AX (hK' _ _ ?_)
  refine aN (g := none) rfl rfl fun K' hK' => T6 ?_
  refine C1 (aH6 s[i + 2]) ?_
  rintro u rfl
  refine AX (hK' _ _ ?_)
  iterate 2 refine WF ?_
  refine T2 (hK _ _ _ ?_)
  clear hK K
  refine aB fun K hK => ?_
  by_cases hx : valH s[i + 1] < 16
  ·
   by_cases hy : valH s[i + 2] < 16
   ·
    have hx0 : (((valH s[i + 1] : Nat) : Int) == 16) = false := by rw [beq_eq_false_iff_ne]; omega
    have hy0 : (((valH s[i + 2] : Nat) : Int) == 16) = false := by rw [beq_eq_false_iff_ne]; omega
    have e1 : IntKind.i64.wrap (16 * ((valH s[i + 1] : Nat) : Int)) = ((16 * valH s[i + 1] : Nat) : Int) := by rw [IntWalk.i64_in _ (by omega)]; omega
    have e2 : IntKind.i64.wrap (((16 * valH s[i + 1] : Nat) : Int) + ((valH s[i + 2] : Nat) : Int)) = ((16 * valH s[i + 1] + valH s[i + 2] : Nat) : Int) := by rw [IntWalk.i64_in _ (by omega)]; omega
    have e3 : IntKind.u8.wrap ((16 * valH s[i + 1] + valH s[i + 2] : Nat) : Int) = ((byteH s[i + 1] s[i + 2]).toNat : Int) := by rw [IntWalk.u8_in _ (by omega), qJ hx hy]
    refine aB fun K hK => Rg ?_
    have F := aI hx0 (aI hy0 (aI e1 (aI e2 (aI e3 (aI h11_31 h11_37)))))
    iterate 12 refine SF ?_
    refine aZ (g := some (55, false)) rfl rfl fun K' hK' => T6 ?_
    refine C1 (qH (byteH s[i + 1] s[i + 2])) ?_
    rintro u rfl
    refine AX (hK' _ _ ?_)
    refine SF ?_
    refine T2 (hK _ _ _ ?_)
    clear hK K
    refine aJ (b := cI (byteH s[i + 1] s[i + 2])) rfl (fun hb => ?_) (fun hb => ?_)
    ·
     refine R0 ?_
     refine aD (RT Tryz.results105 ?_)
     have hn := eS (hst.bad2 hi2 h37 (by simp [okH, hx, hy, hb])) hne
     exact aL [] (.str []) (.bool false) rfl ⟨by rw [hn]; rfl, by rw [hn]; rfl⟩
    refine aG ?_
    refine T0 (hK _ _ _ ?_)
    clear hK K
    refine aB fun K hK => Rg ?_
    have F := aI @Int.natCast_nonneg (aI @List.length_append.{0} (aI @List.length_map.{0,0} (aI e1 (aI e2 (aI e3 (aI h11_31 h11_37))))))
    iterate 9 refine SF ?_
    refine T2 (hK _ _ _ ?_)
    clear hK K
    refine aM (by kernel_rfl) ?_
    refine TQ hw2 ?_
    refine AX (hK _ _ _ ?_)
    clear hK K
    refine aM (by kernel_rfl) ?_
    refine TQ hw3 ?_
    refine ⟨⟨(i + 3, out ++ [byteH s[i + 1] s[i + 2]]), hst.esc hi2 h37 (by simp [okH, hx, hy, hb])⟩, aP (by omega) ?_ ?_, ?_⟩
    ·
     simp [aX, upd_at, fin_at, HV.men]
    ·
     simp only [bB, List.map_append]
     exact ⟨rfl, by omega, trivial, trivial⟩
    show s.length - (i + 3) < s.length - i
    omega
   have hx0 : (((valH s[i + 1] : Nat) : Int) == 16) = false := by rw [beq_eq_false_iff_ne]; omega
   have hy0 : (((valH s[i + 2] : Nat) : Int) == 16) = true := by have := aS8 s[i + 2]; rw [beq_iff_eq]; omega
   refine aB fun K hK => Rg ?_
   have F := aI hx0 (aI hy0 (aI h11_31 h11_37))
   iterate 14 refine SF ?_
   refine T2 (hK _ _ _ ?_)
   clear hK K
   refine CT rfl ?_
   refine R0 ?_
   refine aD (RT Tryz.results105 ?_)
   have hn := eS (hst.bad2 hi2 h37 (by simp [okH, hx, hy])) hne
   exact aL [] (.str []) (.bool false) rfl ⟨by rw [hn]; rfl, by rw [hn]; rfl⟩
  have hx0 : (((valH s[i + 1] : Nat) : Int) == 16) = true := by have := aS8 s[i + 1]; rw [beq_iff_eq]; omega
  refine aB fun K hK => Rg ?_
  have F := aI hx0 (aI h11_31 h11_37)
  iterate 14 refine SF ?_
  refine T2 (hK _ _ _ ?_)
  clear hK K
  refine CT rfl ?_
  refine R0 ?_
  refine aD (RT Tryz.results105 ?_)
  have hn := eS (hst.bad2 hi2 h37 (by simp [okH, hx])) hne
  exact aL [] (.str []) (.bool false) rfl ⟨by rw [hn]; rfl, by rw [hn]; rfl⟩
 refine aR (T3 ?_)
 clear hK K
 refine AX (hK _ _ _ ?_)
 clear hK K
 have hei : i = s.length := by simp at hb; omega
 have hfin := hst.fin hei hne
 have ho0 : out ≠ [] := fun h => hne0 (List.eq_nil_of_length_eq_zero (by have := hst.2.2.1 h; omega))
 rw [if_neg ho0] at hfin
 refine bT [32] (bE (fr2 := fin [(4, .c (.slc (out.map dK)))]) (ob2 := fob []) (nx2 := 200) (aP (by omega) (by simp [aX, cB, fin_at, finA_at, upd_at, fob_at, HV.close, HV.closeL, CV.denil, CV.denilL, fJ, HV.men, HV.menL, HV.norm, HV.toC, HV.toCL]) (by simp [bB, cC, fob_at, upd_at, none0_at, bU, HO.close, HV.close, HV.closeL, HO.men, HV.men, HV.menL, HV.norm, HV.toC, HV.toCL])) ?_)
 refine aB fun K hK => Rg ?_
 have F := aI @bytesC_map @List.length_map.{0,0}
 iterate 4 refine SF ?_
 refine T2 (hK _ _ _ ?_)
 clear hK K
 refine aD (RT Tryz.results105 ?_)
 exact aL [] (.str out) (.bool true) rfl ⟨by rw [hfin]; rfl, by rw [hfin]; rfl⟩

end Go.Proofs.YtenbfeemmpjdhaaGreatDoor

namespace Go.Proofs.YtenbfeemmpjdhaaGreatDoor
open Go Go.Hl Go.Pl
set_option maxRecDepth 10000
set_option maxHeartbeats 2000000

theorem bU9 {α : Type} (l : List (List UInt8)) (j : Nat) (p : List UInt8) (r : List (List UInt8)) (h : l.drop j = p :: r) : ∃ hj : j < (l.map fun p => [CV.slc (p.map u8)]).length, (l.map fun p => [CV.slc (p.map u8)])[j] = [CV.slc (p.map u8)] ∧ l.drop (j + 1) = r := by
 have hj : j < l.length := by
  rcases Nat.lt_or_ge j l.length with h' | h'
  ·
   exact h'
  rw [List.drop_eq_nil_of_le h'] at h; cases h
 have h1 := List.drop_eq_getElem_cons hj
 rw [h1] at h
 cases h
 exact ⟨by simpa using hj, by simp, rfl⟩

theorem aO8 (l : List UInt8) (c : UInt8) (hl : l.length < 2 ^ 40) : aN3 Tryz.prog 157 [(30, .slc [u8 c]), (30, .slc (l.map u8)), (3, .int .i64 0)] ((aT c l).map fun p => [.slc (p.map u8)]) := by
 refine aX3 Tryz.func157 rfl (by kernel_rfl) (Nat.le_of_ble_eq_true rfl) rfl fun L J hS hY => ?_
 have e0 : iY [(30, CV.slc [u8 c]), (30, .slc (l.map u8)), (3, .int .i64 0)] = fob [(0, .box 30 (.c (.slc [u8 c]))), (1, .box 30 (.c (.slc (l.map u8)))), (2, .box 3 (.c (.int .i64 0)))] := by
  funext i
  match i with
  | 0 => rfl
  | 1 => rfl
  | 2 => rfl
  | i + 3 => simp [iY, fob, upd]
 have e1 : gF (List.range [((30 : Nat), CV.slc [u8 c]), (30, .slc (l.map u8)), (3, .int .i64 0)].length) = [.ptr 0 0, .ptr 1 0, .ptr 2 0] := rfl
 rw [e0, e1]
 refine gK fun K hK => ?_
 refine gK fun K1 hK1 => uH hS rfl (aM (by kernel_rfl) ?_)
 simp only [sR, simprocAttr]
 have F := rI
 iterate 3 refine SF ?_
 simp only [sE, ↓reduceIte, simprocAttr, rI]
 refine hK1 _ _ _ _ _ ?_
 clear hK1 K1
 refine pB (b := false) rfl (fun hb => by cases hb) (fun _ => ?_)
 refine uI ?_
 simp only [sE, ↓reduceIte, simprocAttr, rI]
 refine hK _ _ _ _ _ ?_
 clear hK K
 refine gK fun K hK => ?_
 refine xG ?_
 refine bG5 (α := {y : Nat × List UInt8 // (aT c l).drop y.1 = aT c y.2 ∧ y.2.length ≤ l.length}) hS (fun y => (fin [(0, .opq (.func (.yield L) #[] #[])), (1, .ptr 0 0), (2, .ptr 1 0), (3, .ptr 2 0)], fob [(0, .box 30 (.c (.slc [u8 c]))), (1, .box 30 (.c (.slc (y.1.2.map u8)))), (2, .box 3 (.c (.int .i64 0)))])) (fun y => y.1.1) 100 (fun y => y.1.2.length) ⟨(0, l), rfl, Nat.le_refl _⟩ rfl (fF) rfl ?_
 rintro ⟨⟨j, rest⟩, hsp, hle⟩
 simp only at hsp hle
 refine xG ?_
 refine gK fun K1 hK1 => uH hS rfl (aM (by kernel_rfl) ?_)
 simp only [sR, simprocAttr]
 iterate 2 refine SF ?_
 have F := aI rI @denilL_u8
 refine HS fun K' hK' => T6 ?_
 refine C2 (xO rest c) ?_
 rintro u rfl
 refine AX (hK' _ _ ?_)
 have F := rI
 refine SF ?_
 simp only [sE, ↓reduceIte, simprocAttr, rI]
 refine hK1 _ _ _ _ _ ?_
 clear hK1 K1
 refine gK fun K1 hK1 => ?_
 refine gK fun K2 hK2 => uH hS rfl (aM (by kernel_rfl) ?_)
 simp only [sR, simprocAttr]
 iterate 2 refine SF ?_
 simp only [sE, ↓reduceIte, simprocAttr, rI]
 refine hK2 _ _ _ _ _ ?_
 clear hK2 K2
 refine pB (b := decide (dN rest c < 0)) rfl (fun hb => ?_) (fun hb => ?_)
 ·
  -- the last piece
  have hn : dN rest c < 0 := by simpa using hb
  rw [pI hn] at hsp
  obtain ⟨hj, hx, hd⟩ := bU9 (α := Nat) _ _ _ _ hsp
  refine bG4 ?_
  simp only [sE, ↓reduceIte, simprocAttr, rI]
  clear hK1 K1
  refine hK _ _ _ _ _ ?_
  clear hK K
  have htk : List.take rest.length (rest.map u8) = rest.map u8 := List.take_of_length_le (by simp)
  refine xI (l := L) 7 hS hY rfl (by kernel_rfl) (by decide) ?_
  simp only [sR, List.range', simprocAttr]
  have F := aI rI @List.length_map.{0,0}
  iterate 6 refine SF ?_
  refine S0 ?_ (e := fun _ h_ => by simp only [sH, ↓sP, sA, tyS, simprocAttr, rI, htk, List.length_map, ↓hslice3.eq_def, Int.natCast_nonneg, bO, List.drop_zero, Nat.sub_zero, Int.le_refl, Int.toNat_zero]; exact AX h_)
  rw [hlex]
  refine ⟨_, _, _, hj, rfl, rfl, rfl, rfl, rfl, ?_, ?_, ?_⟩
  ·
   rw [hx]; rfl
  ·
   simp only [sR, List.range', simprocAttr]
   rw [hlex]
   refine ⟨by simp, fun _ => ?_⟩
   have := List.drop_eq_nil_iff.1 hd
   simp only [List.length_map] at hj ⊢
   omega
  simp only [sR, List.range', simprocAttr]
  rw [hlex]
  exact ⟨by simp, fun h => by cases h⟩
 -- a piece
 have hn : ¬ dN rest c < 0 := by simpa using hb
 obtain ⟨k, hk, hkl, hsp2⟩ := fL hn
 rw [hk]
 rw [hsp2] at hsp
 obtain ⟨hj, hx, hd⟩ := bU9 (α := Nat) _ _ _ _ hsp
 have hkm : min k rest.length = k := by omega
 have ek : List.take k (rest.map u8) = (rest.take k).map u8 := List.map_take.symm
 have htk : List.take k ((rest.take k).map u8) = (rest.take k).map u8 := List.take_of_length_le (by simp; omega)
 have hw1 : IntKind.i64.wrap ((k : Int) + 1) = ((k + 1 : Nat) : Int) := by rw [IntWalk.i64_in _ (by omega)]; rfl
 have hkl1 : k + 1 ≤ rest.length := hkl
 have edr : List.take (rest.length - (k + 1)) (List.drop (k + 1) (rest.map u8)) = (rest.drop (k + 1)).map u8 := by rw [List.map_drop, List.take_of_length_le (by simp)]
 refine uI ?_
 simp only [sE, ↓reduceIte, simprocAttr, rI]
 refine hK1 _ _ _ _ _ ?_
 clear hK1 K1
 refine gK fun K1 hK1 => uH hS rfl (aM (by kernel_rfl) ?_)
 simp only [sR, simprocAttr]
 have F := aI rI (aI ek (aI @List.length_map.{0,0} (aI @Int.natCast_nonneg (aI @bO (aI @Int.add_zero (aI @Int.ofNat_le (aI (Nat.le_of_lt hkl) (aI @List.drop_zero.{0} (aI @Nat.sub_zero (show IntKind.i64.wrap (k : Int) = (k : Int) from IntWalk.i64_in _ (by omega)))))))))))
 iterate 6 refine SF ?_
 simp only [sE, ↓reduceIte, simprocAttr, rI]
 refine hK1 _ _ _ _ _ ?_
 clear hK1 K1
 refine gK fun K1 hK1 => ?_
 refine gK fun K2 hK2 => xI (l := L) 7 hS hY rfl (by kernel_rfl) (by decide) ?_
 simp only [sR, List.range', simprocAttr]
 have F := aI rI (aI @List.length_map.{0,0} (aI @List.length_take.{0} hkm))
 iterate 6 refine SF ?_
 refine S0 ?_ (e := fun _ h_ => by simp only [sH, ↓sP, sA, tyS, simprocAttr, rI, htk, List.length_map, List.length_take, hkm, ↓hslice3.eq_def, Int.natCast_nonneg, bO, List.drop_zero, Nat.sub_zero, Int.le_refl, Int.toNat_zero]; exact AX h_)
 rw [hlex]
 refine ⟨_, _, _, hj, rfl, rfl, rfl, rfl, rfl, ?_, ?_, ?_⟩
 ·
  rw [hx]; rfl
 ·
  simp only [sR, List.range', simprocAttr]
  have F := rI
  refine SF ?_
  simp only [sE, ↓reduceIte, simprocAttr, rI]
  refine hK2 _ _ _ _ _ ?_
  clear hK2 K2
  refine pB (b := false) rfl (fun hb => by cases hb) (fun _ => ?_)
  refine uI ?_
  simp only [sE, ↓reduceIte, simprocAttr, rI]
  refine hK1 _ _ _ _ _ ?_
  clear hK1 K1
  refine uH hS rfl (aM (by kernel_rfl) ?_)
  simp only [sR, simprocAttr]
  have F := aI rI (aI edr (aI hw1 (aI @List.length_map.{0,0} (aI @Int.natCast_nonneg (aI @bO (aI @Int.ofNat_le (aI hkl1 @denilL_u8)))))))
  iterate 7 refine SF ?_
  simp only [sE, ↓reduceIte, simprocAttr, rI]
  refine ⟨⟨(j + 1, rest.drop (k + 1)), hd, by simp; omega⟩, fF, trivial, rfl, ?_⟩
  show (rest.drop (k + 1)).length < rest.length
  simp; omega
 simp only [sR, List.range', simprocAttr]
 have F := rI
 refine SF ?_
 simp only [sE, ↓reduceIte, simprocAttr, rI]
 refine hK2 _ _ _ _ _ ?_
 clear hK2 K2
 refine pB (b := true) rfl (fun _ => ?_) (fun hb => by cases hb)
 refine bO7 ?_
 simp only [sE, ↓reduceIte, simprocAttr, rI]
 exact ⟨by simp, fun h => by cases h⟩
end Go.Proofs.YtenbfeemmpjdhaaGreatDoor

namespace Go.Proofs.YtenbfeemmpjdhaaGreatDoor
open Go Go.Hl Go.Pl
set_option maxRecDepth 10000
set_option maxHeartbeats 2000000

theorem bY7 (s : aK) (hl : s.length < 2 ^ 40) : cT Tryz.prog 100 [.str s] (fun u v => u = .str ((unW s).getD []) ∧ v = .bool (unW s).isSome) := by
 refine FW Tryz.func100 ?_
 refine R0 ?_
 refine aB fun K hK => ?_
 refine R0 ?_
 refine aJ (b := s == [126]) rfl (fun hb => ?_) (fun hb => ?_)
 ·
  refine R0 ?_
  refine aD (RT Tryz.results100 ?_)
  have hs : s = [126] := by simpa using hb
  subst hs
  exact aL [] (.str []) (.bool true) rfl ⟨rfl, rfl⟩
 refine aG ?_
 refine T0 (hK _ _ _ ?_)
 clear hK K
 have hne : s ≠ [126] := by simpa using hb
 clear hb
 refine R0 ?_
 refine aB fun K hK => ?_
 refine R0 ?_
 refine aH ?_
 refine eE 4 0 5 1 rfl rfl rfl rfl ?_
 refine aS (α := {y : Nat × aK // UnSt s y.1 y.2}) (fun y => (fin [(0, .c (.str s)), (4, .own 24 y.1.2.length), (5, .c (.int .i64 y.1.1))], fob [(24, .row 5 1 (y.1.2.map dK))])) 100 (fun y => s.length - y.1.1) ⟨(0, []), UnSt.init s⟩ (fF) ?_
 rintro ⟨⟨i, out⟩, hst⟩
 simp only at hst
 have hi := hst.1
 have ho := hst.2.2.2
 refine aB fun K hK => ?_
 refine aB fun K hK => Rg ?_
 iterate 4 refine S0 ?_
 refine T2 (hK _ _ _ ?_)
 clear hK K
 refine aJ (b := decide ((i : Int) < s.length)) rfl (fun hb => ?_) (fun hb => ?_)
 ·
  have hlt : i < s.length := by simpa using hb
  clear hb
  have hgd : s.getD i 0 = s[i] := by simp [hlt]
  refine aG ?_
  refine T0 (hK _ _ _ ?_)
  clear hK K
  refine aB fun K hK => ?_
  refine aH ?_
  refine aB fun K hK => ?_
  refine aB fun K hK => Rg ?_
  iterate 3 refine S0 ?_ (e := fun _ h_ => by simp only [sH, ↓sP, sA, tyS, simprocAttr, Int.natCast_nonneg, Int.ofNat_lt, hlt, hgd]; exact AX h_)
  refine HS fun K' hK' => ?_
  simp only [sH, ↓sP, sA, tyS, simprocAttr, Int.natCast_nonneg, Int.ofNat_lt, hlt, hgd]
  refine C1 (aG5 s[i]) ?_
  rintro u rfl
  refine AX (hK' _ _ ?_)
  refine T2 (hK _ _ _ ?_)
  clear hK K
  refine aJ (b := cI s[i]) rfl (fun hb => ?_) (fun hb => ?_)
  ·
   refine aB fun K hK => Rg ?_
   iterate 7 refine S0 ?_ (e := fun _ h_ => by simp only [sH, ↓sP, sA, tyS, simprocAttr, Int.natCast_nonneg, Int.ofNat_lt, hlt, hgd, List.length_append, List.length_map]; exact AX h_)
   refine T2 (hK _ _ _ ?_)
   clear hK K
   refine aR (T3 ?_)
   clear hK K
   refine AX (hK _ _ _ ?_)
   clear hK K
   refine aM (by kernel_rfl) ?_
   refine TQ (bK i) ?_
   refine ⟨⟨(i + 1, out ++ [s[i]]), hst.plain hlt hb⟩, aP (by omega) ?_ ?_, ?_⟩
   ·
    simp [aX, upd_at, fin_at, HV.men]
   ·
    simp only [bB, List.map_append]
    exact ⟨rfl, by omega, trivial, trivial⟩
   show s.length - (i + 1) < s.length - i
   omega
  refine aG ?_
  refine T0 (hK _ _ _ ?_)
  clear hK K
  refine aB fun K hK => ?_
  have hp : cI s[i] = false := hb
  clear hb
  have hw1 : IntKind.i64.wrap ((i : Int) + 1) = ((i + 1 : Nat) : Int) := by rw [IntWalk.i64_in _ (by omega)]; rfl
  have hw2 : IntKind.i64.wrap ((i : Int) + 2) = ((i + 2 : Nat) : Int) := by rw [IntWalk.i64_in _ (by omega)]; rfl
  have hw3 : IntKind.i64.wrap (((i + 2 : Nat) : Int) + 1) = ((i + 3 : Nat) : Int) := by rw [IntWalk.i64_in _ (by omega)]; rfl
  refine aB fun K hK => Rg ?_
  iterate 5 refine S0 ?_ (e := fun _ h_ => by simp only [sH, ↓sP, sA, tyS, simprocAttr, Int.natCast_nonneg, Int.ofNat_lt, hlt, hgd, hw2]; exact AX h_)
  refine aE 29 rfl (fun h9_29 => ?_) (fun h9_29 => ?_)
  ·
   iterate 6 refine S0 ?_ (e := fun _ h_ => by simp only [sH, ↓sP, sA, tyS, simprocAttr, Int.natCast_nonneg, Int.ofNat_lt, hlt, hgd, hw2, h9_29]; exact AX h_)
   refine T2 (hK _ _ _ ?_)
   clear hK K
   refine CT rfl ?_
   refine R0 ?_
   refine aD (RT Tryz.results100 ?_)
   have h37 : s[i] ≠ 37 := by rintro h; rw [h] at h9_29; simp at h9_29
   have hn := eS (hst.bad1 hlt hp (.inl h37)) hne
   exact aL [] (.str []) (.bool false) rfl ⟨by rw [hn]; rfl, by rw [hn]; rfl⟩
  iterate 6 refine S0 ?_ (e := fun _ h_ => by simp only [sH, ↓sP, sA, tyS, simprocAttr, Int.natCast_nonneg, Int.ofNat_lt, hlt, hgd, hw2, h9_29]; exact AX h_)
  refine aE 35 rfl (fun h9_35 => ?_) (fun h9_35 => ?_)
  ·
   simp only [h9_35]
   refine T2 (hK _ _ _ ?_)
   clear hK K
   refine CT rfl ?_
   refine R0 ?_
   refine aD (RT Tryz.results100 ?_)
   have hi2 : s.length ≤ i + 2 := by simp at h9_35; omega
   have hn := eS (hst.bad1 hlt hp (.inr hi2)) hne
   exact aL [] (.str []) (.bool false) rfl ⟨by rw [hn]; rfl, by rw [hn]; rfl⟩
  simp only [h9_35]
  refine T2 (hK _ _ _ ?_)
  clear hK K
  refine CF rfl ?_
  refine aG ?_
  refine T0 (hK _ _ _ ?_)
  clear hK K
  have h37 : s[i] = 37 := by
   simp only [bne_eq_false_iff_eq] at h9_29
   exact UInt8.toNat_inj.1 (by show s[i].toNat = 37; omega)
  have hi2 : i + 2 < s.length := by simp at h9_35; omega
  have hi1 : i + 1 < s.length := by omega
  have hg1 : s.getD (i + 1) 0 = s[i + 1] := by simp [hi1]
  have hg2 : s.getD (i + 2) 0 = s[i + 2] := by simp [hi2]
  refine aB fun K hK => DW [(0, [], []), (1, [], []), (2, [], []), (3, [], []), (5, [], []), (6, [], []), (7, [], []), (8, [], []), (4, [], [5, 6, 7, 8]), (9, [], []), (10, [], []), (11, [], [])] [0, 0, 2, 7, 15, 0, 0, 64, 224, 511, 1023, 2047] ?_
  have F := aI @Int.natCast_nonneg (aI @Int.ofNat_lt (aI hw1 (aI hw2 (aI hg1 (aI hg2 (aI hi1 (aI hi2 (aI h9_29 h9_35))))))))
  iterate 8 refine WF ?_
  refine aN (g := none) rfl rfl fun K' hK' => T6 ?_
  refine C2 (pL bP9 s[i + 1]) ?_
  rintro u rfl
  refine AX (hK' _ _ ?_)
  refine aN (g := none) rfl rfl fun K' hK' => T6 ?_
  refine C2 (pL bP9 s[i + 2]) ?_
  rintro u rfl
  refine AX (hK' _ _ ?_)
  iterate 2 refine WF ?_
  refine T2 (hK _ _ _ ?_)
  clear hK K
  refine aB fun K hK => ?_
  by_cases hx : valH s[i + 1] < 16
  ·
   by_cases hy : valH s[i + 2] < 16
   ·
    rw [pJ, pJ, if_pos hx, if_pos hy]
    have hx0 : decide (((valH s[i + 1] : Nat) : Int) < 0) = false := by simp
    have hy0 : decide (((valH s[i + 2] : Nat) : Int) < 0) = false := by simp
    have e1 : IntKind.i64.wrap (16 * ((valH s[i + 1] : Nat) : Int)) = ((16 * valH s[i + 1] : Nat) : Int) := by rw [IntWalk.i64_in _ (by omega)]; omega
    have e2 : IntKind.i64.wrap (((16 * valH s[i + 1] : Nat) : Int) + ((valH s[i + 2] : Nat) : Int)) = ((16 * valH s[i + 1] + valH s[i + 2] : Nat) : Int) := by rw [IntWalk.i64_in _ (by omega)]; omega
    have e3 : IntKind.u8.wrap ((16 * valH s[i + 1] + valH s[i + 2] : Nat) : Int) = ((byteH s[i + 1] s[i + 2]).toNat : Int) := by rw [IntWalk.u8_in _ (by omega), qJ hx hy]
    refine aB fun K hK => Rg ?_
    have F := aI hx0 (aI hy0 (aI e1 (aI e2 (aI e3 (aI h9_29 h9_35)))))
    iterate 12 refine SF ?_
    refine aZ (g := some (53, false)) rfl rfl fun K' hK' => T6 ?_
    refine C1 (aG5 (byteH s[i + 1] s[i + 2])) ?_
    rintro u rfl
    refine AX (hK' _ _ ?_)
    refine SF ?_
    refine T2 (hK _ _ _ ?_)
    clear hK K
    refine aJ (b := cI (byteH s[i + 1] s[i + 2])) rfl (fun hb => ?_) (fun hb => ?_)
    ·
     refine R0 ?_
     refine aD (RT Tryz.results100 ?_)
     have hn := eS (hst.bad2 hi2 h37 (by simp [okH, hx, hy, hb])) hne
     exact aL [] (.str []) (.bool false) rfl ⟨by rw [hn]; rfl, by rw [hn]; rfl⟩
    refine aG ?_
    refine T0 (hK _ _ _ ?_)
    clear hK K
    refine aB fun K hK => Rg ?_
    have F := aI @Int.natCast_nonneg (aI @List.length_append.{0} (aI @List.length_map.{0,0} (aI e1 (aI e2 (aI e3 (aI h9_29 h9_35))))))
    iterate 9 refine SF ?_
    refine T2 (hK _ _ _ ?_)
    clear hK K
    refine aM (by kernel_rfl) ?_
    refine TQ hw2 ?_
    refine AX (hK _ _ _ ?_)
    clear hK K
    refine aM (by kernel_rfl) ?_
    refine TQ hw3 ?_
    refine ⟨⟨(i + 3, out ++ [byteH s[i + 1] s[i + 2]]), hst.esc hi2 h37 (by simp [okH, hx, hy, hb])⟩, aP (by omega) ?_ ?_, ?_⟩
    ·
     simp [aX, upd_at, fin_at, HV.men]
    ·
     simp only [bB, List.map_append]
     exact ⟨rfl, by omega, trivial, trivial⟩
    show s.length - (i + 3) < s.length - i
    omega
   rw [pJ, pJ, if_pos hx, if_neg hy]
   have hx0 : decide (((valH s[i + 1] : Nat) : Int) < 0) = false := by simp
   refine aB fun K hK => Rg ?_
   have F := aI hx0 (aI h9_29 h9_35)
   iterate 14 refine SF ?_
   refine T2 (hK _ _ _ ?_)
   clear hK K
   refine CT rfl ?_
   refine R0 ?_
   refine aD (RT Tryz.results100 ?_)
   have hn := eS (hst.bad2 hi2 h37 (by simp [okH, hx, hy])) hne
   exact aL [] (.str []) (.bool false) rfl ⟨by rw [hn]; rfl, by rw [hn]; rfl⟩
  rw [pJ, if_neg hx]
  refine aB fun K hK => Rg ?_
  have F := aI h9_29 h9_35
  iterate 14 refine SF ?_
  refine T2 (hK _ _ _ ?_)
  clear hK K
  refine CT rfl ?_
  refine R0 ?_
  refine aD (RT Tryz.results100 ?_)
  have hn := eS (hst.bad2 hi2 h37 (by simp [okH, hx])) hne
  exact aL [] (.str []) (.bool false) rfl ⟨by rw [hn]; rfl, by rw [hn]; rfl⟩
 refine aR (T3 ?_)
 clear hK K
 refine AX (hK _ _ _ ?_)
 clear hK K
 have hei : i = s.length := by simp at hb; omega
 have hfin := hst.fin hei hne
 refine bT [24] (bE (fr2 := fin [(4, .c (.slc (out.map dK)))]) (ob2 := fob []) (nx2 := 200) (aP (by omega) (by simp [aX, cB, fin_at, finA_at, upd_at, fob_at, HV.close, HV.closeL, CV.denil, CV.denilL, fJ, HV.men, HV.menL, HV.norm, HV.toC, HV.toCL]) (by simp [bB, cC, fob_at, upd_at, none0_at, bU, HO.close, HV.close, HV.closeL, HO.men, HV.men, HV.menL, HV.norm, HV.toC, HV.toCL])) ?_)
 refine aB fun K hK => Rg ?_
 have F := aI @bytesC_map @List.length_map.{0,0}
 iterate 7 refine SF ?_
 refine T2 (hK _ _ _ ?_)
 clear hK K
 refine aD (RT Tryz.results100 ?_)
 refine aL [] (.str out) (.bool (decide (0 < (out.length : Int)))) rfl ?_
 rw [hfin]
 by_cases ho0 : out = []
 ·
  subst ho0; simp
 have : 0 < out.length := List.length_pos_iff.2 ho0
 simp [ho0, this]

end Go.Proofs.YtenbfeemmpjdhaaGreatDoor

namespace Go.Proofs.YtenbfeemmpjdhaaGreatDoor
open Go Go.Hl Go.Pl
set_option maxRecDepth 10000
set_option maxHeartbeats 2000000

def lsC (l : List aK) : CV := .slc (l.map .str)
theorem cO (l : List aK) : (lsC l).cells = 1 := rfl
theorem nC (l : List aK) : (lsC l).denil = lsC l := by simp only [lsC, CV.denil, denilL_str]
theorem eZ (l : List (List aK)) : CV.denilL (l.map lsC) = l.map lsC := cD nC l
theorem bY8 (b : aK) (hl : b.length < 2 ^ 40) : cT Tryz.prog 60 [.slc (b.map u8)] (fun u v => u = .slc ((iJ b).map lsC) ∧ v = .int .i64 (eC b)) := by
 refine FW Tryz.func60 ?_
 have F := rI
 refine RF ?_
 refine bG2 ?_
 refine aB fun K hK => ?_
 have F := aI rI @List.length_map.{0,0}
 refine RF ?_
 refine aJ (b := decide ((262144 : Int) < b.length)) rfl (fun hb => ?_) (fun hb => ?_)
 ·
  have F := rI
  refine RF ?_
  refine aD ?_
  simp only [cQ, Tryz.results60, cJ, cP, cH, ↓sP, sA, tyS, simprocAttr, rI]
  have hE : eC b = 3 := by unfold eC; rw [if_pos (by simp at hb; omega)]
  refine aL [] (.slc []) (.int .i64 3) ?_ ⟨by simp only [iJ, hE]; rfl, by rw [hE]⟩
  simp [HV.close, HV.closeL, CV.denil, CV.denilL, HV.norm, HV.toC, HV.toCL]
 refine aG ?_
 refine TQ rI ?_
 refine AX (hK _ _ _ ?_)
 clear hK K
 have hle : b.length ≤ 262144 := by simp at hb; omega
 clear hb
 have F := rI
 refine RF ?_
 refine RF ?_
 refine aB fun K hK => ?_
 refine bC2 ?_
 try simp only [↓sP, sA, tyS, simprocAttr, rI]
 refine AX (hK _ _ _ ?_)
 clear hK K
 refine aB fun K hK => ?_
 have key : ∀ (ok : Bool) (ls : List (List aK)) fr ob nx, (ok = true → fW b = some ls) → (ok = false → fW b = none) → ls.length ≤ b.length → Fits 0 fr ob (fin [(4, .own 32 ls.length), (5, .ptr 24 0)]) (fob [(24, .box 4 (.c (.bool ok))), (32, .row 60 1 (ls.map lsC))]) 1000 → K fr ob nx := by
  intro ok ls fr ob nx h1 h2 h3 hf
  refine hK _ _ _ (bE hf ?_)
  clear hf hK K
  refine aB fun K hK => ?_
  cases ok
  ·
   refine aB fun K hK => Rg ?_
   have F := aI rI @List.length_map.{0,0}
   iterate 7 refine SF ?_
   simp only [sE, ↓reduceIte, simprocAttr, rI]
   refine AX (hK _ _ _ ?_)
   clear hK K
   refine CT rfl ?_
   have F := rI
   refine RF ?_
   refine aD ?_
   simp only [cQ, Tryz.results60, cJ, cP, cH, ↓sP, sA, tyS, simprocAttr, rI]
   have hE : eC b = 2 := by unfold eC; rw [if_neg (by omega), h2 rfl]
   refine aL [] (.slc []) (.int .i64 2) ?_ ⟨by simp only [iJ, hE]; rfl, by rw [hE]⟩
   simp [HV.close, HV.closeL, CV.denil, CV.denilL, HV.norm, HV.toC, HV.toCL]
  refine aB fun K hK => Rg ?_
  have F := aI rI @List.length_map.{0,0}
  iterate 7 refine SF ?_
  simp only [sE, ↓reduceIte, simprocAttr, rI]
  refine AX (hK _ _ _ ?_)
  clear hK K
  refine aJ (b := decide ((1000 : Int) < ls.length)) rfl (fun hb => ?_) (fun hb => ?_)
  ·
   have F := rI
   refine RF ?_
   refine aD ?_
   simp only [cQ, Tryz.results60, cJ, cP, cH, ↓sP, sA, tyS, simprocAttr, rI]
   have hE : eC b = 2 := by unfold eC; rw [if_neg (by omega), h1 rfl]; simp only; rw [if_pos (by simp at hb; omega)]
   refine aL [] (.slc []) (.int .i64 2) ?_ ⟨by simp only [iJ, hE]; rfl, by rw [hE]⟩
   simp [HV.close, HV.closeL, CV.denil, CV.denilL, HV.norm, HV.toC, HV.toCL]
  refine aG ?_
  refine TQ rI ?_
  refine AX (hK _ _ _ ?_)
  clear hK K
  have F := rI
  refine RF ?_
  refine aD ?_
  simp only [cQ, Tryz.results60, cJ, cP, cH, ↓sP, sA, tyS, simprocAttr, rI]
  have hE : eC b = 0 := by unfold eC; rw [if_neg (by omega), h1 rfl]; simp only; rw [if_neg (by simp at hb; omega)]
  refine aL [32] (.slc (ls.map lsC)) (.int .i64 0) ?_ ⟨by simp only [iJ, hE, h1 rfl]; rfl, by rw [hE]⟩
  simp [HV.close, fob_at, upd_at, HV.norm, HV.toC, HV.closeL, HV.toCL, CV.denil, eZ]
 refine aH ?_
 refine eE 4 0 60 1 rfl rfl rfl rfl ?_
 refine aS (α := {y : aK × List (List aK) // DecSt b y.1 y.2}) (fun y => (fin [(0, .c (.slc (y.1.1.map u8))), (4, .own 32 y.1.2.length), (5, .ptr 24 0)], fob [(24, .box 4 (.c (.bool true))), (32, .row 60 1 (y.1.2.map lsC))])) 100 (fun y => y.1.1.length) ⟨(b, []), DecSt.init b⟩ (fF) ?_
 rintro ⟨⟨rest, ls⟩, hst⟩
 simp only at hst
 have hr1 := hst.2.1
 have hr2 := hst.2.2
 refine aB fun K hK => ?_
 have F := aI rI @List.length_map.{0,0}
 refine RF ?_
 refine aJ (b := decide ((0 : Int) < rest.length)) rfl (fun hb => ?_) (fun hb => ?_)
 ·
  refine aG ?_
  refine TQ rI ?_
  refine AX (hK _ _ _ ?_)
  clear hK K
  refine aH ?_
  have hne : rest ≠ [] := by rintro rfl; simp at hb
  clear hb
  refine aB fun K hK => eW (by kernel_rfl) ?_
  simp only [sR, simprocAttr]
  have F := aI rI @denilL_u8
  refine SGF ?_
  refine fD (g := none) 116 rfl rfl fun K' hK' => ?_
  simp only [iN, lG, sH, ↓sP, sA, tyS, simprocAttr, rI, denilL_u8]
  repeat refine AI ?_
  refine dX (by first | rfl | simp) ?_
  try simp only [sH, ↓sP, sA, tyS, simprocAttr, rI, denilL_u8]
  refine AX (hK' _ _ ?_)
  refine kI (g := none) rfl rfl fun K' hK' => T6 ?_
  refine aN8 (args := [_, _]) (bQ3 rest 10 (by omega)) ⟨rfl, rfl, rfl, rfl⟩ ?_
  rintro u v x ⟨li, re, fd, rfl, rfl, rfl, hcut⟩
  have hlt := hcut.lt hne
  refine AX (hK' _ _ ?_)
  iterate 7 refine SGF ?_
  simp only [sE, ↓reduceIte, simprocAttr, rI]
  refine AX (hK _ _ _ ?_)
  clear hK K
  have F := rI
  refine RF ?_
  refine aB fun K hK => ?_
  refine aB fun K hK => eW (by kernel_rfl) ?_
  simp only [sR, simprocAttr]
  refine SG0 ?_ (e := fun _ h_ => by simp only [sH, ↓sP, sA, tyS, simprocAttr, rI, denilL_u8, pC, gF, List.range', List.map_cons, List.map_nil]; exact AX h_)
  refine fD (g := none) 160 rfl rfl fun K' hK' => ?_
  simp only [iN, lG, sH, ↓sP, sA, tyS, simprocAttr, rI, denilL_u8, pC, gF, List.range', List.map_cons, List.map_nil]
  repeat refine AI ?_
  refine dX (by first | rfl | simp) ?_
  try simp only [sH, ↓sP, sA, tyS, simprocAttr, rI, denilL_u8, pC, gF, List.range', List.map_cons, List.map_nil]
  refine AX (hK' _ _ ?_)
  refine kI (g := none) rfl rfl fun K' hK' => ?_
  simp only [sH, ↓sP, sA, tyS, simprocAttr, rI, denilL_u8, pC, gF, List.range', List.map_cons, List.map_nil]
  refine xK (args := [_, _]) (aY5 li 32) (by simp) ⟨rfl, rfl, rfl, rfl⟩ ?_
  refine AX (hK' _ _ ?_)
  simp only [sE, ↓reduceIte, simprocAttr, rI]
  refine AX (hK _ _ _ ?_)
  clear hK K
  refine aH ?_
  refine gJ 152 0 9 1 rfl rfl rfl rfl ?_
  refine aX2 (ids := [164, 165, 166]) (fin [(0, .c (.slc (rest.map u8))), (4, .own 32 ls.length), (5, .ptr 24 0), (7, .c (.slc (re.map u8))), (8, .c (.bool fd)), (9, .ptr 152 0)]) (fun i => fob [(24, .box 4 (.c (.bool true))), (32, .row 60 1 (ls.map lsC)), (152, .box 60 (.own 168 i)), (168, .row 9 1 ((wsT li i).map .str))]) 200 (fun i => aG8 li i) (fun p hp => by simp at hp) (aO8 li 32 (by omega)) rfl rfl (by decide) ?_ ?_ ?_ ?_ ?_ rfl rfl ?_ ?_
  ·
   intro j x hx
   match j, hx with
   | 0, hx => cases hx; rfl
   | 1, hx => cases hx; rfl
   | 2, hx => cases hx; rfl
  ·
   exact aP (by omega) (by simp [aX, fin_at, finA_at, upd_at, HV.men, HV.menL, HV.norm, HV.toC, HV.toCL]) (by simp [bB, fob_at, upd_at, none0_at, bU, pC, wsT, HO.men, HV.men, HV.menL, HV.norm, HV.toC, HV.toCL])
  ·
   intro id hid
   simp only [List.mem_cons, List.not_mem_nil, or_false] at hid
   rcases hid with rfl | rfl | rfl <;> rfl
  ·
   intro x hx
   obtain ⟨p, _, rfl⟩ := List.mem_map.1 hx
   rfl
  ·
   intro p hp
   simp only [List.mem_cons, List.not_mem_nil, or_false] at hp
   subst hp
   exact Nat.le_of_ble_eq_true rfl
  ·
   intro i hi hΦ K hK
   have hi' : i < (aT 32 li).length := by simpa using hi
   have hwl := nZ (r := li) (Nat.le_of_lt hi')
   have hsl := dI 32 li
   obtain ⟨p, hp⟩ : ∃ p, p = (aT 32 li)[i] := ⟨_, rfl⟩
   have hpl : p.length ≤ li.length := by rw [hp]; exact kS 32 li _ (List.getElem_mem hi')
   have hx : (List.map (fun p => [CV.slc (List.map u8 p)]) (aT 32 li))[i] = [CV.slc (p.map u8)] := by rw [List.getElem_map, hp]
   rw [hx]
   simp only [vU]
   have hbc : fN (p.map u8) = some p := bytesC_map p
   refine aM (by kernel_rfl) ?_
   refine TQ rI ?_
   refine AX (hK _ _ _ ?_)
   clear hK K
   refine aH ?_
   refine aB fun K hK => Rg ?_
   have F := aI rI hbc
   iterate 2 refine SF ?_
   refine HS fun K' hK' => T6 ?_
   refine D1 (bY7 p (by omega)) ?_
   rintro u v ⟨rfl, rfl⟩
   refine AX (hK' _ _ ?_)
   iterate 5 refine SF ?_
   simp only [sE, ↓reduceIte, simprocAttr, rI]
   refine AX (hK _ _ _ ?_)
   clear hK K
   refine aB fun K hK => ?_
   have F := rI
   refine RF ?_
   refine aJ (b := !(unW p).isSome) rfl (fun hb => ?_) (fun hb => ?_)
   ·
    refine RF ?_
    refine aR ?_
    refine TQ rI ?_
    clear hK K
    clear hK K
    exact key false ls _ _ _ (fun h => by cases h) (fun _ => hst.bad hcut hne (bI1 hi' (by rw [← hp]; simpa using hb))) (by omega) (fF)
   refine aG ?_
   refine TQ rI ?_
   refine AX (hK _ _ _ ?_)
   clear hK K
   refine Rg ?_
   have F := aI rI (aI @List.length_append.{0} (aI @List.length_map.{0,0} hwl))
   iterate 5 refine SF ?_
   simp only [sE, ↓reduceIte, simprocAttr, rI]
   refine ⟨(show Fits 200 _ _ (fin []) _ 200 from aP (by omega) trivial ?_), xN hi' hΦ (by rw [← hp]; simpa using hb)⟩
   rw [aG9 hi', ← hp]
   simp [bB, fob_at, upd_at, none0_at, bU, HO.men, HV.men, HV.menL, HV.norm, HV.toC, HV.toCL]
  intro hΦ
  simp only [sE, ↓reduceIte, simprocAttr, rI]
  rw [List.length_map] at hΦ ⊢
  have hwl := nZ (r := li) (Nat.le_refl _)
  have hul := bQ0 hΦ
  have hsl := dI 32 li
  obtain ⟨ws, hws⟩ : ∃ ws, ws = wsT li (aT 32 li).length := ⟨_, rfl⟩
  rw [← hws] at hul hwl
  rw [← hws, ← hwl]
  refine AX (hK _ _ _ ?_)
  clear hK K
  refine aB fun K hK => ?_
  cases fd
  ·
   refine bT [168] (bE (fr2 := fin [(0, .c (.slc (rest.map u8))), (4, .own 32 ls.length), (5, .ptr 24 0), (7, .c (.slc (re.map u8))), (8, .c (.bool false)), (9, .ptr 152 0)]) (ob2 := fob [(24, .box 4 (.c (.bool true))), (32, .row 60 1 (ls.map lsC)), (152, .box 60 (.c (.slc (ws.map .str))))]) (nx2 := 300) (aP (by omega) (by simp [aX, cB, fin_at, finA_at, upd_at, fob_at, HV.close, HV.closeL, CV.denil, CV.denilL, denilL_u8, HV.men, HV.menL, HV.norm, HV.toC, HV.toCL]) (by simp [bB, cC, fob_at, upd_at, none0_at, bU, HO.close, HV.close, HV.closeL, CV.denil, denilL_str, HO.men, HV.men, HV.menL, HV.norm, HV.toC, HV.toCL])) ?_)
   refine aB fun K hK => Rg ?_
   iterate 7 refine SF ?_
   simp only [sE, ↓reduceIte, simprocAttr, rI]
   refine AX (hK _ _ _ ?_)
   clear hK K
   refine CT rfl ?_
   refine RF ?_
   refine aR ?_
   refine TQ rI ?_
   clear hK K
   exact key false ls _ _ _ (fun h => by cases h) (fun _ => hst.bad0 hcut hne) (by omega) (fF)
  refine bT [168] (bE (fr2 := fin [(0, .c (.slc (rest.map u8))), (4, .own 32 ls.length), (5, .ptr 24 0), (7, .c (.slc (re.map u8))), (8, .c (.bool true)), (9, .ptr 152 0)]) (ob2 := fob [(24, .box 4 (.c (.bool true))), (32, .row 60 1 (ls.map lsC)), (152, .box 60 (.c (.slc (ws.map .str))))]) (nx2 := 300) (aP (by omega) (by simp [aX, cB, fin_at, finA_at, upd_at, fob_at, HV.close, HV.closeL, CV.denil, CV.denilL, denilL_u8, HV.men, HV.menL, HV.norm, HV.toC, HV.toCL]) (by simp [bB, cC, fob_at, upd_at, none0_at, bU, HO.close, HV.close, HV.closeL, CV.denil, denilL_str, HO.men, HV.men, HV.menL, HV.norm, HV.toC, HV.toCL])) ?_)
  refine aB fun K hK => Rg ?_
  iterate 4 refine SF ?_
  refine aZ (g := some (44, false)) rfl rfl fun K' hK' => T6 ?_
  refine C1 (bH7 ws (by omega)) ?_
  rintro u rfl
  refine AX (hK' _ _ ?_)
  iterate 2 refine SF ?_
  simp only [sE, ↓reduceIte, simprocAttr, rI]
  refine AX (hK _ _ _ ?_)
  clear hK K
  refine aJ (b := lZ ws != 0) rfl (fun hb => ?_) (fun hb => ?_)
  ·
   refine RF ?_
   refine aR ?_
   refine TQ rI ?_
   clear hK K
   exact key false ls _ _ _ (fun h => by cases h) (fun _ => hst.bad hcut hne (by rw [hul, if_neg]; unfold okL; simpa using hb)) (by omega) (fF)
  refine aG ?_
  refine TQ rI ?_
  refine AX (hK _ _ _ ?_)
  clear hK K
  refine Rg ?_
  have F := aI rI (aI @List.length_append.{0} @List.length_map.{0,0})
  iterate 7 refine SF ?_
  simp only [sE, ↓reduceIte, simprocAttr, rI]
  have hok : okL ws = true := by unfold okL; simpa using hb
  refine ⟨⟨(re, ls ++ [ws]), hst.next hcut hne (by rw [hul, if_pos hok])⟩, aP (by omega) ?_ ?_, hlt.1⟩
  ·
   simp [aX, upd_at, fin_at, HV.men]
  simp only [bB, List.map_append]
  exact ⟨rfl, by omega, trivial, rfl, by omega, trivial, trivial⟩
 refine aR ?_
 refine TQ rI ?_
 clear hK K
 have hr0 : rest = [] := by simpa using hb
 subst hr0
 exact key true ls _ _ _ (fun _ => hst.fin) (fun h => by cases h) (by omega) (fF)

end Go.Proofs.YtenbfeemmpjdhaaGreatDoor

namespace Go.Proofs.YtenbfeemmpjdhaaGreatDoor
open Go Go.Hl Go.Pl
set_option maxRecDepth 10000
set_option maxHeartbeats 2000000

theorem aI3 (w : aK) (hl : w.length < 2 ^ 40) : aV Tryz.prog 76 [.str w] (fun v => v = .str (lY w)) := by
 refine FW Tryz.func76 ?_
 refine R0 ?_
 refine aB fun K hK => ?_
 refine R0 ?_
 refine aJ (b := w == []) rfl (fun hb => ?_) (fun hb => ?_)
 ·
  refine R0 ?_
  refine aD (RT Tryz.results76 ?_)
  exact aC [] (.str [126]) rfl (by rw [lY, if_pos (by simpa using hb)])
 refine aG ?_
 refine T0 (hK _ _ _ ?_)
 clear hK K
 have hne : w ≠ [] := by simpa using hb
 clear hb
 refine R0 ?_
 refine R0 ?_
 refine aB fun K hK => ?_
 refine R0 ?_
 refine aH ?_
 refine eE 4 0 5 1 rfl rfl rfl rfl ?_
 refine aS (α := {i : Nat // i ≤ w.length}) (fun i => (fin [(0, .c (.str w)), (3, .c (.str [48, 49, 50, 51, 52, 53, 54, 55, 56, 57, 65, 66, 67, 68, 69, 70])), (4, .own 24 (dV (w.take i.1)).length), (5, .c (.int .i64 i.1))], fob [(24, .row 5 1 ((dV (w.take i.1)).map dK))])) 100 (fun i => w.length - i.1) ⟨0, by omega⟩ (fF) ?_
 rintro ⟨i, hi⟩
 have hle := vW w i
 have hle3 := aG0 w
 refine aB fun K hK => ?_
 refine aB fun K hK => Rg ?_
 iterate 4 refine S0 ?_
 refine T2 (hK _ _ _ ?_)
 clear hK K
 refine aJ (b := decide ((i : Int) < w.length)) rfl (fun hb => ?_) (fun hb => ?_)
 ·
  have hlt : i < w.length := by simpa using hb
  have hgd : w.getD i 0 = w[i] := by simp [hlt]
  have hs := aN7 hlt
  refine aG ?_
  refine T0 (hK _ _ _ ?_)
  clear hK K
  refine aB fun K hK => ?_
  refine aH ?_
  refine aB fun K hK => Rg ?_
  iterate 3 refine S0 ?_ (e := fun _ h_ => by simp only [sH, ↓sP, sA, tyS, simprocAttr, Int.natCast_nonneg, Int.ofNat_lt, hlt, hgd]; exact AX h_)
  refine HS fun K' hK' => ?_
  simp only [sH, ↓sP, sA, tyS, simprocAttr, Int.natCast_nonneg, Int.ofNat_lt, hlt, hgd]
  refine C1 (qH w[i]) ?_
  rintro u rfl
  refine AX (hK' _ _ ?_)
  refine T2 (hK _ _ _ ?_)
  clear hK K
  refine aJ (b := cI w[i]) rfl (fun hb => ?_) (fun hb => ?_)
  ·
   refine Rg ?_
   iterate 7 refine S0 ?_ (e := fun _ h_ => by simp only [sH, ↓sP, sA, tyS, simprocAttr, Int.natCast_nonneg, Int.ofNat_lt, hlt, hgd, List.length_append, List.length_map]; exact AX h_)
   refine T2 (hK _ _ _ ?_)
   clear hK K
   refine aM (by kernel_rfl) ?_
   refine TQ (bK i) ?_
   refine ⟨⟨i + 1, hlt⟩, aP (by omega) ?_ ?_, ?_⟩
   ·
    rw [hs, pF, if_pos hb]
    simp [aX, upd_at, fin_at, HV.men]
   ·
    rw [hs, pF, if_pos hb, List.map_append]
    exact ⟨rfl, by omega, trivial, trivial⟩
   show w.length - (i + 1) < w.length - i
   omega
  have h16 : ((w[i].toNat / 16 : Nat) : Int) < 16 := by have := w[i].toNat_lt; omega
  have h15 : ((w[i].toNat % 16 : Nat) : Int) < 16 := by omega
  refine DW [(0, [], []), (1, [], []), (2, [], []), (3, [], []), (4, [], []), (5, [], []), (6, [], []), (7, [], []), (8, [], []), (9, [], []), (10, [], []), (11, [], []), (12, [], []), (13, [], []), (14, [], []), (15, [], [])] [0, 0, 0, 0, 12, 28, 62, 0, 0, 0, 768, 1792, 3968, 8190, 16383, 32767] ?_
  iterate 16 refine W0 ?_ (e := fun _ h_ => by simp only [sH, ↓sP, sA, tyS, simprocAttr, Int.natCast_nonneg, Int.ofNat_lt, hlt, hgd, List.length_append, List.length_map, cB8, bU5, h16, h15]; exact AX h_)
  refine T2 (hK _ _ _ ?_)
  clear hK K
  refine aM (by kernel_rfl) ?_
  refine TQ (bK i) ?_
  refine ⟨⟨i + 1, hlt⟩, aP (by omega) ?_ ?_, ?_⟩
  ·
   rw [hs, pF, if_neg (by rw [hb]; simp)]
   simp [aX, upd_at, fin_at, HV.men]
  ·
   rw [hs, pF, if_neg (by rw [hb]; simp), List.map_append]
   exact ⟨rfl, by omega, trivial, trivial⟩
  show w.length - (i + 1) < w.length - i
  omega
 refine aR (T3 ?_)
 clear hK K
 refine AX (hK _ _ _ ?_)
 clear hK K
 refine bT [24] (bE (fr2 := fin [(4, .c (.slc ((dV (w.take i)).map dK)))]) (ob2 := fob []) (nx2 := 200) (aP (by omega) (by simp [aX, cB, fin_at, finA_at, upd_at, fob_at, HV.close, HV.closeL, CV.denil, CV.denilL, fJ, HV.men, HV.menL, HV.norm, HV.toC, HV.toCL]) (by simp [bB, cC, fob_at, upd_at, none0_at, bU, HO.close, HV.close, HV.closeL, HO.men, HV.men, HV.menL, HV.norm, HV.toC, HV.toCL])) ?_)
 have F := @bytesC_map
 refine RF ?_
 refine aD (RT Tryz.results76 ?_)
 have hei : i = w.length := by simp at hb; omega
 subst hei
 exact aC [] (.str (dV w)) (by rw [List.take_length]; rfl) (by rw [lY, if_neg hne])


theorem aT6 (ls : List (List aK)) (h0 : ls.length < 2 ^ 40) (h1 : ∀ l ∈ ls, l.length < 2 ^ 40) : cT Tryz.prog 30 [.slc (ls.map fun l => .slc (l.map .str))] (fun u v => u = .slc ((aG3 ls).map dK) ∧ v = .int .i64 (kW ls)) := by
 refine FW Tryz.func30 ?_
 refine R0 ?_
 refine aB fun K hK => ?_
 refine R0 ?_
 refine aJ (b := decide ((1000 : Int) < ls.length)) rfl (fun hb => ?_) (fun hb => ?_)
 ·
  refine R0 ?_
  refine aD (RT Tryz.results30 ?_)
  have hE := xM (ls := ls) (by simp at hb; omega)
  refine aL [] (.slc []) (.int .i64 3) ?_ ⟨by rw [mA (by rw [hE]; decide)]; rfl, by rw [hE]⟩
  simp [HV.close, HV.closeL, CV.denil, CV.denilL, HV.norm, HV.toC, HV.toCL]
 refine aG ?_
 refine T0 (hK _ _ _ ?_)
 clear hK K
 have hn : ls.length ≤ 1000 := by simp at hb; omega
 clear hb
 refine R0 ?_
 refine aB fun K hK => ?_
 refine R0 ?_
 refine aH ?_
 refine eE 4 0 5 1 rfl rfl rfl rfl ?_
 refine aS (α := {i : Nat // i ≤ ls.length ∧ ∀ x ∈ ls.take i, okL x = true}) (fun i => (fin [(0, .c (.slc (ls.map fun l => .slc (l.map .str)))), (4, .own 28 (jO (ls.take i.1)).length), (5, .c (.int .i64 i.1))], fob [(28, .row 5 1 ((jO (ls.take i.1)).map dK))])) 100 (fun i => ls.length - i.1) ⟨0, by omega, by simp⟩ (fF) ?_
 rintro ⟨i, hi, hk⟩
 refine aB fun K hK => ?_
 refine aB fun K hK => Rg ?_
 iterate 4 refine S0 ?_
 refine T2 (hK _ _ _ ?_)
 clear hK K
 refine aJ (b := decide ((i : Int) < ls.length)) rfl (fun hb => ?_) (fun hb => ?_)
 ·
  have hlt : i < ls.length := by simpa using hb
  clear hb
  have hl1 := h1 ls[i] (List.getElem_mem hlt)
  have hne : ∀ l ∈ ls.take i, l ≠ [] := fun l hl => ((rZ l).1 (hk l hl)).1
  have hsd := bP5 hk
  rw [List.length_take] at hsd
  have hdl := aG2 hne
  have hdt1 := aY3 hlt
  obtain ⟨l, hl⟩ : ∃ l, l = ls[i] := ⟨_, rfl⟩
  have hln : nth (ls.map fun l => CV.slc (l.map .str)) i = .slc (l.map .str) := by rw [aW hlt, hl]
  rw [← hl] at hdt1 hl1
  have hlti : (i : Int) < ls.length := by omega
  refine aG ?_
  refine T0 (hK _ _ _ ?_)
  clear hK K
  refine aB fun K hK => ?_
  refine aH ?_
  refine aB fun K hK => ?_
  refine aB fun K hK => Rg ?_
  have F := aI @Int.natCast_nonneg (aI @Int.ofNat_lt (aI hlt hln))
  iterate 6 refine SF ?_
  refine T2 (hK _ _ _ ?_)
  clear hK K
  refine aJ (b := (l.length : Int) == 0) rfl (fun hb => ?_) (fun hb => ?_)
  ·
   refine R0 ?_
   refine aD (RT Tryz.results30 ?_)
   have hc : lZ l = 1 := by rw [lZ, if_pos (by simp at hb; simp [hb])]
   have hE := uR hn hlt hk (by rw [← hl, okL, hc]; rfl)
   rw [← hl, hc] at hE
   refine aL [] (.slc []) (.int .i64 1) ?_ ⟨by rw [mA (by rw [hE]; decide)]; rfl, by rw [hE]⟩
   simp [HV.close, HV.closeL, CV.denil, CV.denilL, HV.norm, HV.toC, HV.toCL]
  refine aG ?_
  refine T0 (hK _ _ _ ?_)
  clear hK K
  refine aB fun K hK => ?_
  have hn0 : l.length ≠ 0 := by simp at hb; simp [hb]
  clear hb
  refine aB fun K hK => Rg ?_
  iterate 6 refine SF ?_
  refine T2 (hK _ _ _ ?_)
  clear hK K
  refine aJ (b := decide ((120 : Int) < l.length)) rfl (fun hb => ?_) (fun hb => ?_)
  ·
   refine R0 ?_
   refine aD (RT Tryz.results30 ?_)
   have hc : lZ l = 3 := by rw [lZ, if_neg hn0, if_pos (by simp at hb; omega)]
   have hE := uR hn hlt hk (by rw [← hl, okL, hc]; rfl)
   rw [← hl, hc] at hE
   refine aL [] (.slc []) (.int .i64 3) ?_ ⟨by rw [mA (by rw [hE]; decide)]; rfl, by rw [hE]⟩
   simp [HV.close, HV.closeL, CV.denil, CV.denilL, HV.norm, HV.toC, HV.toCL]
  refine aG ?_
  refine T0 (hK _ _ _ ?_)
  clear hK K
  refine aB fun K hK => ?_
  have hn1 : l.length ≤ 120 := by simp at hb; omega
  clear hb
  refine R0 ?_
  refine aH ?_
  refine aS (α := {k : Nat // k ≤ l.length ∧ ∀ x ∈ l.take k, x.length ≤ 32768}) (fun k => (fin [(0, .c (.slc (ls.map fun l => .slc (l.map .str)))), (4, .own 28 (jO (ls.take i) ++ iZ (l.take k.1)).length), (5, .c (.int .i64 i)), (6, .c (.int .i64 k.1))], fob [(28, .row 5 1 ((jO (ls.take i) ++ iZ (l.take k.1)).map dK))])) 200 (fun k => l.length - k.1) ⟨0, by omega, by simp⟩ (fF) ?_
  rintro ⟨k, hk', hkw⟩
  have hsw := bH5 (l.take k) hkw
  rw [List.length_take] at hsw
  refine aB fun K hK => ?_
  refine aB fun K hK => Rg ?_
  have F := aI @Int.natCast_nonneg (aI hlti hln)
  iterate 7 refine SF ?_
  refine T2 (hK _ _ _ ?_)
  clear hK K
  refine aJ (b := decide ((k : Int) < l.length)) rfl (fun hb => ?_) (fun hb => ?_)
  ·
   have hlk : k < l.length := by simpa using hb
   clear hb
   refine aG ?_
   refine T0 (hK _ _ _ ?_)
   clear hK K
   refine aB fun K hK => ?_
   refine aH ?_
   refine aB fun K hK => ?_
   refine aB fun K hK => Rg ?_
   have F := aI @Int.natCast_nonneg (aI @Int.ofNat_lt (aI hlt (aI hln (aI hlk (nM hlk)))))
   iterate 9 refine SF ?_
   refine T2 (hK _ _ _ ?_)
   clear hK K
   refine aJ (b := decide ((32768 : Int) < l[k].length)) rfl (fun hb => ?_) (fun hb => ?_)
   ·
    refine R0 ?_
    refine aD (RT Tryz.results30 ?_)
    have hc : lZ l = 3 := by rw [lZ, if_neg hn0, if_neg (by omega), if_pos]; simp only [List.any_eq_true, decide_eq_true_eq]; exact ⟨_, List.getElem_mem hlk, by simp at hb; omega⟩
    have hE := uR hn hlt hk (by rw [← hl, okL, hc]; rfl)
    rw [← hl, hc] at hE
    refine aL [] (.slc []) (.int .i64 3) ?_ ⟨by rw [mA (by rw [hE]; decide)]; rfl, by rw [hE]⟩
    simp [HV.close, HV.closeL, CV.denil, CV.denilL, HV.norm, HV.toC, HV.toCL]
   refine aG ?_
   refine T0 (hK _ _ _ ?_)
   clear hK K
   refine aB fun K hK => ?_
   have hw2 : l[k].length ≤ 32768 := by simp at hb; omega
   clear hb
   have hel := uP l[k]
   have hsz := uQ l[k]
   have hsp := aX8 l[k]
   have hpe : 0 < (lY l[k]).length := by omega
   have htk := aY0 hlk
   have hbe : (jO (ls.take i)).length + (iZ (l.take k)).length + (lY l[k]).length ≤ 140737488355328 := by omega
   have hbe1 : (jO (ls.take i)).length + (iZ (l.take k)).length + 1 + (lY l[k]).length ≤ 140737488355328 := by omega
   refine R0 ?_
   refine aJ (b := decide ((0 : Int) < k)) rfl (fun hb => ?_) (fun hb => ?_)
   ·
    refine Rg ?_
    have F := aI @List.length_append.{0} @List.length_map.{0,0}
    iterate 4 refine SF ?_
    refine T2 (hK _ _ _ ?_)
    clear hK K
    refine Rg ?_
    have F := aI @Int.natCast_nonneg (aI @Int.ofNat_lt (aI hlt (aI hln (aI hlk (aI (nM hlk) (aI @List.length_append.{0} (aI @List.length_map.{0,0} (aI hpe (aI hbe hbe1)))))))))
    iterate 8 refine SF ?_
    refine HS fun K' hK' => T6 ?_
    refine C1 (aI3 l[k] (by omega)) ?_
    rintro u rfl
    refine AX (hK' _ _ ?_)
    iterate 2 refine SF ?_
    refine T2 (hK _ _ _ ?_)
    clear hK K
    refine aM (by kernel_rfl) ?_
    refine TQ (bK k) ?_
    have hk0 : k ≠ 0 := by simp at hb; omega
    refine ⟨⟨k + 1, hlk, qG (p := fun x => x.length ≤ 32768) hlk hw2 hkw⟩, aP (by omega) ?_ ?_, ?_⟩
    ·
     rw [htk, if_neg hk0]
     simp [aX, upd_at, fin_at, HV.men]
     omega
    ·
     rw [htk, if_neg hk0]
     simp only [List.map_append, ← List.append_assoc]
     exact ⟨rfl, by omega, trivial, trivial⟩
    show l.length - (k + 1) < l.length - k
    omega
   refine aG ?_
   refine T0 (hK _ _ _ ?_)
   clear hK K
   refine Rg ?_
   have F := aI @Int.natCast_nonneg (aI @Int.ofNat_lt (aI hlt (aI hln (aI hlk (aI (nM hlk) (aI @List.length_append.{0} (aI @List.length_map.{0,0} (aI hpe (aI hbe hbe1)))))))))
   iterate 8 refine SF ?_
   refine HS fun K' hK' => T6 ?_
   refine C1 (aI3 l[k] (by omega)) ?_
   rintro u rfl
   refine AX (hK' _ _ ?_)
   iterate 2 refine SF ?_
   refine T2 (hK _ _ _ ?_)
   clear hK K
   refine aM (by kernel_rfl) ?_
   refine TQ (bK k) ?_
   have hk0 : k = 0 := by simp at hb; omega
   refine ⟨⟨k + 1, hlk, qG (p := fun x => x.length ≤ 32768) hlk hw2 hkw⟩, aP (by omega) ?_ ?_, ?_⟩
   ·
    rw [htk, if_pos hk0]
    simp [aX, upd_at, fin_at, HV.men]
    omega
   ·
    rw [htk, if_pos hk0, List.nil_append]
    simp only [List.map_append, ← List.append_assoc]
    exact ⟨rfl, by omega, trivial, trivial⟩
   show l.length - (k + 1) < l.length - k
   omega
  have hek : k = l.length := by simp at hb; omega
  subst hek
  clear hb
  rw [List.take_length] at *
  have hokl : okL l = true := (rZ l).2 ⟨fun h => hn0 (by rw [h]; rfl), hn1, hkw⟩
  refine aR (T3 ?_)
  clear hK K
  refine AX (hK _ _ _ ?_)
  clear hK K
  refine Rg ?_
  have F := aI @List.length_append.{0} (aI @List.length_map.{0,0} @List.take_length.{0})
  iterate 4 refine SF ?_
  refine T2 (hK _ _ _ ?_)
  clear hK K
  refine aM (by kernel_rfl) ?_
  refine TQ (bK i) ?_
  refine ⟨⟨i + 1, hlt, qG (p := fun x => okL x = true) hlt (by rw [← hl]; exact hokl) hk⟩, aP (by omega) ?_ ?_, ?_⟩
  ·
   rw [hdt1, aY1]
   simp [aX, upd_at, fin_at, HV.men]
   try omega
  ·
   rw [hdt1, aY1]
   simp only [List.map_append, ← List.append_assoc, List.take_length]
   exact ⟨rfl, by omega, trivial, trivial⟩
  show ls.length - (i + 1) < ls.length - i
  omega
 have hei : i = ls.length := by simp at hb; omega
 subst hei
 clear hb
 rw [List.take_length] at hk
 have hE := aS6 hn hk
 refine aR (T3 ?_)
 clear hK K
 refine AX (hK _ _ _ ?_)
 clear hK K
 refine aB fun K hK => ?_
 have F := aI @List.take_length.{0} @List.length_map.{0,0}
 refine RF ?_
 refine aJ (b := decide ((262144 : Int) < (jO ls).length)) rfl (fun hb => ?_) (fun hb => ?_)
 ·
  refine R0 ?_
  refine aD (RT Tryz.results30 ?_)
  rw [if_pos (by simp at hb; omega)] at hE
  refine aL [] (.slc []) (.int .i64 3) ?_ ⟨by rw [mA (by rw [hE]; decide)]; rfl, by rw [hE]⟩
  simp [HV.close, HV.closeL, CV.denil, CV.denilL, HV.norm, HV.toC, HV.toCL]
 refine aG ?_
 refine T0 (hK _ _ _ ?_)
 clear hK K
 refine R0 ?_
 refine aD (RT Tryz.results30 ?_)
 rw [if_neg (by simp at hb; omega)] at hE
 refine aL [28] (.slc ((jO ls).map dK)) (.int .i64 0) ?_ ⟨by rw [bP7 hE], by rw [hE]⟩
 simp [HV.close, fob_at, upd_at, HV.norm, HV.toC, HV.closeL, HV.toCL, List.take_of_length_le, CV.denil, fJ]

end Go.Proofs.YtenbfeemmpjdhaaGreatDoor
