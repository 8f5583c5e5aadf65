/- Plain Lean: root documents with one thing changed. By an AI agent. -/
import Derived.Test.YtlldglbooaefhaaGreatDoorHzU1
import Derived.Test.YtlldglbooaefhaaGreatDoorHzSb
import Derived.Test.YtlldglbooaefhaaGreatDoorHlIt
import Derived.Test.YtlldglbooaefhaaGreatDoorPl02e
import Derived.Lib.ItoaLen
import Derived.Test.YtlldglbooaefhaaGreatDoorHlTlaw
import Derived.Sort.Grow
import Derived.Sort.EncStr
set_option linter.unusedSimpArgs false
set_option linter.unusedVariables false
set_option linter.defProp false
namespace Go.Proofs.YtlldglbooaefhaaGreatDoor
open Go Go.Hl Go.Pl
set_option maxRecDepth 10000
set_option maxHeartbeats 16000000

theorem aI3 (l : List aE) (hl : l.length < 2 ^ 40) : bQ Tryz.prog 79 [.slc (l.map .str)] (fun v => v = .int .i64 (rO l)) := by
 refine FW Tryz.func79 ?_
 refine R0 ?_
 refine aB fun K hK => ?_
 refine aK ?_
 refine aB fun K hK => Rg ?_
 iterate 4 refine S0 ?_
 refine T2 (hK _ _ _ ?_)
 clear hK K
 refine aH (b := (l.length : Int) == 0) rfl (fun hb => ?_) (fun hb => ?_)
 ·
  refine R0 ?_
  refine aF (RT Tryz.results79 ?_)
  exact aG [] (.int .i64 1) rfl (by rw [rO, if_pos (by simp at hb; simp [hb])])
 have hn0 : l.length ≠ 0 := by simp at hb; simp [hb]
 clear hb
 refine aB fun K hK => Rg ?_
 iterate 4 refine S0 ?_
 refine T2 (hK _ _ _ ?_)
 clear hK K
 refine aH (b := decide ((120 : Int) < l.length)) rfl (fun hb => ?_) (fun hb => ?_)
 ·
  refine R0 ?_
  refine aF (RT Tryz.results79 ?_)
  exact aG [] (.int .i64 3) rfl (by rw [rO, if_neg hn0, if_pos (by simp at hb; omega)])
 refine aJ ?_
 refine T0 (hK _ _ _ ?_)
 clear hK K
 refine aB fun K hK => ?_
 have hn1 : l.length ≤ 120 := by simp at hb; omega
 clear hb
 refine R0 ?_
 refine aK ?_
 refine bE (α := {i : Nat // i ≤ l.length ∧ ∀ x ∈ l.take i, decide (32768 < x.length) = false}) (fun i => (fin [(13, .c (.slc (l.map .str))), (14, .c (.int .i64 l.length)), (15, .c (.int .i64 i.1))], fob [])) 100 (fun i => l.length - i.1) ⟨0, by omega, by simp⟩ (fF) ?_
 rintro ⟨i, hi, h0⟩
 refine R0 ?_
 refine aB fun K hK => ?_
 refine aH (b := decide ((i : Int) < l.length)) rfl (fun hb => ?_) (fun hb => ?_)
 ·
  have hlt : i < l.length := by simpa using hb
  clear hb
  refine aJ ?_
  refine T0 (hK _ _ _ ?_)
  clear hK K
  refine aB fun K hK => ?_
  refine aK ?_
  have F := aI @Int.natCast_nonneg (aI @Int.ofNat_lt (aI hlt (nM hlt)))
  refine RF ?_
  refine R0 ?_
  refine aH (b := decide ((32768 : Int) < l[i].length)) rfl (fun hb => ?_) (fun hb => ?_)
  ·
   refine R0 ?_
   refine aF (RT Tryz.results79 ?_)
   exact aG [] (.int .i64 3) rfl (by rw [rO, if_neg hn0, if_neg (by omega), if_pos]; simp only [List.any_eq_true, decide_eq_true_eq]; exact ⟨_, List.getElem_mem hlt, by simp at hb; omega⟩)
  refine aJ ?_
  refine T0 (hK _ _ _ ?_)
  clear hK K
  refine aL (by kernel_rfl) ?_
  refine TQ (lQ i) ?_
  have hb2 : decide (32768 < l[i].length) = false := by simp at hb ⊢; omega
  refine ⟨⟨i + 1, hlt, aZ0 (p := fun x => decide (32768 < x.length)) hlt hb2 h0⟩, fF, ?_⟩
  show l.length - (i + 1) < l.length - i
  omega
 refine aZ (T3 ?_)
 clear hK K
 refine AX (hK _ _ _ ?_)
 clear hK K
 refine R0 ?_
 refine aF (RT Tryz.results79 ?_)
 have hei : i = l.length := by simp at hb; omega
 subst hei
 rw [List.take_length] at h0
 exact aG [] (.int .i64 0) rfl (by rw [rO, if_neg hn0, if_neg (by omega), if_neg]; simp only [List.any_eq_true, not_exists, not_and]; intro x hx; simp [h0 x hx])


theorem bY9 (ls : List (List aE)) (h0 : ls.length < 2 ^ 40) (h1 : ∀ l ∈ ls, l.length < 2 ^ 40) : mU Tryz.prog 53 [.slc (ls.map fun l => .slc (l.map .str))] (fun u v => u = .slc ((pX ls).map dY) ∧ v = .int .i64 (lM ls)) := by
 refine FW Tryz.func53 ?_
 refine R0 ?_
 refine aB fun K hK => ?_
 refine R0 ?_
 refine aH (b := decide ((1000 : Int) < ls.length)) rfl (fun hb => ?_) (fun hb => ?_)
 ·
  refine R0 ?_
  refine aF (RT Tryz.results53 ?_)
  have hE := aY2 (ls := ls) (by simp at hb; omega)
  refine bD [] (.slc []) (.int .i64 3) ?_ ⟨by rw [vG (by rw [hE]; decide)]; rfl, by rw [hE]⟩
  simp [HV.close, HV.closeL, CV.denil, CV.denilL, HV.norm, HV.toC, HV.toCL]
 refine aJ ?_
 refine T0 (hK _ _ _ ?_)
 clear hK K
 refine aB fun K hK => ?_
 have hn : ls.length ≤ 1000 := by simp at hb; omega
 clear hb
 refine R0 ?_
 refine aK ?_
 refine bE (α := {i : Nat // i ≤ ls.length ∧ ∀ x ∈ ls.take i, okL x = true}) (fun i => (fin [(0, .c (.slc (ls.map fun l => .slc (l.map .str)))), (20, .c (.slc (ls.map fun l => .slc (l.map .str)))), (21, .c (.int .i64 ls.length)), (22, .c (.int .i64 i.1))], fob [])) 100 (fun i => ls.length - i.1) ⟨0, by omega, by simp⟩ (fF) ?_
 rintro ⟨i, hi, hk⟩
 refine R0 ?_
 refine aB fun K hK => ?_
 refine aH (b := decide ((i : Int) < ls.length)) rfl (fun hb => ?_) (fun hb => ?_)
 ·
  have hlt : i < ls.length := by simpa using hb
  clear hb
  have hl1 := h1 ls[i] (List.getElem_mem hlt)
  refine aJ ?_
  refine T0 (hK _ _ _ ?_)
  clear hK K
  refine aB fun K hK => ?_
  refine aK ?_
  have F := aI @Int.natCast_nonneg (aI @Int.ofNat_lt (aI hlt (nM hlt)))
  refine RF ?_
  refine aB fun K hK => Rg ?_
  refine S0 ?_
  refine HS rfl rfl fun K' hK' => T5 ?_
  refine C1 (aI3 ls[i] hl1) ?_
  rintro u rfl
  refine AX (hK' _ _ ?_)
  clear hK' K'
  refine S0 ?_
  refine T2 (hK _ _ _ ?_)
  clear hK K
  refine R0 ?_
  refine aH (b := rO ls[i] != 0) rfl (fun hb => ?_) (fun hb => ?_)
  ·
   refine R0 ?_
   refine aF (RT Tryz.results53 ?_)
   have hE := bF5 hn hlt hk (by simpa [okL] using hb)
   refine bD [] (.slc []) (.int .i64 (rO ls[i])) ?_ ⟨by rw [vG (by rw [hE]; simpa using hb)]; rfl, by rw [hE]⟩
   simp [HV.close, HV.closeL, CV.denil, CV.denilL, HV.norm, HV.toC, HV.toCL]
  refine aJ ?_
  refine T0 (hK _ _ _ ?_)
  clear hK K
  refine aL (by kernel_rfl) ?_
  refine TQ (lQ i) ?_
  refine ⟨⟨i + 1, hlt, ?_⟩, fF, ?_⟩
  ·
   intro x hx
   rw [List.take_succ_eq_append_getElem hlt, List.mem_append, List.mem_singleton] at hx
   rcases hx with hx | rfl
   ·
    exact hk x hx
   simpa [okL] using hb
  show ls.length - (i + 1) < ls.length - i
  omega
 have hei : i = ls.length := by simp at hb; omega
 subst hei
 clear hb
 rw [List.take_length] at hk
 have hne : ∀ l ∈ ls, l ≠ [] := fun l hl => ((nX l).1 (hk l hl)).1
 have hsd := bQ2 hk
 have hdl := vF hne
 have hE := aT0 hn hk
 have hst : ∀ j, sumD (ls.take j) ≤ sumD ls := fun j => aA7 ls j
 have hdt : ∀ j, (gB (ls.take j)).length ≤ sumD ls := fun j => by rw [vF fun l hl => hne l (List.mem_of_mem_take hl)]; exact hst j
 refine aZ (T3 ?_)
 clear hK K
 refine AX (hK _ _ _ ?_)
 clear hK K
 refine R0 ?_
 refine aB fun K hK => ?_
 refine R0 ?_
 refine aK ?_
 refine bE (α := {i : Nat // i ≤ ls.length}) (fun i => (fin [(0, .c (.slc (ls.map fun l => .slc (l.map .str)))), (7, .c (.int .i64 (sumD (ls.take i.1) : Nat))), (32, .c (.slc (ls.map fun l => .slc (l.map .str)))), (33, .c (.int .i64 ls.length)), (34, .c (.int .i64 i.1))], fob [])) 200 (fun i => ls.length - i.1) ⟨0, by omega⟩ (fF) ?_
 rintro ⟨i, hi⟩
 refine R0 ?_
 refine aB fun K hK => ?_
 refine aH (b := decide ((i : Int) < ls.length)) rfl (fun hb => ?_) (fun hb => ?_)
 ·
  have hlt : i < ls.length := by simpa using hb
  clear hb
  have hst1 := aY1 hlt
  have hst2 := hst (i + 1)
  obtain ⟨l, hl⟩ : ∃ l, l = ls[i] := ⟨_, rfl⟩
  obtain ⟨hl0, hl1, hl2⟩ := (nX l).1 (hk l (by rw [hl]; exact List.getElem_mem hlt))
  have hln : nth (ls.map fun l => CV.slc (l.map .str)) i = .slc (l.map .str) := by rw [bB hlt, hl]
  rw [← hl] at hst1
  refine aJ ?_
  refine T0 (hK _ _ _ ?_)
  clear hK K
  refine aB fun K hK => ?_
  refine aK ?_
  have F := aI @Int.natCast_nonneg (aI @Int.ofNat_lt (aI hlt hln))
  refine RF ?_
  refine R0 ?_
  refine aK ?_
  refine bE (α := {i : Nat // i ≤ l.length}) (fun k => (fin [(0, .c (.slc (ls.map fun l => .slc (l.map .str)))), (7, .c (.int .i64 (sumD (ls.take i) + gK (l.take k.1) : Nat))), (32, .c (.slc (ls.map fun l => .slc (l.map .str)))), (33, .c (.int .i64 ls.length)), (34, .c (.int .i64 i)), (38, .c (.slc (l.map .str))), (39, .c (.int .i64 l.length)), (40, .c (.int .i64 k.1))], fob [])) 300 (fun k => l.length - k.1) ⟨0, by omega⟩ (fF) ?_
  rintro ⟨k, hk'⟩
  refine R0 ?_
  refine aB fun K hK => ?_
  refine aH (b := decide ((k : Int) < l.length)) rfl (fun hb => ?_) (fun hb => ?_)
  ·
   have hlk : k < l.length := by simpa using hb
   clear hb
   have hlt1 := aY0 hlk
   have hlt2 := pW l (k + 1)
   have hw2 := hl2 l[k] (List.getElem_mem hlk)
   refine aJ ?_
   refine T0 (hK _ _ _ ?_)
   clear hK K
   refine aB fun K hK => ?_
   refine aK ?_
   have F := aI @Int.natCast_nonneg (aI @Int.ofNat_lt (aI hlk (nM hlk)))
   refine RF ?_
   refine Rg ?_
   have F := aI (IntWalk.i64_in _ (show -9223372036854775808 ≤ ((sizeW l[k] : Nat) : Int) + 1 ∧ ((sizeW l[k] : Nat) : Int) + 1 ≤ 9223372036854775807 by omega)) (IntWalk.i64_in _ (show -9223372036854775808 ≤ ((sumD (ls.take i) + gK (l.take k) : Nat) : Int) + (((sizeW l[k] : Nat) : Int) + 1) ∧ ((sumD (ls.take i) + gK (l.take k) : Nat) : Int) + (((sizeW l[k] : Nat) : Int) + 1) ≤ 9223372036854775807 by omega))
   iterate 2 refine SF ?_
   refine HS rfl rfl fun K' hK' => T6 ?_
   refine C1 (aT9 l[k] (by omega)) ?_
   rintro u rfl
   refine AX (hK' _ _ ?_)
   clear hK' K'
   iterate 3 refine SF ?_
   refine T2 (hK _ _ _ ?_)
   clear hK K
   refine aL (by kernel_rfl) ?_
   refine TQ (lQ k) ?_
   have he : ((sumD (ls.take i) + gK (l.take k) : Nat) : Int) + (((sizeW l[k] : Nat) : Int) + 1) = ((sumD (ls.take i) + gK (l.take (k + 1)) : Nat) : Int) := by omega
   simp only [he]
   refine ⟨⟨k + 1, hlk⟩, fF, ?_⟩
   show l.length - (k + 1) < l.length - k
   omega
  have hek : k = l.length := by simp at hb; omega
  subst hek
  clear hb
  refine aZ (T3 ?_)
  clear hK K
  refine AX (hK _ _ _ ?_)
  clear hK K
  refine aL (by kernel_rfl) ?_
  refine TQ (lQ i) ?_
  have he : ((sumD (ls.take i) + gK (l.take l.length) : Nat) : Int) = ((sumD (ls.take (i + 1)) : Nat) : Int) := by rw [List.take_length]; omega
  simp only [he]
  refine ⟨⟨i + 1, hlt⟩, fF, ?_⟩
  show ls.length - (i + 1) < ls.length - i
  omega
 have hei : i = ls.length := by simp at hb; omega
 subst hei
 clear hb
 refine aZ (T3 ?_)
 clear hK K
 refine AX (hK _ _ _ ?_)
 clear hK K
 refine aB fun K hK => ?_
 have F := @List.take_length.{0}
 refine RF ?_
 refine aH (b := decide ((262144 : Int) < (sumD ls : Nat))) rfl (fun hb => ?_) (fun hb => ?_)
 ·
  refine R0 ?_
  refine aF (RT Tryz.results53 ?_)
  rw [if_pos (by rw [hdl]; simp at hb; omega)] at hE
  refine bD [] (.slc []) (.int .i64 3) ?_ ⟨by rw [vG (by rw [hE]; decide)]; rfl, by rw [hE]⟩
  simp [HV.close, HV.closeL, CV.denil, CV.denilL, HV.norm, HV.toC, HV.toCL]
 refine aJ ?_
 refine T0 (hK _ _ _ ?_)
 clear hK K
 have hle : sumD ls ≤ 262144 := by simp at hb; omega
 have hz : ((sumD ls : Nat) : Int) ≤ 140737488355328 := by omega
 clear hb
 rw [if_neg (by rw [hdl]; omega)] at hE
 have hO := aA8 hE
 have F := aI @Int.natCast_nonneg (aI hz (aI @Int.mul_one @List.take_length.{0}))
 refine RF ?_
 refine aB fun K hK => ?_
 refine R0 ?_
 refine aK ?_
 refine bE (α := {i : Nat // i ≤ ls.length}) (fun i => (fin [(12, .own 216 (gB (ls.take i.1)).length), (55, .c (.slc (ls.map fun l => .slc (l.map .str)))), (56, .c (.int .i64 ls.length)), (57, .c (.int .i64 i.1))], fob [(216, .row 5 1 ((gB (ls.take i.1)).map dY))])) 400 (fun i => ls.length - i.1) ⟨0, by omega⟩ (fF) ?_
 rintro ⟨i, hi⟩
 refine R0 ?_
 refine aB fun K hK => ?_
 refine aH (b := decide ((i : Int) < ls.length)) rfl (fun hb => ?_) (fun hb => ?_)
 ·
  have hlt : i < ls.length := by simpa using hb
  clear hb
  have hdt1 := aX9 hlt
  have hdt0 := hdt i
  obtain ⟨l, hl⟩ : ∃ l, l = ls[i] := ⟨_, rfl⟩
  have hok := hk l (by rw [hl]; exact List.getElem_mem hlt)
  have hsl := aS9 hok
  obtain ⟨hl0, hl1, hl2⟩ := (nX l).1 hok
  have hln : nth (ls.map fun l => CV.slc (l.map .str)) i = .slc (l.map .str) := by rw [bB hlt, hl]
  rw [← hl] at hdt1
  refine aJ ?_
  refine T0 (hK _ _ _ ?_)
  clear hK K
  refine aB fun K hK => ?_
  refine aK ?_
  have F := aI @Int.natCast_nonneg (aI @Int.ofNat_lt (aI hlt hln))
  refine RF ?_
  refine aB fun K hK => ?_
  refine R0 ?_
  refine aK ?_
  refine bE (α := {i : Nat // i ≤ l.length}) (fun k => (fin [(12, .own 216 (gB (ls.take i) ++ iA (l.take k.1)).length), (55, .c (.slc (ls.map fun l => .slc (l.map .str)))), (56, .c (.int .i64 ls.length)), (57, .c (.int .i64 i)), (61, .c (.slc (l.map .str))), (62, .c (.int .i64 l.length)), (63, .c (.int .i64 k.1))], fob [(216, .row 5 1 ((gB (ls.take i) ++ iA (l.take k.1)).map dY))])) 500 (fun k => l.length - k.1) ⟨0, by omega⟩ (fF) ?_
  rintro ⟨k, hk'⟩
  have hsw := bQ1 (l.take k)
  have hst2 := pW l k
  refine R0 ?_
  refine aB fun K hK => ?_
  refine aH (b := decide ((k : Int) < l.length)) rfl (fun hb => ?_) (fun hb => ?_)
  ·
   have hlk : k < l.length := by simpa using hb
   clear hb
   have hw2 := hl2 l[k] (List.getElem_mem hlk)
   have hel := vD l[k]
   have hsz := vE l[k]
   have hsp := aX6 l[k]
   have hpe : 0 < (jQ l[k]).length := by omega
   have htk := aX8 hlk
   have hbe : (gB (ls.take i)).length + (iA (l.take k)).length + (jQ l[k]).length ≤ 140737488355328 := by omega
   have hbe1 : (gB (ls.take i)).length + (iA (l.take k)).length + 1 + (jQ l[k]).length ≤ 140737488355328 := by omega
   refine aJ ?_
   refine T0 (hK _ _ _ ?_)
   clear hK K
   refine aB fun K hK => ?_
   refine aK ?_
   refine aB fun K hK => Rg ?_
   have F := aI @Int.natCast_nonneg (aI @Int.ofNat_lt (aI hlk (nM hlk)))
   iterate 5 refine SF ?_
   refine T2 (hK _ _ _ ?_)
   clear hK K
   refine aB fun K hK => ?_
   refine R0 ?_
   refine aH (b := decide ((0 : Int) < k)) rfl (fun hb => ?_) (fun hb => ?_)
   ·
    refine Rg ?_
    have F := aI @List.length_append.{0} @List.length_map.{0,0}
    iterate 4 refine SF ?_
    refine T2 (hK _ _ _ ?_)
    clear hK K
    refine Rg ?_
    have F := aI @List.length_append.{0} (aI @List.length_map.{0,0} (aI hpe (aI hbe hbe1)))
    iterate 2 refine SF ?_
    refine HS rfl rfl fun K' hK' => T6 ?_
    refine C1 (aU0 l[k] (by omega)) ?_
    rintro u rfl
    refine AX (hK' _ _ ?_)
    clear hK' K'
    iterate 2 refine SF ?_
    refine T2 (hK _ _ _ ?_)
    clear hK K
    refine aL (by kernel_rfl) ?_
    refine TQ (lQ k) ?_
    have hk0 : k ≠ 0 := by simp at hb; omega
    refine ⟨⟨k + 1, hlk⟩, aN (by omega) ?_ ?_, ?_⟩
    ·
     rw [htk, if_neg hk0]
     simp [bA, upd_at, fin_at, HV.men]
     omega
    ·
     rw [htk, if_neg hk0]
     simp only [List.map_append, ← List.append_assoc]
     exact ⟨rfl, by omega, trivial, trivial⟩
    show l.length - (k + 1) < l.length - k
    omega
   refine aJ ?_
   refine T0 (hK _ _ _ ?_)
   clear hK K
   refine Rg ?_
   have F := aI @List.length_append.{0} (aI @List.length_map.{0,0} (aI hpe (aI hbe hbe1)))
   iterate 2 refine SF ?_
   refine HS rfl rfl fun K' hK' => T6 ?_
   refine C1 (aU0 l[k] (by omega)) ?_
   rintro u rfl
   refine AX (hK' _ _ ?_)
   clear hK' K'
   iterate 2 refine SF ?_
   refine T2 (hK _ _ _ ?_)
   clear hK K
   refine aL (by kernel_rfl) ?_
   refine TQ (lQ k) ?_
   have hk0 : k = 0 := by simp at hb; omega
   refine ⟨⟨k + 1, hlk⟩, aN (by omega) ?_ ?_, ?_⟩
   ·
    rw [htk, if_pos hk0]
    simp [bA, upd_at, fin_at, HV.men]
    omega
   ·
    rw [htk, if_pos hk0, List.nil_append]
    simp only [List.map_append, ← List.append_assoc]
    exact ⟨rfl, by omega, trivial, trivial⟩
   show l.length - (k + 1) < l.length - k
   omega
  have hek : k = l.length := by simp at hb; omega
  subst hek
  clear hb
  rw [List.take_length] at *
  refine aZ (T3 ?_)
  clear hK K
  refine AX (hK _ _ _ ?_)
  clear hK K
  refine Rg ?_
  have F := aI @List.length_append.{0} @List.length_map.{0,0}
  iterate 4 refine SF ?_
  refine T2 (hK _ _ _ ?_)
  clear hK K
  refine aL (by kernel_rfl) ?_
  refine TQ (lQ i) ?_
  refine ⟨⟨i + 1, hlt⟩, aN (by omega) ?_ ?_, ?_⟩
  ·
   rw [hdt1, aA6]
   simp [bA, upd_at, fin_at, HV.men]
   omega
  ·
   rw [hdt1, aA6]
   simp only [List.map_append, ← List.append_assoc]
   exact ⟨rfl, by omega, trivial, trivial⟩
  show ls.length - (i + 1) < ls.length - i
  omega
 refine aZ (T3 ?_)
 clear hK K
 refine AX (hK _ _ _ ?_)
 clear hK K
 refine R0 ?_
 refine aF (RT Tryz.results53 ?_)
 have hei : i = ls.length := by simp at hb; omega
 subst hei
 refine bD [216] (.slc ((gB ls).map dY)) (.int .i64 0) ?_ ⟨by rw [hO], by rw [hE]⟩
 rw [List.take_length]
 simp [HV.close, fob_at, upd_at, HV.norm, HV.toC, HV.closeL, HV.toCL, List.take_of_length_le, CV.denil, dT]

end Go.Proofs.YtlldglbooaefhaaGreatDoor

namespace Go.Proofs.YtlldglbooaefhaaGreatDoor
open Go Go.Hl Go.Pl
set_option maxRecDepth 10000
set_option maxHeartbeats 16000000

theorem bR1 (v : CV) : nth [v] 0 = v := rfl
theorem vS (c : UInt8) : (u8 c).denil = u8 c := rfl
theorem denilL_u8 : ∀ bs : List UInt8, CV.denilL (bs.map u8) = bs.map u8
 | [] => rfl
 | b :: bs => by simp only [List.map_cons, CV.denilL, denilL_u8 bs]; rfl
theorem bR2 (l : List UInt8) (c : UInt8) : bQ Tryz.prog 142 [.slc (l.map u8), u8 c] (fun v => v = .int .i64 (dE l c)) :=
 bY4 (f := 142) (fn := Tryz.f142) Tryz.func142 (by kernel_rfl) (by kernel_rfl) (by kernel_rfl) (by kernel_rfl) l c
theorem bH1 (l : List UInt8) (c : UInt8) : bQ Tryz.prog 141 [.str l, u8 c] (fun v => v = .int .i64 (dE l c)) :=
 bQ4 (f := 141) (fn := Tryz.f141) Tryz.func141 (by kernel_rfl) (by kernel_rfl) (by kernel_rfl) (by kernel_rfl) l c

theorem bZ0 (l : List UInt8) (c : UInt8) : bQ Tryz.prog 122 [.slc (l.map u8), u8 c] (fun v => v = .int .i64 (dE l c)) := by
 refine FW Tryz.func122 ?_
 have F := rI
 refine RF ?_
 refine aB fun K hK => Rg ?_
 have F := aI rI (aI @denilL_u8 @vS)
 iterate 2 refine SF ?_
 refine HS rfl rfl fun K' hK' => T6 ?_
 refine C2 (bR2 l c) ?_
 rintro u rfl
 refine AX (hK' _ _ ?_)
 clear hK' K'
 refine SF ?_
 simp only [sE, ↓reduceIte, simprocAttr, rI]
 refine AX (hK _ _ _ ?_)
 clear hK K
 refine aF ?_
 simp only [gF, Tryz.results122, fD, gE, eO, ↓sP, sA, tyS, simprocAttr, rI]
 exact aG [] (.int .i64 (dE l c)) rfl rfl


theorem bH2 (l : List UInt8) (c : UInt8) : bQ Tryz.prog 121 [.str l, u8 c] (fun v => v = .int .i64 (dE l c)) := by
 refine FW Tryz.func121 ?_
 have F := rI
 refine RF ?_
 refine aB fun K hK => Rg ?_
 have F := aI rI (aI @denilL_u8 @vS)
 iterate 2 refine SF ?_
 refine HS rfl rfl fun K' hK' => T6 ?_
 refine C2 (bH1 l c) ?_
 rintro u rfl
 refine AX (hK' _ _ ?_)
 clear hK' K'
 refine SF ?_
 simp only [sE, ↓reduceIte, simprocAttr, rI]
 refine AX (hK _ _ _ ?_)
 clear hK K
 refine aF ?_
 simp only [gF, Tryz.results121, fD, gE, eO, ↓sP, sA, tyS, simprocAttr, rI]
 exact aG [] (.int .i64 (dE l c)) rfl rfl


theorem qF (l : List UInt8) (c : UInt8) : bQ Tryz.prog 104 [.str l, u8 c] (fun v => v = .int .i64 (dE l c)) := by
 refine FW Tryz.func104 ?_
 have F := rI
 refine RF ?_
 refine aB fun K hK => Rg ?_
 have F := aI rI (aI @denilL_u8 @vS)
 iterate 2 refine SF ?_
 refine HS rfl rfl fun K' hK' => T6 ?_
 refine C2 (bH2 l c) ?_
 rintro u rfl
 refine AX (hK' _ _ ?_)
 clear hK' K'
 refine SF ?_
 simp only [sE, ↓reduceIte, simprocAttr, rI]
 refine AX (hK _ _ _ ?_)
 clear hK K
 refine aF ?_
 simp only [gF, Tryz.results104, fD, gE, eO, ↓sP, sA, tyS, simprocAttr, rI]
 exact aG [] (.int .i64 (dE l c)) rfl rfl


theorem yR (l : List UInt8) (c : UInt8) : bQ Tryz.prog 105 [.slc (l.map u8), .slc [u8 c]] (fun v => v = .int .i64 (dE l c)) := by
 refine FW Tryz.func105 ?_
 have F := rI
 refine RF ?_
 refine RF ?_
 refine aB fun K hK => ?_
 refine aK ?_
 refine RF ?_
 refine aH (b := (1 : Int) == 0) rfl (fun hb => ?_) (fun hb => ?_)
 ·
  exact absurd hb (by decide)
 refine RF ?_
 refine aH (b := (1 : Int) == 1) rfl (fun hb => ?_) (fun hb => ?_)
 ·
  refine aB fun K hK => Rg ?_
  have F := aI rI (aI @u8.eq_1 (aI @bR1 @denilL_u8))
  iterate 4 refine SF ?_
  refine HS rfl rfl fun K' hK' => T6 ?_
  refine C2 (bZ0 l c) ?_
  rintro u rfl
  refine AX (hK' _ _ ?_)
  clear hK' K'
  refine SF ?_
  simp only [sE, ↓reduceIte, simprocAttr, rI]
  refine AX (hK _ _ _ ?_)
  clear hK K
  refine aF ?_
  simp only [gF, Tryz.results105, fD, gE, eO, ↓sP, sA, tyS, simprocAttr, rI]
  exact aG [] (.int .i64 (dE l c)) rfl rfl
 exact absurd hb (by decide)


theorem bR3 (l : List UInt8) (c : UInt8) (hl : l.length < 2 ^ 40) : aB0 Tryz.prog 85 [.slc (l.map u8), .slc [u8 c]] (fun x y f => ∃ (li re : List UInt8) (fd : Bool), x = .slc (li.map u8) ∧ y = .slc (re.map u8) ∧ f = .bool fd ∧ CutR l c li re fd) := by
 refine FW Tryz.func85 ?_
 have F := rI
 refine RF ?_
 refine aB fun K hK => ?_
 refine aB fun K hK => Rg ?_
 have F := aI rI @denilL_u8
 iterate 2 refine SF ?_
 refine HS rfl rfl fun K' hK' => T6 ?_
 refine C2 (yR l c) ?_
 rintro u rfl
 refine AX (hK' _ _ ?_)
 clear hK' K'
 refine SF ?_
 simp only [sE, ↓reduceIte, simprocAttr, rI]
 refine AX (hK _ _ _ ?_)
 clear hK K
 have F := rI
 refine RF ?_
 refine aH (b := decide ((0 : Int) ≤ dE l c)) rfl (fun hb => ?_) (fun hb => ?_)
 ·
  have hn : ¬ dE l c < 0 := by simp at hb; omega
  obtain ⟨i, hi, hil, hsp⟩ := dU hn
  have hi' := hi
  rw [hi]
  refine aB fun K hK => QR ?_
  have F := aI rI (aI @Int.natCast_nonneg (aI @Int.ofNat_le (aI @Int.sub_zero (aI @Nat.sub_zero (aI @List.drop_zero.{0} (aI @mR (aI @denilL_u8 (aI @List.length_map.{0,0} (show IntKind.i64.wrap ((i : Int) + 1) = ((i + 1 : Nat) : Int) from by rw [IntWalk.i64_in _ (by omega)]; rfl)))))))))
  iterate 12 refine SF ?_
  simp only [sE, ↓reduceIte, simprocAttr, rI]
  refine AX (hK _ _ _ ?_)
  clear hK K
  refine aF ?_
  simp only [gF, Tryz.results85, fD, gE, eO, ↓sP, sA, tyS, simprocAttr, rI]
  refine jG [] (.slc ((l.take i).map u8)) (.slc ((l.drop (i + 1)).map u8)) (.bool true) ?_ ⟨_, _, _, rfl, rfl, rfl, .inr ⟨rfl, i, hi, hil, rfl, rfl⟩⟩
  simp [HV.close, HV.closeL, HV.norm, HV.toC, HV.toCL, CV.denil, denilL_u8]
  exact ⟨by rw [← List.map_take, denilL_u8], by rw [← List.map_drop, ← List.map_take, denilL_u8, List.take_of_length_le (by simp)]⟩
 have hn : dE l c < 0 := by simp at hb; omega
 refine aJ ?_
 refine TQ rI ?_
 refine AX (hK _ _ _ ?_)
 clear hK K
 refine aB fun K hK => Rg ?_
 iterate 4 refine SF ?_
 simp only [sE, ↓reduceIte, simprocAttr, rI]
 refine AX (hK _ _ _ ?_)
 clear hK K
 refine aF ?_
 simp only [gF, Tryz.results85, fD, gE, eO, ↓sP, sA, tyS, simprocAttr, rI]
 refine jG [] (.slc (l.map u8)) (.slc []) (.bool false) ?_ ⟨l, [], false, rfl, rfl, rfl, .inl ⟨rfl, hn, rfl, rfl⟩⟩
 simp [HV.close, HV.closeL, HV.norm, HV.toC, HV.toCL, CV.denil, denilL_u8]


theorem bR4 (l : List UInt8) (c : UInt8) : aT7 Tryz.prog 106 126 [.slc (l.map u8), .slc [u8 c], .int .i64 0] [(47, .slc [u8 c]), (47, .slc (l.map u8)), (3, .int .i64 0)] := by
 refine FW Tryz.func106 ?_
 refine aB fun K hK => Rg ?_
 have F := rI
 iterate 4 refine SF ?_
 simp only [sE, ↓reduceIte, simprocAttr, rI]
 refine AX (hK _ _ _ ?_)
 clear hK K
 refine RF ?_
 refine aF ?_
 simp only [gF, Tryz.results106, fD, gE, eO, ↓sP, sA, tyS, simprocAttr, rI]
 refine rT (gf := 126) (bs := [(47, .slc [u8 c]), (47, .slc (l.map u8)), (3, .int .i64 0)]) (ids := [4, 0, 8]) rfl (by simp) (by decide) ?_ ?_
 ·
  intro j x hx
  match j, hx with
  | 0, hx => cases hx; rfl
  | 1, hx => cases hx; rfl
  | 2, hx => cases hx; rfl
 intro x hx
 simp only [List.mem_cons, List.not_mem_nil, or_false] at hx
 rcases hx with rfl | rfl | rfl
 ·
  rfl
 ·
  exact congrArg CV.slc (denilL_u8 l)
 rfl


theorem aZ4 (l : List UInt8) (c : UInt8) : aT7 Tryz.prog 86 126 [.slc (l.map u8), .slc [u8 c]] [(47, .slc [u8 c]), (47, .slc (l.map u8)), (3, .int .i64 0)] := by
 refine FW Tryz.func86 ?_
 have F := rI
 refine RF ?_
 refine aB fun K hK => Rg ?_
 iterate 2 refine S0 ?_ (e := fun _ h_ => by simp only [sH, ↓sP, sA, tyS, simprocAttr, rI, denilL_u8, lX, gH, List.range', List.map_cons, List.map_nil]; exact AX h_)
 refine HS rfl rfl fun K' hK' => ?_
 simp only [sH, ↓sP, sA, tyS, simprocAttr, rI, denilL_u8, lX, gH, List.range', List.map_cons, List.map_nil]
 refine rS (args := [_, _, _]) (bR4 l c) (by simp) ⟨rfl, rfl, rfl, rfl⟩ ?_
 refine AX (hK' _ _ ?_)
 clear hK' K'
 refine S0 ?_ (e := fun _ h_ => by simp only [sH, ↓sP, sA, tyS, simprocAttr, rI, denilL_u8, lX, gH, List.range', List.map_cons, List.map_nil]; exact AX h_)
 simp only [sE, ↓reduceIte, simprocAttr, rI]
 refine AX (hK _ _ _ ?_)
 clear hK K
 refine aF ?_
 simp only [gF, Tryz.results86, fD, gE, eO, ↓sP, sA, tyS, simprocAttr, rI]
 refine rT (gf := 126) (bs := [(47, .slc [u8 c]), (47, .slc (l.map u8)), (3, .int .i64 0)]) (ids := [12, 13, 14]) rfl (by simp) (by decide) ?_ ?_
 ·
  intro j x hx
  match j, hx with
  | 0, hx => cases hx; rfl
  | 1, hx => cases hx; rfl
  | 2, hx => cases hx; rfl
 intro x hx
 simp only [List.mem_cons, List.not_mem_nil, or_false] at hx
 rcases hx with rfl | rfl | rfl
 ·
  rfl
 ·
  exact congrArg CV.slc (denilL_u8 l)
 rfl

end Go.Proofs.YtlldglbooaefhaaGreatDoor

namespace Go.Pl
open Go Go.Hl

theorem aP2 {c : UInt8} {l : List UInt8} (h : (aQ c l).length = 1) : aQ c l = [l] := by
 by_cases hn : dE l c < 0
 ·
  exact mS hn
 ·
  obtain ⟨i, _, _, hsp⟩ := dU hn
  rw [hsp] at h
  have := List.length_pos_iff.2 (cL c (l.drop (i + 1)))
  simp only [List.length_cons] at h
  omega

def SplSt (l : aE) (c : UInt8) (i : Nat) (rest : aE) (a : List aE) : Prop :=
 a.length = (aQ c l).length ∧ a.take i = (aQ c l).take i ∧ (aQ c l).drop i = aQ c rest ∧ i < (aQ c l).length ∧ rest.length ≤ l.length
section
variable {l rest : aE} {c : UInt8} {i k : Nat} {a : List aE}
theorem SplSt.init (l : aE) (c : UInt8) : SplSt l c 0 l (List.replicate (aQ c l).length []) :=
 ⟨by simp, by simp, rfl, List.length_pos_iff.2 (cL c l), Nat.le_refl _⟩
theorem SplSt.next (h : SplSt l c i rest a) (hk : dE rest c = (k : Int)) : k < rest.length ∧ SplSt l c (i + 1) (rest.drop (k + 1)) (a.set i (rest.take k)) := by
 obtain ⟨h1, h2, h3, h4, h5⟩ := h
 obtain ⟨k', e1, e2, e3⟩ := dU (l := rest) (c := c) (by omega)
 have : k' = k := by omega
 subst this
 rw [e3] at h3
 have h6 := List.drop_eq_getElem_cons h4
 rw [h6] at h3
 have h7 := List.head_eq_of_cons_eq h3
 have h8 := List.tail_eq_of_cons_eq h3
 refine ⟨e2, by simpa using h1, ?_, h8, ?_, by rw [List.length_drop]; omega⟩
 ·
  rw [List.take_succ_eq_append_getElem (by rw [List.length_set]; omega), List.take_succ_eq_append_getElem h4, List.getElem_set_self, List.take_set_of_le (Nat.le_refl _), h2, h7]
 ·
  rcases Nat.lt_or_ge (i + 1) (aQ c l).length with h' | h'
  ·
   exact h'
  ·
   rw [List.drop_eq_nil_of_le h'] at h8
   exact absurd h8.symm (cL _ _)
theorem SplSt.last (h : SplSt l c i rest a) (hk : dE rest c < 0) : i + 1 = (aQ c l).length := by
 obtain ⟨h1, h2, h3, h4, h5⟩ := h
 rw [mS hk] at h3
 have := congrArg List.length h3
 simp only [List.length_drop, List.length_singleton] at this
 omega
theorem SplSt.fin (h : SplSt l c i rest a) (hi : i + 1 = (aQ c l).length) : a.set i rest = aQ c l := by
 obtain ⟨h1, h2, h3, h4, h5⟩ := h
 have h6 : (aQ c rest).length = 1 := by rw [← h3, List.length_drop]; omega
 rw [aP2 h6] at h3
 have e1 : a.set i rest = (a.set i rest).take (i + 1) := (List.take_of_length_le (by rw [List.length_set]; omega)).symm
 rw [e1, List.take_succ_eq_append_getElem (by rw [List.length_set]; omega), List.getElem_set_self, List.take_set_of_le (Nat.le_refl _), h2]
 conv => rhs; rw [← List.take_append_drop i (aQ c l), h3]
end

def nA (c : UInt8) : Bool := decide (48 ≤ c.toNat) && decide (c.toNat ≤ 57)
def dA : aE → Nat → Option Nat
 | [], n => some n
 | c :: l, n => if nA c then dA l (10 * n + (c.toNat - 48)) else none
def gI (s : aE) : Bool := decide (s.length < 1) || decide (13 < s.length) || (decide (1 < s.length) && s.getD 0 0 == 48)
def bH (s : aE) : Option Int := if gI s then none else match dA s 0 with | some n => if 1099511627776 < n then none else some (n : Int) | none => none
def DgSt (s : aE) (i n : Nat) : Prop := i ≤ s.length ∧ dA s 0 = dA (s.drop i) n ∧ n < 10 ^ i
theorem DgSt.init (s : aE) : DgSt s 0 0 := ⟨Nat.zero_le _, rfl, by omega⟩
theorem DgSt.next {s : aE} {i n : Nat} (h : DgSt s i n) (hi : i < s.length) (hd : nA s[i] = true) : DgSt s (i + 1) (10 * n + (s[i].toNat - 48)) := by
 obtain ⟨h1, h2, h3⟩ := h
 refine ⟨hi, ?_, ?_⟩
 ·
  rw [h2, List.drop_eq_getElem_cons hi, dA, if_pos hd]
 ·
  simp only [nA, Bool.and_eq_true, decide_eq_true_eq] at hd
  rw [Nat.pow_succ]
  omega
theorem DgSt.bad {s : aE} {i n : Nat} (h : DgSt s i n) (hi : i < s.length) (hd : nA s[i] = false) : dA s 0 = none := by
 rw [h.2.1, List.drop_eq_getElem_cons hi, dA, if_neg (by rw [hd]; simp)]
theorem DgSt.fin {s : aE} {i n : Nat} (h : DgSt s i n) (hi : i = s.length) : dA s 0 = some n := by
 rw [h.2.1, hi, List.drop_length]; rfl
theorem DgSt.lt {s : aE} {i n : Nat} (h : DgSt s i n) (hs : s.length ≤ 13) : n < 10000000000000 := by
 have : 10 ^ i ≤ 10 ^ 13 := Nat.pow_le_pow_right (by omega) (Nat.le_trans h.1 hs)
 have := h.2.2
 omega
theorem vT {s : aE} (h : gI s = true) : bH s = none := by unfold bH; rw [if_pos h]
theorem yS {s : aE} (h : dA s 0 = none) : bH s = none := by unfold bH; split <;> first | rfl | (rw [h])
theorem bH3 {s : aE} {n : Nat} (h : dA s 0 = some n) (h1 : 1099511627776 < n) : bH s = none := by
 unfold bH; split
 ·
  rfl
 ·
  rw [h]; simp only; rw [if_pos h1]
theorem aU1 {s : aE} {n : Nat} (h0 : gI s = false) (h : dA s 0 = some n) (h1 : ¬ 1099511627776 < n) : bH s = some (n : Int) := by
 unfold bH
 rw [if_neg (by rw [h0]; simp), h]; simp only; rw [if_neg h1]
theorem bH4 (c : UInt8) : nA c = (decide ((48 : Int) ≤ (c.toNat : Int)) && decide ((c.toNat : Int) ≤ 57)) := by
 unfold nA
 have h1 : decide ((48 : Int) ≤ (c.toNat : Int)) = decide (48 ≤ c.toNat) := by rw [decide_eq_decide]; omega
 have h2 : decide ((c.toNat : Int) ≤ 57) = decide (c.toNat ≤ 57) := by rw [decide_eq_decide]; omega
 rw [h1, h2]
theorem aP3 {s : aE} {n : Int} (h : bH s = some n) : 0 ≤ n ∧ n ≤ 1099511627776 := by
 unfold bH at h
 split at h
 ·
  cases h
 ·
  split at h
  ·
   split at h
   ·
    cases h
   ·
    cases h; omega
  ·
   cases h
end Go.Pl

namespace Go.Proofs.YtlldglbooaefhaaGreatDoor
open Go Go.Hl Go.Pl
set_option maxRecDepth 10000
set_option maxHeartbeats 16000000

theorem aP4 (l : List UInt8) (c : UInt8) : bQ Tryz.prog 134 [.str l, .str [c]] (fun v => v = .int .i64 (dE l c)) := by
 refine FW Tryz.func134 ?_
 refine R0 ?_
 refine R0 ?_
 refine aB fun K hK => ?_
 refine aK ?_
 refine aB fun K hK => Rg ?_
 iterate 3 refine S0 ?_
 refine aD 18 rfl (fun h2_18 => ?_) (fun h2_18 => ?_)
 ·
  have F := h2_18
  iterate 5 refine SF ?_
  refine T2 (hK _ _ _ ?_)
  clear hK K
  refine CT rfl ?_
  refine R0 ?_
  refine aF (RT Tryz.results134 ?_)
  exact absurd h2_18 (by decide)
 have F := h2_18
 iterate 5 refine SF ?_
 refine aD 22 rfl (fun h2_22 => ?_) (fun h2_22 => ?_)
 ·
  simp only [h2_22]
  refine T2 (hK _ _ _ ?_)
  clear hK K
  refine CT rfl ?_
  refine R0 ?_
  refine aF (RT Tryz.results134 ?_)
  have hl : l = [c] := (eq_of_beq h2_22).symm
  subst hl
  exact aG [] (.int .i64 0) rfl (by simp [dE])
 simp only [h2_22]
 refine T2 (hK _ _ _ ?_)
 clear hK K
 refine CF rfl ?_
 refine R0 ?_
 refine aH (b := (1 : Int) == 1) rfl (fun hb => ?_) (fun hb => ?_)
 ·
  refine aB fun K hK => Rg ?_
  have F := aI @List.getD_cons_zero.{0} (aI h2_18 h2_22)
  iterate 3 refine SF ?_
  refine HS rfl rfl fun K' hK' => T6 ?_
  refine C2 (bH2 l c) ?_
  rintro u rfl
  refine AX (hK' _ _ ?_)
  clear hK' K'
  refine SF ?_
  refine T2 (hK _ _ _ ?_)
  clear hK K
  refine aF (RT Tryz.results134 ?_)
  exact aG [] (.int .i64 (dE l c)) rfl rfl
 exact absurd hb (by decide)


end Go.Proofs.YtlldglbooaefhaaGreatDoor

namespace Go.Pl
open Go Go.Hl

def tab (n : Nat) (f : Nat → Bool) : List Bool := (List.range n).map f
theorem kD (n : Nat) (f : Nat → Bool) : (tab n f).length = n := by simp [tab]
theorem oB {n : Nat} {f : Nat → Bool} {i : Nat} (h : i < n) : (tab n f)[i]'(by rw [kD]; exact h) = f i := by simp [tab]
theorem aZ5 (n : Nat) : List.replicate n false = tab n (fun _ => false) := by
 refine List.ext_getElem (by simp [kD]) fun i h1 h2 => ?_
 rw [oB (by simpa using h1)]; simp
theorem bR5 {n : Nat} {f : Nat → Bool} {i : Nat} {b : Bool} : (tab n f).set i b = tab n (fun j => if j = i then b else f j) := by
 refine List.ext_getElem (by simp [kD]) fun j h1 h2 => ?_
 rw [kD] at h2
 rw [oB h2, List.getElem_set]
 by_cases e : i = j
 ·
  subst e; simp
 ·
  rw [if_neg e, if_neg fun h => e h.symm, oB h2]
theorem aU2 {n : Nat} {f g : Nat → Bool} (h : ∀ i, i < n → f i = g i) : tab n f = tab n g := by
 refine List.ext_getElem (by simp [kD]) fun i h1 h2 => ?_
 rw [kD] at h2
 rw [oB h2, oB h2, h i h2]
def bC1 (b : Bool) : CV := .bool b
theorem bR6 {n : Nat} {f : Nat → Bool} {i : Nat} (h : i < n) : nth ((tab n f).map bC1) i = .bool (f i) := by
 rw [bB (by rw [kD]; exact h), oB h]; rfl

section
variable (ps : List Pt) (s : aE)
def prt (k : Nat) : Pt := ps.getD k ⟨0, 0⟩
theorem cD5 : mD ps s 0 0 = true := by rw [mD.eq_def]
theorem cD6 (i : Nat) : mD ps s 0 (i + 1) = false := by rw [mD.eq_def]
theorem cD7 (k : Nat) : mD ps s (k + 1) 0 = ((prt ps k).long && mD ps s k 0) := by rw [mD.eq_def]; rfl
theorem oS (k i : Nat) : mD ps s (k + 1) (i + 1) = if (prt ps k).long then mD ps s k (i + 1) || (mD ps s (k + 1) i && (prt ps k).takes (s.getD i 0)) else mD ps s k i && (prt ps k).takes (s.getD i 0) := by
 rw [mD.eq_def]; rfl

def nxt (k i j : Nat) : Bool := if j ≤ i then mD ps s (k + 1) j else false
theorem bH5 (k : Nat) (j : Nat) : (if j = 0 then (mD ps s k 0 && (prt ps k).long) else false) = nxt ps s k 0 j := by
 unfold nxt
 by_cases h : j = 0
 ·
  subst h; rw [if_pos rfl, if_pos (Nat.le_refl _), cD7, Bool.and_comm]
 ·
  rw [if_neg h, if_neg (by omega)]
theorem bH6 (k i : Nat) (j : Nat) : (if j = i + 1 then mD ps s (k + 1) (i + 1) else nxt ps s k i j) = nxt ps s k (i + 1) j := by
 unfold nxt
 by_cases h : j = i + 1
 ·
  subst h; rw [if_pos rfl, if_pos (Nat.le_refl _)]
 ·
  rw [if_neg h]
  by_cases h2 : j ≤ i
  ·
   rw [if_pos h2, if_pos (by omega)]
  ·
   rw [if_neg h2, if_neg (by omega)]
theorem bR7 (k : Nat) : tab (s.length + 1) (nxt ps s k s.length) = tab (s.length + 1) (mD ps s (k + 1)) :=
 aU2 fun i hi => by unfold nxt; rw [if_pos (by omega)]
theorem bH7 : tab (s.length + 1) (fun j => if j = 0 then true else false) = tab (s.length + 1) (mD ps s 0) :=
 aU2 fun i _ => by
  cases i with
  | zero => rw [cD5]; rfl
  | succ i => rw [cD6]; rfl

def p1 (i k j : Nat) : Bool := (decide (j < k) && ((prt ps j).long && (mN ps s j i && (prt ps j).takes (s.getD i 0)))) ||
 (decide (1 ≤ j) && (decide (j - 1 < k) && (!(prt ps (j - 1)).long && (mN ps s (j - 1) i && (prt ps (j - 1)).takes (s.getD i 0)))))
def p2 (i k j : Nat) : Bool := if j ≤ k then mN ps s j (i + 1) else p1 ps s i ps.length j
end
end Go.Pl

namespace Go.Proofs.YtlldglbooaefhaaGreatDoor
open Go Go.Hl Go.Pl
set_option maxRecDepth 10000
set_option maxHeartbeats 16000000

theorem bR8 (c d : UInt8) : ((c.toNat : Int) == (d.toNat : Int)) = (c == d) := by
 by_cases h : c = d
 ·
  simp [h]
 have : ¬ (c.toNat : Int) = (d.toNat : Int) := fun e => h (UInt8.toNat_inj.1 (by omega))
 rw [beq_false_of_ne this, beq_false_of_ne h]
theorem cG8 (c d : UInt8) : ((c.toNat : Int) != (d.toNat : Int)) = !(c == d) := by
 show (!((c.toNat : Int) == (d.toNat : Int))) = _
 rw [bR8]

theorem eQ (x : Pt) (hk : x.k ≤ 3) : bQ Tryz.prog 98 [x.cv] (fun v => v = .bool x.long) := by
 refine FW Tryz.func98 ?_
 have F := aI @Pt.cells (aI @Pt.isAgg @Pt.getAll)
 refine RF ?_
 refine aB fun K hK => Rg ?_
 have F := @Pt.get_k
 iterate 4 refine SF ?_
 refine aD 5 rfl (fun h1_5 => ?_) (fun h1_5 => ?_)
 ·
  have F := aI @Pt.get_k h1_5
  iterate 5 refine SF ?_
  refine T2 (hK _ _ _ ?_)
  clear hK K
  refine aF (RT Tryz.results98 ?_)
  refine aG [] (.bool _) rfl ?_
  have hkk : x.k = 0 ∨ x.k = 1 ∨ x.k = 2 ∨ x.k = 3 := by omega
  rcases hkk with h | h | h | h <;> simp_all [Pt.long]
 have F := aI @Pt.get_k h1_5
 iterate 5 refine SF ?_
 refine T2 (hK _ _ _ ?_)
 clear hK K
 refine aF (RT Tryz.results98 ?_)
 refine aG [] (.bool _) rfl ?_
 have hkk : x.k = 0 ∨ x.k = 1 ∨ x.k = 2 ∨ x.k = 3 := by omega
 rcases hkk with h | h | h | h <;> simp_all [Pt.long]


theorem bR9 (c : UInt8) : bQ Tryz.prog 115 [u8 c] (fun v => v = .bool true) := by
 refine FW Tryz.func115 ?_
 refine R0 ?_
 refine R0 ?_
 refine aF (RT Tryz.results115 ?_)
 exact aG [] (.bool true) rfl rfl


theorem aU3 (c : UInt8) : bQ Tryz.prog 116 [u8 c] (fun v => v = .bool (!(c == 47))) := by
 refine FW Tryz.func116 ?_
 refine R0 ?_
 refine R0 ?_
 refine aF (RT Tryz.results116 ?_)
 exact aG [] (.bool (!(c == 47))) (by rw [← cG8 c 47]; rfl) rfl

end Go.Proofs.YtlldglbooaefhaaGreatDoor

namespace Go.Pl
open Go Go.Hl

def aft (l : List Nd) (i : Nat) : Nat := l.length - ((skip 1 (l.drop i)).getD []).length
theorem aP5 {l : List Nd} {i j : Nat} (hj : j ≤ l.length) (h : skip 1 (l.drop i) = some (l.drop j)) : aft l i = j := by grind [aft, List.length_drop]
theorem iN {l : List Nd} (h : IsTree l) {i : Nat} (hi : i < l.length) : i < aft l i ∧ aft l i ≤ l.length ∧ skip 1 (l.drop i) = some (l.drop (aft l i)) := by grind [bF2, aP5]
def AftSt (l : List Nd) (i m p : Nat) : Prop := p ≤ l.length ∧ skip m (l.drop p) = skip 1 (l.drop i)
theorem AftSt.lt {l : List Nd} (ht : IsTree l) {i m p : Nat} (hi : i < l.length) (h : AftSt l i m p) (hm : 0 < m) : p < l.length := by
 rcases Nat.lt_or_ge p l.length with h1 | h1
 ·
  grind
 ·
  have h2 := h.2
  rw [List.drop_eq_nil_of_le h1, (iN ht hi).2.2] at h2
  obtain ⟨k, rfl⟩ : ∃ k, m = k + 1 := ⟨m - 1, by omega⟩
  cases h2
theorem AftSt.next {l : List Nd} {i m p : Nat} (h : AftSt l i (m + 1) p) (hp : p < l.length) : AftSt l i (m + l[p].c.toNat) (p + 1) := by
 refine ⟨hp, ?_⟩
 rw [← h.2, List.drop_eq_getElem_cons hp]; rfl
theorem AftSt.fin {l : List Nd} {i p : Nat} (h : AftSt l i 0 p) : p = aft l i := by
 have h2 := h.2
 rw [cE] at h2
 exact (aP5 h.1 h2.symm).symm
theorem aZ6 {l : List Nd} {m p q i : Nat} (h : skip (m + 1) (l.drop p) = skip 1 (l.drop i)) (hq : skip 1 (l.drop p) = some (l.drop q)) : skip m (l.drop q) = skip 1 (l.drop i) := by
 rw [← h, Nat.add_comm m 1, dZ, hq]; rfl
def fZ (l : List Nd) : Nat → Nat → List Nat
 | 0, _ => []
 | k + 1, at_ => at_ :: fZ l k (aft l at_)
def bH8 (l : List Nd) (i : Nat) : List Nat := fZ l (l.getD i nd0).c.toNat (i + 1)
def lS (l : List Nd) (i : Int) : List Nat := if cP l = true ∧ 0 ≤ i ∧ i < l.length then bH8 l i.toNat else []
theorem oC (l : List Nd) : ∀ (k p : Nat), (fZ l k p).length = k
 | 0, _ => rfl
 | k + 1, p => by simp [fZ, oC l k]
def cJ (l : List Nd) : Nat → Nat → Nat
 | 0, p => p
 | k + 1, p => cJ l k (aft l p)
theorem cK (l : List Nd) : ∀ (k p : Nat), cJ l (k + 1) p = aft l (cJ l k p)
 | 0, p => rfl
 | k + 1, p => cK l k (aft l p)
theorem pC (l : List Nd) : ∀ (k p : Nat), fZ l (k + 1) p = fZ l k p ++ [cJ l k p]
 | 0, p => rfl
 | k + 1, p => by rw [fZ, pC l k]; rfl
theorem fT {l : List Nd} (ht : IsTree l) {i : Nat} (hi : i < l.length) : ∀ k, k ≤ l[i].c.toNat → cJ l k (i + 1) ≤ l.length ∧ skip (l[i].c.toNat - k) (l.drop (cJ l k (i + 1))) = some (l.drop (aft l i)) ∧ i + 1 ≤ cJ l k (i + 1)
 | 0, _ => by
  refine ⟨hi, ?_, Nat.le_refl _⟩
  have := (iN ht hi).2.2
  rw [List.drop_eq_getElem_cons hi] at this
  show skip (l[i].c.toNat - 0) _ = _
  rw [← this, Nat.sub_zero]
  show _ = skip (0 + l[i].c.toNat) _
  rw [Nat.zero_add]; rfl
 | k + 1, hk => by
  obtain ⟨h1, h2, h3⟩ := fT ht hi k (by omega)
  have hlt : cJ l k (i + 1) < l.length := by
   rcases Nat.lt_or_ge (cJ l k (i + 1)) l.length with h | h
   ·
    exact h
   ·
    rw [List.drop_eq_nil_of_le h] at h2
    obtain ⟨q, hq⟩ : ∃ q, l[i].c.toNat - k = q + 1 := ⟨l[i].c.toNat - k - 1, by omega⟩
    rw [hq] at h2; cases h2
  obtain ⟨a1, a2, a3⟩ := iN ht hlt
  rw [cK]
  refine ⟨a2, ?_, by omega⟩
  obtain ⟨q, hq⟩ : ∃ q, l[i].c.toNat - k = 1 + q := ⟨l[i].c.toNat - k - 1, by omega⟩
  rw [hq, dZ, a3] at h2
  grind
theorem iD {l : List Nd} (ht : IsTree l) {i : Nat} (hi : i < l.length) {k : Nat} (hk : k < l[i].c.toNat) : cJ l k (i + 1) < l.length := by
 obtain ⟨h1, h2, _⟩ := fT ht hi k (by omega)
 rcases Nat.lt_or_ge (cJ l k (i + 1)) l.length with h | h
 ·
  exact h
 ·
  rw [List.drop_eq_nil_of_le h] at h2
  obtain ⟨q, hq⟩ : ∃ q, l[i].c.toNat - k = q + 1 := ⟨l[i].c.toNat - k - 1, by omega⟩
  rw [hq] at h2; cases h2

def eA : Nat → List Nd → List Nat
 | _, [] => []
 | o, n :: l => if n.k = 1 then o :: eA (o + 1) l else eA (o + 1) l
def gJ (l : List Nd) : List Nat := if cP l then eA 0 l else []
theorem gP : ∀ (l : List Nd) (o : Nat), (eA o l).length = lv l
 | [], _ => rfl
 | n :: l, o => by
  rw [eA, lv]
  split
  ·
   simp [gP l]; omega
  ·
   simp [gP l]
theorem qG : ∀ (a b : List Nd) (o : Nat), eA o (a ++ b) = eA o a ++ eA (o + a.length) b
 | [], b, o => by simp [eA]
 | n :: a, b, o => by
  simp only [List.cons_append, eA, qG a b, List.length_cons]
  grind
theorem vU {l : List Nd} {i : Nat} (h : i < l.length) : eA 0 (l.take (i + 1)) = eA 0 (l.take i) ++ (if l[i].k = 1 then [i] else []) := by
 rw [List.take_succ_eq_append_getElem h, qG]
 have : (l.take i).length = i := by simp; omega
 simp_all [Nat.zero_add, eA]
theorem aI4 {l : List Nd} (h : IsTree l) : 1 ≤ lv l := by
 have key : ∀ (l : List Nd) (m : Nat), skip (m + 1) l = some [] → (∀ n ∈ l, bT n = true) → 1 ≤ lv l := by
  intro l
  induction l with
  | nil => intro m h; cases h
  | cons n l ih =>
   intro m h hn
   have h' : skip (m + n.c.toNat) l = some [] := h
   obtain ⟨c1, c2, c3, c4⟩ := cI (hn n List.mem_cons_self)
   rw [lv]
   split
   ·
    omega
   ·
    rename_i hk
    have := c4 hk
    obtain ⟨q, hq⟩ : ∃ q, m + n.c.toNat = q + 1 := ⟨m + n.c.toNat - 1, by omega⟩
    grind
 exact key l 0 h.skip h.node

def cnt (l : List Bool) : Nat := (l.filter id).length
theorem bH9 (l : List Bool) : cnt l ≤ l.length := List.length_filter_le _ _
theorem aI5 (l : List Bool) : cnt l.reverse = cnt l := by simp [cnt, List.filter_reverse]
def iE (n : Nd) (l : List Bool) : Bool := if n.k = 2 then cnt l == l.length else if n.k = 3 then decide (1 ≤ cnt l) else decide (n.n ≤ cnt l)
def evS (T : Nat) (tr : List Bool) : List Nd → List Bool
 | [] => []
 | n :: l => if n.k = 1 then tr.getD (T - lv (n :: l)) false :: evS T tr l else iE n ((evS T tr l).take n.c.toNat) :: (evS T tr l).drop n.c.toNat
theorem aI6 {T : Nat} {tr : List Bool} : ∀ (l : List Nd) (m : Nat) (r : List Nd), (∀ n ∈ l, bT n = true) → skip m l = some r → evS T tr r = (evS T tr l).drop m
 | l, 0, r, _, h => by grind [cE]
 | [], m + 1, r, _, h => by cases h
 | n :: l, m + 1, r, hn, h => by
  have h' : skip (m + n.c.toNat) l = some r := h
  rw [aI6 l _ r (fun x hx => hn x (List.mem_cons_of_mem _ hx)) h', evS]
  obtain ⟨c1, c2, c3, c4⟩ := cI (hn n List.mem_cons_self)
  grind [List.drop_drop, Nat.add_comm]
theorem aB6 {T : Nat} {tr : List Bool} : ∀ (l : List Nd) (m : Nat), (∀ n ∈ l, bT n = true) → skip m l = some [] → (evS T tr l).length = m
 | [], 0, _, _ => rfl
 | [], m + 1, _, h => by cases h
 | n :: l, 0, _, h => by grind [cE]
 | n :: l, m + 1, hn, h => by
  have h' : skip (m + n.c.toNat) l = some [] := h
  have ih := aB6 (T := T) (tr := tr) l _ (fun x hx => hn x (List.mem_cons_of_mem _ hx)) h'
  obtain ⟨c1, c2, c3, c4⟩ := cI (hn n List.mem_cons_self)
  grind [evS, List.length_cons, List.length_drop]
def oT (l : List Nd) (tr : List Bool) : Bool := cP l && (evS (lv l) tr l).headD false
def nB (l : List Nd) (tr : List Bool) (i : Nat) : Bool := (evS (lv l) tr (l.drop i)).headD false
theorem qH (l : List Nd) (i : Nat) : lv (l.take i) + lv (l.drop i) = lv l := by rw [← rM, List.take_append_drop]
theorem vV {l : List Nd} {tr : List Bool} {i : Nat} (hi : i < l.length) (hk : l[i].k = 1) : nB l tr i = tr.getD (lv (l.take i)) false := by
 have h1 := qH l i
 unfold nB
 rw [List.drop_eq_getElem_cons hi] at h1 ⊢
 rw [evS, if_pos hk]
 grind
theorem aZ7 {l : List Nd} (ht : IsTree l) {tr : List Bool} {i : Nat} (hi : i < l.length) {k : Nat} (hk : k < l[i].c.toNat) :
  nB l tr (cJ l k (i + 1)) = (evS (lv l) tr (l.drop (i + 1))).getD k false := by
 have key : ∀ k, k ≤ l[i].c.toNat → skip k (l.drop (i + 1)) = some (l.drop (cJ l k (i + 1))) := by
  intro k
  induction k with
  | zero => intro _; rw [cE]; rfl
  | succ k ih =>
   grind [dZ, cK, iN, iD]
 unfold nB
 rw [aI6 _ _ _ (fun n hn => ht.node n (List.mem_of_mem_drop hn)) (key k (by omega))]
 simp_all
theorem aI7 {l : List Nd} {tr : List Bool} {i : Nat} (hi : i < l.length) (hk : l[i].k ≠ 1) : nB l tr i = iE l[i] ((evS (lv l) tr (l.drop (i + 1))).take l[i].c.toNat) := by
 unfold nB
 rw [List.drop_eq_getElem_cons hi, evS, if_neg hk]; rfl
theorem aI8 {l : List Nd} (ht : IsTree l) {tr : List Bool} {i : Nat} (hi : i < l.length) : l[i].c.toNat ≤ (evS (lv l) tr (l.drop (i + 1))).length := by
 obtain ⟨k, hk⟩ := rN l 1 ht.skip ht.node i hi
 rw [List.drop_eq_getElem_cons hi] at hk
 have hk' : skip (k + l[i].c.toNat) (l.drop (i + 1)) = some [] := hk
 rw [aB6 _ _ (fun n hn => ht.node n (List.mem_of_mem_drop hn)) hk']
 omega
end Go.Pl

namespace Go.Pl
open Go Go.Hl

theorem tE (c : UInt8) : ∀ m : aE, aQ c (m ++ [c]) = aQ c m ++ [[]]
 | [] => by simp [aQ]
 | b :: m => by
  have ih := tE c m
  simp only [List.cons_append]
  rw [aQ, aQ]
  by_cases h : b = c
  ·
   rw [if_pos h, if_pos h, ih]; rfl
  ·
   rw [if_neg h, if_neg h, ih]
   cases hs : aQ c m with
   | nil => exact absurd hs (cL c m)
   | cons x xs => rfl
theorem nC {c : UInt8} : ∀ {l : aE}, l ≠ [] → (aQ c l).getLast (cL c l) = [] → ∃ m, l = m ++ [c]
 | [], h, _ => absurd rfl h
 | b :: l, _, hl => by
  by_cases h : b = c
  ·
   subst h
   have hs : aQ b (b :: l) = [] :: aQ b l := by rw [aQ, if_pos rfl]
   cases l with
   | nil => exact ⟨[], rfl⟩
   | cons d l =>
    have : (aQ b (d :: l)).getLast (cL b _) = [] := by
     simp only [hs] at hl
     rw [List.getLast_cons (cL b _)] at hl
     exact hl
    obtain ⟨m, hm⟩ := nC (l := d :: l) (by simp) this
    exact ⟨b :: m, by rw [hm]; rfl⟩
  ·
   cases hs : aQ c l with
   | nil => exact absurd hs (cL c l)
   | cons x xs =>
    have hs2 : aQ c (b :: l) = (b :: x) :: xs := by rw [aQ, if_neg h, hs]
    simp only [hs2] at hl
    cases xs with
    | nil => simp at hl
    | cons y ys =>
     have hne : l ≠ [] := by rintro rfl; simp [aQ] at hs
     have : (aQ c l).getLast (cL c l) = [] := by
      simp only [hs]
      rw [List.getLast_cons (by simp)] at hl ⊢
      exact hl
     obtain ⟨m, hm⟩ := nC hne this
     exact ⟨b :: m, by rw [hm]; rfl⟩
def iP (c : UInt8) : List aE → aE
 | [] => []
 | w :: l => w ++ l.flatMap fun v => c :: v
theorem nD (c : UInt8) : ∀ l : aE, iP c (aQ c l) = l
 | [] => rfl
 | b :: l => by
  have ih := nD c l
  rw [aQ]
  cases hs : aQ c l with
  | nil => exact absurd hs (cL c l)
  | cons x xs =>
   rw [hs] at ih
   simp only [iP] at ih
   split
   ·
    rename_i h
    subst h
    simp only [iP, List.nil_append, List.flatMap_cons, List.cons_append]
    rw [ih]
   ·
    simp only [iP, List.cons_append]
    rw [ih]
theorem tF {c : UInt8} : ∀ {w : aE}, (∀ b ∈ w, b ≠ c) → aQ c w = [w]
 | [], _ => rfl
 | b :: w, h => by
  rw [aQ, if_neg (h b List.mem_cons_self), tF fun x hx => h x (List.mem_cons_of_mem _ hx)]
theorem vW {c : UInt8} {r : aE} : ∀ {w : aE}, (∀ b ∈ w, b ≠ c) → aQ c (w ++ c :: r) = w :: aQ c r
 | [], _ => by simp only [List.nil_append]; rw [aQ, if_pos rfl]
 | b :: w, h => by
  simp only [List.cons_append]
  rw [aQ, if_neg (h b List.mem_cons_self), vW fun x hx => h x (List.mem_cons_of_mem _ hx)]
theorem nE {c : UInt8} : ∀ {l : List aE}, l ≠ [] → (∀ w ∈ l, ∀ b ∈ w, b ≠ c) → aQ c (iP c l) = l
 | [], h, _ => absurd rfl h
 | [w], _, h => by simp only [iP, List.flatMap_nil, List.append_nil]; exact tF (h w List.mem_cons_self)
 | w :: v :: l, _, h => by
  have ih := nE (c := c) (l := v :: l) (by simp) fun x hx => h x (List.mem_cons_of_mem _ hx)
  have e : iP c (w :: v :: l) = w ++ c :: iP c (v :: l) := by simp [iP]
  rw [e, vW (h w List.mem_cons_self), ih]
theorem aP6 (c : UInt8) (m : aE) : ((aQ c m).flatMap fun r => r ++ [c]) = m ++ [c] := by
 have h := nD c m
 cases hs : aQ c m with
 | nil => exact absurd hs (cL c m)
 | cons x xs =>
  rw [hs] at h
  simp only [iP] at h
  rw [← h]
  have key : ∀ (x : aE) (xs : List aE), (List.flatMap (fun r => r ++ [c]) (x :: xs)) = (x ++ xs.flatMap fun v => c :: v) ++ [c] := by
   intro x xs
   induction xs generalizing x with
   | nil => simp
   | cons y ys ih =>
    rw [List.flatMap_cons, ih y]
    simp
  exact key x xs

set_option maxRecDepth 20000 in
theorem aI9 {c : UInt8} (h : valH c < 16) : lW (valH c) = c := by
 have key : ∀ n : Fin 256, valH (UInt8.ofNat n.1) < 16 → lW (valH (UInt8.ofNat n.1)) = UInt8.ofNat n.1 := by decide
 have := key ⟨c.toNat, c.toNat_lt⟩
 simp only [UInt8.ofNat_toNat] at this
 exact this h
set_option maxRecDepth 20000 in
theorem yT {n : Nat} (h : n < 16) : valH (lW n) = n := by
 have key : ∀ n : Fin 16, valH (lW n.1) = n.1 := by decide
 exact key ⟨n, h⟩
theorem bI0 {x y : UInt8} (h : okH x y = true) : kP (byteH x y) = [37, x, y] := by
 simp only [okH, Bool.and_eq_true, decide_eq_true_eq, Bool.not_eq_true'] at h
 obtain ⟨⟨h1, h2⟩, h3⟩ := h
 unfold kP
 rw [h3, yH h1 h2]
 have e1 : (16 * valH x + valH y) / 16 = valH x := by omega
 have e2 : (16 * valH x + valH y) % 16 = valH y := by omega
 simp only [Bool.false_eq_true, if_false, e1, e2, aI9 h1, aI9 h2]
theorem vX {c : UInt8} (h : cR c = true) : kP c = [c] := by unfold kP; rw [h]; rfl
theorem aB7 : ∀ (n : Nat) {s w : aE}, s.length ≤ n → unB s = some w → cG w = s
 | 0, s, w, hn, h => by
  have : s = [] := List.eq_nil_of_length_eq_zero (by omega)
  subst this
  simp only [unB, Option.some.injEq] at h
  subst h; rfl
 | n + 1, [], w, _, h => by
  simp only [unB, Option.some.injEq] at h
  subst h; rfl
 | n + 1, c :: l, w, hn, h => by
  simp only [List.length_cons] at hn
  by_cases hp : cR c = true
  ·
   rw [nY hp, Option.map_eq_some_iff] at h
   obtain ⟨w', h', rfl⟩ := h
   have ih := aB7 n (by omega) h'
   simp only [cG, List.flatMap_cons] at ih ⊢
   rw [vX hp, ih]; rfl
  ·
   have hp : cR c = false := by simpa using hp
   by_cases hc : c = 37
   ·
    subst hc
    match l, h with
    | [], h => rw [tV hp (.inr (by simp))] at h; cases h
    | [x], h => rw [tV hp (.inr (by simp))] at h; cases h
    | x :: y :: l', h =>
     by_cases ho : okH x y = true
     ·
      rw [aA9 ho, Option.map_eq_some_iff] at h
      obtain ⟨w', h', rfl⟩ := h
      have ih := aB7 n (by simp only [List.length_cons] at hn; omega) h'
      simp only [cG, List.flatMap_cons] at ih ⊢
      rw [bI0 ho, ih]; rfl
     ·
      rw [sZ (by simpa using ho)] at h; cases h
   ·
    rw [tV hp (.inl hc)] at h; cases h
theorem bS0 {s w : aE} (h : unW s = some w) : jQ w = s := by
 unfold unW at h
 split at h
 ·
  rename_i hs; cases h; rw [hs]; rfl
 ·
  split at h
  ·
   cases h
  ·
   rename_i h1 h2
   have := aB7 _ (Nat.le_refl _) h
   unfold jQ
   rw [if_neg (bY5 h2 h), this]
theorem yU : ∀ w : aE, unB (cG w) = some w
 | [] => rfl
 | c :: w => by
  have ih := yU w
  have e : cG (c :: w) = kP c ++ cG w := by simp [cG]
  rw [e]
  by_cases hp : cR c = true
  ·
   rw [vX hp]
   simp only [List.cons_append, List.nil_append]
   rw [nY hp, ih]; rfl
  ·
   have hp : cR c = false := by simpa using hp
   have hlt := c.toNat_lt
   have h1 : valH (lW (c.toNat / 16)) = c.toNat / 16 := yT (by omega)
   have h2 : valH (lW (c.toNat % 16)) = c.toNat % 16 := yT (by omega)
   have hb : byteH (lW (c.toNat / 16)) (lW (c.toNat % 16)) = c := by
    unfold byteH
    rw [h1, h2, Nat.div_add_mod]
    exact UInt8.ofNat_toNat
   have ho : okH (lW (c.toNat / 16)) (lW (c.toNat % 16)) = true := by
    simp only [okH, hb, hp, h1, h2, Bool.and_eq_true, decide_eq_true_eq, Bool.not_false, and_true]
    omega
   have e2 : kP c = [37, lW (c.toNat / 16), lW (c.toNat % 16)] := by unfold kP; rw [hp]; rfl
   rw [e2]
   simp only [List.cons_append, List.nil_append]
   rw [aA9 ho, ih, hb]; rfl
theorem rU {c b : UInt8} (h : b ∈ kP c) : b ≠ 10 ∧ b ≠ 32 ∧ b ≠ 126 := by
 unfold kP at h
 split at h
 ·
  rename_i hp
  simp only [List.mem_singleton] at h
  subst h
  refine ⟨?_, ?_, ?_⟩ <;> (rintro rfl; revert hp; decide)
 ·
  have key : ∀ n : Nat, lW n ≠ 10 ∧ lW n ≠ 32 ∧ lW n ≠ 126 := by
   intro n
   unfold lW
   rcases Nat.lt_or_ge n 16 with hn | hn
   ·
    have : ∀ n : Fin 16, ([48, 49, 50, 51, 52, 53, 54, 55, 56, 57, 65, 66, 67, 68, 69, 70] : List UInt8).getD n.1 0 ≠ 10 ∧ ([48, 49, 50, 51, 52, 53, 54, 55, 56, 57, 65, 66, 67, 68, 69, 70] : List UInt8).getD n.1 0 ≠ 32 ∧ ([48, 49, 50, 51, 52, 53, 54, 55, 56, 57, 65, 66, 67, 68, 69, 70] : List UInt8).getD n.1 0 ≠ 126 := by decide
    exact this ⟨n, hn⟩
   ·
    rw [List.getD_eq_getElem?_getD, List.getElem?_eq_none (by simpa using hn)]
    decide
  simp only [List.mem_cons, List.not_mem_nil, or_false] at h
  rcases h with rfl | rfl | rfl
  ·
   decide
  ·
   exact key _
  ·
   exact key _
theorem rV {w : aE} {b : UInt8} (h : b ∈ jQ w) : b ≠ 10 ∧ b ≠ 32 := by
 unfold jQ at h
 split at h
 ·
  simp only [List.mem_singleton] at h; subst h; decide
 ·
  obtain ⟨c, _, hc⟩ := List.mem_flatMap.1 h
  exact ⟨(rU hc).1, (rU hc).2.1⟩
theorem bI1 (w : aE) : unW (jQ w) = some w := by
 unfold jQ
 split
 ·
  rename_i h; subst h; rfl
 ·
  rename_i h
  have hne : cG w ≠ [] := by
   intro he
   have := aG6 w
   rw [he] at this
   exact h (List.eq_nil_of_length_eq_zero (by simpa using this))
  have h126 : cG w ≠ [126] := by
   intro he
   have hm : (126 : UInt8) ∈ cG w := by rw [he]; simp
   obtain ⟨c, _, hc⟩ := List.mem_flatMap.1 hm
   exact (rU hc).2.2 rfl
  unfold unW
  rw [if_neg h126, if_neg hne, yU]

theorem rW {α β : Type} {f : α → Option β} : ∀ {l : List α} {m : List β}, l.mapM f = some m → (∀ {g : β → α}, (∀ x y, f x = some y → g y = x) → m.map g = l) ∧ m.length = l.length
 | [], m, h => by
  simp only [List.mapM_nil] at h
  cases h
  exact ⟨fun _ => rfl, rfl⟩
 | a :: l, m, h => by
  rw [List.mapM_cons] at h
  cases ha : f a with
  | none => rw [ha] at h; cases h
  | some b =>
   rw [ha] at h
   cases hl : l.mapM f with
   | none => rw [hl] at h; cases h
   | some m' =>
    rw [hl] at h
    cases h
    obtain ⟨h1, h2⟩ := rW hl
    exact ⟨fun hg => by rw [List.map_cons, hg _ _ ha, h1 hg], by simp [h2]⟩
theorem yV (l : List aE) : iA l = iP 32 (l.map jQ) := by
 cases l with
 | nil => rfl
 | cons w l => simp [iA, iP, List.flatMap_map]
theorem bS1 {r : aE} {ws : List aE} (h : unL r = some ws) : iA ws = r := by
 have := (rW h).1 (g := jQ) fun x y h => bS0 h
 rw [yV, this, nD]
theorem yW : ∀ l : List aE, (l.map jQ).mapM unW = some l
 | [] => rfl
 | w :: l => by rw [List.map_cons, List.mapM_cons, bI1, yW l]; rfl
theorem bI2 {l : List aE} (h : l ≠ []) : unL (iA l) = some l := by
 unfold unL
 rw [yV, nE (by simpa using h) (by
  intro w hw b hb
  obtain ⟨v, _, rfl⟩ := List.mem_map.1 hw
  exact (rV hb).2), yW]
theorem aZ8 {l : List aE} {b : UInt8} (h : b ∈ iA l) : b ≠ 10 := by
 cases l with
 | nil => simp at h
 | cons w l =>
  simp only [iA, List.mem_append, List.mem_flatMap] at h
  rcases h with h | ⟨v, _, h⟩
  ·
   exact (rV h).1
  ·
   rcases List.mem_cons.1 h with rfl | h
   ·
    decide
   ·
    exact (rV h).1
theorem aZ9 {ls : List (List aE)} (h : ls ≠ []) : gB ls = iP 10 (ls.map iA) ++ [10] := by
 cases ls with
 | nil => exact absurd rfl h
 | cons l ls =>
  have key : ∀ (l : List aE) (ls : List (List aE)), gB (l :: ls) = iP 10 ((l :: ls).map iA) ++ [10] := by
   intro l ls
   induction ls generalizing l with
   | nil => simp [gB, iP, aA6]
   | cons k ls ih =>
    have := ih k
    have e : gB (l :: k :: ls) = aA6 l ++ gB (k :: ls) := by simp [gB]
    rw [e, this]
    simp [iP, aA6]
  exact key l ls
theorem yX (m : aE) : fS (m ++ [10]) = (aQ 10 m).mapM unR := by
 have hs := tE 10 m
 unfold fS
 rw [if_neg (by simp), if_pos]
 ·
  simp only [hs, List.dropLast_concat]
 ·
  simp only [hs]
  simp
theorem bA0 {ls : List (List aE)} (h : ∀ l ∈ ls, okL l = true) : fS (gB ls) = some ls := by
 by_cases hne : ls = []
 ·
  subst hne; simp [fS]
 ·
  rw [aZ9 hne, yX, nE (by simpa using hne) (by
   intro w hw b hb
   obtain ⟨l, _, rfl⟩ := List.mem_map.1 hw
   exact aZ8 hb)]
  clear hne
  induction ls with
  | nil => rfl
  | cons l ls ih =>
   have hl := h l List.mem_cons_self
   have hr : unR (iA l) = some l := by
    unfold unR
    rw [bI2 ((nX l).1 hl).1]
    simp only [hl, if_true]
   rw [List.map_cons, List.mapM_cons, hr, ih fun x hx => h x (List.mem_cons_of_mem _ hx)]
   rfl

theorem bI3 {rs : List aE} {ls : List (List aE)} (h : rs.mapM unL = some ls) : rs.mapM unR = if ls.all okL then some ls else none := by
 induction rs generalizing ls with
 | nil => simp only [List.mapM_nil] at h; cases h; rfl
 | cons r rs ih =>
  rw [List.mapM_cons] at h
  cases hr : unL r with
  | none => rw [hr] at h; cases h
  | some l =>
   rw [hr] at h
   cases hl : rs.mapM unL with
   | none => rw [hl] at h; cases h
   | some m =>
    rw [hl] at h
    cases h
    rw [List.mapM_cons, ih hl]
    unfold unR
    rw [hr]
    simp only [List.all_cons]
    by_cases h1 : okL l = true
    ·
     simp only [h1, if_true, Bool.true_and]
     by_cases h2 : m.all okL = true
     ·
      simp only [h2, if_true]; rfl
     ·
      simp only [h2]; rfl
    ·
     have h1 : okL l = false := by simpa using h1
     simp only [h1, Bool.false_and, Bool.false_eq_true, if_false]; rfl
theorem xF {rs : List aE} (h : rs.mapM unL = none) : rs.mapM unR = none := by
 induction rs with
 | nil => simp at h
 | cons r rs ih =>
  rw [List.mapM_cons] at h ⊢
  cases hr : unL r with
  | none => unfold unR; rw [hr]; rfl
  | some l =>
   rw [hr] at h
   have : rs.mapM unL = none := by
    cases hl : rs.mapM unL with
    | none => rfl
    | some m => rw [hl] at h; cases h
   rw [ih this]
   cases unR r <;> rfl
theorem bA1 {m : aE} {ls : List (List aE)} (h : (aQ 10 m).mapM unL = some ls) : gB ls = m ++ [10] := by
 have h1 := (rW h).1 (g := iA) fun x y h => bS1 h
 have h2 := aP6 10 m
 rw [← h1] at h2
 rw [← h2]
 simp only [gB, List.flatMap_map]
 rfl
end Go.Pl

namespace Go.Pl
open Go Go.Hl

@[simp] theorem cB5 (l : List W32) (i : Nat) (x : W32) : CV.agg ((l.map w32).set i (w32 x)) = ws (l.set i x) := by rw [← List.map_set]; rfl
@[simp] theorem cB6 (l : List UInt8) (i : Nat) (x : UInt8) : CV.agg ((l.map u8).set i (u8 x)) = us (l.set i x) := by rw [← List.map_set]; rfl
@[simp] theorem cG0 (b : List UInt8) : wA b 0 = wz 64 := rfl
@[simp] theorem cG1 (w : List W32) : wB w 0 = w := rfl
def cG9 (s r : St) (j : Nat) : List W32 := (s.l.zipWith (fun x y => x + y) r.l).take j ++ s.l.drop j
@[simp] theorem cB7 (s r : St) : cG9 s r 0 = s.l := rfl
end Go.Pl

namespace Go.Pl
open Go Go.Hl

section
variable {b : List UInt8} {j : Nat} (h0 : 64 * j ≤ b.length) (h1 : b.length < 64 * j + 64)
include h0 h1
end
section
variable {b : List UInt8} {j : Nat} (h0 : 64 * j ≤ b.length) (h1 : b.length < 64 * j + 64)
include h0 h1
end
@[simp] theorem cG2 (l : List UInt8) : CV.agg (l.map u8) = us l := rfl
def ob8 (s : St) (i : Nat) : UInt8 := UInt8.ofNat ((gw s.l (i / 4)) >>> (24 - 8 * (i % 4))).toNat
def cH0 (s : St) (n : Nat) : List UInt8 := itN (fun i l => l.set i (ob8 s i)) n (uz 32)
@[simp] theorem cB8 (s : St) : cH0 s 0 = uz 32 := rfl
end Go.Pl

namespace Go.Pl
open Go Go.Hl

def cH1 (h : xC) : aE := bY3 h.1
def cH2 (d : Dig) : aE := [115, 104, 97, 50, 53, 54, 58] ++ bY3 d.1
def numW (n : Int) : aE := Lib.itoa n
theorem aJ0 {n : Int} (h : 0 ≤ n) : numW n = Lib.decDigits n.natAbs := by unfold numW Lib.itoa; rw [if_neg (by omega)]; congr 1; omega
inductive Av where
 | i (n : Int)
 | l (n : Int)
 | h (x : xC)
 | d (x : Dig)
 | s (w : aE)
def Av.w : Av → aE
 | .i n => numW n
 | .l n => numW n
 | .h x => cH1 x
 | .d x => cH2 x
 | .s w => w
def Av.ok : Av → Prop
 | .i n => -9223372036854775808 ≤ n ∧ n ≤ 9223372036854775807
 | .l n => -9223372036854775808 ≤ n ∧ n ≤ 9223372036854775807
 | _ => True
end Go.Pl

namespace Go.Pl
open Go Go.Hl

def bS2 (c : UInt8) : Nat := if 48 ≤ c.toNat ∧ c.toNat ≤ 57 then c.toNat - 48 else if 97 ≤ c.toNat ∧ c.toNat ≤ 102 then c.toNat - 87 else 16
def hX (s : aE) (i : Nat) : UInt8 := s.getD (2 * i) 0
def hY (s : aE) (i : Nat) : UInt8 := s.getD (2 * i + 1) 0
def hB (s : aE) (i : Nat) : UInt8 := UInt8.ofNat (16 * bS2 (hX s i) + bS2 (hY s i))
def hOk (s : aE) (i : Nat) : Bool := decide (bS2 (hX s i) < 16) && decide (bS2 (hY s i) < 16)
def nF (s : aE) (n : Nat) : Option (List UInt8) := if s.length = 2 * n ∧ (List.range n).all (hOk s) = true then some ((List.range n).map (hB s)) else none
def UhSt (s : aE) (n i : Nat) (l : List UInt8) : Prop := l.length = n ∧ i ≤ n ∧ l.take i = (List.range i).map (hB s) ∧ ∀ j, j < i → hOk s j = true
theorem UhSt.init (s : aE) {n : Nat} {l : List UInt8} (h : l.length = n) : UhSt s n 0 l := ⟨h, Nat.zero_le _, by simp, fun j hj => by omega⟩
theorem UhSt.next {s : aE} {n i : Nat} {l : List UInt8} (h : UhSt s n i l) (hi : i < n) (hk : hOk s i = true) : UhSt s n (i + 1) (l.set i (hB s i)) := by
 obtain ⟨h1, h2, h3, h4⟩ := h
 refine ⟨by simpa using h1, hi, ?_, fun j hj => ?_⟩
 ·
  rw [List.take_succ_eq_append_getElem (by rw [List.length_set]; omega), List.getElem_set_self, List.take_set_of_le (Nat.le_refl _), h3, List.range_succ, List.map_append]
  rfl
 ·
  rcases Nat.lt_or_ge j i with h' | h'
  ·
   exact h4 j h'
  ·
   have : j = i := by omega
   rw [this]; exact hk
theorem UhSt.fin {s : aE} {n : Nat} {l : List UInt8} (h : UhSt s n n l) (hs : s.length = 2 * n) : nF s n = some l := by
 obtain ⟨h1, h2, h3, h4⟩ := h
 unfold nF
 rw [if_pos ⟨hs, by rw [List.all_eq_true]; intro j hj; exact h4 j (List.mem_range.1 hj)⟩, ← h3, List.take_of_length_le (by omega)]
theorem UhSt.bad {s : aE} {n i : Nat} {l : List UInt8} (_ : UhSt s n i l) (hi : i < n) (hk : hOk s i = false) : nF s n = none := by
 unfold nF
 rw [if_neg]
 rintro ⟨_, h⟩
 have := List.all_eq_true.1 h i (List.mem_range.2 hi)
 rw [hk] at this; cases this
theorem oU {s : aE} {n : Nat} {l : List UInt8} (h : nF s n = some l) : l.length = n := by
 unfold nF at h
 split at h
 ·
  cases h; simp
 ·
  cases h
def cD8 (s p : aE) : Bool := decide (p.length ≤ s.length) && (s.take p.length == p)
def cD9 (s : aE) : Option xC := match h : nF s 16 with | some l => some ⟨l, oU h⟩ | none => none
def cH3 : aE := [115, 104, 97, 50, 53, 54, 58]
def cH4 (s : aE) : Option Dig := if cD8 s cH3 then match h : nF (s.drop 7) 32 with | some l => some ⟨l, oU h⟩ | none => none else none
end Go.Pl

namespace Go.Pl
open Go Go.Hl

def wd (l : List aE) (i : Nat) : aE := l.getD i []
theorem vY {l : List aE} {i : Nat} (h : i < l.length) : nth (l.map CV.str) i = .str (wd l i) := by
 rw [bB h, wd, List.getD_eq_getElem?_getD, List.getElem?_eq_getElem h]; rfl
def bI4 (l : List aE) (x : Rt) : Option Rt :=
 if l.length = 3 then match bH (wd l 2) with | some n => some { x with q := x.q ++ [⟨wd l 1, n⟩] } | none => none else none
def cE0 (l : List aE) (x : Rt) : Option Rt :=
 if l.length < 6 then none else match bH (wd l 1), cD9 (wd l 2), bH (wd l 4), bH (wd l 5) with
  | some h, some r, some a, some b => some { x with k := x.k ++ [⟨⟨h, r⟩, wd l 3, l.drop 6, a, b⟩] }
  | _, _, _, _ => none
def cE1 (l : List aE) (x : Rt) : Option Rt :=
 if l.length = 3 then match cH4 (wd l 1), bH (wd l 2) with | some d, some t => some { x with x := x.x ++ [⟨d, t⟩] } | _, _ => none else none
end Go.Pl

namespace Go.Pl
open Go Go.Hl

end Go.Pl

namespace Go.Pl
open Go Go.Hl

end Go.Pl

namespace Go.Pl
open Go Go.Hl

end Go.Pl

namespace Go.Pl
open Go Go.Hl

end Go.Pl

namespace Go.Pl
open Go Go.Hl

end Go.Pl

namespace Go.Hl
open Go Go.RowKit Go.Sort Go.Proofs

end Go.Hl

namespace Go.Pl
open Go Go.Hl

end Go.Pl

namespace Go.Pl
open Go Go.Hl

def rMid (r : Rt) : Prop := (r.q.length ≤ 12 ∧ ∀ q ∈ r.q, q.r.length ≤ 300) ∧ (r.k.length ≤ 32 ∧ ∀ k ∈ r.k, k.o.length ≤ 300 ∧ k.rs.length ≤ 30 ∧ ∀ w ∈ k.rs, w.length ≤ 300) ∧ r.x.length ≤ 65
theorem rMid.sz {r : Rt} (h : rMid r) : rSz r := by
 obtain ⟨⟨h1, h2⟩, ⟨h3, h4⟩, h5⟩ := h
 refine ⟨⟨by omega, fun q hq => by have := h2 q hq; omega⟩, ⟨by omega, fun k hk => ?_⟩, by omega⟩
 obtain ⟨k1, k2, k3⟩ := h4 k hk
 exact ⟨by omega, by omega, fun w hw => by have := k3 w hw; omega⟩
end Go.Pl
