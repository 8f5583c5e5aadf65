/- The lines of a root document, and its encoded form (11.2), in plain Lean. By an AI agent. -/
import Derived.Test.YtlldglbooaefhaaGreatDoorHzU1
import Derived.Test.YtlldglbooaefhaaGreatDoorHzSb
import Derived.Test.YtlldglbooaefhaaGreatDoorHlIt
import Derived.Test.YtlldglbooaefhaaGreatDoorPl02e
import Derived.Lib.ItoaLen
import Derived.Test.YtlldglbooaefhaaGreatDoorHlTlaw
import Derived.Sort.Grow
import Derived.Sort.EncStr
set_option linter.unusedSimpArgs false
set_option linter.unusedVariables false
set_option linter.defProp false
namespace Go.Proofs.YtlldglbooaefhaaGreatDoor
open Go Go.Hl Go.Pl
set_option maxRecDepth 10000
set_option maxHeartbeats 16000000

theorem aJ7 (l : List aG) (hl : l.length < 2 ^ 40) : bT Tryz.prog 79 [.slc (l.map .str)] (fun v => v = .int .i64 (lJ l)) := by
 refine FW Tryz.func79 ?_
 refine R0 ?_
 refine aB fun K hK => ?_
 refine aK ?_
 refine aB fun K hK => Rg ?_
 iterate 4 refine S0 ?_
 refine T2 (hK _ _ _ ?_)
 clear hK K
 refine aH (b := (l.length : Int) == 0) rfl (fun hb => ?_) (fun hb => ?_)
 ·
  refine R0 ?_
  refine aE (RT Tryz.results79 ?_)
  exact aF [] (.int .i64 1) rfl (by rw [lJ, if_pos (by simp at hb; simp [hb])])
 have hn0 : l.length ≠ 0 := by simp at hb; simp [hb]
 clear hb
 refine aB fun K hK => Rg ?_
 iterate 4 refine S0 ?_
 refine T2 (hK _ _ _ ?_)
 clear hK K
 refine aH (b := decide ((120 : Int) < l.length)) rfl (fun hb => ?_) (fun hb => ?_)
 ·
  refine R0 ?_
  refine aE (RT Tryz.results79 ?_)
  exact aF [] (.int .i64 3) rfl (by rw [lJ, if_neg hn0, if_pos (by simp at hb; omega)])
 refine aJ ?_
 refine T0 (hK _ _ _ ?_)
 clear hK K
 refine aB fun K hK => ?_
 have hn1 : l.length ≤ 120 := by simp at hb; omega
 clear hb
 refine R0 ?_
 refine aK ?_
 refine bE (α := {i : Nat // i ≤ l.length ∧ ∀ x ∈ l.take i, decide (32768 < x.length) = false}) (fun i => (fin [(13, .c (.slc (l.map .str))), (14, .c (.int .i64 l.length)), (15, .c (.int .i64 i.1))], fob [])) 100 (fun i => l.length - i.1) ⟨0, by omega, by simp⟩ (fF) ?_
 rintro ⟨i, hi, h0⟩
 refine R0 ?_
 refine aB fun K hK => ?_
 refine aH (b := decide ((i : Int) < l.length)) rfl (fun hb => ?_) (fun hb => ?_)
 ·
  have hlt : i < l.length := by simpa using hb
  clear hb
  refine aJ ?_
  refine T0 (hK _ _ _ ?_)
  clear hK K
  refine aB fun K hK => ?_
  refine aK ?_
  have F := aI @Int.natCast_nonneg (aI @Int.ofNat_lt (aI hlt (nM hlt)))
  refine RF ?_
  refine R0 ?_
  refine aH (b := decide ((32768 : Int) < l[i].length)) rfl (fun hb => ?_) (fun hb => ?_)
  ·
   refine R0 ?_
   refine aE (RT Tryz.results79 ?_)
   exact aF [] (.int .i64 3) rfl (by rw [lJ, if_neg hn0, if_neg (by omega), if_pos]; simp only [List.any_eq_true, decide_eq_true_eq]; exact ⟨_, List.getElem_mem hlt, by simp at hb; omega⟩)
  refine aJ ?_
  refine T0 (hK _ _ _ ?_)
  clear hK K
  refine aL (by kernel_rfl) ?_
  refine TQ (iQ i) ?_
  have hb2 : decide (32768 < l[i].length) = false := by simp at hb ⊢; omega
  refine ⟨⟨i + 1, hlt, bA0 (p := fun x => decide (32768 < x.length)) hlt hb2 h0⟩, fF, ?_⟩
  show l.length - (i + 1) < l.length - i
  omega
 refine aX (T3 ?_)
 clear hK K
 refine AX (hK _ _ _ ?_)
 clear hK K
 refine R0 ?_
 refine aE (RT Tryz.results79 ?_)
 have hei : i = l.length := by simp at hb; omega
 subst hei
 rw [List.take_length] at h0
 exact aF [] (.int .i64 0) rfl (by rw [lJ, if_neg hn0, if_neg (by omega), if_neg]; simp only [List.any_eq_true, not_exists, not_and]; intro x hx; simp [h0 x hx])


theorem bY4 (ls : List (List aG)) (h0 : ls.length < 2 ^ 40) (h1 : ∀ l ∈ ls, l.length < 2 ^ 40) : gD Tryz.prog 53 [.slc (ls.map fun l => .slc (l.map .str))] (fun u v => u = .slc ((mR ls).map cV) ∧ v = .int .i64 (jM ls)) := by
 refine FW Tryz.func53 ?_
 refine R0 ?_
 refine aB fun K hK => ?_
 refine R0 ?_
 refine aH (b := decide ((1000 : Int) < ls.length)) rfl (fun hb => ?_) (fun hb => ?_)
 ·
  refine R0 ?_
  refine aE (RT Tryz.results53 ?_)
  have hE := yG (ls := ls) (by simp at hb; omega)
  refine aT [] (.slc []) (.int .i64 3) ?_ ⟨by rw [gW (by rw [hE]; decide)]; rfl, by rw [hE]⟩
  simp [HV.close, HV.closeL, CV.denil, CV.denilL, HV.norm, HV.toC, HV.toCL]
 refine aJ ?_
 refine T0 (hK _ _ _ ?_)
 clear hK K
 refine aB fun K hK => ?_
 have hn : ls.length ≤ 1000 := by simp at hb; omega
 clear hb
 refine R0 ?_
 refine aK ?_
 refine bE (α := {i : Nat // i ≤ ls.length ∧ ∀ x ∈ ls.take i, okL x = true}) (fun i => (fin [(0, .c (.slc (ls.map fun l => .slc (l.map .str)))), (20, .c (.slc (ls.map fun l => .slc (l.map .str)))), (21, .c (.int .i64 ls.length)), (22, .c (.int .i64 i.1))], fob [])) 100 (fun i => ls.length - i.1) ⟨0, by omega, by simp⟩ (fF) ?_
 rintro ⟨i, hi, hk⟩
 refine R0 ?_
 refine aB fun K hK => ?_
 refine aH (b := decide ((i : Int) < ls.length)) rfl (fun hb => ?_) (fun hb => ?_)
 ·
  have hlt : i < ls.length := by simpa using hb
  clear hb
  have hl1 := h1 ls[i] (List.getElem_mem hlt)
  refine aJ ?_
  refine T0 (hK _ _ _ ?_)
  clear hK K
  refine aB fun K hK => ?_
  refine aK ?_
  have F := aI @Int.natCast_nonneg (aI @Int.ofNat_lt (aI hlt (nM hlt)))
  refine RF ?_
  refine aB fun K hK => Rg ?_
  refine S0 ?_
  refine HS rfl rfl fun K' hK' => T5 ?_
  refine C1 (aJ7 ls[i] hl1) ?_
  rintro u rfl
  refine AX (hK' _ _ ?_)
  clear hK' K'
  refine S0 ?_
  refine T2 (hK _ _ _ ?_)
  clear hK K
  refine R0 ?_
  refine aH (b := lJ ls[i] != 0) rfl (fun hb => ?_) (fun hb => ?_)
  ·
   refine R0 ?_
   refine aE (RT Tryz.results53 ?_)
   have hE := pX hn hlt hk (by simpa [okL] using hb)
   refine aT [] (.slc []) (.int .i64 (lJ ls[i])) ?_ ⟨by rw [gW (by rw [hE]; simpa using hb)]; rfl, by rw [hE]⟩
   simp [HV.close, HV.closeL, CV.denil, CV.denilL, HV.norm, HV.toC, HV.toCL]
  refine aJ ?_
  refine T0 (hK _ _ _ ?_)
  clear hK K
  refine aL (by kernel_rfl) ?_
  refine TQ (iQ i) ?_
  refine ⟨⟨i + 1, hlt, ?_⟩, fF, ?_⟩
  ·
   intro x hx
   rw [List.take_succ_eq_append_getElem hlt, List.mem_append, List.mem_singleton] at hx
   rcases hx with hx | rfl
   ·
    exact hk x hx
   simpa [okL] using hb
  show ls.length - (i + 1) < ls.length - i
  omega
 have hei : i = ls.length := by simp at hb; omega
 subst hei
 clear hb
 rw [List.take_length] at hk
 have hne : ∀ l ∈ ls, l ≠ [] := fun l hl => ((jT l).1 (hk l hl)).1
 have hsd := aT9 hk
 have hdl := pV hne
 have hE := aB4 hn hk
 have hst : ∀ j, sumD (ls.take j) ≤ sumD ls := fun j => aB3 ls j
 have hdt : ∀ j, (eT (ls.take j)).length ≤ sumD ls := fun j => by rw [pV fun l hl => hne l (List.mem_of_mem_take hl)]; exact hst j
 refine aX (T3 ?_)
 clear hK K
 refine AX (hK _ _ _ ?_)
 clear hK K
 refine R0 ?_
 refine aB fun K hK => ?_
 refine R0 ?_
 refine aK ?_
 refine bE (α := {i : Nat // i ≤ ls.length}) (fun i => (fin [(0, .c (.slc (ls.map fun l => .slc (l.map .str)))), (7, .c (.int .i64 (sumD (ls.take i.1) : Nat))), (32, .c (.slc (ls.map fun l => .slc (l.map .str)))), (33, .c (.int .i64 ls.length)), (34, .c (.int .i64 i.1))], fob [])) 200 (fun i => ls.length - i.1) ⟨0, by omega⟩ (fF) ?_
 rintro ⟨i, hi⟩
 refine R0 ?_
 refine aB fun K hK => ?_
 refine aH (b := decide ((i : Int) < ls.length)) rfl (fun hb => ?_) (fun hb => ?_)
 ·
  have hlt : i < ls.length := by simpa using hb
  clear hb
  have hst1 := aZ2 hlt
  have hst2 := hst (i + 1)
  obtain ⟨l, hl⟩ : ∃ l, l = ls[i] := ⟨_, rfl⟩
  obtain ⟨hl0, hl1, hl2⟩ := (jT l).1 (hk l (by rw [hl]; exact List.getElem_mem hlt))
  have hln : nth (ls.map fun l => CV.slc (l.map .str)) i = .slc (l.map .str) := by rw [bN hlt, hl]
  rw [← hl] at hst1
  refine aJ ?_
  refine T0 (hK _ _ _ ?_)
  clear hK K
  refine aB fun K hK => ?_
  refine aK ?_
  have F := aI @Int.natCast_nonneg (aI @Int.ofNat_lt (aI hlt hln))
  refine RF ?_
  refine R0 ?_
  refine aK ?_
  refine bE (α := {i : Nat // i ≤ l.length}) (fun k => (fin [(0, .c (.slc (ls.map fun l => .slc (l.map .str)))), (7, .c (.int .i64 (sumD (ls.take i) + gV (l.take k.1) : Nat))), (32, .c (.slc (ls.map fun l => .slc (l.map .str)))), (33, .c (.int .i64 ls.length)), (34, .c (.int .i64 i)), (38, .c (.slc (l.map .str))), (39, .c (.int .i64 l.length)), (40, .c (.int .i64 k.1))], fob [])) 300 (fun k => l.length - k.1) ⟨0, by omega⟩ (fF) ?_
  rintro ⟨k, hk'⟩
  refine R0 ?_
  refine aB fun K hK => ?_
  refine aH (b := decide ((k : Int) < l.length)) rfl (fun hb => ?_) (fun hb => ?_)
  ·
   have hlk : k < l.length := by simpa using hb
   clear hb
   have hlt1 := aZ1 hlk
   have hlt2 := pW l (k + 1)
   have hw2 := hl2 l[k] (List.getElem_mem hlk)
   refine aJ ?_
   refine T0 (hK _ _ _ ?_)
   clear hK K
   refine aB fun K hK => ?_
   refine aK ?_
   have F := aI @Int.natCast_nonneg (aI @Int.ofNat_lt (aI hlk (nM hlk)))
   refine RF ?_
   refine Rg ?_
   have F := aI (IntWalk.i64_in _ (show -9223372036854775808 ≤ ((sizeW l[k] : Nat) : Int) + 1 ∧ ((sizeW l[k] : Nat) : Int) + 1 ≤ 9223372036854775807 by omega)) (IntWalk.i64_in _ (show -9223372036854775808 ≤ ((sumD (ls.take i) + gV (l.take k) : Nat) : Int) + (((sizeW l[k] : Nat) : Int) + 1) ∧ ((sumD (ls.take i) + gV (l.take k) : Nat) : Int) + (((sizeW l[k] : Nat) : Int) + 1) ≤ 9223372036854775807 by omega))
   iterate 2 refine SF ?_
   refine HS rfl rfl fun K' hK' => T6 ?_
   refine C1 (aU9 l[k] (by omega)) ?_
   rintro u rfl
   refine AX (hK' _ _ ?_)
   clear hK' K'
   iterate 3 refine SF ?_
   refine T2 (hK _ _ _ ?_)
   clear hK K
   refine aL (by kernel_rfl) ?_
   refine TQ (iQ k) ?_
   have he : ((sumD (ls.take i) + gV (l.take k) : Nat) : Int) + (((sizeW l[k] : Nat) : Int) + 1) = ((sumD (ls.take i) + gV (l.take (k + 1)) : Nat) : Int) := by omega
   simp only [he]
   refine ⟨⟨k + 1, hlk⟩, fF, ?_⟩
   show l.length - (k + 1) < l.length - k
   omega
  have hek : k = l.length := by simp at hb; omega
  subst hek
  clear hb
  refine aX (T3 ?_)
  clear hK K
  refine AX (hK _ _ _ ?_)
  clear hK K
  refine aL (by kernel_rfl) ?_
  refine TQ (iQ i) ?_
  have he : ((sumD (ls.take i) + gV (l.take l.length) : Nat) : Int) = ((sumD (ls.take (i + 1)) : Nat) : Int) := by rw [List.take_length]; omega
  simp only [he]
  refine ⟨⟨i + 1, hlt⟩, fF, ?_⟩
  show ls.length - (i + 1) < ls.length - i
  omega
 have hei : i = ls.length := by simp at hb; omega
 subst hei
 clear hb
 refine aX (T3 ?_)
 clear hK K
 refine AX (hK _ _ _ ?_)
 clear hK K
 refine aB fun K hK => ?_
 have F := @List.take_length.{0}
 refine RF ?_
 refine aH (b := decide ((262144 : Int) < (sumD ls : Nat))) rfl (fun hb => ?_) (fun hb => ?_)
 ·
  refine R0 ?_
  refine aE (RT Tryz.results53 ?_)
  rw [if_pos (by rw [hdl]; simp at hb; omega)] at hE
  refine aT [] (.slc []) (.int .i64 3) ?_ ⟨by rw [gW (by rw [hE]; decide)]; rfl, by rw [hE]⟩
  simp [HV.close, HV.closeL, CV.denil, CV.denilL, HV.norm, HV.toC, HV.toCL]
 refine aJ ?_
 refine T0 (hK _ _ _ ?_)
 clear hK K
 have hle : sumD ls ≤ 262144 := by simp at hb; omega
 have hz : ((sumD ls : Nat) : Int) ≤ 140737488355328 := by omega
 clear hb
 rw [if_neg (by rw [hdl]; omega)] at hE
 have hO := tV hE
 have F := aI @Int.natCast_nonneg (aI hz (aI @Int.mul_one @List.take_length.{0}))
 refine RF ?_
 refine aB fun K hK => ?_
 refine R0 ?_
 refine aK ?_
 refine bE (α := {i : Nat // i ≤ ls.length}) (fun i => (fin [(12, .own 216 (eT (ls.take i.1)).length), (55, .c (.slc (ls.map fun l => .slc (l.map .str)))), (56, .c (.int .i64 ls.length)), (57, .c (.int .i64 i.1))], fob [(216, .row 5 1 ((eT (ls.take i.1)).map cV))])) 400 (fun i => ls.length - i.1) ⟨0, by omega⟩ (fF) ?_
 rintro ⟨i, hi⟩
 refine R0 ?_
 refine aB fun K hK => ?_
 refine aH (b := decide ((i : Int) < ls.length)) rfl (fun hb => ?_) (fun hb => ?_)
 ·
  have hlt : i < ls.length := by simpa using hb
  clear hb
  have hdt1 := yF hlt
  have hdt0 := hdt i
  obtain ⟨l, hl⟩ : ∃ l, l = ls[i] := ⟨_, rfl⟩
  have hok := hk l (by rw [hl]; exact List.getElem_mem hlt)
  have hsl := aT8 hok
  obtain ⟨hl0, hl1, hl2⟩ := (jT l).1 hok
  have hln : nth (ls.map fun l => CV.slc (l.map .str)) i = .slc (l.map .str) := by rw [bN hlt, hl]
  rw [← hl] at hdt1
  refine aJ ?_
  refine T0 (hK _ _ _ ?_)
  clear hK K
  refine aB fun K hK => ?_
  refine aK ?_
  have F := aI @Int.natCast_nonneg (aI @Int.ofNat_lt (aI hlt hln))
  refine RF ?_
  refine aB fun K hK => ?_
  refine R0 ?_
  refine aK ?_
  refine bE (α := {i : Nat // i ≤ l.length}) (fun k => (fin [(12, .own 216 (eT (ls.take i) ++ fS (l.take k.1)).length), (55, .c (.slc (ls.map fun l => .slc (l.map .str)))), (56, .c (.int .i64 ls.length)), (57, .c (.int .i64 i)), (61, .c (.slc (l.map .str))), (62, .c (.int .i64 l.length)), (63, .c (.int .i64 k.1))], fob [(216, .row 5 1 ((eT (ls.take i) ++ fS (l.take k.1)).map cV))])) 500 (fun k => l.length - k.1) ⟨0, by omega⟩ (fF) ?_
  rintro ⟨k, hk'⟩
  have hsw := aT7 (l.take k)
  have hst2 := pW l k
  refine R0 ?_
  refine aB fun K hK => ?_
  refine aH (b := decide ((k : Int) < l.length)) rfl (fun hb => ?_) (fun hb => ?_)
  ·
   have hlk : k < l.length := by simpa using hb
   clear hb
   have hw2 := hl2 l[k] (List.getElem_mem hlk)
   have hel := pU l[k]
   have hsz := mQ l[k]
   have hsp := yD l[k]
   have hpe : 0 < (gJ l[k]).length := by omega
   have htk := yE hlk
   have hbe : (eT (ls.take i)).length + (fS (l.take k)).length + (gJ l[k]).length ≤ 140737488355328 := by omega
   have hbe1 : (eT (ls.take i)).length + (fS (l.take k)).length + 1 + (gJ l[k]).length ≤ 140737488355328 := by omega
   refine aJ ?_
   refine T0 (hK _ _ _ ?_)
   clear hK K
   refine aB fun K hK => ?_
   refine aK ?_
   refine aB fun K hK => Rg ?_
   have F := aI @Int.natCast_nonneg (aI @Int.ofNat_lt (aI hlk (nM hlk)))
   iterate 5 refine SF ?_
   refine T2 (hK _ _ _ ?_)
   clear hK K
   refine aB fun K hK => ?_
   refine R0 ?_
   refine aH (b := decide ((0 : Int) < k)) rfl (fun hb => ?_) (fun hb => ?_)
   ·
    refine Rg ?_
    have F := aI @List.length_append.{0} @List.length_map.{0,0}
    iterate 4 refine SF ?_
    refine T2 (hK _ _ _ ?_)
    clear hK K
    refine Rg ?_
    have F := aI @List.length_append.{0} (aI @List.length_map.{0,0} (aI hpe (aI hbe hbe1)))
    iterate 2 refine SF ?_
    refine HS rfl rfl fun K' hK' => T6 ?_
    refine C1 (aV0 l[k] (by omega)) ?_
    rintro u rfl
    refine AX (hK' _ _ ?_)
    clear hK' K'
    iterate 2 refine SF ?_
    refine T2 (hK _ _ _ ?_)
    clear hK K
    refine aL (by kernel_rfl) ?_
    refine TQ (iQ k) ?_
    have hk0 : k ≠ 0 := by simp at hb; omega
    refine ⟨⟨k + 1, hlk⟩, aM (by omega) ?_ ?_, ?_⟩
    ·
     rw [htk, if_neg hk0]
     simp [aY, upd_at, fin_at, HV.men]
     omega
    ·
     rw [htk, if_neg hk0]
     simp only [List.map_append, ← List.append_assoc]
     exact ⟨rfl, by omega, trivial, trivial⟩
    show l.length - (k + 1) < l.length - k
    omega
   refine aJ ?_
   refine T0 (hK _ _ _ ?_)
   clear hK K
   refine Rg ?_
   have F := aI @List.length_append.{0} (aI @List.length_map.{0,0} (aI hpe (aI hbe hbe1)))
   iterate 2 refine SF ?_
   refine HS rfl rfl fun K' hK' => T6 ?_
   refine C1 (aV0 l[k] (by omega)) ?_
   rintro u rfl
   refine AX (hK' _ _ ?_)
   clear hK' K'
   iterate 2 refine SF ?_
   refine T2 (hK _ _ _ ?_)
   clear hK K
   refine aL (by kernel_rfl) ?_
   refine TQ (iQ k) ?_
   have hk0 : k = 0 := by simp at hb; omega
   refine ⟨⟨k + 1, hlk⟩, aM (by omega) ?_ ?_, ?_⟩
   ·
    rw [htk, if_pos hk0]
    simp [aY, upd_at, fin_at, HV.men]
    omega
   ·
    rw [htk, if_pos hk0, List.nil_append]
    simp only [List.map_append, ← List.append_assoc]
    exact ⟨rfl, by omega, trivial, trivial⟩
   show l.length - (k + 1) < l.length - k
   omega
  have hek : k = l.length := by simp at hb; omega
  subst hek
  clear hb
  rw [List.take_length] at *
  refine aX (T3 ?_)
  clear hK K
  refine AX (hK _ _ _ ?_)
  clear hK K
  refine Rg ?_
  have F := aI @List.length_append.{0} @List.length_map.{0,0}
  iterate 4 refine SF ?_
  refine T2 (hK _ _ _ ?_)
  clear hK K
  refine aL (by kernel_rfl) ?_
  refine TQ (iQ i) ?_
  refine ⟨⟨i + 1, hlt⟩, aM (by omega) ?_ ?_, ?_⟩
  ·
   rw [hdt1, xB]
   simp [aY, upd_at, fin_at, HV.men]
   omega
  ·
   rw [hdt1, xB]
   simp only [List.map_append, ← List.append_assoc]
   exact ⟨rfl, by omega, trivial, trivial⟩
  show ls.length - (i + 1) < ls.length - i
  omega
 refine aX (T3 ?_)
 clear hK K
 refine AX (hK _ _ _ ?_)
 clear hK K
 refine R0 ?_
 refine aE (RT Tryz.results53 ?_)
 have hei : i = ls.length := by simp at hb; omega
 subst hei
 refine aT [216] (.slc ((eT ls).map cV)) (.int .i64 0) ?_ ⟨by rw [hO], by rw [hE]⟩
 rw [List.take_length]
 simp [HV.close, fob_at, upd_at, HV.norm, HV.toC, HV.closeL, HV.toCL, List.take_of_length_le, CV.denil, cO]

end Go.Proofs.YtlldglbooaefhaaGreatDoor

namespace Go.Proofs.YtlldglbooaefhaaGreatDoor
open Go Go.Hl Go.Pl
set_option maxRecDepth 10000
set_option maxHeartbeats 16000000

theorem bR1 (v : CV) : nth [v] 0 = v := rfl
theorem vR (c : UInt8) : (u8 c).denil = u8 c := rfl
theorem denilL_u8 : ∀ bs : List UInt8, CV.denilL (bs.map u8) = bs.map u8
 | [] => rfl
 | b :: bs => by simp only [List.map_cons, CV.denilL, denilL_u8 bs]; rfl
theorem bR2 (l : List UInt8) (c : UInt8) : bT Tryz.prog 142 [.slc (l.map u8), u8 c] (fun v => v = .int .i64 (dG l c)) :=
 bY2 (f := 142) (fn := Tryz.f142) Tryz.func142 (by kernel_rfl) (by kernel_rfl) (by kernel_rfl) (by kernel_rfl) l c
theorem bI1 (l : List UInt8) (c : UInt8) : bT Tryz.prog 141 [.str l, u8 c] (fun v => v = .int .i64 (dG l c)) :=
 bQ5 (f := 141) (fn := Tryz.f141) Tryz.func141 (by kernel_rfl) (by kernel_rfl) (by kernel_rfl) (by kernel_rfl) l c

theorem bY5 (l : List UInt8) (c : UInt8) : bT Tryz.prog 122 [.slc (l.map u8), u8 c] (fun v => v = .int .i64 (dG l c)) := by
 refine FW Tryz.func122 ?_
 have F := rI
 refine RF ?_
 refine aB fun K hK => Rg ?_
 have F := aI rI (aI @denilL_u8 @vR)
 iterate 2 refine SF ?_
 refine HS rfl rfl fun K' hK' => T6 ?_
 refine C2 (bR2 l c) ?_
 rintro u rfl
 refine AX (hK' _ _ ?_)
 clear hK' K'
 refine SF ?_
 simp only [sE, ↓reduceIte, simprocAttr, rI]
 refine AX (hK _ _ _ ?_)
 clear hK K
 refine aE ?_
 simp only [gB, Tryz.results122, fI, gA, eP, ↓sP, sA, tyS, simprocAttr, rI]
 exact aF [] (.int .i64 (dG l c)) rfl rfl


theorem bI2 (l : List UInt8) (c : UInt8) : bT Tryz.prog 121 [.str l, u8 c] (fun v => v = .int .i64 (dG l c)) := by
 refine FW Tryz.func121 ?_
 have F := rI
 refine RF ?_
 refine aB fun K hK => Rg ?_
 have F := aI rI (aI @denilL_u8 @vR)
 iterate 2 refine SF ?_
 refine HS rfl rfl fun K' hK' => T6 ?_
 refine C2 (bI1 l c) ?_
 rintro u rfl
 refine AX (hK' _ _ ?_)
 clear hK' K'
 refine SF ?_
 simp only [sE, ↓reduceIte, simprocAttr, rI]
 refine AX (hK _ _ _ ?_)
 clear hK K
 refine aE ?_
 simp only [gB, Tryz.results121, fI, gA, eP, ↓sP, sA, tyS, simprocAttr, rI]
 exact aF [] (.int .i64 (dG l c)) rfl rfl


theorem qF (l : List UInt8) (c : UInt8) : bT Tryz.prog 104 [.str l, u8 c] (fun v => v = .int .i64 (dG l c)) := by
 refine FW Tryz.func104 ?_
 have F := rI
 refine RF ?_
 refine aB fun K hK => Rg ?_
 have F := aI rI (aI @denilL_u8 @vR)
 iterate 2 refine SF ?_
 refine HS rfl rfl fun K' hK' => T6 ?_
 refine C2 (bI2 l c) ?_
 rintro u rfl
 refine AX (hK' _ _ ?_)
 clear hK' K'
 refine SF ?_
 simp only [sE, ↓reduceIte, simprocAttr, rI]
 refine AX (hK _ _ _ ?_)
 clear hK K
 refine aE ?_
 simp only [gB, Tryz.results104, fI, gA, eP, ↓sP, sA, tyS, simprocAttr, rI]
 exact aF [] (.int .i64 (dG l c)) rfl rfl


theorem yT (l : List UInt8) (c : UInt8) : bT Tryz.prog 105 [.slc (l.map u8), .slc [u8 c]] (fun v => v = .int .i64 (dG l c)) := by
 refine FW Tryz.func105 ?_
 have F := rI
 refine RF ?_
 refine RF ?_
 refine aB fun K hK => ?_
 refine aK ?_
 refine RF ?_
 refine aH (b := (1 : Int) == 0) rfl (fun hb => ?_) (fun hb => ?_)
 ·
  exact absurd hb (by decide)
 refine RF ?_
 refine aH (b := (1 : Int) == 1) rfl (fun hb => ?_) (fun hb => ?_)
 ·
  refine aB fun K hK => Rg ?_
  have F := aI rI (aI @u8.eq_1 (aI @bR1 @denilL_u8))
  iterate 4 refine SF ?_
  refine HS rfl rfl fun K' hK' => T6 ?_
  refine C2 (bY5 l c) ?_
  rintro u rfl
  refine AX (hK' _ _ ?_)
  clear hK' K'
  refine SF ?_
  simp only [sE, ↓reduceIte, simprocAttr, rI]
  refine AX (hK _ _ _ ?_)
  clear hK K
  refine aE ?_
  simp only [gB, Tryz.results105, fI, gA, eP, ↓sP, sA, tyS, simprocAttr, rI]
  exact aF [] (.int .i64 (dG l c)) rfl rfl
 exact absurd hb (by decide)


theorem bR3 (l : List UInt8) (c : UInt8) (hl : l.length < 2 ^ 40) : aB7 Tryz.prog 85 [.slc (l.map u8), .slc [u8 c]] (fun x y f => ∃ (li re : List UInt8) (fd : Bool), x = .slc (li.map u8) ∧ y = .slc (re.map u8) ∧ f = .bool fd ∧ CutR l c li re fd) := by
 refine FW Tryz.func85 ?_
 have F := rI
 refine RF ?_
 refine aB fun K hK => ?_
 refine aB fun K hK => Rg ?_
 have F := aI rI @denilL_u8
 iterate 2 refine SF ?_
 refine HS rfl rfl fun K' hK' => T6 ?_
 refine C2 (yT l c) ?_
 rintro u rfl
 refine AX (hK' _ _ ?_)
 clear hK' K'
 refine SF ?_
 simp only [sE, ↓reduceIte, simprocAttr, rI]
 refine AX (hK _ _ _ ?_)
 clear hK K
 have F := rI
 refine RF ?_
 refine aH (b := decide ((0 : Int) ≤ dG l c)) rfl (fun hb => ?_) (fun hb => ?_)
 ·
  have hn : ¬ dG l c < 0 := by simp at hb; omega
  obtain ⟨i, hi, hil, hsp⟩ := dS hn
  have hi' := hi
  rw [hi]
  refine aB fun K hK => QR ?_
  have F := aI rI (aI @Int.natCast_nonneg (aI @Int.ofNat_le (aI @Int.sub_zero (aI @Nat.sub_zero (aI @List.drop_zero.{0} (aI @mO (aI @denilL_u8 (aI @List.length_map.{0,0} (show IntKind.i64.wrap ((i : Int) + 1) = ((i + 1 : Nat) : Int) from by rw [IntWalk.i64_in _ (by omega)]; rfl)))))))))
  iterate 12 refine SF ?_
  simp only [sE, ↓reduceIte, simprocAttr, rI]
  refine AX (hK _ _ _ ?_)
  clear hK K
  refine aE ?_
  simp only [gB, Tryz.results85, fI, gA, eP, ↓sP, sA, tyS, simprocAttr, rI]
  refine jC [] (.slc ((l.take i).map u8)) (.slc ((l.drop (i + 1)).map u8)) (.bool true) ?_ ⟨_, _, _, rfl, rfl, rfl, .inr ⟨rfl, i, hi, hil, rfl, rfl⟩⟩
  simp [HV.close, HV.closeL, HV.norm, HV.toC, HV.toCL, CV.denil, denilL_u8]
  exact ⟨by rw [← List.map_take, denilL_u8], by rw [← List.map_drop, ← List.map_take, denilL_u8, List.take_of_length_le (by simp)]⟩
 have hn : dG l c < 0 := by simp at hb; omega
 refine aJ ?_
 refine TQ rI ?_
 refine AX (hK _ _ _ ?_)
 clear hK K
 refine aB fun K hK => Rg ?_
 iterate 4 refine SF ?_
 simp only [sE, ↓reduceIte, simprocAttr, rI]
 refine AX (hK _ _ _ ?_)
 clear hK K
 refine aE ?_
 simp only [gB, Tryz.results85, fI, gA, eP, ↓sP, sA, tyS, simprocAttr, rI]
 refine jC [] (.slc (l.map u8)) (.slc []) (.bool false) ?_ ⟨l, [], false, rfl, rfl, rfl, .inl ⟨rfl, hn, rfl, rfl⟩⟩
 simp [HV.close, HV.closeL, HV.norm, HV.toC, HV.toCL, CV.denil, denilL_u8]


theorem bR4 (l : List UInt8) (c : UInt8) : aU7 Tryz.prog 106 126 [.slc (l.map u8), .slc [u8 c], .int .i64 0] [(47, .slc [u8 c]), (47, .slc (l.map u8)), (3, .int .i64 0)] := by
 refine FW Tryz.func106 ?_
 refine aB fun K hK => Rg ?_
 have F := rI
 iterate 4 refine SF ?_
 simp only [sE, ↓reduceIte, simprocAttr, rI]
 refine AX (hK _ _ _ ?_)
 clear hK K
 refine RF ?_
 refine aE ?_
 simp only [gB, Tryz.results106, fI, gA, eP, ↓sP, sA, tyS, simprocAttr, rI]
 refine rU (gf := 126) (bs := [(47, .slc [u8 c]), (47, .slc (l.map u8)), (3, .int .i64 0)]) (ids := [4, 0, 8]) rfl (by simp) (by decide) ?_ ?_
 ·
  intro j x hx
  match j, hx with
  | 0, hx => cases hx; rfl
  | 1, hx => cases hx; rfl
  | 2, hx => cases hx; rfl
 intro x hx
 simp only [List.mem_cons, List.not_mem_nil, or_false] at hx
 rcases hx with rfl | rfl | rfl
 ·
  rfl
 ·
  exact congrArg CV.slc (denilL_u8 l)
 rfl


theorem bA5 (l : List UInt8) (c : UInt8) : aU7 Tryz.prog 86 126 [.slc (l.map u8), .slc [u8 c]] [(47, .slc [u8 c]), (47, .slc (l.map u8)), (3, .int .i64 0)] := by
 refine FW Tryz.func86 ?_
 have F := rI
 refine RF ?_
 refine aB fun K hK => Rg ?_
 iterate 2 refine S0 ?_ (e := fun _ h_ => by simp only [sH, ↓sP, sA, tyS, simprocAttr, rI, denilL_u8, lU, gF, List.range', List.map_cons, List.map_nil]; exact AX h_)
 refine HS rfl rfl fun K' hK' => ?_
 simp only [sH, ↓sP, sA, tyS, simprocAttr, rI, denilL_u8, lU, gF, List.range', List.map_cons, List.map_nil]
 refine rT (args := [_, _, _]) (bR4 l c) (by simp) ⟨rfl, rfl, rfl, rfl⟩ ?_
 refine AX (hK' _ _ ?_)
 clear hK' K'
 refine S0 ?_ (e := fun _ h_ => by simp only [sH, ↓sP, sA, tyS, simprocAttr, rI, denilL_u8, lU, gF, List.range', List.map_cons, List.map_nil]; exact AX h_)
 simp only [sE, ↓reduceIte, simprocAttr, rI]
 refine AX (hK _ _ _ ?_)
 clear hK K
 refine aE ?_
 simp only [gB, Tryz.results86, fI, gA, eP, ↓sP, sA, tyS, simprocAttr, rI]
 refine rU (gf := 126) (bs := [(47, .slc [u8 c]), (47, .slc (l.map u8)), (3, .int .i64 0)]) (ids := [12, 13, 14]) rfl (by simp) (by decide) ?_ ?_
 ·
  intro j x hx
  match j, hx with
  | 0, hx => cases hx; rfl
  | 1, hx => cases hx; rfl
  | 2, hx => cases hx; rfl
 intro x hx
 simp only [List.mem_cons, List.not_mem_nil, or_false] at hx
 rcases hx with rfl | rfl | rfl
 ·
  rfl
 ·
  exact congrArg CV.slc (denilL_u8 l)
 rfl

end Go.Proofs.YtlldglbooaefhaaGreatDoor

namespace Go.Pl
open Go Go.Hl

theorem aP8 {c : UInt8} {l : List UInt8} (h : (aQ c l).length = 1) : aQ c l = [l] := by
 by_cases hn : dG l c < 0
 all_goals grind [mS, dS, List.length_pos_iff, cT, List.length_cons]

def SplSt (l : aG) (c : UInt8) (i : Nat) (rest : aG) (a : List aG) : Prop :=
 a.length = (aQ c l).length ∧ a.take i = (aQ c l).take i ∧ (aQ c l).drop i = aQ c rest ∧ i < (aQ c l).length ∧ rest.length ≤ l.length
section
variable {l rest : aG} {c : UInt8} {i k : Nat} {a : List aG}
theorem SplSt.init (l : aG) (c : UInt8) : SplSt l c 0 l (List.replicate (aQ c l).length []) :=
 ⟨by simp, by simp, rfl, List.length_pos_iff.2 (cT c l), Nat.le_refl _⟩
theorem SplSt.next (h : SplSt l c i rest a) (hk : dG rest c = (k : Int)) : k < rest.length ∧ SplSt l c (i + 1) (rest.drop (k + 1)) (a.set i (rest.take k)) := by
 obtain ⟨h1, h2, h3, h4, h5⟩ := h
 obtain ⟨k', e1, e2, e3⟩ := dS (l := rest) (c := c) (by omega)
 have : k' = k := by omega
 subst this
 rw [e3] at h3
 have h6 := List.drop_eq_getElem_cons h4
 rw [h6] at h3
 have h7 := List.head_eq_of_cons_eq h3
 have h8 := List.tail_eq_of_cons_eq h3
 refine ⟨e2, by grind, ?_, h8, ?_, by grind⟩
 ·
  rw [List.take_succ_eq_append_getElem (by grind), List.take_succ_eq_append_getElem h4, List.getElem_set_self, List.take_set_of_le (Nat.le_refl _), h2, h7]
 grind [Nat.lt_or_ge, aQ, List.drop_eq_nil_of_le, absurd, cT]
theorem SplSt.last (h : SplSt l c i rest a) (hk : dG rest c < 0) : i + 1 = (aQ c l).length := by
 obtain ⟨h1, h2, h3, h4, h5⟩ := h
 rw [mS hk] at h3
 have := congrArg List.length h3
 grind
theorem SplSt.fin (h : SplSt l c i rest a) (hi : i + 1 = (aQ c l).length) : a.set i rest = aQ c l := by
 obtain ⟨h1, h2, h3, h4, h5⟩ := h
 have h6 : (aQ c rest).length = 1 := by rw [← h3, List.length_drop]; omega
 rw [aP8 h6] at h3
 have e1 : a.set i rest = (a.set i rest).take (i + 1) := (List.take_of_length_le (by grind)).symm
 rw [e1, List.take_succ_eq_append_getElem (by grind), List.getElem_set_self, List.take_set_of_le (Nat.le_refl _), h2]
 grind [List.take_append_drop, aQ]
end

def nB (c : UInt8) : Bool := decide (48 ≤ c.toNat) && decide (c.toNat ≤ 57)
def dD : aG → Nat → Option Nat
 | [], n => some n
 | c :: l, n => if nB c then dD l (10 * n + (c.toNat - 48)) else none
def gG (s : aG) : Bool := decide (s.length < 1) || decide (13 < s.length) || (decide (1 < s.length) && s.getD 0 0 == 48)
def bG (s : aG) : Option Int := if gG s then none else match dD s 0 with | some n => if 1099511627776 < n then none else some (n : Int) | none => none
def DgSt (s : aG) (i n : Nat) : Prop := i ≤ s.length ∧ dD s 0 = dD (s.drop i) n ∧ n < 10 ^ i
theorem DgSt.init (s : aG) : DgSt s 0 0 := ⟨Nat.zero_le _, rfl, by omega⟩
theorem DgSt.next {s : aG} {i n : Nat} (h : DgSt s i n) (hi : i < s.length) (hd : nB s[i] = true) : DgSt s (i + 1) (10 * n + (s[i].toNat - 48)) := by
 obtain ⟨h1, h2, h3⟩ := h
 refine ⟨hi, ?_, ?_⟩
 ·
  rw [h2, List.drop_eq_getElem_cons hi, dD, if_pos hd]
 ·
  simp only [nB, Bool.and_eq_true, decide_eq_true_eq] at hd
  grind
theorem DgSt.bad {s : aG} {i n : Nat} (h : DgSt s i n) (hi : i < s.length) (hd : nB s[i] = false) : dD s 0 = none := by
 rw [h.2.1, List.drop_eq_getElem_cons hi, dD, if_neg (by grind)]
theorem DgSt.fin {s : aG} {i n : Nat} (h : DgSt s i n) (hi : i = s.length) : dD s 0 = some n := by
 rw [h.2.1, hi, List.drop_length]; rfl
theorem DgSt.lt {s : aG} {i n : Nat} (h : DgSt s i n) (hs : s.length ≤ 13) : n < 10000000000000 := by
 have : 10 ^ i ≤ 10 ^ 13 := Nat.pow_le_pow_right (by omega) (Nat.le_trans h.1 hs)
 have := h.2.2
 omega
theorem vS {s : aG} (h : gG s = true) : bG s = none := by unfold bG; grind
theorem yU {s : aG} (h : dD s 0 = none) : bG s = none := by grind [bG]
theorem bI3 {s : aG} {n : Nat} (h : dD s 0 = some n) (h1 : 1099511627776 < n) : bG s = none := by simp_all [bG, if_pos]
theorem aV1 {s : aG} {n : Nat} (h0 : gG s = false) (h : dD s 0 = some n) (h1 : ¬ 1099511627776 < n) : bG s = some (n : Int) := by simp_all [bG, if_neg]
theorem bI4 (c : UInt8) : nB c = (decide ((48 : Int) ≤ (c.toNat : Int)) && decide ((c.toNat : Int) ≤ 57)) := by
 unfold nB
 grind
theorem aP9 {s : aG} {n : Int} (h : bG s = some n) : 0 ≤ n ∧ n ≤ 1099511627776 := by grind [bG]
end Go.Pl

namespace Go.Proofs.YtlldglbooaefhaaGreatDoor
open Go Go.Hl Go.Pl
set_option maxRecDepth 10000
set_option maxHeartbeats 16000000

theorem aQ0 (l : List UInt8) (c : UInt8) : bT Tryz.prog 134 [.str l, .str [c]] (fun v => v = .int .i64 (dG l c)) := by
 refine FW Tryz.func134 ?_
 refine R0 ?_
 refine R0 ?_
 refine aB fun K hK => ?_
 refine aK ?_
 refine aB fun K hK => Rg ?_
 iterate 3 refine S0 ?_
 refine aD 18 rfl (fun h2_18 => ?_) (fun h2_18 => ?_)
 ·
  have F := h2_18
  iterate 5 refine SF ?_
  refine T2 (hK _ _ _ ?_)
  clear hK K
  refine CT rfl ?_
  refine R0 ?_
  refine aE (RT Tryz.results134 ?_)
  exact absurd h2_18 (by decide)
 have F := h2_18
 iterate 5 refine SF ?_
 refine aD 22 rfl (fun h2_22 => ?_) (fun h2_22 => ?_)
 ·
  simp only [h2_22]
  refine T2 (hK _ _ _ ?_)
  clear hK K
  refine CT rfl ?_
  refine R0 ?_
  refine aE (RT Tryz.results134 ?_)
  have hl : l = [c] := (eq_of_beq h2_22).symm
  subst hl
  exact aF [] (.int .i64 0) rfl (by simp [dG])
 simp only [h2_22]
 refine T2 (hK _ _ _ ?_)
 clear hK K
 refine CF rfl ?_
 refine R0 ?_
 refine aH (b := (1 : Int) == 1) rfl (fun hb => ?_) (fun hb => ?_)
 ·
  refine aB fun K hK => Rg ?_
  have F := aI @List.getD_cons_zero.{0} (aI h2_18 h2_22)
  iterate 3 refine SF ?_
  refine HS rfl rfl fun K' hK' => T6 ?_
  refine C2 (bI2 l c) ?_
  rintro u rfl
  refine AX (hK' _ _ ?_)
  clear hK' K'
  refine SF ?_
  refine T2 (hK _ _ _ ?_)
  clear hK K
  refine aE (RT Tryz.results134 ?_)
  exact aF [] (.int .i64 (dG l c)) rfl rfl
 exact absurd hb (by decide)


end Go.Proofs.YtlldglbooaefhaaGreatDoor

namespace Go.Pl
open Go Go.Hl

def tab (n : Nat) (f : Nat → Bool) : List Bool := (List.range n).map f
theorem lO (n : Nat) (f : Nat → Bool) : (tab n f).length = n := by simp [tab]
theorem qG {n : Nat} {f : Nat → Bool} {i : Nat} (h : i < n) : (tab n f)[i]'(by rw [lO]; exact h) = f i := by simp [tab]
theorem bA6 (n : Nat) : List.replicate n false = tab n (fun _ => false) := by
 refine List.ext_getElem (by simp [lO]) fun i h1 h2 => ?_
 grind [qG]
theorem bR5 {n : Nat} {f : Nat → Bool} {i : Nat} {b : Bool} : (tab n f).set i b = tab n (fun j => if j = i then b else f j) := by
 refine List.ext_getElem (by simp [lO]) fun j h1 h2 => ?_
 rw [lO] at h2
 rw [qG h2, List.getElem_set]
 by_cases e : i = j
 ·
  grind
 ·
  rw [if_neg e, if_neg fun h => e h.symm, qG h2]
theorem aV2 {n : Nat} {f g : Nat → Bool} (h : ∀ i, i < n → f i = g i) : tab n f = tab n g := by grind [List.ext_getElem, lO, qG]
def bC1 (b : Bool) : CV := .bool b
theorem bR6 {n : Nat} {f : Nat → Bool} {i : Nat} (h : i < n) : nth ((tab n f).map bC1) i = .bool (f i) := by
 rw [bN (by rw [lO]; exact h), qG h]; rfl

section
variable (ps : List Pt) (s : aG)
def prt (k : Nat) : Pt := ps.getD k ⟨0, 0⟩
theorem cD1 : mD ps s 0 0 = true := by rw [mD.eq_def]
theorem cD2 (i : Nat) : mD ps s 0 (i + 1) = false := by rw [mD.eq_def]
theorem cD3 (k : Nat) : mD ps s (k + 1) 0 = ((prt ps k).long && mD ps s k 0) := by rw [mD.eq_def]; rfl
theorem oO (k i : Nat) : mD ps s (k + 1) (i + 1) = if (prt ps k).long then mD ps s k (i + 1) || (mD ps s (k + 1) i && (prt ps k).takes (s.getD i 0)) else mD ps s k i && (prt ps k).takes (s.getD i 0) := by
 rw [mD.eq_def]; rfl

def nxt (k i j : Nat) : Bool := if j ≤ i then mD ps s (k + 1) j else false
theorem bI5 (k : Nat) (j : Nat) : (if j = 0 then (mD ps s k 0 && (prt ps k).long) else false) = nxt ps s k 0 j := by
 unfold nxt
 by_cases h : j = 0
 ·
  subst h; rw [if_pos rfl, if_pos (Nat.le_refl _), cD3, Bool.and_comm]
 ·
  rw [if_neg h, if_neg (by omega)]
theorem bI6 (k i : Nat) (j : Nat) : (if j = i + 1 then mD ps s (k + 1) (i + 1) else nxt ps s k i j) = nxt ps s k (i + 1) j := by
 unfold nxt
 grind
theorem bR7 (k : Nat) : tab (s.length + 1) (nxt ps s k s.length) = tab (s.length + 1) (mD ps s (k + 1)) :=
 aV2 fun i hi => by unfold nxt; grind
theorem bI7 : tab (s.length + 1) (fun j => if j = 0 then true else false) = tab (s.length + 1) (mD ps s 0) :=
 aV2 fun i _ => by
  cases i with
  | zero => rw [cD1]; rfl
  | succ i => rw [cD2]; rfl

end
end Go.Pl

namespace Go.Proofs.YtlldglbooaefhaaGreatDoor
open Go Go.Hl Go.Pl
set_option maxRecDepth 10000
set_option maxHeartbeats 16000000

theorem bA7 (c d : UInt8) : ((c.toNat : Int) == (d.toNat : Int)) = (c == d) := by
 by_cases h : c = d
 ·
  simp [h]
 have : ¬ (c.toNat : Int) = (d.toNat : Int) := fun e => h (UInt8.toNat_inj.1 (by omega))
 rw [beq_false_of_ne this, beq_false_of_ne h]
theorem cG5 (c d : UInt8) : ((c.toNat : Int) != (d.toNat : Int)) = !(c == d) := by
 show (!((c.toNat : Int) == (d.toNat : Int))) = _
 rw [bA7]

theorem eU (x : Pt) (hk : x.k ≤ 3) : bT Tryz.prog 98 [x.cv] (fun v => v = .bool x.long) := by
 refine FW Tryz.func98 ?_
 have F := aI @Pt.cells (aI @Pt.isAgg @Pt.getAll)
 refine RF ?_
 refine aB fun K hK => Rg ?_
 have F := @Pt.get_k
 iterate 4 refine SF ?_
 refine aD 5 rfl (fun h1_5 => ?_) (fun h1_5 => ?_)
 ·
  have F := aI @Pt.get_k h1_5
  iterate 5 refine SF ?_
  refine T2 (hK _ _ _ ?_)
  clear hK K
  refine aE (RT Tryz.results98 ?_)
  refine aF [] (.bool _) rfl ?_
  have hkk : x.k = 0 ∨ x.k = 1 ∨ x.k = 2 ∨ x.k = 3 := by omega
  rcases hkk with h | h | h | h <;> simp_all [Pt.long]
 have F := aI @Pt.get_k h1_5
 iterate 5 refine SF ?_
 refine T2 (hK _ _ _ ?_)
 clear hK K
 refine aE (RT Tryz.results98 ?_)
 refine aF [] (.bool _) rfl ?_
 have hkk : x.k = 0 ∨ x.k = 1 ∨ x.k = 2 ∨ x.k = 3 := by omega
 rcases hkk with h | h | h | h <;> simp_all [Pt.long]


theorem bR8 (c : UInt8) : bT Tryz.prog 115 [u8 c] (fun v => v = .bool true) := by
 refine FW Tryz.func115 ?_
 refine R0 ?_
 refine R0 ?_
 refine aE (RT Tryz.results115 ?_)
 exact aF [] (.bool true) rfl rfl


theorem aV3 (c : UInt8) : bT Tryz.prog 116 [u8 c] (fun v => v = .bool (!(c == 47))) := by
 refine FW Tryz.func116 ?_
 refine R0 ?_
 refine R0 ?_
 refine aE (RT Tryz.results116 ?_)
 exact aF [] (.bool (!(c == 47))) (by rw [← cG5 c 47]; rfl) rfl

end Go.Proofs.YtlldglbooaefhaaGreatDoor

namespace Go.Pl
open Go Go.Hl

def aft (l : List Nd) (i : Nat) : Nat := l.length - ((skip 1 (l.drop i)).getD []).length
theorem aQ1 {l : List Nd} {i j : Nat} (hj : j ≤ l.length) (h : skip 1 (l.drop i) = some (l.drop j)) : aft l i = j := by grind [aft, List.length_drop]
theorem gO {l : List Nd} (h : IsTree l) {i : Nat} (hi : i < l.length) : i < aft l i ∧ aft l i ≤ l.length ∧ skip 1 (l.drop i) = some (l.drop (aft l i)) := by grind [bG2, aQ1]
def AftSt (l : List Nd) (i m p : Nat) : Prop := p ≤ l.length ∧ skip m (l.drop p) = skip 1 (l.drop i)
theorem AftSt.lt {l : List Nd} (ht : IsTree l) {i m p : Nat} (hi : i < l.length) (h : AftSt l i m p) (hm : 0 < m) : p < l.length := by
 rcases Nat.lt_or_ge p l.length with h1 | h1
 ·
  grind
 ·
  have h2 := h.2
  rw [List.drop_eq_nil_of_le h1, (gO ht hi).2.2] at h2
  obtain ⟨k, rfl⟩ : ∃ k, m = k + 1 := ⟨m - 1, by omega⟩
  cases h2
theorem AftSt.next {l : List Nd} {i m p : Nat} (h : AftSt l i (m + 1) p) (hp : p < l.length) : AftSt l i (m + l[p].c.toNat) (p + 1) := by
 refine ⟨hp, ?_⟩
 rw [← h.2, List.drop_eq_getElem_cons hp]; rfl
theorem AftSt.fin {l : List Nd} {i p : Nat} (h : AftSt l i 0 p) : p = aft l i := by
 have h2 := h.2
 rw [cL] at h2
 exact (aQ1 h.1 h2.symm).symm
def jW (l : List Nd) : Nat → Nat → List Nat
 | 0, _ => []
 | k + 1, at_ => at_ :: jW l k (aft l at_)
def bI8 (l : List Nd) (i : Nat) : List Nat := jW l (l.getD i nd0).c.toNat (i + 1)
def rV (l : List Nd) (i : Int) : List Nat := if cZ l = true ∧ 0 ≤ i ∧ i < l.length then bI8 l i.toNat else []
theorem yV (l : List Nd) : ∀ (k p : Nat), (jW l k p).length = k
 | 0, _ => rfl
 | k + 1, p => by simp [jW, yV l k]
def cR (l : List Nd) : Nat → Nat → Nat
 | 0, p => p
 | k + 1, p => cR l k (aft l p)
theorem eV (l : List Nd) : ∀ (k p : Nat), cR l (k + 1) p = aft l (cR l k p)
 | 0, p => rfl
 | k + 1, p => eV l k (aft l p)
theorem vT (l : List Nd) : ∀ (k p : Nat), jW l (k + 1) p = jW l k p ++ [cR l k p]
 | 0, p => rfl
 | k + 1, p => by rw [jW, vT l k]; rfl
theorem fU {l : List Nd} (ht : IsTree l) {i : Nat} (hi : i < l.length) : ∀ k, k ≤ l[i].c.toNat → cR l k (i + 1) ≤ l.length ∧ skip (l[i].c.toNat - k) (l.drop (cR l k (i + 1))) = some (l.drop (aft l i)) ∧ i + 1 ≤ cR l k (i + 1)
 | 0, _ => by
  refine ⟨hi, ?_, Nat.le_refl _⟩
  have := (gO ht hi).2.2
  rw [List.drop_eq_getElem_cons hi] at this
  show skip (l[i].c.toNat - 0) _ = _
  rw [← this, Nat.sub_zero]
  show _ = skip (0 + l[i].c.toNat) _
  rw [Nat.zero_add]; rfl
 | k + 1, hk => by
  obtain ⟨h1, h2, h3⟩ := fU ht hi k (by omega)
  have hlt : cR l k (i + 1) < l.length := by
   rcases Nat.lt_or_ge (cR l k (i + 1)) l.length with h | h
   ·
    exact h
   ·
    rw [List.drop_eq_nil_of_le h] at h2
    obtain ⟨q, hq⟩ : ∃ q, l[i].c.toNat - k = q + 1 := ⟨l[i].c.toNat - k - 1, by omega⟩
    rw [hq] at h2; cases h2
  obtain ⟨a1, a2, a3⟩ := gO ht hlt
  rw [eV]
  refine ⟨a2, ?_, by omega⟩
  obtain ⟨q, hq⟩ : ∃ q, l[i].c.toNat - k = 1 + q := ⟨l[i].c.toNat - k - 1, by omega⟩
  rw [hq, eS, a3] at h2
  grind
theorem kT {l : List Nd} (ht : IsTree l) {i : Nat} (hi : i < l.length) {k : Nat} (hk : k < l[i].c.toNat) : cR l k (i + 1) < l.length := by
 obtain ⟨h1, h2, _⟩ := fU ht hi k (by omega)
 rcases Nat.lt_or_ge (cR l k (i + 1)) l.length with h | h
 ·
  exact h
 ·
  rw [List.drop_eq_nil_of_le h] at h2
  obtain ⟨q, hq⟩ : ∃ q, l[i].c.toNat - k = q + 1 := ⟨l[i].c.toNat - k - 1, by omega⟩
  rw [hq] at h2; cases h2

def fX : Nat → List Nd → List Nat
 | _, [] => []
 | o, n :: l => if n.k = 1 then o :: fX (o + 1) l else fX (o + 1) l
def iR (l : List Nd) : List Nat := if cZ l then fX 0 l else []
theorem kU : ∀ (l : List Nd) (o : Nat), (fX o l).length = lv l
 | [], _ => rfl
 | n :: l, o => by
  rw [fX, lv]
  split
  ·
   simp [kU l]; omega
  ·
   simp [kU l]
theorem qH : ∀ (a b : List Nd) (o : Nat), fX o (a ++ b) = fX o a ++ fX (o + a.length) b
 | [], b, o => by simp [fX]
 | n :: a, b, o => by
  simp only [List.cons_append, fX, qH a b, List.length_cons]
  grind
theorem aQ2 {l : List Nd} {i : Nat} (h : i < l.length) : fX 0 (l.take (i + 1)) = fX 0 (l.take i) ++ (if l[i].k = 1 then [i] else []) := by
 rw [List.take_succ_eq_append_getElem h, qH]
 have : (l.take i).length = i := by simp; omega
 simp_all [Nat.zero_add, fX]
theorem aJ8 {l : List Nd} (h : IsTree l) : 1 ≤ lv l := by
 have key : ∀ (l : List Nd) (m : Nat), skip (m + 1) l = some [] → (∀ n ∈ l, bR n = true) → 1 ≤ lv l := by
  intro l
  induction l with
  | nil => intro m h; cases h
  | cons n l ih =>
   intro m h hn
   have h' : skip (m + n.c.toNat) l = some [] := h
   obtain ⟨c1, c2, c3, c4⟩ := dF (hn n List.mem_cons_self)
   rw [lv]
   split
   ·
    omega
   ·
    rename_i hk
    have := c4 hk
    obtain ⟨q, hq⟩ : ∃ q, m + n.c.toNat = q + 1 := ⟨m + n.c.toNat - 1, by omega⟩
    grind
 exact key l 0 h.skip h.node

def cnt (l : List Bool) : Nat := (l.filter id).length
theorem bY6 (l : List Bool) : cnt l ≤ l.length := List.length_filter_le _ _
theorem aJ9 (l : List Bool) : cnt l.reverse = cnt l := by simp [cnt, List.filter_reverse]
def kV (n : Nd) (l : List Bool) : Bool := if n.k = 2 then cnt l == l.length else if n.k = 3 then decide (1 ≤ cnt l) else decide (n.n ≤ cnt l)
def evS (T : Nat) (tr : List Bool) : List Nd → List Bool
 | [] => []
 | n :: l => if n.k = 1 then tr.getD (T - lv (n :: l)) false :: evS T tr l else kV n ((evS T tr l).take n.c.toNat) :: (evS T tr l).drop n.c.toNat
theorem aC3 {T : Nat} {tr : List Bool} : ∀ (l : List Nd) (m : Nat), (∀ n ∈ l, bR n = true) → skip m l = some [] → (evS T tr l).length = m
 | [], 0, _, _ => rfl
 | [], m + 1, _, h => by cases h
 | n :: l, 0, _, h => by grind [cL]
 | n :: l, m + 1, hn, h => by
  have h' : skip (m + n.c.toNat) l = some [] := h
  have ih := aC3 (T := T) (tr := tr) l _ (fun x hx => hn x (List.mem_cons_of_mem _ hx)) h'
  obtain ⟨c1, c2, c3, c4⟩ := dF (hn n List.mem_cons_self)
  grind [evS, List.length_cons, List.length_drop]
def vU (l : List Nd) (tr : List Bool) : Bool := cZ l && (evS (lv l) tr l).headD false
theorem aC4 (l : List Nd) (i : Nat) : lv (l.take i) + lv (l.drop i) = lv l := by rw [← rN, List.take_append_drop]
theorem bI9 {l : List Nd} (ht : IsTree l) {tr : List Bool} {i : Nat} (hi : i < l.length) : l[i].c.toNat ≤ (evS (lv l) tr (l.drop (i + 1))).length := by
 obtain ⟨k, hk⟩ := rO l 1 ht.skip ht.node i hi
 rw [List.drop_eq_getElem_cons hi] at hk
 have hk' : skip (k + l[i].c.toNat) (l.drop (i + 1)) = some [] := hk
 rw [aC3 _ _ (fun n hn => ht.node n (List.mem_of_mem_drop hn)) hk']
 omega
end Go.Pl

namespace Go.Pl
open Go Go.Hl

theorem tB (c : UInt8) : ∀ m : aG, aQ c (m ++ [c]) = aQ c m ++ [[]]
 | [] => by simp [aQ]
 | b :: m => by
  have ih := tB c m
  simp only [List.cons_append]
  rw [aQ, aQ]
  by_cases h : b = c
  ·
   grind
  ·
   rw [if_neg h, if_neg h, ih]
   grind [aQ, absurd, cT]
theorem nC {c : UInt8} : ∀ {l : aG}, l ≠ [] → (aQ c l).getLast (cT c l) = [] → ∃ m, l = m ++ [c]
 | [], h, _ => absurd rfl h
 | b :: l, _, hl => by
  by_cases h : b = c
  ·
   subst h
   have hs : aQ b (b :: l) = [] :: aQ b l := by rw [aQ, if_pos rfl]
   cases l with
   | nil => simp_all
   | cons d l =>
    have : (aQ b (d :: l)).getLast (cT b _) = [] := by
     simp only [hs] at hl
     rw [List.getLast_cons (cT b _)] at hl
     exact hl
    obtain ⟨m, hm⟩ := nC (l := d :: l) (by simp) this
    grind
  ·
   cases hs : aQ c l with
   | nil => exact absurd hs (cT c l)
   | cons x xs =>
    have hs2 : aQ c (b :: l) = (b :: x) :: xs := by rw [aQ, if_neg h, hs]
    simp only [hs2] at hl
    cases xs with
    | nil => grind
    | cons y ys =>
     have hne : l ≠ [] := by rintro rfl; simp [aQ] at hs
     have : (aQ c l).getLast (cT c l) = [] := by
      simp only [hs]
      rw [List.getLast_cons (by simp)] at hl ⊢
      exact hl
     obtain ⟨m, hm⟩ := nC hne this
     grind
def lT (c : UInt8) : List aG → aG
 | [] => []
 | w :: l => w ++ l.flatMap fun v => c :: v
theorem nD (c : UInt8) : ∀ l : aG, lT c (aQ c l) = l
 | [] => rfl
 | b :: l => by
  have ih := nD c l
  rw [aQ]
  cases hs : aQ c l with
  | nil => exact absurd hs (cT c l)
  | cons x xs =>
   grind [lT]
theorem tC {c : UInt8} : ∀ {w : aG}, (∀ b ∈ w, b ≠ c) → aQ c w = [w]
 | [], _ => rfl
 | b :: w, h => by
  rw [aQ, if_neg (h b List.mem_cons_self), tC fun x hx => h x (List.mem_cons_of_mem _ hx)]
theorem vV {c : UInt8} {r : aG} : ∀ {w : aG}, (∀ b ∈ w, b ≠ c) → aQ c (w ++ c :: r) = w :: aQ c r
 | [], _ => by simp only [List.nil_append]; rw [aQ, if_pos rfl]
 | b :: w, h => by
  simp only [List.cons_append]
  rw [aQ, if_neg (h b List.mem_cons_self), vV fun x hx => h x (List.mem_cons_of_mem _ hx)]
theorem nE {c : UInt8} : ∀ {l : List aG}, l ≠ [] → (∀ w ∈ l, ∀ b ∈ w, b ≠ c) → aQ c (lT c l) = l
 | [], h, _ => absurd rfl h
 | [w], _, h => by grind [lT, tC, List.mem_cons_self]
 | w :: v :: l, _, h => by
  have ih := nE (c := c) (l := v :: l) (by simp) fun x hx => h x (List.mem_cons_of_mem _ hx)
  grind [lT, vV, List.mem_cons_self]
theorem aQ3 (c : UInt8) (m : aG) : ((aQ c m).flatMap fun r => r ++ [c]) = m ++ [c] := by
 have h := nD c m
 cases hs : aQ c m with
 | nil => exact absurd hs (cT c m)
 | cons x xs =>
  rw [hs] at h
  simp only [lT] at h
  rw [← h]
  have key : ∀ (x : aG) (xs : List aG), (List.flatMap (fun r => r ++ [c]) (x :: xs)) = (x ++ xs.flatMap fun v => c :: v) ++ [c] := by
   intro x xs
   induction xs generalizing x with
   | nil => simp
   | cons y ys ih =>
    grind
  grind

set_option maxRecDepth 20000 in
theorem aK0 {c : UInt8} (h : valH c < 16) : mP (valH c) = c := by
 have key : ∀ n : Fin 256, valH (UInt8.ofNat n.1) < 16 → mP (valH (UInt8.ofNat n.1)) = UInt8.ofNat n.1 := by decide
 have := key ⟨c.toNat, c.toNat_lt⟩
 simp_all
set_option maxRecDepth 20000 in
theorem yW {n : Nat} (h : n < 16) : valH (mP n) = n := by
 have key : ∀ n : Fin 16, valH (mP n.1) = n.1 := by decide
 exact key ⟨n, h⟩
theorem bJ0 {x y : UInt8} (h : okH x y = true) : iP (byteH x y) = [37, x, y] := by
 simp only [okH, Bool.and_eq_true, decide_eq_true_eq, Bool.not_eq_true'] at h
 obtain ⟨⟨h1, h2⟩, h3⟩ := h
 unfold iP
 rw [h3, yI h1 h2]
 have e1 : (16 * valH x + valH y) / 16 = valH x := by omega
 have e2 : (16 * valH x + valH y) % 16 = valH y := by omega
 simp only [Bool.false_eq_true, if_false, e1, e2, aK0 h1, aK0 h2]
theorem vW {c : UInt8} (h : cG c = true) : iP c = [c] := by unfold iP; grind
theorem aC5 : ∀ (n : Nat) {s w : aG}, s.length ≤ n → unB s = some w → cH w = s
 | 0, s, w, hn, h => by simp_all [List.eq_nil_of_length_eq_zero, unB, Option.some.injEq]
 | n + 1, [], w, _, h => by simp_all [unB, Option.some.injEq]
 | n + 1, c :: l, w, hn, h => by
  simp only [List.length_cons] at hn
  by_cases hp : cG c = true
  ·
   rw [oA hp, Option.map_eq_some_iff] at h
   obtain ⟨w', h', rfl⟩ := h
   have ih := aC5 n (by omega) h'
   grind [cH, vW]
  ·
   have hp : cG c = false := by simpa using hp
   by_cases hc : c = 37
   ·
    subst hc
    match l, h with
    | [], h => grind [tW]
    | [x], h => grind [tW]
    | x :: y :: l', h =>
     by_cases ho : okH x y = true
     ·
      rw [aB5 ho, Option.map_eq_some_iff] at h
      obtain ⟨w', h', rfl⟩ := h
      have ih := aC5 n (by grind) h'
      grind [cH, bJ0]
     grind [sX]
   grind [tW]
theorem bR9 {s w : aG} (h : unW s = some w) : gJ w = s := by
 unfold unW at h
 split at h
 ·
  rename_i hs; cases h; rw [hs]; rfl
 ·
  split at h
  ·
   cases h
  ·
   rename_i h1 h2
   have := aC5 _ (Nat.le_refl _) h
   unfold gJ
   rw [if_neg (bY3 h2 h), this]
theorem yX : ∀ w : aG, unB (cH w) = some w
 | [] => rfl
 | c :: w => by
  have ih := yX w
  have e : cH (c :: w) = iP c ++ cH w := by simp [cH]
  rw [e]
  by_cases hp : cG c = true
  ·
   grind [vW, oA]
  ·
   have hp : cG c = false := by simpa using hp
   have hlt := c.toNat_lt
   have h1 : valH (mP (c.toNat / 16)) = c.toNat / 16 := yW (by omega)
   have h2 : valH (mP (c.toNat % 16)) = c.toNat % 16 := yW (by omega)
   have hb : byteH (mP (c.toNat / 16)) (mP (c.toNat % 16)) = c := by
    unfold byteH
    rw [h1, h2, Nat.div_add_mod]
    exact UInt8.ofNat_toNat
   have ho : okH (mP (c.toNat / 16)) (mP (c.toNat % 16)) = true := by
    simp only [okH, hb, hp, h1, h2, Bool.and_eq_true, decide_eq_true_eq, Bool.not_false, and_true]
    omega
   grind [iP, mP, aB5]
theorem yY {c b : UInt8} (h : b ∈ iP c) : b ≠ 10 ∧ b ≠ 32 ∧ b ≠ 126 := by
 unfold iP at h
 split at h
 ·
  rename_i hp
  simp only [List.mem_singleton] at h
  subst h
  refine ⟨?_, ?_, ?_⟩ <;> (rintro rfl; revert hp; decide)
 ·
  have key : ∀ n : Nat, mP n ≠ 10 ∧ mP n ≠ 32 ∧ mP n ≠ 126 := by
   intro n
   unfold mP
   rcases Nat.lt_or_ge n 16 with hn | hn
   ·
    have : ∀ n : Fin 16, ([48, 49, 50, 51, 52, 53, 54, 55, 56, 57, 65, 66, 67, 68, 69, 70] : List UInt8).getD n.1 0 ≠ 10 ∧ ([48, 49, 50, 51, 52, 53, 54, 55, 56, 57, 65, 66, 67, 68, 69, 70] : List UInt8).getD n.1 0 ≠ 32 ∧ ([48, 49, 50, 51, 52, 53, 54, 55, 56, 57, 65, 66, 67, 68, 69, 70] : List UInt8).getD n.1 0 ≠ 126 := by decide
    exact this ⟨n, hn⟩
   ·
    simp_all
  grind
theorem rW {w : aG} {b : UInt8} (h : b ∈ gJ w) : b ≠ 10 ∧ b ≠ 32 := by
 unfold gJ at h
 split at h
 ·
  grind
 ·
  obtain ⟨c, _, hc⟩ := List.mem_flatMap.1 h
  grind [yY]
theorem bJ1 (w : aG) : unW (gJ w) = some w := by
 unfold gJ
 split
 ·
  rename_i h; subst h; rfl
 ·
  rename_i h
  have hne : cH w ≠ [] := by
   intro he
   have := aH8 w
   rw [he] at this
   exact h (List.eq_nil_of_length_eq_zero (by grind))
  have h126 : cH w ≠ [126] := by
   intro he
   have hm : (126 : UInt8) ∈ cH w := by rw [he]; simp
   obtain ⟨c, _, hc⟩ := List.mem_flatMap.1 hm
   exact (yY hc).2.2 rfl
  simp_all [unW, if_neg, yX]

theorem rX {α β : Type} {f : α → Option β} : ∀ {l : List α} {m : List β}, l.mapM f = some m → (∀ {g : β → α}, (∀ x y, f x = some y → g y = x) → m.map g = l) ∧ m.length = l.length
 | [], m, h => by grind
 | a :: l, m, h => by
  rw [List.mapM_cons] at h
  cases ha : f a with
  | none => grind
  | some b =>
   rw [ha] at h
   cases hl : l.mapM f with
   | none => grind
   | some m' =>
    rw [hl] at h
    cases h
    obtain ⟨h1, h2⟩ := rX hl
    grind
theorem yZ (l : List aG) : fS l = lT 32 (l.map gJ) := by
 cases l with
 | nil => rfl
 | cons w l => simp [fS, lT, List.flatMap_map]
theorem bS0 {r : aG} {ws : List aG} (h : unL r = some ws) : fS ws = r := by
 have := (rX h).1 (g := gJ) fun x y h => bR9 h
 rw [yZ, this, nD]
theorem zA : ∀ l : List aG, (l.map gJ).mapM unW = some l
 | [] => rfl
 | w :: l => by rw [List.map_cons, List.mapM_cons, bJ1, zA l]; rfl
theorem bJ2 {l : List aG} (h : l ≠ []) : unL (fS l) = some l := by
 unfold unL
 rw [yZ, nE (by simp_all) (by
  intro w hw b hb
  obtain ⟨v, _, rfl⟩ := List.mem_map.1 hw
  exact (rW hb).2), zA]
theorem bA8 {l : List aG} {b : UInt8} (h : b ∈ fS l) : b ≠ 10 := by
 cases l with
 | nil => simp at h
 | cons w l =>
  simp only [fS, List.mem_append, List.mem_flatMap] at h
  rcases h with h | ⟨v, _, h⟩
  ·
   exact (rW h).1
  ·
   rcases List.mem_cons.1 h with rfl | h
   all_goals grind [rW]
theorem bA9 {ls : List (List aG)} (h : ls ≠ []) : eT ls = lT 10 (ls.map fS) ++ [10] := by
 cases ls with
 | nil => grind
 | cons l ls =>
  have key : ∀ (l : List aG) (ls : List (List aG)), eT (l :: ls) = lT 10 ((l :: ls).map fS) ++ [10] := by
   intro l ls
   induction ls generalizing l with
   | nil => simp [eT, lT, xB]
   | cons k ls ih =>
    grind [eT, xB, lT]
  grind
theorem zB (m : aG) : fT (m ++ [10]) = (aQ 10 m).mapM unR := by simp_all [tB, fT, if_neg, if_pos, List.dropLast_concat]
theorem bB0 {ls : List (List aG)} (h : ∀ l ∈ ls, okL l = true) : fT (eT ls) = some ls := by
 by_cases hne : ls = []
 ·
  subst hne; simp [fT]
 ·
  rw [bA9 hne, zB, nE (by simpa using hne) (by
   intro w hw b hb
   obtain ⟨l, _, rfl⟩ := List.mem_map.1 hw
   exact bA8 hb)]
  clear hne
  induction ls with
  | nil => rfl
  | cons l ls ih =>
   have hl := h l List.mem_cons_self
   have hr : unR (fS l) = some l := by
    unfold unR
    rw [bJ2 ((jT l).1 hl).1]
    simp only [hl, if_true]
   rw [List.map_cons, List.mapM_cons, hr, ih fun x hx => h x (List.mem_cons_of_mem _ hx)]
   rfl

theorem bJ3 {rs : List aG} {ls : List (List aG)} (h : rs.mapM unL = some ls) : rs.mapM unR = if ls.all okL then some ls else none := by
 induction rs generalizing ls with
 | nil => grind
 | cons r rs ih =>
  rw [List.mapM_cons] at h
  cases hr : unL r with
  | none => grind
  | some l =>
   rw [hr] at h
   cases hl : rs.mapM unL with
   | none => grind
   | some m =>
    rw [hl] at h
    cases h
    rw [List.mapM_cons, ih hl]
    unfold unR
    rw [hr]
    simp only [List.all_cons]
    by_cases h1 : okL l = true
    ·
     grind
    grind
theorem xE {rs : List aG} (h : rs.mapM unL = none) : rs.mapM unR = none := by
 induction rs with
 | nil => grind
 | cons r rs ih =>
  rw [List.mapM_cons] at h ⊢
  cases hr : unL r with
  | none => unfold unR; grind
  | some l =>
   rw [hr] at h
   have : rs.mapM unL = none := by
    cases hl : rs.mapM unL with
    | none => rfl
    | some m => rw [hl] at h; cases h
   rw [ih this]
   cases unR r <;> rfl
theorem bB1 {m : aG} {ls : List (List aG)} (h : (aQ 10 m).mapM unL = some ls) : eT ls = m ++ [10] := by
 have h1 := (rX h).1 (g := fS) fun x y h => bS0 h
 have h2 := aQ3 10 m
 rw [← h1] at h2
 rw [← h2]
 simp only [eT, List.flatMap_map]
 rfl
end Go.Pl

namespace Go.Pl
open Go Go.Hl

@[simp] theorem cB1 (l : List W32) (i : Nat) (x : W32) : CV.agg ((l.map w32).set i (w32 x)) = ws (l.set i x) := by rw [← List.map_set]; rfl
@[simp] theorem cB2 (l : List UInt8) (i : Nat) (x : UInt8) : CV.agg ((l.map u8).set i (u8 x)) = us (l.set i x) := by rw [← List.map_set]; rfl
@[simp] theorem cF7 (b : List UInt8) : wA b 0 = wz 64 := rfl
@[simp] theorem cF8 (w : List W32) : wB w 0 = w := rfl
def cG6 (s r : St) (j : Nat) : List W32 := (s.l.zipWith (fun x y => x + y) r.l).take j ++ s.l.drop j
@[simp] theorem cB3 (s r : St) : cG6 s r 0 = s.l := rfl
end Go.Pl

namespace Go.Pl
open Go Go.Hl

section
variable {b : List UInt8} {j : Nat} (h0 : 64 * j ≤ b.length) (h1 : b.length < 64 * j + 64)
include h0 h1
end
section
variable {b : List UInt8} {j : Nat} (h0 : 64 * j ≤ b.length) (h1 : b.length < 64 * j + 64)
include h0 h1
end
@[simp] theorem cF9 (l : List UInt8) : CV.agg (l.map u8) = us l := rfl
def ob8 (s : St) (i : Nat) : UInt8 := UInt8.ofNat ((gw s.l (i / 4)) >>> (24 - 8 * (i % 4))).toNat
def cG7 (s : St) (n : Nat) : List UInt8 := itN (fun i l => l.set i (ob8 s i)) n (uz 32)
@[simp] theorem cB4 (s : St) : cG7 s 0 = uz 32 := rfl
end Go.Pl

namespace Go.Pl
open Go Go.Hl

def cG8 (h : xA) : aG := bY1 h.1
def cG9 (d : Dig) : aG := [115, 104, 97, 50, 53, 54, 58] ++ bY1 d.1
theorem oY (b : UInt8) : iD [CV.int .u8 b.toNat] = some [b] := bytesC_map [b]

def numW (n : Int) : aG := Lib.itoa n
theorem bB2 : numW 0 = [48] := by unfold numW Lib.itoa; rw [if_neg (by omega)]; simp [Lib.decDigits]
theorem qI {n : Int} (h : 0 ≤ n) : numW n = Lib.decDigits n.natAbs := by unfold numW Lib.itoa; rw [if_neg (by omega)]; congr 1; omega
theorem aK1 {n : Int} (h : n < 0) : numW n = 45 :: Lib.decDigits n.natAbs := by unfold numW Lib.itoa; rw [if_pos h]
theorem bJ4 {v : Nat} (h : v ≠ 0) : Lib.decDigits v = (if v / 10 = 0 then [] else Lib.decDigits (v / 10)) ++ [UInt8.ofNat (48 + v % 10)] := by
 by_cases h1 : v < 10
 ·
  rw [Lib.decDigits, dif_pos h1, if_pos (by omega), show v % 10 = v by omega]; rfl
 ·
  rw [Lib.decDigits, dif_neg h1, if_neg (by omega)]
theorem aC6 {n : Int} (h : n < 0) (h1 : -9223372036854775808 ≤ n) : IntKind.u64.wrap (-(IntKind.u64.wrap n)) = (n.natAbs : Int) := by
 have e : IntKind.u64.wrap n = n + 18446744073709551616 := by
  have : IntKind.u64.wrap n = n % 18446744073709551616 := by simp [IntKind.wrap, IntKind.bits, IntKind.signed]
  rw [this]; omega
 rw [e]
 have : ∀ m : Int, IntKind.u64.wrap m = m % 18446744073709551616 := fun m => by simp [IntKind.wrap, IntKind.bits, IntKind.signed]
 rw [this]; omega
theorem aV4 {n : Int} (h : 0 ≤ n) (h1 : n ≤ 9223372036854775807) : IntKind.u64.wrap n = (n.natAbs : Int) := by
 have : IntKind.u64.wrap n = n % 18446744073709551616 := by simp [IntKind.wrap, IntKind.bits, IntKind.signed]
 rw [this]; omega
theorem vX (v : Nat) : IntKind.u8.wrap (IntKind.u64.wrap (48 + Int.tmod (v : Int) 10)) = ((UInt8.ofNat (48 + v % 10)).toNat : Int) := by
 have h1 : Int.tmod (v : Int) 10 = ((v % 10 : Nat) : Int) := rfl
 have h2 : v % 10 < 10 := Nat.mod_lt _ (by omega)
 rw [h1]
 generalize v % 10 = r at h2
 rw [IntWalk.u64_in _ (by omega), IntWalk.u8_in _ (by omega), UInt8.toNat_ofNat', Nat.mod_eq_of_lt (by omega)]
 omega
theorem bS1 {v : Nat} (h : v < 18446744073709551616) : IntKind.u64.wrap (Int.tdiv (v : Int) 10) = ((v / 10 : Nat) : Int) := by
 rw [show Int.tdiv (v : Int) 10 = ((v / 10 : Nat) : Int) from rfl, IntWalk.u64_in _ (by omega)]
theorem bJ5 {u : Nat} (h : u < 18446744073709551616) : (Lib.decDigits u).length ≤ 20 := by rw [Lib.decDigits_length]; exact Lib.nDigits_le20 u h

inductive Av where
 | i (n : Int)
 | l (n : Int)
 | h (x : xA)
 | d (x : Dig)
 | s (w : aG)
def Av.w : Av → aG
 | .i n => numW n
 | .l n => numW n
 | .h x => cG8 x
 | .d x => cG9 x
 | .s w => w
def Av.ok : Av → Prop
 | .i n => -9223372036854775808 ≤ n ∧ n ≤ 9223372036854775807
 | .l n => -9223372036854775808 ≤ n ∧ n ≤ 9223372036854775807
 | _ => True
end Go.Pl

namespace Go.Pl
open Go Go.Hl

def bS2 (c : UInt8) : Nat := if 48 ≤ c.toNat ∧ c.toNat ≤ 57 then c.toNat - 48 else if 97 ≤ c.toNat ∧ c.toNat ≤ 102 then c.toNat - 87 else 16
def hX (s : aG) (i : Nat) : UInt8 := s.getD (2 * i) 0
def hY (s : aG) (i : Nat) : UInt8 := s.getD (2 * i + 1) 0
def hB (s : aG) (i : Nat) : UInt8 := UInt8.ofNat (16 * bS2 (hX s i) + bS2 (hY s i))
def hOk (s : aG) (i : Nat) : Bool := decide (bS2 (hX s i) < 16) && decide (bS2 (hY s i) < 16)
def nF (s : aG) (n : Nat) : Option (List UInt8) := if s.length = 2 * n ∧ (List.range n).all (hOk s) = true then some ((List.range n).map (hB s)) else none
def UhSt (s : aG) (n i : Nat) (l : List UInt8) : Prop := l.length = n ∧ i ≤ n ∧ l.take i = (List.range i).map (hB s) ∧ ∀ j, j < i → hOk s j = true
theorem UhSt.init (s : aG) {n : Nat} {l : List UInt8} (h : l.length = n) : UhSt s n 0 l := ⟨h, Nat.zero_le _, by simp, fun j hj => by omega⟩
theorem UhSt.next {s : aG} {n i : Nat} {l : List UInt8} (h : UhSt s n i l) (hi : i < n) (hk : hOk s i = true) : UhSt s n (i + 1) (l.set i (hB s i)) := by
 obtain ⟨h1, h2, h3, h4⟩ := h
 refine ⟨by simpa using h1, hi, ?_, fun j hj => ?_⟩
 ·
  rw [List.take_succ_eq_append_getElem (by rw [List.length_set]; omega), List.getElem_set_self, List.take_set_of_le (Nat.le_refl _), h3, List.range_succ, List.map_append]
  rfl
 ·
  rcases Nat.lt_or_ge j i with h' | h'
  ·
   exact h4 j h'
  ·
   have : j = i := by omega
   rw [this]; exact hk
theorem UhSt.fin {s : aG} {n : Nat} {l : List UInt8} (h : UhSt s n n l) (hs : s.length = 2 * n) : nF s n = some l := by
 obtain ⟨h1, h2, h3, h4⟩ := h
 unfold nF
 rw [if_pos ⟨hs, by rw [List.all_eq_true]; intro j hj; exact h4 j (List.mem_range.1 hj)⟩, ← h3, List.take_of_length_le (by omega)]
theorem UhSt.bad {s : aG} {n i : Nat} {l : List UInt8} (_ : UhSt s n i l) (hi : i < n) (hk : hOk s i = false) : nF s n = none := by
 unfold nF
 rw [if_neg]
 rintro ⟨_, h⟩
 have := List.all_eq_true.1 h i (List.mem_range.2 hi)
 rw [hk] at this; cases this
theorem oP {s : aG} {n : Nat} {l : List UInt8} (h : nF s n = some l) : l.length = n := by
 unfold nF at h
 split at h
 ·
  cases h; simp
 ·
  cases h
def cD4 (s p : aG) : Bool := decide (p.length ≤ s.length) && (s.take p.length == p)
def cD5 (s : aG) : Option xA := match h : nF s 16 with | some l => some ⟨l, oP h⟩ | none => none
def cH0 : aG := [115, 104, 97, 50, 53, 54, 58]
def cH1 (s : aG) : Option Dig := if cD4 s cH0 then match h : nF (s.drop 7) 32 with | some l => some ⟨l, oP h⟩ | none => none else none
end Go.Pl

namespace Go.Pl
open Go Go.Hl

def wd (l : List aG) (i : Nat) : aG := l.getD i []
theorem vY {l : List aG} {i : Nat} (h : i < l.length) : nth (l.map CV.str) i = .str (wd l i) := by
 rw [bN h, wd, List.getD_eq_getElem?_getD, List.getElem?_eq_getElem h]; rfl
def bJ6 (l : List aG) (x : Rt) : Option Rt :=
 if l.length = 3 then match bG (wd l 2) with | some n => some { x with q := x.q ++ [⟨wd l 1, n⟩] } | none => none else none
def cD6 (l : List aG) (x : Rt) : Option Rt :=
 if l.length < 6 then none else match bG (wd l 1), cD5 (wd l 2), bG (wd l 4), bG (wd l 5) with
  | some h, some r, some a, some b => some { x with k := x.k ++ [⟨⟨h, r⟩, wd l 3, l.drop 6, a, b⟩] }
  | _, _, _, _ => none
def cD7 (l : List aG) (x : Rt) : Option Rt :=
 if l.length = 3 then match cH1 (wd l 1), bG (wd l 2) with | some d, some t => some { x with x := x.x ++ [⟨d, t⟩] } | _, _ => none else none
end Go.Pl

namespace Go.Pl
open Go Go.Hl

end Go.Pl

namespace Go.Pl
open Go Go.Hl

end Go.Pl

namespace Go.Pl
open Go Go.Hl

end Go.Pl

namespace Go.Pl
open Go Go.Hl

end Go.Pl

namespace Go.Pl
open Go Go.Hl

end Go.Pl

namespace Go.Hl
open Go Go.RowKit Go.Sort Go.Proofs

end Go.Hl

namespace Go.Pl
open Go Go.Hl

end Go.Pl

namespace Go.Pl
open Go Go.Hl

def rMid (r : Rt) : Prop := (r.q.length ≤ 12 ∧ ∀ q ∈ r.q, q.r.length ≤ 300) ∧ (r.k.length ≤ 32 ∧ ∀ k ∈ r.k, k.o.length ≤ 300 ∧ k.rs.length ≤ 30 ∧ ∀ w ∈ k.rs, w.length ≤ 300) ∧ r.x.length ≤ 65
theorem rMid.sz {r : Rt} (h : rMid r) : rSz r := by
 obtain ⟨⟨h1, h2⟩, ⟨h3, h4⟩, h5⟩ := h
 refine ⟨⟨by omega, fun q hq => by have := h2 q hq; omega⟩, ⟨by omega, fun k hk => ?_⟩, by omega⟩
 obtain ⟨k1, k2, k3⟩ := h4 k hk
 exact ⟨by omega, by omega, fun w hw => by have := k3 w hw; omega⟩
end Go.Pl

namespace Go.Pl
open Go Go.Hl

def aQ4 (j : Nat) : aG := ([[113, 117, 111, 116, 97], [107, 101, 121], [114, 101, 118, 111, 107, 101, 100]] : List aG).getD j []
def bB3 (j : Nat) (l : List aG) (x : Rt) : Option Rt := if j = 0 then bJ6 l x else if j = 1 then cD6 l x else cD7 l x
def aK2 (j : Nat) : List (List aG) → Rt → Option (List (List aG) × Rt)
 | [], x => some ([], x)
 | l :: ls, x => if wd l 0 = aQ4 j then match bB3 j l x with | some y => aK2 j ls y | none => none else some (l :: ls, x)
def rY : Nat → Nat → List (List aG) → Rt → Option (List (List aG) × Rt)
 | 0, _, ls, x => some (ls, x)
 | n + 1, j, ls, x => match aK2 j ls x with | some (ls', y) => rY n (j + 1) ls' y | none => none
section
variable {l0 : List aG} {ls : List (List aG)} {x : Rt}
end
theorem bJ7 {j : Nat} {l : List aG} {ls : List (List aG)} {x y : Rt} (h : wd l 0 = aQ4 j) (hy : bB3 j l x = some y) : aK2 j (l :: ls) x = aK2 j ls y := by
 rw [aK2, if_pos h, hy]
theorem bB4 {j : Nat} {l : List aG} {ls : List (List aG)} {x : Rt} (h : wd l 0 ≠ aQ4 j) : aK2 j (l :: ls) x = some (l :: ls, x) := by
 rw [aK2, if_neg h]
theorem bJ8 {n j : Nat} {l : List aG} {ls : List (List aG)} {x y : Rt} (h : wd l 0 = aQ4 j) (hy : bB3 j l x = some y) : rY (n + 1) j (l :: ls) x = rY (n + 1) j ls y := by grind [rY, bJ7]
theorem bB5 {n j : Nat} {l : List aG} {ls : List (List aG)} {x : Rt} (h : wd l 0 ≠ aQ4 j) : rY (n + 1) j (l :: ls) x = rY n (j + 1) (l :: ls) x := by
 simp only [rY, bB4 h]
theorem bJ9 {n j : Nat} {x : Rt} : rY (n + 1) j [] x = rY n (j + 1) [] x := by
 simp only [rY, aK2]

def wOk (l : List aG) : Prop := l ≠ [] ∧ l.length ≤ 120 ∧ ∀ w ∈ l, w.length ≤ 32768
theorem wOk.wd {l : List aG} (h : wOk l) (i : Nat) : (wd l i).length ≤ 32768 := by
 unfold Pl.wd
 rw [List.getD_eq_getElem?_getD]
 rcases Nat.lt_or_ge i l.length with h' | h'
 ·
  rw [List.getElem?_eq_getElem h']; exact h.2.2 _ (List.getElem_mem h')
 grind
def rRead (m : Nat) (x : Rt) : Prop := x.q.length + x.k.length + x.x.length ≤ m ∧ (∀ q ∈ x.q, q.r.length ≤ 32768) ∧ ∀ k ∈ x.k, k.o.length ≤ 32768 ∧ k.rs.length ≤ 120 ∧ ∀ w ∈ k.rs, w.length ≤ 32768
theorem bB6 {j : Nat} {l : List aG} {x y : Rt} {m : Nat} (hl : wOk l) (h : bB3 j l x = some y) (hx : rRead m x) : rRead (m + 1) y := by
 obtain ⟨h1, h2, h3⟩ := hx
 unfold bB3 at h
 split at h
 ·
  unfold bJ6 at h
  split at h
  ·
   split at h
   ·
    cases h
    refine ⟨by grind, fun q hq => ?_, h3⟩
    rcases List.mem_append.1 hq with hq | hq
    ·
     grind
    ·
     simp only [List.mem_singleton] at hq; subst hq; exact hl.wd 1
   grind
  grind
 ·
  split at h
  ·
   unfold cD6 at h
   split at h
   ·
    cases h
   ·
    split at h
    ·
     cases h
     refine ⟨by grind, h2, fun k hk => ?_⟩
     rcases List.mem_append.1 hk with hk | hk
     ·
      exact h3 k hk
     ·
      simp only [List.mem_singleton] at hk; subst hk
      exact ⟨hl.wd 3, by show (l.drop 6).length ≤ 120; rw [List.length_drop]; have := hl.2.1; omega, fun w hw => hl.2.2 w (List.mem_of_mem_drop hw)⟩
    grind
  ·
   unfold cD7 at h
   split at h
   ·
    split at h
    ·
     cases h
     exact ⟨by grind, h2, h3⟩
    grind
   grind
theorem rRead.sz {m : Nat} {x : Rt} (h : rRead m x) (hm : m ≤ 100000) : rSz x := by
 obtain ⟨h1, h2, h3⟩ := h
 refine ⟨⟨by omega, fun q hq => by grind⟩, ⟨by omega, fun k hk => ?_⟩, by omega⟩
 obtain ⟨k1, k2, k3⟩ := h3 k hk
 exact ⟨by omega, by omega, fun w hw => by grind⟩
def RtSt (ls0 : List (List aG)) (x0 : Rt) (j : Nat) (rest : List (List aG)) (x : Rt) : Prop :=
 j ≤ 3 ∧ rY 3 0 ls0 x0 = rY (3 - j) j rest x ∧ (∀ l ∈ rest, wOk l) ∧ rest.length ≤ ls0.length ∧ rRead (ls0.length - rest.length) x
section
variable {ls0 rest : List (List aG)} {x0 x : Rt} {j : Nat} {l : List aG}
theorem RtSt.init (h : ∀ l ∈ ls0, wOk l) (hx : rRead 0 x0) : RtSt ls0 x0 0 ls0 x0 := ⟨by omega, rfl, h, Nat.le_refl _, by grind⟩
theorem RtSt.hit {y : Rt} (h : RtSt ls0 x0 j (l :: rest) x) (hj : j < 3) (hw : wd l 0 = aQ4 j) (hy : bB3 j l x = some y) : RtSt ls0 x0 j rest y := by
 obtain ⟨h1, h2, h3, h4, h5⟩ := h
 obtain ⟨n, hn⟩ : ∃ n, 3 - j = n + 1 := ⟨2 - j, by omega⟩
 simp only [List.length_cons] at h4 h5
 refine ⟨h1, by rw [h2, hn, bJ8 hw hy], fun l hl => h3 l (List.mem_cons_of_mem _ hl), by omega, ?_⟩
 have := bB6 (h3 l List.mem_cons_self) hy h5
 grind
theorem RtSt.next (h : RtSt ls0 x0 j rest x) (hj : j < 3) (hw : ∀ l ls, rest = l :: ls → wd l 0 ≠ aQ4 j) : RtSt ls0 x0 (j + 1) rest x := by
 obtain ⟨h1, h2, h3, h4, h5⟩ := h
 obtain ⟨n, hn⟩ : ∃ n, 3 - j = n + 1 := ⟨2 - j, by omega⟩
 have hn2 : 3 - (j + 1) = n := by omega
 refine ⟨by omega, ?_, h3, h4, h5⟩
 rw [h2, hn, hn2]
 cases rest with
 | nil => exact bJ9
 | cons l ls => exact bB5 (hw l ls rfl)
theorem RtSt.fin (h : RtSt ls0 x0 3 rest x) : rY 3 0 ls0 x0 = some (rest, x) := by rw [h.2.1]; rfl
end
theorem bS3 {b : aG} : ∀ l ∈ fE b, wOk l := by
 intro l hl
 unfold fE at hl
 split at hl
 ·
  cases hv : fT b with
  | none => grind
  | some ls =>
   rw [hv] at hl
   simp only [Option.getD_some] at hl
   unfold fT at hv
   split at hv
   ·
    grind
   ·
    split at hv
    ·
     have key : ∀ {rs : List aG} {ls : List (List aG)}, rs.mapM unR = some ls → ∀ l ∈ ls, okL l = true := by
      intro rs
      induction rs with
      | nil => grind
      | cons r rs ih =>
       intro ls h l hl
       rw [List.mapM_cons] at h
       cases hr : unR r with
       | none => grind
       | some a =>
        rw [hr] at h
        cases hm : rs.mapM unR with
        | none => grind
        | some m =>
         rw [hm] at h
         cases h
         rcases List.mem_cons.1 hl with rfl | hl
         ·
          unfold unR at hr
          split at hr
          ·
           split at hr
           ·
            rename_i hk; cases hr; exact hk
           ·
            cases hr
          ·
           cases hr
         ·
          exact ih hm l hl
     exact (jT l).1 (key hv l hl)
    grind
 grind
theorem bK0 {b : aG} : (fE b).length ≤ 1000 := by
 unfold fE
 split
 ·
  grind [iG, fT]
 ·
  simp
end Go.Pl

namespace Go.Pl
open Go Go.Hl

end Go.Pl

namespace Go.Pl
open Go Go.Hl

theorem jF : vC = 1099511627776 := rfl
end Go.Pl
