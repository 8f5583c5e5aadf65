/- TrustValid: for any root document and any tape of numbers the law returns true and leaves them as they were: which root documents are valid, and their encoded forms. The listed tables of the library are tied to the program's text by the card. By an AI agent. -/
import Derived.Test.YtenbfeemmpjdhaaGreatDoorHyT3
import Derived.Test.YtenbfeemmpjdhaaGreatDoorHyU7
import Derived.Test.YtenbfeemmpjdhaaGreatDoorHlZb
import Derived.Test.YtenbfeemmpjdhaaGreatDoorHyTp
import Derived.Lay
import Derived.SevenTiedAt
import Derived.Test.YtenbfeemmpjdhaaGreatDoorRows
import Derived.Test.YtenbfeemmpjdhaaGreatDoorCards
import Derived.Test.YtenbfeemmpjdhaaGreatDoorTie
set_option linter.unusedSimpArgs false
set_option linter.unusedVariables false
set_option linter.defProp false
namespace Go.Proofs.YtenbfeemmpjdhaaGreatDoor
open Go Go.Hl Go.Pl
set_option maxRecDepth 10000
set_option maxHeartbeats 4000000
set_option linter.unusedSimpArgs false
set_option linter.unusedVariables false

theorem valid_law (raw : Rt) (L : List Int) (hraw : rRaw raw) : HPureG Tryz.prog 3 tabs [raw.cv, .slc (L.map (.int .i64))] (fun v => v = .bool true) := by
 refine hfn_walk (args := [.c raw.cv, .c (.slc (L.map (.int .i64)))]) Tryz.func3 rfl (by kernel_rfl) (locOk_tab tabs [raw.cv, .slc (L.map (.int .i64))]) (Nat.le_of_ble_eq_true rfl) ?_
 unfold tabOb
 refine R0 ?_
 refine hw_seq fun K hK => ?_
 refine hw_seq fun K hK => hw_region (by kernel_rfl) ?_
 simp only [sR, simprocAttr]
 iterate 2 refine S0 ?_ (e := fun K_ h_ => by simp only [sH, ↓sP, sA, tyS, simprocAttr, denilL_int]; exact AX h_)
 refine hlex_step (g := none) rfl rfl fun K' hK' => ?_
 simp only [sH, ↓sP, sA, tyS, simprocAttr, denilL_int]
 refine call_pure (args := [_, _]) (roots_ok raw L hraw) ⟨rfl, rfl, rfl, rfl⟩ ?_
 rintro u ⟨rs, rfl, h3, hrs⟩
 refine AX (hK' _ _ ?_)
 clear hK' K'
 iterate 2 refine S0 ?_ (e := fun K_ h_ => by simp only [sH, ↓sP, sA, tyS, simprocAttr, denilL_int]; exact AX h_)
 refine T2 (hK _ _ _ ?_)
 clear hK K
 refine hw_block ?_
 refine hw_loop (α := {i : Nat // i ≤ rs.length}) (fun i => (fin [(13, .c (.slc (rs.map Rt.cv))), (14, .c (.int .i64 rs.length)), (15, .c (.int .i64 i.1))], fob [(0, .tab tabs)])) 100 (fun i => rs.length - i.1) ⟨0, by omega⟩ (fF) ?_
 rintro ⟨i, hi⟩
 refine R0 ?_
 refine hw_seq fun K hK => ?_
 refine hw_cond (b := decide ((i : Int) < rs.length)) rfl (fun hb => ?_) (fun hb => ?_)
 ·
  have hlt : i < rs.length := by simpa using hb
  clear hb
  obtain ⟨r, hre⟩ : ∃ r, r = rs[i] := ⟨_, rfl⟩
  have hr := hrs r (by rw [hre]; exact List.getElem_mem hlt)
  have hrn : nth (rs.map Rt.cv) i = r.cv := by rw [nth_map hlt, hre]
  refine hw_skip ?_
  refine T0 (hK _ _ _ ?_)
  clear hK K
  refine hw_seq fun K hK => ?_
  refine hw_block ?_
  refine hw_seq fun K hK => hw_region (by kernel_rfl) ?_
  simp only [sR, simprocAttr]
  iterate 4 refine S0 ?_ (e := fun K_ h_ => by simp only [sH, ↓sP, sA, tyS, simprocAttr, Int.natCast_nonneg, Int.ofNat_lt, hlt, hrn, Rt.cells]; exact AX h_)
  refine T2 (hK _ _ _ ?_)
  clear hK K
  refine hw_seq fun K hK => hw_region (by kernel_rfl) ?_
  simp only [sR, simprocAttr]
  refine S0 ?_
  refine hlex_step (g := none) rfl rfl fun K' hK' => ?_
  simp only [sH, ↓sP, sA, tyS, simprocAttr]
  refine call_pureg2 (args := [_]) 0 (encr_ok r hr) rfl (by simp) ⟨rfl, rfl, rfl, rfl⟩ ?_
  rintro u v ⟨rfl, rfl⟩
  refine AX (hK' _ _ ?_)
  clear hK' K'
  iterate 5 refine S0 ?_
  refine T2 (hK _ _ _ ?_)
  clear hK K
  refine hw_seq fun K hK => hw_region (by kernel_rfl) ?_
  simp only [sR, simprocAttr]
  refine S0 ?_
  refine hlex_step (g := none) rfl rfl fun K' hK' => ?_
  simp only [sH, ↓sP, sA, tyS, simprocAttr]
  refine call_pure2 (args := [_]) (rencr_ok r hr) ⟨rfl, rfl, rfl, rfl⟩ ?_
  rintro u v ⟨rfl, rfl⟩
  refine AX (hK' _ _ ?_)
  clear hK' K'
  iterate 5 refine S0 ?_
  refine T2 (hK _ _ _ ?_)
  clear hK K
  refine hw_seq fun K hK => hw_draw2 mixed [(0, [], []), (2, [], []), (1, [], [2]), (3, [], []), (4, [], []), (5, [], []), (6, [], []), (7, [], []), (8, [], []), (9, [], []), (10, [], []), (11, [], []), (12, [], []), (13, [], []), (14, [], []), (15, [], []), (16, [], [])] [0, 1, 0, 7, 15, 31, 63, 63, 255, 511, 1023, 2047, 4095, 2047, 10239, 32767, 65535] (by kernel_rfl) (by kernel_rfl) (by kernel_rfl) (by kernel_rfl) rfl (by kernel_rfl) ?_
  iterate 2 refine W0 ?_ (e := fun K_ h_ => by simp only [sH, ↓sP, sA, tyS, simprocAttr, bytesC_map]; exact AX h_)
  refine hwalk2_step (g := none) rfl rfl fun K' hK' => ?_
  simp only [sH, ↓sP, sA, tyS, simprocAttr, bytesC_map]
  refine call_pure (args := [_]) (valid_ok r hr) ⟨rfl, rfl, rfl, rfl⟩ ?_
  rintro u rfl
  refine AX (hK' _ _ ?_)
  clear hK' K'
  refine hwalk2_step (g := none) rfl rfl fun K' hK' => ?_
  simp only [sH, ↓sP, sA, tyS, simprocAttr, bytesC_map]
  refine call_pure (args := [_]) (rvalid_ok r hr) ⟨rfl, rfl, rfl, rfl⟩ ?_
  rintro u rfl
  refine AX (hK' _ _ ?_)
  clear hK' K'
  iterate 2 refine W0 ?_ (e := fun K_ h_ => by simp only [sH, ↓sP, sA, tyS, simprocAttr, bytesC_map]; exact AX h_)
  iterate 3 refine W0 ?_ (e := fun K_ h_ => by simp only [sH, ↓sP, sA, tyS, simprocAttr, bytesC_map]; exact AX h_)
  iterate 2 refine W0 ?_ (e := fun K_ h_ => by simp only [sH, ↓sP, sA, tyS, simprocAttr, bytesC_map]; exact AX h_)
  iterate 5 refine W0 ?_ (e := fun K_ h_ => by simp only [sH, ↓sP, sA, tyS, simprocAttr, bytesC_map]; exact AX h_)
  refine W0 ?_ (e := fun K_ h_ => by simp only [sH, ↓sP, sA, tyS, simprocAttr, bytesC_map]; exact AX h_)
  refine T2 (hK _ _ _ ?_)
  clear hK K
  refine hw_cond (b := false) rfl (fun hb => ?_) (fun hb => ?_)
  ·
   cases hb
  refine hw_skip ?_
  refine T0 (hK _ _ _ ?_)
  clear hK K
  refine hw_region (by kernel_rfl) ?_
  simp only [↓sP, sA, tyS, simprocAttr, i64s i]
  refine ⟨⟨i + 1, hlt⟩, fF, ?_⟩
  show rs.length - (i + 1) < rs.length - i
  omega
 refine hw_exit ?_
 simp only [↓sP, sA, tyS, simprocAttr]
 clear hK K
 refine AX (hK _ _ _ ?_)
 clear hK K
 refine hw_seq fun K hK => hw_region (by kernel_rfl) ?_
 simp only [sR, simprocAttr]
 refine hlex_step (g := none) rfl rfl fun K' hK' => ?_
 simp only [sH, ↓sP, sA, tyS, simprocAttr]
 refine call_pure (args := []) awake_ok ⟨rfl, rfl, rfl, rfl⟩ ?_
 rintro u rfl
 refine AX (hK' _ _ ?_)
 clear hK' K'
 refine S0 ?_
 refine T2 (hK _ _ _ ?_)
 clear hK K
 refine hw_ret ?_
 simp only [hpost, Tryz.results3, hresL, hres1, tupOf, ↓sP, sA, tyS, simprocAttr]
 exact hret_pureg [] (.bool true) rfl rfl (by simp) rfl

end Go.Proofs.YtenbfeemmpjdhaaGreatDoor

namespace Go.Proofs.YtenbfeemmpjdhaaGreatDoor
open Go Go.Hl Go.Pl
set_option linter.unusedVariables false
set_option maxRecDepth 100000

theorem pow10_of_laid {W : World} (h : laidMetH Tryz.prog Rows.trustValidRow.laid W) : Lib.TabIs Tryz.prog W "internal/strconv.uint64pow10" .u64 Lib.pow10Tab := by
  rw [MakeChecks.laidMetH_plain _ _ _ (by kernel_rfl)] at h
  have h2 := laidMet.filter (fun x => x.1 == "internal/strconv.uint64pow10") h
  have e : (Rows.trustValidRow.laid.filter fun x => x.1 == "internal/strconv.uint64pow10") = [("internal/strconv.uint64pow10", Lib.tabData .u64 Lib.pow10Tab)] := by kernel_rfl
  rw [e] at h2
  exact Lib.tabIs_of_head pow10_g (by kernel_rfl) Tryz.underlying217 Tryz.underlying145 (by kernel_rfl) (by kernel_rfl) h2

theorem trustValid_contract (H : Type) (enc : TypeId × Value → H) (W : World) (args : Array Value) (ds gs : List (DataW H)) (before : List MemPlace)
    (hL : laidMetH Tryz.prog Rows.trustValidRow.laid W)
    (hval : ∀ (j : Nat) t v, Tryz.f3.params[j]? = some t → args[j]? = some v → Value.okWide Tryz.prog W .any 0 t v)
    (hW : DataW.Whole enc Tryz.prog Tryz.f3.params.toList Rows.trustValidSpec.vars false W args.toList ds gs before) :
    Calls Tryz.prog 3 args W fun e W' => ∃ v, e = .returned v ∧ Rows.trustValidSpec.post enc Tryz.prog Tryz.f3 false true false false W args v W' := by
  refine law_postg (mm := 6) (tb := 4) (tabs := tabs) (by kernel_rfl) kids slicesFull rfl (by kernel_rfl) Tryz.underlying4 ?_ ?_ ?_ ?_ (fun j t v h1 h2 => ?_) hW
  · rw [Tryz.params3]
    intro H ds h
    match ds, h with
    | [c0, c1], _ => exact ⟨rfl, rfl, rfl⟩
  · rw [Tryz.params3]
    intro t ht
    simp only [List.mem_cons, List.not_mem_nil, or_false] at ht
    rcases ht with rfl | rfl
    · exact ⟨by kernel_rfl, of_decide_eq_true (by kernel_rfl)⟩
    · exact ⟨by kernel_rfl, of_decide_eq_true (by kernel_rfl)⟩
  · rw [Tryz.params3]
    intro cs hn hty
    match cs, hn, hty with
    | [c0, c1], _, hty =>
      obtain ⟨raw, rfl, hraw⟩ := of_root (hty 0 _ c0 rfl rfl)
      obtain ⟨L, rfl, hw, hl⟩ := of_ints (hty 1 _ c1 rfl rfl)
      exact valid_law raw L hraw
  · intro x hx
    simp only [tabs, List.mem_cons, List.not_mem_nil, or_false] at hx
    rcases hx with rfl
    · exact heap_of_tabIs pow10_g (pow10_of_laid hL)
  · exact hval j t v h1 h2

open Go.ChangeShapes Go.WideShapes Go.ChangeAt Go.RowKit in
set_option maxRecDepth 100000 in
theorem trustValid_lifted (os : Os) (started : os.Started) (H : Type) (enc : TypeId × Value → H) :
    ReturnsInHanded {} Tryz.checked os 3 .any (fun w args => (Rows.trustValidSpec.pre enc Tryz.prog Tryz.f3 [] false w args ∧ laidMetH Tryz.prog Rows.trustValidRow.laid w) ∧ sizedMet enc Tryz.prog Tryz.f3 (OpenSpec.ofChange Rows.trustValidSpec) false w args)
      (Rows.trustValidSpec.post enc Tryz.prog Tryz.f3 false true false false) := by
  refine returnsInHanded_of_change_and (C := Tryz.checked) (X := fun w _ => laidMetH Tryz.prog Rows.trustValidRow.laid w) (fun _ _ _ hh h => h.of_heap hh) own started (by kernel_rfl) Tryz.func3
    (ChangeSpec.witness_shaped (enc := enc) (C := Tryz.checked) (os := os) (X := fun w _ => laidMetH Tryz.prog Rows.trustValidRow.laid w) false (World.laidAll Tryz.prog os Rows.trustValidRow.laid) #[.agg #[.int .i64 0, .int .i64 0, .slice none 0 0, .slice none 0 0, .slice none 0 0], .slice none 0 0] 8 (World.laidAll_os _ _ _)
      (World.shaped_of_ZipB (by kernel_rfl) (by kernel_rfl)) (by kernel_rfl) (by kernel_rfl) (by kernel_rfl)
      (by rw [MakeChecks.laidMetH_plain _ _ _ (by kernel_rfl)]; exact laidMet_laidAll _ (by kernel_rfl) (by kernel_rfl))) ?_
  intro W base args ds gs before hval hW _ _ hL _
  exact trustValid_contract H enc W args ds gs before hL (fun j t v h1 h2 => (hval j t v h1 h2)) hW

theorem trustValid_row : Rows.TrustValidSaid :=
  OpenClaim.holds_of_wide 3 Tryz.f3 rfl rfl rfl rfl rfl rfl rfl ⟨rfl, rfl, rfl, rfl, rfl⟩ rfl rfl rfl rfl rfl (by kernel_rfl) Tryz.func3 (by kernel_rfl)
    (of_decide_eq_true (by kernel_rfl)) (by unfold Func.isWrapper; first | (rw [if_pos (by decide +kernel)]; kernel_rfl) | (rw [if_neg (by decide +kernel)]; exact ⟨rfl, rfl⟩))
    (fun os started H enc _ => trustValid_lifted os started H enc)

theorem trustValid_said : Rows.TrustValidCardSaid :=
  Claim7.holds_tied_plain_at .later [] [.data, .data, .data] true (true, "a6004cba14d084c939e55818a9fd244e68653aaafb07118b80d6f1b0c2c3011d") true trustValid_row (fun _ h => by cases h) (by kernel_rfl) (fun _ h => by cases h) trustValid_row_tie rfl ⟨rfl, rfl⟩ (by kernel_rfl) rfl
    (fun f fn hf hfn => by
      obtain rfl : f = 3 := Option.some.inj ((show Tryz.prog.funcNamed "admission/admissionlaw11.TrustValid" = some 3 by kernel_rfl).symm.trans hf) |>.symm
      obtain rfl : fn = Tryz.f3 := (Option.some.inj (Tryz.func3.symm.trans hfn)).symm
      exact ⟨by kernel_rfl, fun j t ht => by
        rw [Tryz.params3] at ht
        have hm : t ∈ [26, 27] := by simpa using Array.mem_of_getElem? ht
        have hall : ([26, 27].all fun u => !Tryz.prog.wantsStandIn u) = true := by kernel_rfl
        exact (show Tryz.prog.wantsStandIn t = false by simpa using List.all_eq_true.1 hall t hm)⟩)
    (by kernel_rfl)
#print axioms trustValid_said
end Go.Proofs.YtenbfeemmpjdhaaGreatDoor
