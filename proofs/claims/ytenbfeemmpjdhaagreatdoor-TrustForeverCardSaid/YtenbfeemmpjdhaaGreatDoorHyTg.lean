/- Part of a proof: walks of functions of the program, by contracts, and the rules they use. By an AI agent. -/
import Derived.Test.YtenbfeemmpjdhaaGreatDoorHySq
import Derived.Test.YtenbfeemmpjdhaaGreatDoorPl11A
import Derived.Test.YtenbfeemmpjdhaaGreatDoorHlZb
import Derived.Test.YtenbfeemmpjdhaaGreatDoorPl11q
set_option linter.unusedSimpArgs false
set_option linter.unusedVariables false
set_option linter.defProp false
namespace Go.Proofs.YtenbfeemmpjdhaaGreatDoor
open Go Go.Hl Go.Pl
set_option maxRecDepth 10000
set_option maxHeartbeats 4000000
set_option linter.unusedSimpArgs false
set_option linter.unusedVariables false

theorem kept_ok (a b : Rt) (ha : a.x.length < 2 ^ 40) (hb' : b.x.length < 2 ^ 40) : HPure Tryz.prog 54 [a.cv, b.cv] (fun v => v = .bool (keptB a b)) := by
 refine hfn_walk Tryz.func54 rfl (by kernel_rfl) (locOk_nil _) (Nat.le_of_ble_eq_true rfl) ?_
 refine R0 ?_
 refine hw_seq fun K hK => ?_
 refine hw_seq fun K hK => Rg ?_
 iterate 4 refine S0 ?_
 refine T2 (hK _ _ _ ?_)
 clear hK K
 refine hw_block ?_
 refine hw_loop (α := {i : Nat // i ≤ a.x.length ∧ ∀ x ∈ a.x.take i, (!revS b.x x.k || decide (x.t < revZ b.x x.k)) = false}) (fun i => (fin [(3, .ptr 4 0), (10, .c (.slc (a.x.map Rv.cv))), (11, .c (.int .i64 a.x.length)), (12, .c (.int .i64 i.1))], fob [(4, .box 26 (.c b.cv))])) 100 (fun i => a.x.length - i.1) ⟨0, by omega, by simp⟩ (fF) ?_
 rintro ⟨i, hi, h0⟩
 refine R0 ?_
 refine hw_seq fun K hK => ?_
 refine hw_cond (b := decide ((i : Int) < a.x.length)) rfl (fun hb => ?_) (fun hb => ?_)
 ·
  have hlt : i < a.x.length := by simpa using hb
  clear hb
  refine hw_skip ?_
  refine T0 (hK _ _ _ ?_)
  clear hK K
  refine hw_seq fun K hK => ?_
  refine hw_block ?_
  refine hw_seq fun K hK => Rg ?_
  iterate 4 refine S0 ?_ (e := fun _ h_ => by simp only [sH, ↓sP, sA, tyS, simprocAttr, Int.natCast_nonneg, Int.ofNat_lt, hlt, nth_map hlt]; exact AX h_)
  refine T2 (hK _ _ _ ?_)
  clear hK K
  refine hw_seq fun K hK => Rg ?_
  iterate 3 refine S0 ?_
  refine hlex_step (g := none) rfl rfl fun K' hK' => ?_
  simp only [sH, ↓sP, sA, tyS, simprocAttr]
  refine call_pure2 (args := [_, _]) (revoked_ok b a.x[i].k hb') ⟨rfl, rfl, rfl, rfl⟩ ?_
  rintro u v ⟨rfl, rfl⟩
  refine AX (hK' _ _ ?_)
  clear hK' K'
  iterate 5 refine S0 ?_
  refine T2 (hK _ _ _ ?_)
  clear hK K
  refine hw_seq fun K hK => Rg ?_
  iterate 3 refine S0 ?_
  refine hlex_cases 23 rfl (fun h5_23 => ?_) (fun h5_23 => ?_)
  ·
   iterate 5 refine S0 ?_ (e := fun _ h_ => by simp only [sH, ↓sP, sA, tyS, simprocAttr, h5_23]; exact AX h_)
   refine hlex_cases 29 rfl (fun h5_29 => ?_) (fun h5_29 => ?_)
   ·
    simp only [h5_29]
    refine T2 (hK _ _ _ ?_)
    clear hK K
    refine hw_cond (b := true) rfl (fun hb => ?_) (fun hb => ?_)
    ·
     refine R0 ?_
     refine hw_ret ?_
     simp only [hpost, Tryz.results54, hresL, hres1, tupOf, ↓sP, sA, tyS, simprocAttr]
     exact hret_pure [] (.bool false) rfl (by rw [kept_miss hlt (by simp only [h5_23, h5_29, Bool.not_false, Bool.not_true, Bool.true_or, Bool.or_true, Bool.false_or])])
    cases hb
   simp only [h5_29]
   refine T2 (hK _ _ _ ?_)
   clear hK K
   refine hw_cond (b := false) rfl (fun hb => ?_) (fun hb => ?_)
   ·
    cases hb
   refine hw_skip ?_
   refine T0 (hK _ _ _ ?_)
   clear hK K
   refine hw_region (by kernel_rfl) ?_
   simp only [↓sP, sA, tyS, simprocAttr, i64s i]
   refine ⟨⟨i + 1, hlt, take_miss (p := fun x => (!revS b.x x.k || decide (x.t < revZ b.x x.k))) hlt (by simp only [h5_23, h5_29]; rfl) h0⟩, fF, ?_⟩
   show a.x.length - (i + 1) < a.x.length - i
   omega
  iterate 5 refine S0 ?_ (e := fun _ h_ => by simp only [sH, ↓sP, sA, tyS, simprocAttr, h5_23]; exact AX h_)
  refine T2 (hK _ _ _ ?_)
  clear hK K
  refine hw_cond (b := true) rfl (fun hb => ?_) (fun hb => ?_)
  ·
   refine R0 ?_
   refine hw_ret ?_
   simp only [hpost, Tryz.results54, hresL, hres1, tupOf, ↓sP, sA, tyS, simprocAttr]
   exact hret_pure [] (.bool false) rfl (by rw [kept_miss hlt (by simp only [h5_23, Bool.not_false, Bool.not_true, Bool.true_or, Bool.or_true, Bool.false_or])])
  cases hb
 refine hw_exit ?_
 simp only [↓sP, sA, tyS, simprocAttr]
 clear hK K
 refine AX (hK _ _ _ ?_)
 clear hK K
 refine R0 ?_
 refine hw_ret ?_
 simp only [hpost, Tryz.results54, hresL, hres1, tupOf, ↓sP, sA, tyS, simprocAttr]
 have hei : i = a.x.length := by simp at hb; omega
 subst hei
 rw [List.take_length] at h0
 exact hret_pure [] (.bool true) rfl (by rw [kept_all h0])


theorem rotate_ok (r : Rt) (b : Word) (l : List Dig) (t : Int) (hr : rSz r) (hlb : b.length < 2 ^ 40) (hll : l.length < 2 ^ 40) : HPure2 Tryz.prog 15 [r.cv, .slc (b.map u8), .slc (l.map dg), .int .i64 t] (fun u v => u = (rotO r b l t).cv ∧ v = .int .i64 (rotE r b l t)) := by
 refine hfn_walk Tryz.func15 rfl (by kernel_rfl) (locOk_nil _) (Nat.le_of_ble_eq_true rfl) ?_
 refine R0 ?_
 refine hw_seq fun K hK => ?_
 refine hw_seq fun K hK => Rg ?_
 refine S0 ?_
 refine hlex_step (g := none) rfl rfl fun K' hK' => ?_
 simp only [sH, ↓sP, sA, tyS, simprocAttr]
 refine call_pure (args := [_]) (valid_ok r hr) ⟨rfl, rfl, rfl, rfl⟩ ?_
 rintro u rfl
 refine AX (hK' _ _ ?_)
 clear hK' K'
 refine S0 ?_
 refine T2 (hK _ _ _ ?_)
 clear hK K
 refine hw_cond (b := !(validR r)) rfl (fun hb => ?_) (fun hb => ?_)
 ·
  refine R0 ?_
  refine hw_ret ?_
  simp only [hpost, Tryz.results15, hresL, hres1, tupOf, ↓sP, sA, tyS, simprocAttr]
  have hE : rotE r b l t = 1 := by unfold rotE; rw [if_pos (by simpa using hb)]
  exact hret_pure2 [] rt0.cv (.int .i64 1) rfl ⟨by unfold rotO; rw [if_neg (by rw [hE]; decide)], by rw [hE]⟩
 have h1 : ¬ validR r = false := by simpa using hb
 clear hb
 refine hw_skip ?_
 refine T0 (hK _ _ _ ?_)
 clear hK K
 refine hw_seq fun K hK => Rg ?_
 refine S0 ?_ (e := fun _ h_ => by simp only [sH, ↓sP, sA, tyS, simprocAttr, denilL_u8]; exact AX h_)
 refine hlex_step (g := none) rfl rfl fun K' hK' => ?_
 simp only [sH, ↓sP, sA, tyS, simprocAttr, denilL_u8]
 refine call_pure2 (args := [_]) (tdec_ok b hlb) ⟨rfl, rfl, rfl, rfl⟩ ?_
 rintro u v ⟨rfl, rfl⟩
 refine AX (hK' _ _ ?_)
 clear hK' K'
 iterate 6 refine S0 ?_ (e := fun _ h_ => by simp only [sH, ↓sP, sA, tyS, simprocAttr, denilL_u8]; exact AX h_)
 refine T2 (hK _ _ _ ?_)
 clear hK K
 refine hw_seq fun K hK => ?_
 refine hw_block ?_
 refine R0 ?_
 refine hw_cond (b := rootE b != 0) rfl (fun hb => ?_) (fun hb => ?_)
 ·
  refine hw_seq fun K hK => Rg ?_
  iterate 4 refine S0 ?_
  refine T2 (hK _ _ _ ?_)
  clear hK K
  refine hw_ret ?_
  simp only [hpost, Tryz.results15, hresL, hres1, tupOf, ↓sP, sA, tyS, simprocAttr]
  have h2 : rootE b ≠ 0 := by simpa using hb
  have hE : rotE r b l t = rootE b := by unfold rotE; rw [if_neg h1, if_pos h2]
  exact hret_pure2 [] rt0.cv (.int .i64 (rootE b)) rfl ⟨by unfold rotO; rw [if_neg (by rw [hE]; exact h2)], by rw [hE]⟩
 have h2 : ¬ rootE b ≠ 0 := by simpa using hb
 clear hb
 have hy := rootO_sz b
 refine hw_seq fun K hK => Rg ?_
 iterate 7 refine S0 ?_
 refine T2 (hK _ _ _ ?_)
 clear hK K
 refine hw_cond (b := (rootO b).v != IntKind.i64.wrap (r.v + 1)) rfl (fun hb => ?_) (fun hb => ?_)
 ·
  refine R0 ?_
  refine hw_ret ?_
  simp only [hpost, Tryz.results15, hresL, hres1, tupOf, ↓sP, sA, tyS, simprocAttr]
  have hE : rotE r b l t = 6 := by unfold rotE; rw [if_neg h1, if_neg h2, if_pos (by simpa using hb)]
  exact hret_pure2 [] rt0.cv (.int .i64 6) rfl ⟨by unfold rotO; rw [if_neg (by rw [hE]; decide)], by rw [hE]⟩
 have h3 : ¬ (rootO b).v ≠ IntKind.i64.wrap (r.v + 1) := by simpa using hb
 clear hb
 refine hw_seq fun K hK => Rg ?_
 iterate 2 refine S0 ?_
 refine hlex_step (g := none) rfl rfl fun K' hK' => ?_
 simp only [sH, ↓sP, sA, tyS, simprocAttr]
 refine call_pure (args := [_, _]) (kept_ok r (rootO b) hr.2.2 hy.2.2) ⟨rfl, rfl, rfl, rfl⟩ ?_
 rintro u rfl
 refine AX (hK' _ _ ?_)
 clear hK' K'
 iterate 2 refine S0 ?_
 refine T2 (hK _ _ _ ?_)
 clear hK K
 refine hw_cond (b := !(keptB r (rootO b))) rfl (fun hb => ?_) (fun hb => ?_)
 ·
  refine R0 ?_
  refine hw_ret ?_
  simp only [hpost, Tryz.results15, hresL, hres1, tupOf, ↓sP, sA, tyS, simprocAttr]
  have hE : rotE r b l t = 1 := by unfold rotE; rw [if_neg h1, if_neg h2, if_neg h3, if_pos (by simpa using hb)]
  exact hret_pure2 [] rt0.cv (.int .i64 1) rfl ⟨by unfold rotO; rw [if_neg (by rw [hE]; decide)], by rw [hE]⟩
 have h4 : ¬ keptB r (rootO b) = false := by simpa using hb
 clear hb
 refine hw_seq fun K hK => Rg ?_
 iterate 3 refine S0 ?_ (e := fun _ h_ => by simp only [sH, ↓sP, sA, tyS, simprocAttr, denilL_dg]; exact AX h_)
 refine hlex_step (g := none) rfl rfl fun K' hK' => ?_
 simp only [sH, ↓sP, sA, tyS, simprocAttr, denilL_dg]
 refine call_pure (args := [_, _, _, _]) (enough_ok r wRoot l t hr hll) ⟨rfl, rfl, rfl, rfl⟩ ?_
 rintro u rfl
 refine AX (hK' _ _ ?_)
 clear hK' K'
 iterate 2 refine S0 ?_ (e := fun _ h_ => by simp only [sH, ↓sP, sA, tyS, simprocAttr, denilL_dg]; exact AX h_)
 refine hlex_cases 44 rfl (fun h10_44 => ?_) (fun h10_44 => ?_)
 ·
  iterate 3 refine S0 ?_ (e := fun _ h_ => by simp only [sH, ↓sP, sA, tyS, simprocAttr, denilL_dg, h10_44]; exact AX h_)
  refine hlex_step (g := some (46, false)) rfl rfl fun K' hK' => ?_
  simp only [sH, ↓sP, sA, tyS, simprocAttr, denilL_dg, h10_44]
  refine call_pure (args := [_, _, _, _]) (enough_ok (rootO b) wRoot l t hy hll) ⟨rfl, rfl, rfl, rfl⟩ ?_
  rintro u rfl
  refine AX (hK' _ _ ?_)
  clear hK' K'
  iterate 3 refine S0 ?_ (e := fun _ h_ => by simp only [sH, ↓sP, sA, tyS, simprocAttr, denilL_dg, h10_44]; exact AX h_)
  refine hlex_cases 50 rfl (fun h10_50 => ?_) (fun h10_50 => ?_)
  ·
   simp only [h10_50]
   refine T2 (hK _ _ _ ?_)
   clear hK K
   refine hw_cond (b := false) rfl (fun hb => ?_) (fun hb => ?_)
   ·
    cases hb
   refine hw_skip ?_
   refine T0 (hK _ _ _ ?_)
   clear hK K
   refine R0 ?_
   refine hw_ret ?_
   simp only [hpost, Tryz.results15, hresL, hres1, tupOf, ↓sP, sA, tyS, simprocAttr]
   have hE : rotE r b l t = 0 := by unfold rotE; rw [if_neg h1, if_neg h2, if_neg h3, if_neg h4, if_pos (by simp only [h10_44, h10_50]; rfl)]
   refine hret_pure2 [] (rootO b).cv (.int .i64 0) ?_ ⟨by unfold rotO; rw [if_pos hE], by rw [hE]⟩
   simp [HV.close, HV.closeL, HV.norm, HV.toC, HV.toCL, CV.denil, Rt.denil]
  simp only [h10_50]
  refine T2 (hK _ _ _ ?_)
  clear hK K
  refine hw_cond (b := true) rfl (fun hb => ?_) (fun hb => ?_)
  ·
   refine R0 ?_
   refine hw_ret ?_
   simp only [hpost, Tryz.results15, hresL, hres1, tupOf, ↓sP, sA, tyS, simprocAttr]
   have hE : rotE r b l t = 7 := by unfold rotE; rw [if_neg h1, if_neg h2, if_neg h3, if_neg h4, if_neg (by simp only [h10_44, h10_50, Bool.and_false, Bool.false_and]; simp)]
   exact hret_pure2 [] rt0.cv (.int .i64 7) rfl ⟨by unfold rotO; rw [if_neg (by rw [hE]; decide)], by rw [hE]⟩
  cases hb
 iterate 7 refine S0 ?_ (e := fun _ h_ => by simp only [sH, ↓sP, sA, tyS, simprocAttr, denilL_dg, h10_44]; exact AX h_)
 refine T2 (hK _ _ _ ?_)
 clear hK K
 refine hw_cond (b := true) rfl (fun hb => ?_) (fun hb => ?_)
 ·
  refine R0 ?_
  refine hw_ret ?_
  simp only [hpost, Tryz.results15, hresL, hres1, tupOf, ↓sP, sA, tyS, simprocAttr]
  have hE : rotE r b l t = 7 := by unfold rotE; rw [if_neg h1, if_neg h2, if_neg h3, if_neg h4, if_neg (by simp only [h10_44, Bool.and_false, Bool.false_and]; simp)]
  exact hret_pure2 [] rt0.cv (.int .i64 7) rfl ⟨by unfold rotO; rw [if_neg (by rw [hE]; decide)], by rw [hE]⟩
 cases hb

end Go.Proofs.YtenbfeemmpjdhaaGreatDoor

namespace Go.Proofs.YtenbfeemmpjdhaaGreatDoor
open Go Go.Hl Go.Pl
set_option maxRecDepth 10000
set_option maxHeartbeats 8000000
set_option linter.unusedSimpArgs false
set_option linter.unusedVariables false

theorem rowners_ok (r : Rt) (role : Word) (hr : rSz r) : HPure Tryz.prog 44 [r.cv, .str role] (fun v => v = .slc ((ownB r.k role fun _ => true).map .str)) := by
 have hlk : r.k.length < 2 ^ 40 := hr.2.1.1
 refine hfn_walk Tryz.func44 rfl (by kernel_rfl) (locOk_nil _) (Nat.le_of_ble_eq_true rfl) ?_
 refine R0 ?_
 refine R0 ?_
 refine hw_seq fun K hK => ?_
 refine R0 ?_
 refine hw_block ?_
 refine hw_close [] ?_
 refine hw_loop (α := {i : Nat // i ≤ r.k.length}) (fun i => (fin [(1, .c (.str role)), (2, .ptr 0 0), (5, .c (.slc ((setW (ownF (r.k.take i.1) role fun _ => true)).map .str))), (6, .c (.int .i64 i.1))], fob [(0, .box 26 (.c r.cv))])) 100 (fun i => r.k.length - i.1) ⟨0, by omega⟩ (fits_fin (by omega) (by simp [FinOk, clF_at, fin_at, finA_at, upd_at, fob_at, HV.close, CV.denil, denilL_str, HV.men, HV.menL, HV.norm, HV.toC, HV.toCL, ownF, setW]) (by simp [FobOk, clO_at, fob_at, upd_at, none0_at, gone, HO.close, HV.close, HO.men, HV.men, HV.menL, HV.norm, HV.toC, HV.toCL, Rt.denil])) ?_
 rintro ⟨i, hi⟩
 have hof := ownF_len (r.k.take i) role fun _ => true
 have hti : (r.k.take i).length = i := by simp; omega
 have hsl := setW_len (ownF (r.k.take i) role fun _ => true)
 refine hw_seq fun K hK => ?_
 refine hw_seq fun K hK => Rg ?_
 iterate 5 refine S0 ?_
 refine T2 (hK _ _ _ ?_)
 clear hK K
 refine hw_cond (b := decide ((i : Int) < r.k.length)) rfl (fun hb => ?_) (fun hb => ?_)
 ·
  have hlt : i < r.k.length := by simpa using hb
  have hk := hr.2.1.2 _ (List.getElem_mem hlt)
  refine hw_skip ?_
  refine T0 (hK _ _ _ ?_)
  clear hK K
  refine hw_seq fun K hK => ?_
  have key : ∀ (m : List Word) fr ob nx, m = setW (ownF (r.k.take (i + 1)) role fun _ => true) → Fits 0 fr ob (fin [(1, .c (.str role)), (2, .ptr 0 0), (5, .c (.slc (m.map .str))), (6, .c (.int .i64 i))]) (fob [(0, .box 26 (.c r.cv))]) 500 → K fr ob nx := by
   rintro m fr ob nx rfl hf
   refine hK _ _ _ (hw_fits hf ?_)
   clear hf hK K
   refine hw_region (by kernel_rfl) ?_
   simp only [↓sP, sA, tyS, simprocAttr, i64s i]
   refine ⟨⟨i + 1, hlt⟩, fF, ?_⟩
   show r.k.length - (i + 1) < r.k.length - i
   omega
  refine hw_block ?_
  refine hw_seq fun K hK => Rg ?_
  iterate 7 refine S0 ?_ (e := fun _ h_ => by simp only [sH, ↓sP, sA, tyS, simprocAttr, Int.natCast_nonneg, Int.ofNat_lt, hlt, nth_map hlt]; exact AX h_)
  refine hlex_step (g := none) rfl rfl fun K' hK' => ?_
  simp only [sH, ↓sP, sA, tyS, simprocAttr, Int.natCast_nonneg, Int.ofNat_lt, hlt, nth_map hlt]
  refine call_pure (args := [_, _]) (has_ok r.k[i].rs role (by have := hk.2.1; omega)) ⟨rfl, rfl, rfl, rfl⟩ ?_
  rintro u rfl
  refine AX (hK' _ _ ?_)
  clear hK' K'
  refine T2 (hK _ _ _ ?_)
  clear hK K
  refine hw_cond (b := r.k[i].rs.contains role) rfl (fun hb => ?_) (fun hb => ?_)
  ·
   refine hw_region (by kernel_rfl) ?_
   simp only [sR, simprocAttr]
   iterate 7 refine S0 ?_ (e := fun _ h_ => by simp only [sH, ↓sP, sA, tyS, simprocAttr, Int.natCast_nonneg, Int.ofNat_lt, hlt, nth_map hlt]; exact AX h_)
   refine hlex_step (g := none) rfl rfl fun K' hK' => ?_
   simp only [sH, ↓sP, sA, tyS, simprocAttr, Int.natCast_nonneg, Int.ofNat_lt, hlt, nth_map hlt]
   refine call_pure (args := [_, _]) (add_ok (setW (ownF (r.k.take i) role fun _ => true)) r.k[i].o (by omega)) ⟨rfl, rfl, rfl, rfl⟩ ?_
   rintro u rfl
   refine AX (hK' _ _ ?_)
   clear hK' K'
   refine S0 ?_ (e := fun _ h_ => by simp only [sH, ↓sP, sA, tyS, simprocAttr, Int.natCast_nonneg, Int.ofNat_lt, hlt, nth_map hlt]; exact AX h_)
   simp only [sE, ↓reduceIte, simprocAttr]
   exact key (addW (setW (ownF (r.k.take i) role fun _ => true)) r.k[i].o) _ _ _ (by rw [ownF_take hlt, hb]; simp only [Bool.and_true, if_true]; rw [setW_snoc]) (fF)
  refine hw_skip ?_
  simp only [↓sP, sA, tyS, simprocAttr]
  exact key (setW (ownF (r.k.take i) role fun _ => true)) _ _ _ (by rw [ownF_take hlt, hb]; simp) (fF)
 refine hw_exit ?_
 simp only [↓sP, sA, tyS, simprocAttr]
 clear hK K
 refine AX (hK _ _ _ ?_)
 clear hK K
 refine R0 ?_
 refine hw_ret ?_
 simp only [hpost, Tryz.results44, hresL, hres1, tupOf, ↓sP, sA, tyS, simprocAttr]
 have hei : i = r.k.length := by simp at hb; omega
 subst hei
 rw [List.take_length]
 exact hret_pure [] (.slc ((ownB r.k role fun _ => true).map .str)) (close_c (by simp only [CV.denil, denilL_str])) rfl


theorem rvalid_ok (r : Rt) (hr : rSz r) : HPure Tryz.prog 11 [r.cv] (fun v => v = .bool (validR r)) := by
 have hlq : r.q.length < 2 ^ 40 := hr.1.1
 have hlk : r.k.length < 2 ^ 40 := hr.2.1.1
 have hlx : r.x.length < 2 ^ 40 := hr.2.2
 refine hfn_walk Tryz.func11 rfl (by kernel_rfl) (locOk_nil _) (Nat.le_of_ble_eq_true rfl) ?_
 refine R0 ?_
 refine hw_seq fun K hK => ?_
 refine hw_seq fun K hK => Rg ?_
 iterate 4 refine S0 ?_
 refine hlex_cases 10 rfl (fun h1_10 => ?_) (fun h1_10 => ?_)
 ·
  iterate 28 refine S0 ?_ (e := fun _ h_ => by simp only [sH, ↓sP, sA, tyS, simprocAttr, h1_10]; exact AX h_)
  refine T2 (hK _ _ _ ?_)
  clear hK K
  refine hw_cond (b := true) rfl (fun hb => ?_) (fun hb => ?_)
  ·
   refine R0 ?_
   refine hw_ret ?_
   simp only [hpost, Tryz.results11, hresL, hres1, tupOf, ↓sP, sA, tyS, simprocAttr]
   exact hret_pure [] (.bool false) rfl (by simp only [valid_ref, quotasB_big, keysB_big, revsB_big, h1_10, Bool.not_true, Bool.not_false, Bool.and_true, Bool.and_false, Bool.true_and, Bool.false_and])
  cases hb
 iterate 5 refine S0 ?_ (e := fun _ h_ => by simp only [sH, ↓sP, sA, tyS, simprocAttr, h1_10]; exact AX h_)
 refine hlex_cases 14 rfl (fun h1_14 => ?_) (fun h1_14 => ?_)
 ·
  iterate 23 refine S0 ?_ (e := fun _ h_ => by simp only [sH, ↓sP, sA, tyS, simprocAttr, h1_10, h1_14]; exact AX h_)
  refine T2 (hK _ _ _ ?_)
  clear hK K
  refine hw_cond (b := true) rfl (fun hb => ?_) (fun hb => ?_)
  ·
   refine R0 ?_
   refine hw_ret ?_
   simp only [hpost, Tryz.results11, hresL, hres1, tupOf, ↓sP, sA, tyS, simprocAttr]
   exact hret_pure [] (.bool false) rfl (by simp only [valid_ref, quotasB_big, keysB_big, revsB_big, h1_10, h1_14, Bool.not_true, Bool.not_false, Bool.and_true, Bool.and_false, Bool.true_and, Bool.false_and])
  cases hb
 iterate 2 refine S0 ?_ (e := fun _ h_ => by simp only [sH, ↓sP, sA, tyS, simprocAttr, h1_10, h1_14]; exact AX h_)
 refine hlex_step (g := some (16, false)) rfl rfl fun K' hK' => ?_
 simp only [sH, ↓sP, sA, tyS, simprocAttr, h1_10, h1_14]
 refine call_pure (args := [_]) (instant_ok r.e) ⟨rfl, rfl, rfl, rfl⟩ ?_
 rintro u rfl
 refine AX (hK' _ _ ?_)
 clear hK' K'
 iterate 3 refine S0 ?_ (e := fun _ h_ => by simp only [sH, ↓sP, sA, tyS, simprocAttr, h1_10, h1_14]; exact AX h_)
 refine hlex_cases 19 rfl (fun h1_19 => ?_) (fun h1_19 => ?_)
 ·
  iterate 6 refine S0 ?_ (e := fun _ h_ => by simp only [sH, ↓sP, sA, tyS, simprocAttr, h1_10, h1_14, h1_19]; exact AX h_)
  refine hlex_cases 26 rfl (fun h1_26 => ?_) (fun h1_26 => ?_)
  ·
   iterate 11 refine S0 ?_ (e := fun _ h_ => by simp only [sH, ↓sP, sA, tyS, simprocAttr, h1_10, h1_14, h1_19, h1_26]; exact AX h_)
   refine T2 (hK _ _ _ ?_)
   clear hK K
   refine hw_cond (b := true) rfl (fun hb => ?_) (fun hb => ?_)
   ·
    refine R0 ?_
    refine hw_ret ?_
    simp only [hpost, Tryz.results11, hresL, hres1, tupOf, ↓sP, sA, tyS, simprocAttr]
    exact hret_pure [] (.bool false) rfl (by simp only [valid_ref, quotasB_big, keysB_big, revsB_big, h1_10, h1_14, h1_19, h1_26, Bool.not_true, Bool.not_false, Bool.and_true, Bool.and_false, Bool.true_and, Bool.false_and])
   cases hb
  iterate 6 refine S0 ?_ (e := fun _ h_ => by simp only [sH, ↓sP, sA, tyS, simprocAttr, h1_10, h1_14, h1_19, h1_26]; exact AX h_)
  refine hlex_cases 32 rfl (fun h1_32 => ?_) (fun h1_32 => ?_)
  ·
   iterate 5 refine S0 ?_ (e := fun _ h_ => by simp only [sH, ↓sP, sA, tyS, simprocAttr, h1_10, h1_14, h1_19, h1_26, h1_32]; exact AX h_)
   refine T2 (hK _ _ _ ?_)
   clear hK K
   refine hw_cond (b := true) rfl (fun hb => ?_) (fun hb => ?_)
   ·
    refine R0 ?_
    refine hw_ret ?_
    simp only [hpost, Tryz.results11, hresL, hres1, tupOf, ↓sP, sA, tyS, simprocAttr]
    exact hret_pure [] (.bool false) rfl (by simp only [valid_ref, quotasB_big, keysB_big, revsB_big, h1_10, h1_14, h1_19, h1_26, h1_32, Bool.not_true, Bool.not_false, Bool.and_true, Bool.and_false, Bool.true_and, Bool.false_and])
   cases hb
  iterate 5 refine S0 ?_ (e := fun _ h_ => by simp only [sH, ↓sP, sA, tyS, simprocAttr, h1_10, h1_14, h1_19, h1_26, h1_32]; exact AX h_)
  refine hlex_cases 38 rfl (fun h1_38 => ?_) (fun h1_38 => ?_)
  ·
   simp only [h1_38]
   refine T2 (hK _ _ _ ?_)
   clear hK K
   refine hw_cond (b := true) rfl (fun hb => ?_) (fun hb => ?_)
   ·
    refine R0 ?_
    refine hw_ret ?_
    simp only [hpost, Tryz.results11, hresL, hres1, tupOf, ↓sP, sA, tyS, simprocAttr]
    exact hret_pure [] (.bool false) rfl (by simp only [valid_ref, quotasB_big, keysB_big, revsB_big, h1_10, h1_14, h1_19, h1_26, h1_32, h1_38, Bool.not_true, Bool.not_false, Bool.and_true, Bool.and_false, Bool.true_and, Bool.false_and])
   cases hb
  simp only [h1_38]
  refine T2 (hK _ _ _ ?_)
  clear hK K
  refine hw_cond (b := false) rfl (fun hb => ?_) (fun hb => ?_)
  ·
   cases hb
  refine hw_skip ?_
  refine T0 (hK _ _ _ ?_)
  clear hK K
  refine hw_seq fun K hK => ?_
  refine R0 ?_
  refine hw_block ?_
  refine hw_loop (α := {i : Nat // i ≤ r.q.length ∧ GoodTo quotaB (fun a b => slt a.r b.r) r.q i}) (fun i => (fin [(1, .ptr 0 0), (3, .c (.int .i64 i.1))], fob [(0, .box 26 (.c r.cv))])) 200 (fun i => r.q.length - i.1) ⟨0, by omega, GoodTo.zero⟩ (fF) ?_
  rintro ⟨i, hi, h0⟩
  refine hw_seq fun K hK => ?_
  refine hw_seq fun K hK => Rg ?_
  iterate 5 refine S0 ?_ (e := fun _ h_ => by simp only [sH, ↓sP, sA, tyS, simprocAttr, h1_10, h1_14, h1_19, h1_26, h1_32, h1_38]; exact AX h_)
  refine T2 (hK _ _ _ ?_)
  clear hK K
  refine hw_cond (b := decide ((i : Int) < r.q.length)) rfl (fun hb => ?_) (fun hb => ?_)
  ·
   have hlt : i < r.q.length := by simpa using hb
   have hi1 : i - 1 < r.q.length := by omega
   have hm : decide ((0 : Int) < (i : Int)) = true → IntKind.i64.wrap ((i : Int) - 1) = ((i - 1 : Nat) : Int) := fun h => by
    have : 0 < i := by simpa using h
    rw [IntWalk.i64_in _ (by omega)]; omega
   refine hw_skip ?_
   refine T0 (hK _ _ _ ?_)
   clear hK K
   refine hw_seq fun K hK => ?_
   refine hw_block ?_
   refine hw_seq fun K hK => Rg ?_
   iterate 7 refine S0 ?_ (e := fun _ h_ => by simp only [sH, ↓sP, sA, tyS, simprocAttr, Int.natCast_nonneg, Int.ofNat_lt, hlt, nth_map hlt, h1_10, h1_14, h1_19, h1_26, h1_32, h1_38]; exact AX h_)
   refine T2 (hK _ _ _ ?_)
   clear hK K
   refine hw_seq fun K hK => hw_draw2 mixed [(0, [], []), (1, [], []), (2, [], []), (3, [], []), (4, [], []), (5, [], []), (6, [], []), (7, [], []), (8, [], []), (9, [], []), (10, [], []), (11, [], []), (12, [], []), (13, [], []), (14, [], []), (15, [], []), (16, [], []), (17, [], []), (18, [], []), (19, [], []), (20, [], []), (21, [], []), (22, [], []), (23, [], []), (24, [], []), (25, [], []), (26, [], []), (27, [], []), (28, [], []), (29, [], [])] [0, 1, 3, 7, 15, 31, 63, 127, 255, 511, 1023, 2047, 4095, 8191, 16383, 32767, 65535, 131071, 262143, 524287, 262143, 1310719, 4194303, 8388607, 16777215, 262143, 33816575, 134217727, 268435455, 536870911] (by kernel_rfl) (by kernel_rfl) (by kernel_rfl) (by kernel_rfl) rfl (by kernel_rfl) ?_
   iterate 2 refine W0 ?_ (e := fun _ h_ => by simp only [sH, ↓sP, sA, tyS, simprocAttr, hm, Int.natCast_nonneg, Int.ofNat_lt, hi1, nth_map hi1, h1_10, h1_14, h1_19, h1_26, h1_32, h1_38]; exact AX h_)
   refine hwalk2_step (g := none) rfl rfl fun K' hK' => ?_
   simp only [sH, ↓sP, sA, tyS, simprocAttr, hm, Int.natCast_nonneg, Int.ofNat_lt, hi1, nth_map hi1, h1_10, h1_14, h1_19, h1_26, h1_32, h1_38]
   refine call_pure (args := [_]) (rname_ok r.q[i].r (hr.1.2 _ (List.getElem_mem hlt))) ⟨rfl, rfl, rfl, rfl⟩ ?_
   rintro u rfl
   refine AX (hK' _ _ ?_)
   clear hK' K'
   iterate 2 refine W0 ?_ (e := fun _ h_ => by simp only [sH, ↓sP, sA, tyS, simprocAttr, hm, Int.natCast_nonneg, Int.ofNat_lt, hi1, nth_map hi1, h1_10, h1_14, h1_19, h1_26, h1_32, h1_38]; exact AX h_)
   refine hwalk2_cases 54 rfl (fun h7_54 => ?_) (fun h7_54 => ?_)
   ·
    iterate 5 refine W0 ?_ (e := fun _ h_ => by simp only [sH, ↓sP, sA, tyS, simprocAttr, hm, Int.natCast_nonneg, Int.ofNat_lt, hi1, nth_map hi1, h1_10, h1_14, h1_19, h1_26, h1_32, h1_38, h7_54]; exact AX h_)
    refine hwalk2_cases 59 rfl (fun h7_59 => ?_) (fun h7_59 => ?_)
    ·
     iterate 20 refine W0 ?_ (e := fun _ h_ => by simp only [sH, ↓sP, sA, tyS, simprocAttr, hm, Int.natCast_nonneg, Int.ofNat_lt, hi1, nth_map hi1, h1_10, h1_14, h1_19, h1_26, h1_32, h1_38, h7_54, h7_59]; exact AX h_)
     refine T2 (hK _ _ _ ?_)
     clear hK K
     refine hw_cond (b := true) rfl (fun hb => ?_) (fun hb => ?_)
     ·
      refine R0 ?_
      refine hw_ret ?_
      simp only [hpost, Tryz.results11, hresL, hres1, tupOf, ↓sP, sA, tyS, simprocAttr]
      have hbad : quotasB r.q = false := by rw [quotasB_eq, bad_one hlt (by simp only [quotaB_code, h1_10, h1_14, h1_19, h1_26, h1_32, h1_38, h7_54, h7_59, Bool.not_true, Bool.not_false, Bool.false_and, Bool.and_false]), Bool.false_and]
      exact hret_pure [] (.bool false) rfl (by simp only [valid_ref, hbad, Bool.and_false, Bool.false_and])
     cases hb
    iterate 5 refine W0 ?_ (e := fun _ h_ => by simp only [sH, ↓sP, sA, tyS, simprocAttr, hm, Int.natCast_nonneg, Int.ofNat_lt, hi1, nth_map hi1, h1_10, h1_14, h1_19, h1_26, h1_32, h1_38, h7_54, h7_59]; exact AX h_)
    refine hwalk2_cases 64 rfl (fun h7_64 => ?_) (fun h7_64 => ?_)
    ·
     iterate 15 refine W0 ?_ (e := fun _ h_ => by simp only [sH, ↓sP, sA, tyS, simprocAttr, hm, Int.natCast_nonneg, Int.ofNat_lt, hi1, nth_map hi1, h1_10, h1_14, h1_19, h1_26, h1_32, h1_38, h7_54, h7_59, h7_64]; exact AX h_)
     refine T2 (hK _ _ _ ?_)
     clear hK K
     refine hw_cond (b := true) rfl (fun hb => ?_) (fun hb => ?_)
     ·
      refine R0 ?_
      refine hw_ret ?_
      simp only [hpost, Tryz.results11, hresL, hres1, tupOf, ↓sP, sA, tyS, simprocAttr]
      have hbad : quotasB r.q = false := by rw [quotasB_eq, bad_one hlt (by simp only [quotaB_code, h1_10, h1_14, h1_19, h1_26, h1_32, h1_38, h7_54, h7_59, h7_64, Bool.not_true, Bool.not_false, Bool.false_and, Bool.and_false]), Bool.false_and]
      exact hret_pure [] (.bool false) rfl (by simp only [valid_ref, hbad, Bool.and_false, Bool.false_and])
     cases hb
    iterate 3 refine W0 ?_ (e := fun _ h_ => by simp only [sH, ↓sP, sA, tyS, simprocAttr, hm, Int.natCast_nonneg, Int.ofNat_lt, hi1, nth_map hi1, h1_10, h1_14, h1_19, h1_26, h1_32, h1_38, h7_54, h7_59, h7_64]; exact AX h_)
    refine hwalk2_cases 68 rfl (fun h7_68 => ?_) (fun h7_68 => ?_)
    ·
     iterate 12 refine W0 ?_ (e := fun _ h_ => by simp only [sH, ↓sP, sA, tyS, simprocAttr, hm, Int.natCast_nonneg, Int.ofNat_lt, hi1, nth_map hi1, h1_10, h1_14, h1_19, h1_26, h1_32, h1_38, h7_54, h7_59, h7_64, h7_68]; exact AX h_)
     refine hwalk2_cases 79 rfl (fun h7_79 => ?_) (fun h7_79 => ?_)
     ·
      simp only [h7_79]
      refine T2 (hK _ _ _ ?_)
      clear hK K
      refine hw_cond (b := true) rfl (fun hb => ?_) (fun hb => ?_)
      ·
       refine R0 ?_
       refine hw_ret ?_
       simp only [hpost, Tryz.results11, hresL, hres1, tupOf, ↓sP, sA, tyS, simprocAttr]
       obtain ⟨j, rfl⟩ : ∃ j, i = j + 1 := ⟨i - 1, by simp at h7_68; omega⟩
       have hbad : quotasB r.q = false := by rw [quotasB_eq, bad_two (i := j) hlt (by simpa using h7_79), Bool.false_and]
       exact hret_pure [] (.bool false) rfl (by simp only [valid_ref, hbad, Bool.and_false, Bool.false_and])
      cases hb
     simp only [h7_79]
     refine T2 (hK _ _ _ ?_)
     clear hK K
     refine hw_cond (b := false) rfl (fun hb => ?_) (fun hb => ?_)
     ·
      cases hb
     refine hw_skip ?_
     refine T0 (hK _ _ _ ?_)
     clear hK K
     refine hw_region (by kernel_rfl) ?_
     simp only [↓sP, sA, tyS, simprocAttr, i64s i]
     obtain ⟨j, rfl⟩ : ∃ j, i = j + 1 := ⟨i - 1, by simp at h7_68; omega⟩
     refine ⟨⟨j + 1 + 1, hlt, h0.succ hlt (by simp only [quotaB_code, h1_10, h1_14, h1_19, h1_26, h1_32, h1_38, h7_54, h7_59, h7_64, h7_68, h7_79]; rfl) (by simpa using h7_79)⟩, fF, ?_⟩
     show r.q.length - (j + 1 + 1) < r.q.length - (j + 1)
     omega
    iterate 12 refine W0 ?_ (e := fun _ h_ => by simp only [sH, ↓sP, sA, tyS, simprocAttr, hm, Int.natCast_nonneg, Int.ofNat_lt, hi1, nth_map hi1, h1_10, h1_14, h1_19, h1_26, h1_32, h1_38, h7_54, h7_59, h7_64, h7_68]; exact AX h_)
    refine T2 (hK _ _ _ ?_)
    clear hK K
    refine hw_cond (b := false) rfl (fun hb => ?_) (fun hb => ?_)
    ·
     cases hb
    refine hw_skip ?_
    refine T0 (hK _ _ _ ?_)
    clear hK K
    refine hw_region (by kernel_rfl) ?_
    simp only [↓sP, sA, tyS, simprocAttr, i64s i]
    obtain rfl : i = 0 := by simp at h7_68; omega
    refine ⟨⟨1, hlt, GoodTo.one hlt (by simp only [quotaB_code, h1_10, h1_14, h1_19, h1_26, h1_32, h1_38, h7_54, h7_59, h7_64, h7_68]; rfl)⟩, fF, ?_⟩
    show r.q.length - 1 < r.q.length - 0
    omega
   iterate 25 refine W0 ?_ (e := fun _ h_ => by simp only [sH, ↓sP, sA, tyS, simprocAttr, hm, Int.natCast_nonneg, Int.ofNat_lt, hi1, nth_map hi1, h1_10, h1_14, h1_19, h1_26, h1_32, h1_38, h7_54]; exact AX h_)
   refine T2 (hK _ _ _ ?_)
   clear hK K
   refine hw_cond (b := true) rfl (fun hb => ?_) (fun hb => ?_)
   ·
    refine R0 ?_
    refine hw_ret ?_
    simp only [hpost, Tryz.results11, hresL, hres1, tupOf, ↓sP, sA, tyS, simprocAttr]
    have hbad : quotasB r.q = false := by rw [quotasB_eq, bad_one hlt (by simp only [quotaB_code, h1_10, h1_14, h1_19, h1_26, h1_32, h1_38, h7_54, Bool.not_true, Bool.not_false, Bool.false_and, Bool.and_false]), Bool.false_and]
    exact hret_pure [] (.bool false) rfl (by simp only [valid_ref, hbad, Bool.and_false, Bool.false_and])
   cases hb
  refine hw_exit ?_
  simp only [↓sP, sA, tyS, simprocAttr]
  clear hK K
  refine AX (hK _ _ _ ?_)
  clear hK K
  refine hw_seq fun K hK => ?_
  refine R0 ?_
  refine hw_block ?_
  have hei : i = r.q.length := by simp at hb; omega
  subst hei
  have hq := quotasB_ok h1_26 h0
  clear hb h0 hi
  refine hw_loop (α := {i : Nat // i ≤ r.k.length ∧ GoodTo keyB (fun a b => dlt (kid a) (kid b)) r.k i}) (fun i => (fin [(1, .ptr 0 0), (5, .c (.int .i64 i.1))], fob [(0, .box 26 (.c r.cv))])) 300 (fun i => r.k.length - i.1) ⟨0, by omega, GoodTo.zero⟩ (fF) ?_
  rintro ⟨i, hi, h0⟩
  refine hw_seq fun K hK => ?_
  refine hw_seq fun K hK => Rg ?_
  iterate 5 refine S0 ?_ (e := fun _ h_ => by simp only [sH, ↓sP, sA, tyS, simprocAttr, h1_10, h1_14, h1_19, h1_26, h1_32, h1_38]; exact AX h_)
  refine T2 (hK _ _ _ ?_)
  clear hK K
  refine hw_cond (b := decide ((i : Int) < r.k.length)) rfl (fun hb => ?_) (fun hb => ?_)
  ·
   have hlt : i < r.k.length := by simpa using hb
   have hk := hr.2.1.2 _ (List.getElem_mem hlt)
   have hi1 : i - 1 < r.k.length := by omega
   have hm : decide ((0 : Int) < (i : Int)) = true → IntKind.i64.wrap ((i : Int) - 1) = ((i - 1 : Nat) : Int) := fun h => by
    have : 0 < i := by simpa using h
    rw [IntWalk.i64_in _ (by omega)]; omega
   refine hw_skip ?_
   refine T0 (hK _ _ _ ?_)
   clear hK K
   refine hw_seq fun K hK => ?_
   refine hw_block ?_
   refine hw_seq fun K hK => hw_draw2 mixed [(0, [], []), (1, [], []), (2, [], []), (3, [], []), (4, [], []), (5, [], []), (6, [], []), (7, [], []), (8, [], []), (9, [], []), (10, [], []), (11, [], []), (12, [], []), (13, [], []), (14, [], []), (15, [], []), (16, [], []), (17, [], []), (19, [], []), (20, [], []), (21, [], []), (22, [], []), (23, [], []), (24, [], []), (18, [], [19, 20, 21, 22, 23, 24]), (25, [], []), (26, [], []), (27, [], []), (28, [], []), (29, [], [])] [0, 1, 0, 7, 15, 31, 63, 127, 255, 511, 1023, 2047, 4095, 2047, 10239, 32767, 65535, 131071, 262143, 2047, 526335, 2047, 3672063, 7866367, 16254975, 33554431, 67108863, 134217727, 268435455, 536870911] (by kernel_rfl) (by kernel_rfl) (by kernel_rfl) (by kernel_rfl) rfl (by kernel_rfl) ?_
   iterate 5 refine W0 ?_ (e := fun _ h_ => by simp only [sH, ↓sP, sA, tyS, simprocAttr, hm, Int.natCast_nonneg, Int.ofNat_lt, hlt, nth_map hlt, hi1, nth_map hi1, h1_10, h1_14, h1_19, h1_26, h1_32, h1_38]; exact AX h_)
   refine hwalk2_step (g := none) rfl rfl fun K' hK' => ?_
   simp only [sH, ↓sP, sA, tyS, simprocAttr, hm, Int.natCast_nonneg, Int.ofNat_lt, hlt, nth_map hlt, hi1, nth_map hi1, h1_10, h1_14, h1_19, h1_26, h1_32, h1_38]
   refine call_pure (args := [_]) (rkey_ok r.k[i] hk) ⟨rfl, rfl, rfl, rfl⟩ ?_
   rintro u rfl
   refine AX (hK' _ _ ?_)
   clear hK' K'
   iterate 2 refine W0 ?_ (e := fun _ h_ => by simp only [sH, ↓sP, sA, tyS, simprocAttr, hm, Int.natCast_nonneg, Int.ofNat_lt, hlt, nth_map hlt, hi1, nth_map hi1, h1_10, h1_14, h1_19, h1_26, h1_32, h1_38]; exact AX h_)
   refine hwalk2_cases 94 rfl (fun h12_94 => ?_) (fun h12_94 => ?_)
   ·
    iterate 3 refine W0 ?_ (e := fun _ h_ => by simp only [sH, ↓sP, sA, tyS, simprocAttr, hm, Int.natCast_nonneg, Int.ofNat_lt, hlt, nth_map hlt, hi1, nth_map hi1, h1_10, h1_14, h1_19, h1_26, h1_32, h1_38, h12_94]; exact AX h_)
    refine hwalk2_cases 98 rfl (fun h12_98 => ?_) (fun h12_98 => ?_)
    ·
     iterate 13 refine W0 ?_ (e := fun _ h_ => by simp only [sH, ↓sP, sA, tyS, simprocAttr, hm, Int.natCast_nonneg, Int.ofNat_lt, hlt, nth_map hlt, hi1, nth_map hi1, h1_10, h1_14, h1_19, h1_26, h1_32, h1_38, h12_94, h12_98]; exact AX h_)
     refine hwalk2_step (g := some (99, true)) rfl rfl fun K' hK' => ?_
     simp only [sH, ↓sP, sA, tyS, simprocAttr, hm, Int.natCast_nonneg, Int.ofNat_lt, hlt, nth_map hlt, hi1, nth_map hi1, h1_10, h1_14, h1_19, h1_26, h1_32, h1_38, h12_94, h12_98]
     refine call_pure (args := [_]) (rid_ok r.k[i - 1].p) ⟨rfl, rfl, rfl, rfl⟩ ?_
     rintro u rfl
     refine AX (hK' _ _ ?_)
     clear hK' K'
     refine hwalk2_step (g := some (99, true)) rfl rfl fun K' hK' => ?_
     simp only [sH, ↓sP, sA, tyS, simprocAttr, hm, Int.natCast_nonneg, Int.ofNat_lt, hlt, nth_map hlt, hi1, nth_map hi1, h1_10, h1_14, h1_19, h1_26, h1_32, h1_38, h12_94, h12_98]
     refine call_pure (args := [_]) (rid_ok r.k[i].p) ⟨rfl, rfl, rfl, rfl⟩ ?_
     rintro u rfl
     refine AX (hK' _ _ ?_)
     clear hK' K'
     refine hwalk2_step (g := some (99, true)) rfl rfl fun K' hK' => ?_
     simp only [sH, ↓sP, sA, tyS, simprocAttr, hm, Int.natCast_nonneg, Int.ofNat_lt, hlt, nth_map hlt, hi1, nth_map hi1, h1_10, h1_14, h1_19, h1_26, h1_32, h1_38, h12_94, h12_98]
     refine call_pure (args := [_, _]) (less_ok (pid r.k[i - 1].p) (pid r.k[i].p)) ⟨rfl, rfl, rfl, rfl⟩ ?_
     rintro u rfl
     refine AX (hK' _ _ ?_)
     clear hK' K'
     iterate 3 refine W0 ?_ (e := fun _ h_ => by simp only [sH, ↓sP, sA, tyS, simprocAttr, hm, Int.natCast_nonneg, Int.ofNat_lt, hlt, nth_map hlt, hi1, nth_map hi1, h1_10, h1_14, h1_19, h1_26, h1_32, h1_38, h12_94, h12_98]; exact AX h_)
     refine hwalk2_cases 115 rfl (fun h12_115 => ?_) (fun h12_115 => ?_)
     ·
      simp only [h12_115]
      refine T2 (hK _ _ _ ?_)
      clear hK K
      refine hw_cond (b := false) rfl (fun hb => ?_) (fun hb => ?_)
      ·
       cases hb
      refine hw_skip ?_
      refine T0 (hK _ _ _ ?_)
      clear hK K
      refine hw_region (by kernel_rfl) ?_
      simp only [↓sP, sA, tyS, simprocAttr, i64s i]
      obtain ⟨j, rfl⟩ : ∃ j, i = j + 1 := ⟨i - 1, by simp at h12_98; omega⟩
      refine ⟨⟨j + 1 + 1, hlt, h0.succ hlt (h12_94) (h12_115)⟩, fF, ?_⟩
      show r.k.length - (j + 1 + 1) < r.k.length - (j + 1)
      omega
     simp only [h12_115]
     refine T2 (hK _ _ _ ?_)
     clear hK K
     refine hw_cond (b := true) rfl (fun hb => ?_) (fun hb => ?_)
     ·
      refine R0 ?_
      refine hw_ret ?_
      simp only [hpost, Tryz.results11, hresL, hres1, tupOf, ↓sP, sA, tyS, simprocAttr]
      obtain ⟨j, rfl⟩ : ∃ j, i = j + 1 := ⟨i - 1, by simp at h12_98; omega⟩
      have hbad : keysB r.k = false := by rw [keysB_eq, bad_two (i := j) hlt h12_115, Bool.false_and]
      exact hret_pure [] (.bool false) rfl (by simp only [valid_ref, hbad, Bool.and_false, Bool.false_and])
     cases hb
    iterate 19 refine W0 ?_ (e := fun _ h_ => by simp only [sH, ↓sP, sA, tyS, simprocAttr, hm, Int.natCast_nonneg, Int.ofNat_lt, hlt, nth_map hlt, hi1, nth_map hi1, h1_10, h1_14, h1_19, h1_26, h1_32, h1_38, h12_94, h12_98]; exact AX h_)
    refine T2 (hK _ _ _ ?_)
    clear hK K
    refine hw_cond (b := false) rfl (fun hb => ?_) (fun hb => ?_)
    ·
     cases hb
    refine hw_skip ?_
    refine T0 (hK _ _ _ ?_)
    clear hK K
    refine hw_region (by kernel_rfl) ?_
    simp only [↓sP, sA, tyS, simprocAttr, i64s i]
    obtain rfl : i = 0 := by simp at h12_98; omega
    refine ⟨⟨1, hlt, GoodTo.one hlt (h12_94)⟩, fF, ?_⟩
    show r.k.length - 1 < r.k.length - 0
    omega
   iterate 22 refine W0 ?_ (e := fun _ h_ => by simp only [sH, ↓sP, sA, tyS, simprocAttr, hm, Int.natCast_nonneg, Int.ofNat_lt, hlt, nth_map hlt, hi1, nth_map hi1, h1_10, h1_14, h1_19, h1_26, h1_32, h1_38, h12_94]; exact AX h_)
   refine T2 (hK _ _ _ ?_)
   clear hK K
   refine hw_cond (b := true) rfl (fun hb => ?_) (fun hb => ?_)
   ·
    refine R0 ?_
    refine hw_ret ?_
    simp only [hpost, Tryz.results11, hresL, hres1, tupOf, ↓sP, sA, tyS, simprocAttr]
    have hbad : keysB r.k = false := by rw [keysB_eq, bad_one hlt h12_94, Bool.false_and]
    exact hret_pure [] (.bool false) rfl (by simp only [valid_ref, hbad, Bool.and_false, Bool.false_and])
   cases hb
  refine hw_exit ?_
  simp only [↓sP, sA, tyS, simprocAttr]
  clear hK K
  refine AX (hK _ _ _ ?_)
  clear hK K
  refine hw_seq fun K hK => ?_
  refine R0 ?_
  refine hw_block ?_
  have hei : i = r.k.length := by simp at hb; omega
  subst hei
  have hkk := keysB_ok h1_32 h0
  clear hb h0 hi
  refine hw_loop (α := {i : Nat // i ≤ r.x.length ∧ GoodTo (fun x : Rv => inN x.t) (fun a b => dlt a.k b.k) r.x i}) (fun i => (fin [(1, .ptr 0 0), (6, .c (.int .i64 i.1))], fob [(0, .box 26 (.c r.cv))])) 400 (fun i => r.x.length - i.1) ⟨0, by omega, GoodTo.zero⟩ (fF) ?_
  rintro ⟨i, hi, h0⟩
  refine hw_seq fun K hK => ?_
  refine hw_seq fun K hK => Rg ?_
  iterate 5 refine S0 ?_ (e := fun _ h_ => by simp only [sH, ↓sP, sA, tyS, simprocAttr, h1_10, h1_14, h1_19, h1_26, h1_32, h1_38]; exact AX h_)
  refine T2 (hK _ _ _ ?_)
  clear hK K
  refine hw_cond (b := decide ((i : Int) < r.x.length)) rfl (fun hb => ?_) (fun hb => ?_)
  ·
   have hlt : i < r.x.length := by simpa using hb
   have hi1 : i - 1 < r.x.length := by omega
   have hm : decide ((0 : Int) < (i : Int)) = true → IntKind.i64.wrap ((i : Int) - 1) = ((i - 1 : Nat) : Int) := fun h => by
    have : 0 < i := by simpa using h
    rw [IntWalk.i64_in _ (by omega)]; omega
   refine hw_skip ?_
   refine T0 (hK _ _ _ ?_)
   clear hK K
   refine hw_seq fun K hK => ?_
   refine hw_block ?_
   refine hw_seq fun K hK => hw_draw2 mixed [(0, [], []), (1, [], []), (2, [], []), (3, [], []), (4, [], []), (5, [], []), (6, [], []), (7, [], []), (8, [], []), (9, [], []), (10, [], []), (11, [], []), (12, [], []), (13, [], []), (14, [], []), (15, [], []), (16, [], []), (17, [], []), (18, [], []), (19, [], []), (20, [], []), (21, [], []), (22, [], []), (23, [], []), (24, [], []), (25, [], []), (26, [], []), (27, [], []), (28, [], [])] [0, 1, 0, 7, 15, 31, 63, 127, 255, 511, 1023, 2047, 4095, 8191, 4095, 20479, 65535, 131071, 262143, 4095, 528383, 4095, 3674111, 7868415, 16257023, 33554431, 67108863, 134217727, 268435455] (by kernel_rfl) (by kernel_rfl) (by kernel_rfl) (by kernel_rfl) rfl (by kernel_rfl) ?_
   iterate 6 refine W0 ?_ (e := fun _ h_ => by simp only [sH, ↓sP, sA, tyS, simprocAttr, hm, Int.natCast_nonneg, Int.ofNat_lt, hlt, nth_map hlt, hi1, nth_map hi1, h1_10, h1_14, h1_19, h1_26, h1_32, h1_38]; exact AX h_)
   refine hwalk2_step (g := none) rfl rfl fun K' hK' => ?_
   simp only [sH, ↓sP, sA, tyS, simprocAttr, hm, Int.natCast_nonneg, Int.ofNat_lt, hlt, nth_map hlt, hi1, nth_map hi1, h1_10, h1_14, h1_19, h1_26, h1_32, h1_38]
   refine call_pure (args := [_]) (instant_ok r.x[i].t) ⟨rfl, rfl, rfl, rfl⟩ ?_
   rintro u rfl
   refine AX (hK' _ _ ?_)
   clear hK' K'
   iterate 2 refine W0 ?_ (e := fun _ h_ => by simp only [sH, ↓sP, sA, tyS, simprocAttr, hm, Int.natCast_nonneg, Int.ofNat_lt, hlt, nth_map hlt, hi1, nth_map hi1, h1_10, h1_14, h1_19, h1_26, h1_32, h1_38]; exact AX h_)
   refine hwalk2_cases 132 rfl (fun h17_132 => ?_) (fun h17_132 => ?_)
   ·
    iterate 3 refine W0 ?_ (e := fun _ h_ => by simp only [sH, ↓sP, sA, tyS, simprocAttr, hm, Int.natCast_nonneg, Int.ofNat_lt, hlt, nth_map hlt, hi1, nth_map hi1, h1_10, h1_14, h1_19, h1_26, h1_32, h1_38, h17_132]; exact AX h_)
    refine hwalk2_cases 136 rfl (fun h17_136 => ?_) (fun h17_136 => ?_)
    ·
     iterate 13 refine W0 ?_ (e := fun _ h_ => by simp only [sH, ↓sP, sA, tyS, simprocAttr, hm, Int.natCast_nonneg, Int.ofNat_lt, hlt, nth_map hlt, hi1, nth_map hi1, h1_10, h1_14, h1_19, h1_26, h1_32, h1_38, h17_132, h17_136]; exact AX h_)
     refine hwalk2_step (g := some (137, true)) rfl rfl fun K' hK' => ?_
     simp only [sH, ↓sP, sA, tyS, simprocAttr, hm, Int.natCast_nonneg, Int.ofNat_lt, hlt, nth_map hlt, hi1, nth_map hi1, h1_10, h1_14, h1_19, h1_26, h1_32, h1_38, h17_132, h17_136]
     refine call_pure (args := [_, _]) (less_ok r.x[i - 1].k r.x[i].k) ⟨rfl, rfl, rfl, rfl⟩ ?_
     rintro u rfl
     refine AX (hK' _ _ ?_)
     clear hK' K'
     iterate 3 refine W0 ?_ (e := fun _ h_ => by simp only [sH, ↓sP, sA, tyS, simprocAttr, hm, Int.natCast_nonneg, Int.ofNat_lt, hlt, nth_map hlt, hi1, nth_map hi1, h1_10, h1_14, h1_19, h1_26, h1_32, h1_38, h17_132, h17_136]; exact AX h_)
     refine hwalk2_cases 151 rfl (fun h17_151 => ?_) (fun h17_151 => ?_)
     ·
      simp only [h17_151]
      refine T2 (hK _ _ _ ?_)
      clear hK K
      refine hw_cond (b := false) rfl (fun hb => ?_) (fun hb => ?_)
      ·
       cases hb
      refine hw_skip ?_
      refine T0 (hK _ _ _ ?_)
      clear hK K
      refine hw_region (by kernel_rfl) ?_
      simp only [↓sP, sA, tyS, simprocAttr, i64s i]
      obtain ⟨j, rfl⟩ : ∃ j, i = j + 1 := ⟨i - 1, by simp at h17_136; omega⟩
      refine ⟨⟨j + 1 + 1, hlt, h0.succ hlt (h17_132) (h17_151)⟩, fF, ?_⟩
      show r.x.length - (j + 1 + 1) < r.x.length - (j + 1)
      omega
     simp only [h17_151]
     refine T2 (hK _ _ _ ?_)
     clear hK K
     refine hw_cond (b := true) rfl (fun hb => ?_) (fun hb => ?_)
     ·
      refine R0 ?_
      refine hw_ret ?_
      simp only [hpost, Tryz.results11, hresL, hres1, tupOf, ↓sP, sA, tyS, simprocAttr]
      obtain ⟨j, rfl⟩ : ∃ j, i = j + 1 := ⟨i - 1, by simp at h17_136; omega⟩
      have hbad : revsB r.x = false := by rw [revsB_eq, bad_two (i := j) hlt h17_151, Bool.false_and]
      exact hret_pure [] (.bool false) rfl (by simp only [valid_ref, hbad, Bool.and_false, Bool.false_and])
     cases hb
    iterate 17 refine W0 ?_ (e := fun _ h_ => by simp only [sH, ↓sP, sA, tyS, simprocAttr, hm, Int.natCast_nonneg, Int.ofNat_lt, hlt, nth_map hlt, hi1, nth_map hi1, h1_10, h1_14, h1_19, h1_26, h1_32, h1_38, h17_132, h17_136]; exact AX h_)
    refine T2 (hK _ _ _ ?_)
    clear hK K
    refine hw_cond (b := false) rfl (fun hb => ?_) (fun hb => ?_)
    ·
     cases hb
    refine hw_skip ?_
    refine T0 (hK _ _ _ ?_)
    clear hK K
    refine hw_region (by kernel_rfl) ?_
    simp only [↓sP, sA, tyS, simprocAttr, i64s i]
    obtain rfl : i = 0 := by simp at h17_136; omega
    refine ⟨⟨1, hlt, GoodTo.one hlt (h17_132)⟩, fF, ?_⟩
    show r.x.length - 1 < r.x.length - 0
    omega
   iterate 20 refine W0 ?_ (e := fun _ h_ => by simp only [sH, ↓sP, sA, tyS, simprocAttr, hm, Int.natCast_nonneg, Int.ofNat_lt, hlt, nth_map hlt, hi1, nth_map hi1, h1_10, h1_14, h1_19, h1_26, h1_32, h1_38, h17_132]; exact AX h_)
   refine T2 (hK _ _ _ ?_)
   clear hK K
   refine hw_cond (b := true) rfl (fun hb => ?_) (fun hb => ?_)
   ·
    refine R0 ?_
    refine hw_ret ?_
    simp only [hpost, Tryz.results11, hresL, hres1, tupOf, ↓sP, sA, tyS, simprocAttr]
    have hbad : revsB r.x = false := by rw [revsB_eq, bad_one hlt h17_132, Bool.false_and]
    exact hret_pure [] (.bool false) rfl (by simp only [valid_ref, hbad, Bool.and_false, Bool.false_and])
   cases hb
  refine hw_exit ?_
  simp only [↓sP, sA, tyS, simprocAttr]
  clear hK K
  refine AX (hK _ _ _ ?_)
  clear hK K
  have hei : i = r.x.length := by simp at hb; omega
  subst hei
  have hxx := revsB_ok h1_38 h0
  clear hb h0 hi
  refine hw_seq fun K hK => Rg ?_
  refine S0 ?_ (e := fun _ h_ => by simp only [sH, ↓sP, sA, tyS, simprocAttr, h1_10, h1_14, h1_19, h1_26, h1_32, h1_38]; exact AX h_)
  refine hlex_step (g := none) rfl rfl fun K' hK' => ?_
  simp only [sH, ↓sP, sA, tyS, simprocAttr, h1_10, h1_14, h1_19, h1_26, h1_32, h1_38]
  refine call_pure (args := [_, _]) (quota_ok r wRoot hlq) ⟨rfl, rfl, rfl, rfl⟩ ?_
  rintro u rfl
  refine AX (hK' _ _ ?_)
  clear hK' K'
  refine S0 ?_ (e := fun _ h_ => by simp only [sH, ↓sP, sA, tyS, simprocAttr, h1_10, h1_14, h1_19, h1_26, h1_32, h1_38]; exact AX h_)
  refine T2 (hK _ _ _ ?_)
  clear hK K
  refine hw_seq fun K hK => Rg ?_
  iterate 3 refine S0 ?_ (e := fun _ h_ => by simp only [sH, ↓sP, sA, tyS, simprocAttr, h1_10, h1_14, h1_19, h1_26, h1_32, h1_38]; exact AX h_)
  refine hlex_cases 158 rfl (fun h20_158 => ?_) (fun h20_158 => ?_)
  ·
   refine S0 ?_ (e := fun _ h_ => by simp only [sH, ↓sP, sA, tyS, simprocAttr, h1_10, h1_14, h1_19, h1_26, h1_32, h1_38, h20_158]; exact AX h_)
   refine hlex_step (g := some (159, true)) rfl rfl fun K' hK' => ?_
   simp only [sH, ↓sP, sA, tyS, simprocAttr, h1_10, h1_14, h1_19, h1_26, h1_32, h1_38, h20_158]
   refine call_pure (args := [_, _]) (rowners_ok r wRoot hr) ⟨rfl, rfl, rfl, rfl⟩ ?_
   rintro u rfl
   refine AX (hK' _ _ ?_)
   clear hK' K'
   iterate 5 refine S0 ?_ (e := fun _ h_ => by simp only [sH, ↓sP, sA, tyS, simprocAttr, h1_10, h1_14, h1_19, h1_26, h1_32, h1_38, h20_158]; exact AX h_)
   refine hlex_cases 164 rfl (fun h20_164 => ?_) (fun h20_164 => ?_)
   ·
    simp only [h20_164]
    refine T2 (hK _ _ _ ?_)
    clear hK K
    refine hw_ret ?_
    simp only [hpost, Tryz.results11, hresL, hres1, tupOf, ↓sP, sA, tyS, simprocAttr]
    exact hret_pure [] (.bool true) rfl (by simp only [valid_ref, hq, hkk, hxx, h1_10, h1_14, h1_19, h1_26, h1_32, h1_38, h20_158, h20_164, Bool.not_true, Bool.not_false, Bool.and_true, Bool.and_false, Bool.true_and, Bool.false_and])
   simp only [h20_164]
   refine T2 (hK _ _ _ ?_)
   clear hK K
   refine hw_ret ?_
   simp only [hpost, Tryz.results11, hresL, hres1, tupOf, ↓sP, sA, tyS, simprocAttr]
   exact hret_pure [] (.bool false) rfl (by simp only [valid_ref, hq, hkk, hxx, h1_10, h1_14, h1_19, h1_26, h1_32, h1_38, h20_158, h20_164, Bool.not_true, Bool.not_false, Bool.and_true, Bool.and_false, Bool.true_and, Bool.false_and])
  iterate 7 refine S0 ?_ (e := fun _ h_ => by simp only [sH, ↓sP, sA, tyS, simprocAttr, h1_10, h1_14, h1_19, h1_26, h1_32, h1_38, h20_158]; exact AX h_)
  refine T2 (hK _ _ _ ?_)
  clear hK K
  refine hw_ret ?_
  simp only [hpost, Tryz.results11, hresL, hres1, tupOf, ↓sP, sA, tyS, simprocAttr]
  exact hret_pure [] (.bool false) rfl (by simp only [valid_ref, hq, hkk, hxx, h1_10, h1_14, h1_19, h1_26, h1_32, h1_38, h20_158, Bool.not_true, Bool.not_false, Bool.and_true, Bool.and_false, Bool.true_and, Bool.false_and])
 iterate 17 refine S0 ?_ (e := fun _ h_ => by simp only [sH, ↓sP, sA, tyS, simprocAttr, h1_10, h1_14, h1_19]; exact AX h_)
 refine T2 (hK _ _ _ ?_)
 clear hK K
 refine hw_cond (b := true) rfl (fun hb => ?_) (fun hb => ?_)
 ·
  refine R0 ?_
  refine hw_ret ?_
  simp only [hpost, Tryz.results11, hresL, hres1, tupOf, ↓sP, sA, tyS, simprocAttr]
  exact hret_pure [] (.bool false) rfl (by simp only [valid_ref, quotasB_big, keysB_big, revsB_big, h1_10, h1_14, h1_19, Bool.not_true, Bool.not_false, Bool.and_true, Bool.and_false, Bool.true_and, Bool.false_and])
 cases hb

end Go.Proofs.YtenbfeemmpjdhaaGreatDoor

namespace Go.Proofs.YtenbfeemmpjdhaaGreatDoor
open Go Go.Hl Go.Pl
set_option maxRecDepth 10000
set_option maxHeartbeats 4000000
set_option linter.unusedSimpArgs false
set_option linter.unusedVariables false
attribute [local simp] tp

theorem public_ok (i : Nat) (hi : i < 2 ^ 40) : HPure Tryz.prog 50 [.int .i64 i] (fun v => v = (mPub i).cv) := by
 have m1 : (i : Int).tmod 3 = ((i % 3 : Nat) : Int) := rfl
 have m2 : IntKind.i64.wrap ((i : Int) + 1) = ((i + 1 : Nat) : Int) := by rw [IntWalk.i64_in _ (by omega)]; omega
 have m3 := u8_nat (i + 1)
 refine hfn_walk Tryz.func50 rfl (by kernel_rfl) (locOk_nil _) (Nat.le_of_ble_eq_true rfl) ?_
 refine R0 ?_
 refine hw_seq fun K hK => Rg ?_
 iterate 5 refine S0 ?_ (e := fun _ h_ => by simp only [sH, ↓sP, sA, tyS, simprocAttr, m1, m2, m3]; exact AX h_)
 refine hlex_step (g := none) rfl rfl fun K' hK' => ?_
 simp only [sH, ↓sP, sA, tyS, simprocAttr, m1, m2, m3]
 rw [hbuild_hf2 (UInt8.ofNat (i + 1)) 77 rfl rfl]
 refine AX (hK' _ _ ?_)
 clear hK' K'
 refine hlex_step (g := none) rfl rfl fun K' hK' => ?_
 simp only [sH, ↓sP, sA, tyS, simprocAttr, m1, m2, m3]
 rw [hbuild_pk _ _ rfl rfl]
 refine AX (hK' _ _ ?_)
 clear hK' K'
 refine S0 ?_ (e := fun _ h_ => by simp only [sH, ↓sP, sA, tyS, simprocAttr, m1, m2, m3]; exact AX h_)
 refine T2 (hK _ _ _ ?_)
 clear hK K
 refine hw_ret ?_
 simp only [hpost, Tryz.results50, hresL, hres1, tupOf, ↓sP, sA, tyS, simprocAttr]
 exact hret_pure [] (mPub i).cv rfl rfl


theorem mid_ok (i : Nat) (hi : i < 2 ^ 40) : HPure Tryz.prog 47 [.int .i64 i] (fun v => v = dg (mid i)) := by
 refine hfn_walk Tryz.func47 rfl (by kernel_rfl) (locOk_nil _) (Nat.le_of_ble_eq_true rfl) ?_
 refine R0 ?_
 refine hw_seq fun K hK => Rg ?_
 refine S0 ?_
 refine hlex_step (g := none) rfl rfl fun K' hK' => ?_
 simp only [sH, ↓sP, sA, tyS, simprocAttr]
 refine call_pure (args := [_]) (public_ok i hi) ⟨rfl, rfl, rfl, rfl⟩ ?_
 rintro u rfl
 refine AX (hK' _ _ ?_)
 clear hK' K'
 refine hlex_step (g := none) rfl rfl fun K' hK' => ?_
 simp only [sH, ↓sP, sA, tyS, simprocAttr]
 refine call_pure (args := [_]) (rid_ok (mPub i)) ⟨rfl, rfl, rfl, rfl⟩ ?_
 rintro u rfl
 refine AX (hK' _ _ ?_)
 clear hK' K'
 refine S0 ?_
 refine T2 (hK _ _ _ ?_)
 clear hK K
 refine hw_ret ?_
 simp only [hpost, Tryz.results47, hresL, hres1, tupOf, ↓sP, sA, tyS, simprocAttr]
 exact hret_pure [] (dg (mid i)) rfl rfl


theorem insert_ok (l : List Ky) (k : Ky) (hl : l.length < 2 ^ 40) : HPure Tryz.prog 49 [.slc (l.map Ky.cv), k.cv] (fun v => v = .slc ((insK l k).map Ky.cv)) := by
 refine hfn_walk Tryz.func49 rfl (by kernel_rfl) (locOk_nil _) (Nat.le_of_ble_eq_true rfl) ?_
 refine R0 ?_
 refine R0 ?_
 refine R0 ?_
 refine hw_seq fun K hK => ?_
 refine hw_block ?_
 refine hw_own 5 0 70 21 rfl rfl rfl rfl ?_
 refine hw_loop (α := {i : Nat // i ≤ l.length ∧ ∀ x ∈ l.take i, dlt (kid x) (kid k) = true}) (fun i => (fin [(0, .c (.slc (l.map Ky.cv))), (3, .ptr 0 0), (5, .own 16 i.1), (6, .c (.int .i64 i.1))], fob [(0, .box 70 (.c k.cv)), (16, .row 70 21 ((l.take i.1).map Ky.cv))])) 100 (fun i => l.length - i.1) ⟨0, by omega, by simp⟩ (fF) ?_
 rintro ⟨i, hi, h0⟩
 have hti : (l.take i).length = i := by simp; omega
 refine hw_seq fun K hK => ?_
 by_cases hlt : i < l.length
 ·
  refine hw_seq fun K hK => hw_draw2 mixed [(0, [], []), (1, [], []), (2, [], []), (3, [], []), (4, [], []), (5, [], []), (6, [], []), (7, [], []), (8, [], []), (9, [], []), (11, [], []), (12, [], []), (10, [], [11, 12]), (13, [], []), (14, [], []), (15, [], [])] [0, 0, 2, 7, 15, 31, 31, 127, 255, 511, 1023, 31, 2079, 8191, 16383, 32767] (by kernel_rfl) (by kernel_rfl) (by kernel_rfl) (by kernel_rfl) rfl (by kernel_rfl) ?_
  iterate 12 refine W0 ?_ (e := fun _ h_ => by simp only [sH, ↓sP, sA, tyS, simprocAttr, Int.natCast_nonneg, Int.ofNat_lt, hlt, nth_map hlt]; exact AX h_)
  refine hwalk2_step (g := some (11, true)) rfl rfl fun K' hK' => ?_
  simp only [sH, ↓sP, sA, tyS, simprocAttr, Int.natCast_nonneg, Int.ofNat_lt, hlt, nth_map hlt]
  refine call_pure (args := [_]) (rid_ok l[i].p) ⟨rfl, rfl, rfl, rfl⟩ ?_
  rintro u rfl
  refine AX (hK' _ _ ?_)
  clear hK' K'
  refine hwalk2_step (g := some (11, true)) rfl rfl fun K' hK' => ?_
  simp only [sH, ↓sP, sA, tyS, simprocAttr, Int.natCast_nonneg, Int.ofNat_lt, hlt, nth_map hlt]
  refine call_pure (args := [_]) (rid_ok k.p) ⟨rfl, rfl, rfl, rfl⟩ ?_
  rintro u rfl
  refine AX (hK' _ _ ?_)
  clear hK' K'
  refine hwalk2_step (g := some (11, true)) rfl rfl fun K' hK' => ?_
  simp only [sH, ↓sP, sA, tyS, simprocAttr, Int.natCast_nonneg, Int.ofNat_lt, hlt, nth_map hlt]
  refine call_pure (args := [_, _]) (less_ok (kid l[i]) (kid k)) ⟨rfl, rfl, rfl, rfl⟩ ?_
  rintro u rfl
  refine AX (hK' _ _ ?_)
  clear hK' K'
  refine W0 ?_ (e := fun _ h_ => by simp only [sH, ↓sP, sA, tyS, simprocAttr, Int.natCast_nonneg, Int.ofNat_lt, hlt, nth_map hlt]; exact AX h_)
  refine T2 (hK _ _ _ ?_)
  clear hK K
  refine hw_cond (b := dlt (kid l[i]) (kid k)) rfl (fun hb => ?_) (fun hb => ?_)
  ·
   refine hw_skip ?_
   refine T0 (hK _ _ _ ?_)
   clear hK K
   refine hw_block ?_
   refine hw_seq fun K hK => Rg ?_
   iterate 8 refine S0 ?_ (e := fun _ h_ => by simp only [sH, ↓sP, sA, tyS, simprocAttr, Int.natCast_nonneg, Int.ofNat_lt, hlt, nth_map hlt, hti, List.length_append]; exact AX h_)
   refine T2 (hK _ _ _ ?_)
   clear hK K
   refine hw_region (by kernel_rfl) ?_
   simp only [↓sP, sA, tyS, simprocAttr, i64s i]
   refine ⟨⟨i + 1, by omega, fun x hx => ?_⟩, fits_fin (by omega) ?_ ?_, ?_⟩
   ·
    rw [List.take_succ_eq_append_getElem hlt, List.mem_append, List.mem_singleton] at hx
    rcases hx with hx | rfl
    ·
     exact h0 x hx
    exact hb
   ·
    simp [FinOk, upd_at, fin_at, HV.men]
   ·
    refine ⟨rfl, by omega, trivial, ?_, by omega, trivial, trivial⟩
    simp only [List.take_succ_eq_append_getElem hlt, List.map_append]
    rfl
   show l.length - (i + 1) < l.length - i
   omega
  refine hw_exit ?_
  simp only [↓sP, sA, tyS, simprocAttr]
  clear hK K
  refine AX (hK _ _ _ ?_)
  clear hK K
  refine hw_seq fun K hK => hw_draw2 mixed [(0, [], []), (1, [], []), (2, [], []), (4, [2], []), (5, [2], []), (6, [2], []), (3, [], [4, 5, 6]), (7, [], []), (8, [], [])] [0, 0, 2, 7, 0, 0, 48, 127, 255] (by kernel_rfl) (by kernel_rfl) (by kernel_rfl) (by kernel_rfl) rfl (by kernel_rfl) ?_
  iterate 9 refine W0 ?_ (e := fun _ h_ => by simp only [sH, ↓sP, sA, tyS, simprocAttr, hti, ← List.map_drop, ← List.map_take, cells_ky]; exact AX h_)
  refine T2 (hK _ _ _ ?_)
  clear hK K
  refine hw_ret ?_
  simp only [hpost, Tryz.results49, hresL, hres1, tupOf, ↓sP, sA, tyS, simprocAttr]
  refine hret_pure [16] (.slc ((l.take i ++ k :: l.drop i).map Ky.cv)) ?_ (by rw [insK_eq hi h0 fun h => hb])
  simp [HV.close, upd_at, HV.norm, HV.toC, List.take_of_length_le]
 refine hw_seq fun K hK => hw_draw2 mixed [(0, [], []), (1, [], []), (2, [], []), (3, [], []), (4, [], []), (5, [], []), (6, [], []), (7, [], []), (8, [], []), (9, [], []), (11, [], []), (12, [], []), (10, [], [11, 12]), (13, [], []), (14, [], []), (15, [], [])] [0, 0, 2, 7, 15, 31, 31, 127, 255, 511, 1023, 31, 2079, 8191, 16383, 32767] (by kernel_rfl) (by kernel_rfl) (by kernel_rfl) (by kernel_rfl) rfl (by kernel_rfl) ?_
 iterate 16 refine W0 ?_ (e := fun _ h_ => by simp only [sH, ↓sP, sA, tyS, simprocAttr, Int.ofNat_lt, hlt]; exact AX h_)
 refine T2 (hK _ _ _ ?_)
 clear hK K
 refine hw_cond (b := _) rfl (fun hb => ?_) (fun hb => ?_)
 ·
  cases hb
 refine hw_exit ?_
 simp only [↓sP, sA, tyS, simprocAttr]
 clear hK K
 refine AX (hK _ _ _ ?_)
 clear hK K
 refine hw_seq fun K hK => hw_draw2 mixed [(0, [], []), (1, [], []), (2, [], []), (4, [2], []), (5, [2], []), (6, [2], []), (3, [], [4, 5, 6]), (7, [], []), (8, [], [])] [0, 0, 2, 7, 0, 0, 48, 127, 255] (by kernel_rfl) (by kernel_rfl) (by kernel_rfl) (by kernel_rfl) rfl (by kernel_rfl) ?_
 iterate 9 refine W0 ?_ (e := fun _ h_ => by simp only [sH, ↓sP, sA, tyS, simprocAttr, hti, ← List.map_drop, ← List.map_take, cells_ky]; exact AX h_)
 refine T2 (hK _ _ _ ?_)
 clear hK K
 refine hw_ret ?_
 simp only [hpost, Tryz.results49, hresL, hres1, tupOf, ↓sP, sA, tyS, simprocAttr]
 refine hret_pure [16] (.slc ((l.take i ++ k :: l.drop i).map Ky.cv)) ?_ (by rw [insK_eq hi h0 fun h => absurd h hlt])
 simp [HV.close, upd_at, HV.norm, HV.toC, List.take_of_length_le]


theorem some_ok (L : List Int) (a : Nat) (ha : a + 20 < 2 ^ 40) : HBox Tryz.prog 69 39 (tp L a) [] (fun u v' => ∃ (ws : List Word) (a' : Nat), u = .slc (ws.map .str) ∧ v' = tp L a' ∧ a' ≤ a + 10 ∧ ws.length ≤ 11 ∧ ∀ w ∈ ws, w ∈ roles10) := by
 refine hfn_walk Tryz.func69 rfl (by kernel_rfl) (locOk_box _ _ _) (Nat.le_of_ble_eq_true rfl) ?_
 refine R0 ?_
 refine R0 ?_
 refine hw_seq fun K hK => Rg ?_
 refine hlex_step (g := none) rfl rfl fun K' hK' => ?_
 simp only [sH, ↓sP, sA, tyS, simprocAttr]
 refine call_pure (args := []) roles_ok ⟨rfl, rfl, rfl, rfl⟩ ?_
 rintro u rfl
 refine AX (hK' _ _ ?_)
 clear hK' K'
 refine S0 ?_
 refine T2 (hK _ _ _ ?_)
 clear hK K
 refine hw_seq fun K hK => ?_
 refine R0 ?_
 refine hw_block ?_
 refine hw_own 3 0 9 1 rfl rfl rfl rfl ?_
 refine hw_loop (α := {x : Nat × Nat × List Word // x.1 ≤ 10 ∧ x.2.1 ≤ a + x.1 ∧ x.2.2.length ≤ x.1 ∧ ∀ w ∈ x.2.2, w ∈ roles10}) (fun x => (fin [(0, .ptr 0 0), (3, .own 21 x.1.2.2.length), (4, .c (.slc (roles10.map .str))), (5, .c (.int .i64 x.1.1))], fob [(0, .box 39 (.c (tp L x.1.2.1))), (21, .row 9 1 (x.1.2.2.map .str))])) 100 (fun x => 10 - x.1.1) ⟨(0, a, []), by omega, by simp, by simp, by simp⟩ (fF) ?_
 rintro ⟨⟨i, b, ws⟩, hi, hb0, hwl, hwm⟩
 simp only at hi hb0 hwl hwm ⊢
 have hrl : (roles10.map CV.str).length = 10 := rfl
 refine hw_seq fun K hK => ?_
 refine hw_seq fun K hK => Rg ?_
 iterate 4 refine S0 ?_ (e := fun _ h_ => by simp only [sH, ↓sP, sA, tyS, simprocAttr, hrl]; exact AX h_)
 refine T2 (hK _ _ _ ?_)
 clear hK K
 refine hw_cond (b := decide ((i : Int) < 10)) rfl (fun hb => ?_) (fun hb => ?_)
 ·
  have hlt : i < 10 := by simp at hb; omega
  have hlt' : (i : Int) < 10 := by omega
  have hlr : i < roles10.length := hlt
  refine hw_skip ?_
  refine T0 (hK _ _ _ ?_)
  clear hK K
  refine hw_seq fun K hK => ?_
  have key : ∀ (b' : Nat) (ws' : List Word) fr ob nx, b' ≤ a + (i + 1) → ws'.length ≤ i + 1 → (∀ w ∈ ws', w ∈ roles10) → Fits 1 fr ob (fin [(0, .ptr 0 0), (3, .own 21 ws'.length), (4, .c (.slc (roles10.map .str))), (5, .c (.int .i64 i))]) (fob [(0, .box 39 (.c (tp L b'))), (21, .row 9 1 (ws'.map .str))]) 300 → K fr ob nx := by
   intro b' ws' fr ob nx w1 w2 w3 hf
   refine hK _ _ _ (hw_fits hf ?_)
   clear hf hK K
   refine hw_region (by kernel_rfl) ?_
   simp only [↓sP, sA, tyS, simprocAttr, i64s i]
   refine ⟨⟨(i + 1, b', ws'), hlt, w1, w2, w3⟩, fF, ?_⟩
   show 10 - (i + 1) < 10 - i
   omega
  refine hw_block ?_
  refine hw_seq fun K hK => Rg ?_
  refine S0 ?_
  refine hlex_step (g := none) rfl rfl fun K' hK' => ?_
  simp only [sH, ↓sP, sA, tyS, simprocAttr]
  refine call_box (args := [_]) (next_ok L b 3 (by omega) (by omega)) rfl (by simp) ⟨rfl, rfl, rfl, rfl⟩ ?_
  rintro u v' ⟨x, b', rfl, rfl, h1, h2, h3, h4⟩
  refine AX (hK' _ _ ?_)
  clear hK' K'
  refine S0 ?_
  refine T2 (hK _ _ _ ?_)
  clear hK K
  refine hw_cond (b := decide (0 < x)) rfl (fun hb => ?_) (fun hb => ?_)
  ·
   refine hw_region (by kernel_rfl) ?_
   simp only [sR, simprocAttr]
   iterate 8 refine S0 ?_ (e := fun _ h_ => by simp only [sH, ↓sP, sA, tyS, simprocAttr, Int.natCast_nonneg, hrl, hlt', hlr, nth_map hlr, List.length_append]; exact AX h_)
   simp only [sE, ↓reduceIte, simprocAttr]
   exact key b' (ws ++ [roles10[i]]) _ _ _ (by omega) (by simp; omega) (fun w hw => by
    rcases List.mem_append.1 hw with hw | hw
    ·
     exact hwm w hw
    rw [List.mem_singleton] at hw; rw [hw]; exact List.getElem_mem _) (fF)
  refine hw_skip ?_
  simp only [↓sP, sA, tyS, simprocAttr]
  exact key b' ws _ _ _ (by omega) (by omega) hwm (fF)
 clear hb
 refine hw_exit ?_
 simp only [↓sP, sA, tyS, simprocAttr]
 clear hK K
 refine AX (hK _ _ _ ?_)
 clear hK K
 refine hw_seq fun K hK => ?_
 have key : ∀ (ws' : List Word) fr ob nx, ws'.length ≤ 11 → (∀ w ∈ ws', w ∈ roles10) → Fits 1 fr ob (fin [(0, .ptr 0 0), (3, .own 21 ws'.length)]) (fob [(0, .box 39 (.c (tp L b))), (21, .row 9 1 (ws'.map .str))]) 300 → K fr ob nx := by
  intro ws' fr ob nx w2 w3 hf
  refine hK _ _ _ (hw_fits hf ?_)
  clear hf hK K
  refine R0 ?_
  refine hw_ret ?_
  simp only [hpost, Tryz.results69, hresL, hres1, tupOf, ↓sP, sA, tyS, simprocAttr]
  refine hret_box [21] (.slc (ws'.map .str)) (tp L b) ?_ rfl ?_ (by simp) ⟨ws', b, rfl, rfl, by omega, w2, w3⟩
  ·
   simp [HV.close, HV.norm, HV.toC, fob_at]
  simp [HV.close, HV.closeL, tp, CV.denil, CV.denilL, denilL_int, HV.norm, HV.toC, HV.toCL]
 refine R0 ?_
 refine hw_cond (b := (ws.length : Int) == 0) rfl (fun hb => ?_) (fun hb => ?_)
 ·
  refine hw_region (by kernel_rfl) ?_
  simp only [sR, simprocAttr]
  iterate 4 refine S0 ?_ (e := fun _ h_ => by simp only [sH, ↓sP, sA, tyS, simprocAttr, List.length_append]; exact AX h_)
  simp only [sE, ↓reduceIte, simprocAttr]
  exact key (ws ++ [wStep]) _ _ _ (by simp; omega) (fun w hw => by
   rcases List.mem_append.1 hw with hw | hw
   ·
    exact hwm w hw
   rw [List.mem_singleton] at hw; rw [hw]; exact step_mem) (fits_fin (by omega) (by simp [FinOk, fin_at, finA_at, upd_at, HV.men, HV.menL, HV.norm, HV.toC, HV.toCL]) (by simp [FobOk, fob_at, upd_at, none0_at, gone, HO.men, HV.men, HV.menL, HV.norm, HV.toC, HV.toCL]; rfl))
 refine hw_skip ?_
 simp only [↓sP, sA, tyS, simprocAttr]
 exact key ws _ _ _ (by omega) hwm (fF)


end Go.Proofs.YtenbfeemmpjdhaaGreatDoor
